/- K: the walk's rules. No program is in sight. K: tokens for rows that hang in a box. No program is in sight. K: step by step: one operation at a time, what comes behind it not in sight. No program is in sight. K: a result may be told with less. No program is in sight. K: arguments that are read as data, as trees of sealed memory; from a contract in K to a call. No program is in sight. K: arguments may be told with less, deep down. No program is in sight. K: a loop cut from what comes behind it. No program is in sight. K: a box that is written no more is sealed. No program is in sight. -/
import Derived.Test.YtkjnkkmokojnpaaGreatDoorZ3
import Derived.Test.YtkjnkkmokojnpaaGreatDoorZ2
import Derived.ProofKit
import Derived.SizedLaws
import Derived.Deep.Slices
import Derived.Deep.Strs
import Derived.WalkArith
import Derived.LaidEql
import Derived.Lib.IfaceEq
namespace Go.Proofs.YtkjnkkmokojnpaaGreatDoor
set_option linter.unusedSimpArgs false
set_option linter.unusedVariables false
open Go.RowKit
attribute [go_sem] isM qS pk lF nL vX pK pL jQ TR.wp aop rdo rdos bj gh dT fB fh ret fail ofV kLd qM tK tw B3 tI kJ tE kK tF qI nG lq pB kE kUn sB nK wb ki qD tC u4 jI kL tG tH zO tJ uO tB qL tA l8 BU fV ren gI names un rdBoxes gather cC fO jb DM w5 tD v8 Ed rX AV.one fg eG fd putAt no jK eP ot mrm mgc w6 jW List.any_cons List.any_nil aJ aB fin yb yG i8 oA gX Bu mM wZ Ef ip AZ pq mB l9
def tk0 : FuncId→Bool:=fun _=>true
attribute [go_sem] tk0 Option.isSome_some Option.isSome_none Value.oneCell' Nat.min_def if_true if_false and_true true_and and_false false_and or_true true_or or_false false_or not_true not_false_eq_true Bool.not_true Bool.not_false ne_eq List.length_cons List.length_nil List.length_map List.map_cons List.map_nil List.append_nil List.nil_append List.cons_append List.getD_cons_zero List.getD_cons_succ List.drop_succ_cons List.drop_zero List.take_succ_cons List.take_zero List.drop_nil List.take_nil List.flatMap_cons List.flatMap_nil List.zip_cons_cons List.zip_nil_left List.zip_nil_right List.getElem?_toArray List.getElem?_cons_zero List.getElem?_cons_succ List.getElem?_nil List.contains_cons List.contains_nil List.mapM_cons List.mapM_nil List.all_cons List.all_nil List.range_zero List.range_succ Option.bind_some Option.bind_none Option.map_some Option.map_none Option.pure_def Option.bind_eq_bind Bool.and_false Bool.false_and Bool.and_true Bool.true_and Bool.or_false Bool.false_or Bool.or_true Bool.true_or Bool.and_eq_true beq_self_eq_true Nat.zero_add Nat.add_zero Nat.zero_mul Nat.mul_one Nat.one_mul Nat.mul_zero Nat.sub_zero Int.toNat_zero exists_eq_left exists_eq' Nat.add_eq_zero_iff decide_eq_true_eq decide_true decide_false bne_self_eq_false Nat.beq_eq_true_eq beq_iff_eq Array.toList_map Int.toNat_natCast
theorem br {p q : Prop} (hp : p) (hq : q) : p∧q:=⟨hp,hq⟩
def sr (E : Env) (x y : Code) (Q : Exit→bL→Prop) (σ : bL) : AV→Prop
 | .c (.bool b)=>(b = true→aw E x Q σ)∧(b = false→aw E y Q σ)
 | _=>False
theorem yN {E : Env} {Q : Exit→bL→Prop} {σ : bL} {t : Nat} {x y : Code} (ht : t < 10000) (h : ∀ v,bj σ t = v→sr E x y Q σ v) : aw E (.cond (.tmp t) x y) Q σ:=by
 replace h:=h _ rfl
 unfold sr at h
 split at h
 ·rename_i b hb;exact Bd ht hb h.1 h.2
 ·exact h.elim
theorem ax {E : Env} {Q : Exit→bL→Prop} {σ : bL} {x y : Code} (h : aw E x Q σ) : sr E x y Q σ (.c (.bool true)):=⟨(fun _=>h),(fun e=>by cases e)⟩
theorem av {E : Env} {Q : Exit→bL→Prop} {σ : bL} {x y : Code} (h : aw E y Q σ) : sr E x y Q σ (.c (.bool false)):=⟨(fun e=>by cases e),(fun _=>h)⟩
theorem fu {E : Env} {Q : Exit→bL→Prop} {σ : bL} {x y : Code} {b : Bool} (h1 : b = true→aw E x Q σ) (h2 : b = false→aw E y Q σ) : sr E x y Q σ (.c (.bool b)):=⟨h1,h2⟩
theorem vP {E : Env} {Q : Exit→bL→Prop} {σ : bL} (tk : FuncId→Bool) (LV : Nat→List Nat) {id : Nat} {l : List Oper} (h : ∀ K : bL→Prop,(∀ σ',Q .normal σ'→K σ')→jQ E.P E.N tk l.toArray l (jW (LV id) σ) K) : aw E (.region id l.toArray false) Q σ :=
 wG (ka (LV id) σ) (xK tk h)
theorem yP {E : Env} {Q : Exit→bL→Prop} {σ : bL} (tk : FuncId→Bool) (LV : Nat→List Nat) {id : Nat} {l : List Oper} (hm : E.P.follows .mixedOrders = true)
  (h : ∀ K : bL→List Rec→Prop,(∀ σ' recs,mD l recs = true→Q .normal σ'→K σ' recs)→gZ E.P E.N tk l.toArray l (jW (LV id) σ) [] K) : aw E (.region id l.toArray true) Q σ:=wG (ka (LV id) σ) (yO tk hm h)
theorem aj {K : bL→Prop} {Q : Exit→bL→Prop} {σ : bL} (h : K σ) : pq K Q .normal σ:=h
theorem cf {K : bL→Prop} {Q : Exit→bL→Prop} {σ : bL} {e : Nat} (h : Q (.exit e) σ) : pq K Q (.exit e) σ:=h
theorem aZ {K : bL→Prop} {Q : Exit→bL→Prop} {σ : bL} (h : Q .ret σ) : pq K Q .ret σ:=h
theorem aR {id : Nat} {Q : Exit→bL→Prop} {σ : bL} (h : Q .normal σ) : mB id Q .normal σ:=h
theorem bh {id : Nat} {Q : Exit→bL→Prop} {σ : bL} (h : Q .ret σ) : mB id Q .ret σ:=h
theorem bI {id : Nat} {Q : Exit→bL→Prop} {σ : bL} (h : Q .normal σ) : mB id Q (.exit id) σ:=by simp only [mB,if_true];exact h
theorem bi {E : Env} {Q : Exit→bL→Prop} {σ : bL} {c : Code} (L : List Nat) {σ' : bL} (hσ : jW L σ = σ') (h : awl E c Q σ') : awl E c Q σ:=jS (ka L σ) (hσ ▸ h)
theorem dd {E : Env} {Q : Exit→bL→Prop} {σ σ' : bL} {c : Code} (h : awl E c Q σ') (e : σ = σ') : awl E c Q σ:=e ▸ h
theorem mw {E : Env} {Q : Exit→bL→Prop} {σ σ' : bL} {c : Code} (h : aw E c Q σ') (e : σ = σ') : aw E c Q σ:=e ▸ h
theorem b9 {E : Env} {Q : Exit→bL→Prop} {c : Code} {α : Type} (I : α→bL) (P : α→Prop) (m : α→Nat) (x0 : α) {σ : bL} (L : List Nat) (h0 : jW L σ = I x0) (hp : P x0)
  (step : ∀ x,P x→(∀ y,P y→m y < m x→awl E c Q (I y))→aw E c (pq (awl E c Q) Q) (I x)) : awl E c Q σ:=by
 have all : ∀ n x,m x = n→P x→awl E c Q (I x):=fun n=>by
  induction n using Nat.strongRecOn with
  | _ n ih=>exact fun x hx hP=>xL (step x hP fun y hy hm=>ih (m y) (hx ▸ hm) y rfl hy)
 exact jS (ka L σ) (h0 ▸ all _ x0 rfl hp)
theorem bZ {x : Int} (h1 : -9223372036854775808≤x) (h2 : x≤9223372036854775807) : IntKind.i64.wrap x = x:=by
 have e : IntKind.i64.wrap x = if x % 18446744073709551616 ≥ 9223372036854775808 then x % 18446744073709551616 - 18446744073709551616 else x % 18446744073709551616:=by
  simp [IntKind.wrap,IntKind.bits,IntKind.signed]
 rw [e]
 split <;> omega
end Go.Proofs.YtkjnkkmokojnpaaGreatDoor
namespace Go.Proofs.YtkjnkkmokojnpaaGreatDoor
set_option linter.unusedSimpArgs false
set_option linter.unusedVariables false
open Go.RowKit
theorem qc {E : Env} {σ : bL} {b k0 i n : Nat} {cs cells : List AV} {ty : TypeId} (e : TypeId) (hb : 10000≤b∧b < 20000) (hk0 : 10000≤k0) (hne : ¬ k0 = b) (hu : bj σ b = .u) (hB : bj σ k0 = .bc cells ty)
  (hi : cells[i]? = some (.sl cs n .full)) : ALe E σ (gh (gh σ b (.bt n e)) k0 (.bc (cells.set i (.sl cs n (.tok b))) ty)):=fun a w G hs=>by
 have hm : ∀ k,bj (gh (gh σ b (.bt n e)) k0 (.bc (cells.set i (.sl cs n (.tok b))) ty)) k = if k0 = k then .bc (cells.set i (.sl cs n (.tok b))) ty else if b = k then .bt n e else bj σ k:=fun k=>by rw [eN,eN]
 generalize gh (gh σ b (.bt n e)) k0 (.bc (cells.set i (.sl cs n (.tok b))) ty) = σ' at hm
 have hγ : G.γ b = none:=by
  cases hg : G.γ b with
  | none=>rfl
  | some g =>
   obtain ⟨_,_,hbx⟩:=hs.st.box b g hg
   rcases hbx with ⟨_,_,h1,_⟩ | ⟨_,_,h1,_⟩ <;> rw [hu] at h1 <;> cases h1
 have hst : BStep G (bj σ) G (bj σ'):=⟨.refl _,fun k hk=>by
  rw [hm]
  by_cases h0 : k0 = k
  ·subst h0;rw [if_pos rfl,hB];exact ⟨(fun _ _ hc=>by cases hc;exact ⟨⟨_,rfl⟩,rfl⟩),(fun _ _ hc=>by cases hc)⟩
  rw [if_neg h0]
  by_cases h1 : b = k
  ·subst h1;rw [hu];exact ⟨(fun _ _ hc=>by cases hc),(fun _ _ hc=>by cases hc)⟩
  ·rw [if_neg h1];exact ⟨fun cs ty hc=>⟨⟨cs,hc⟩,rfl⟩,fun n e hc=>⟨n,hc,.inr ⟨rfl,rfl,rfl⟩⟩⟩⟩
 refine ⟨G,hs.defers,hs.tsize,fun k hk=>?_,⟨hs.st.agree,fun k g hk=>?_,fun k cs' ty' hk hc=>?_,hs.st.inj,hs.st.gl⟩,hs.fr,hs.step.trans hst,hs.zp⟩
 ·rw [hm,if_neg (by omega),if_neg (by omega)];exact (hs.slots k hk).step hst
 ·obtain ⟨h1,h2,h3⟩:=hs.st.box k g hk
  refine ⟨h1,h2,?_⟩
  by_cases h0 : k0 = k
  ·subst h0
   rcases h3 with ⟨cs1,ty1,q1,⟨qm,c,q2,q3,q4,q5⟩ | ⟨qm,es,clk,q2,q3,q4⟩⟩ | ⟨_,_,q1,_⟩
   ·rw [hB] at q1;cases q1
    refine .inl ⟨_,_,by rw [hm,if_pos rfl],.inl ⟨qm,c,q2,(by unfold FitsC;rw [List.length_set];exact q3),q4,fun j hj=>?_⟩⟩
    have hj' : j < cells.length:=by simpa using hj
    obtain ⟨r1,r2⟩:=q5 j hj'
    refine ⟨?_,r2⟩
    rw [List.getElem_set]
    split
    ·rename_i hij
     subst hij
     obtain ⟨hl,hi2⟩:=List.getElem?_eq_some_iff.1 hi
     rw [hi2] at r1
     obtain ⟨ad,cap,b',off,f,ev,⟨p1,p2,p3,p4,p5⟩,hf,_⟩:=gD r1
     rw [ev]
     refine .tok ad n cap cs b n e (.sl ad b' off n cap .none cs f (.inl rfl) p1 p2 p3 p4 p5) hb.1 (by rw [hm,if_neg hne,if_pos rfl]) (Nat.le_refl _) fun _=>⟨fun _=>hf rfl,fun g hg=>by rw [hγ] at hg;cases hg⟩
    ·exact r1.step hst
   ·rw [hB] at q1;cases q1
    obtain ⟨q4,_⟩:=q4
    rw [q4] at hi
    obtain ⟨v,hv⟩:=wd (List.mem_of_getElem? hi)
    cases hv
   ·rw [hB] at q1;cases q1
  ·refine h3.step hst ?_ rfl rfl fun _=>rfl
   rw [hm,if_neg h0,if_neg (fun h4=>by rw [← h4,hγ] at hk;cases hk)]
 ·rw [hm] at hc
  by_cases h0 : k0 = k
  ·subst h0;exact hs.st.real k0 cells ty hk0 hB
  rw [if_neg h0] at hc
  by_cases h1 : b = k
  ·rw [if_pos h1] at hc;cases hc
  ·rw [if_neg h1] at hc;exact hs.st.real k cs' ty' hk hc
end Go.Proofs.YtkjnkkmokojnpaaGreatDoor
namespace Go.Proofs.YtkjnkkmokojnpaaGreatDoor
set_option linter.unusedSimpArgs false
set_option linter.unusedVariables false
open Go.RowKit
def py (p : Prop) : Prop:=p
theorem aa {p : Prop} (h : p) : py p:=h
def EqTo {α : Type} (e : α) (X : α→Prop) : Prop:=∀ v,e = v→X v
theorem ab {α : Type} {e : α} {X : α→Prop} (h : ∀ Y : α→Prop,(∀ v,X v→Y v)→py (Y e)) : EqTo e X:=fun v hv=>hv ▸ h X fun _ h=>h
theorem EqTo.out {α : Type} {e : α} {X : α→Prop} (h : EqTo e X) : X e:=h _ rfl
def yH (p q : Prop) : Prop:=p∧q
theorem dc {p q : Prop} (h : py p) (k : q) : yH p q:=⟨h,k⟩
def lE (v : AV) (want : Bool) (A B C : Prop) : Prop:=match v with | .c (.bool b)=>(b = want→A)∧(b = !want→B) | .c (.tuple _)=>C | _=>False
theorem fU {want : Bool} {A B C : Prop} (h : C) : lE (.c undef) want A B C:=h
theorem aK {want : Bool} {A B C : Prop} (h : A) : lE (.c (.bool want)) want A B C:=⟨fun _=>h,fun e=>by cases want <;> cases e⟩
theorem aW {b want : Bool} {A B C : Prop} (hb : b = !want) (h : B) : lE (.c (.bool b)) want A B C:=⟨(fun e=>by subst e;cases b <;> cases hb),fun _=>h⟩
theorem ci {b want : Bool} {A B C : Prop} (h1 : b = want→A) (h2 : b = !want→B) : lE (.c (.bool b)) want A B C:=⟨h1,h2⟩
def gO (d : Option Nat) (X : Nat→Prop) : Prop:=match d with | some t=>t < 10000∧X t | none=>False
theorem aI {t : Nat} {X : Nat→Prop} (ht : t < 10000) (h : X t) : gO (some t) X:=⟨ht,h⟩
def DT (P : Program) (N : Nat) (tk : FuncId→Bool) (ops : Array Oper) (o : Oper) (r : List Oper) (K : bL→Prop) (σ : bL) : Prop :=
 ∀ K' : List (Nat × AV)→Prop,(∀ e,EqTo (dT σ e) (fun σ'=>jQ P N tk ops r σ' K)→K' e)→py ((aop P N tk o).wp P σ fun _ e=>K' e)
def yI (P : Program) (N : Nat) (tk : FuncId→Bool) (ops : Array Oper) (o : Oper) (r : List Oper) (acc : List Rec) (pre : List Nat) (K : bL→List Rec→Prop) (σ : bL) : Prop :=
 ∀ K' : List Nat→List (Nat × AV)→Prop,(∀ R e,EqTo (dT σ e) (fun σ'=>gZ P N tk ops r σ' (acc ++ [(pre ++ R,e)]) K)→K' R e)→py ((aop P N tk o).wp P σ fun R e=>K' R e)
section
variable {P : Program} {N : Nat} {tk : FuncId→Bool} {ops : Array Oper} {r : List Oper} {σ : bL} {o : Oper} {g : Nat} {want : Bool}
theorem ay {K : bL→Prop} (h : ∀ K' : List (Nat × AV)→Prop,(∀ e,EqTo (dT σ e) (fun σ'=>jQ P N tk ops r σ' K)→K' e)→py ((aop P N tk o).wp P σ fun _ e=>K' e)) : DT P N tk ops o r K σ:=h
theorem dx {acc : List Rec} {pre : List Nat} {K : bL→List Rec→Prop} (h : ∀ K' : List Nat→List (Nat × AV)→Prop,(∀ R e,EqTo (dT σ e) (fun σ'=>gZ P N tk ops r σ' (acc ++ [(pre ++ R,e)]) K)→K' R e)→py ((aop P N tk o).wp P σ fun R e=>K' R e)) : yI P N tk ops o r acc pre K σ:=h
theorem ag {K : bL→Prop} (h : K σ) : jQ P N tk ops [] σ K:=h
theorem ar {K : bL→Prop} (hg : o.guard = none) (h : DT P N tk ops o r K σ) : jQ P N tk ops (o :: r) σ K:=by
 unfold jQ;rw [hg];exact h _ fun e h=>h.out
theorem ba {K : bL→Prop} (hg : o.guard = some (g,want))
  (h : EqTo (no ops g) fun d=>gO d fun t=>EqTo (bj σ t) fun v=>lE v want (EqTo (gh σ t (.c (.bool want))) (DT P N tk ops o r K))
   (yH (fh N o) (EqTo (dT (gh σ t (.c (.bool (!want)))) (fB o (.c undef))) fun σ'=>jQ P N tk ops r σ' K))
   (yH (fh N o) (EqTo (dT σ (fB o (.c undef))) fun σ'=>jQ P N tk ops r σ' K))) : jQ P N tk ops (o :: r) σ K:=by
 replace h:=h.out
 unfold jQ
 rw [hg]
 unfold gO at h
 split at h
 ·rename_i t ht
  simp only [ht]
  obtain ⟨h10,h⟩:=h
  replace h:=h.out
  refine ⟨h10,?_⟩
  unfold lE at h
  split at h
  ·rename_i b hb
   simp only [hb]
   by_cases e : b = want
   ·rw [if_pos e];exact (h.1 e).out _ fun e h=>h.out
   ·rw [if_neg e]
    have h2:=h.2 (by cases b <;> cases want <;> simp_all)
    exact ⟨h2.1,h2.2.out⟩
  ·rename_i hb
   simp only [hb]
   exact ⟨h.1,h.2.out⟩
  ·exact h.elim
 ·exact h.elim
theorem bV {acc : List Rec} {K : bL→List Rec→Prop} (h : K σ acc) : gZ P N tk ops [] σ acc K:=h
theorem cX {acc : List Rec} {K : bL→List Rec→Prop} (hg : o.guard = none) (h : yI P N tk ops o r acc [] K σ) : gZ P N tk ops (o :: r) σ acc K:=by
 unfold gZ;rw [hg];exact h _ fun R e h=>h.out
theorem mF {acc : List Rec} {K : bL→List Rec→Prop} (hg : o.guard = some (g,want))
  (h : EqTo (no ops g) fun d=>gO d fun t=>EqTo (bj σ t) fun v=>lE v want (EqTo (gh σ t (.c (.bool want))) (yI P N tk ops o r acc [t] K))
   (yH (fh N o) (EqTo (dT (gh σ t (.c (.bool (!want)))) (fB o (.c undef))) fun σ'=>gZ P N tk ops r σ' (acc ++ [([t],fB o (.c undef))]) K))
   (yH (fh N o) (EqTo (dT σ (fB o (.c undef))) fun σ'=>gZ P N tk ops r σ' (acc ++ [([t],fB o (.c undef))]) K))) : gZ P N tk ops (o :: r) σ acc K:=by
 replace h:=h.out
 unfold gZ
 rw [hg]
 unfold gO at h
 split at h
 ·rename_i t ht
  simp only [ht]
  obtain ⟨h10,h⟩:=h
  replace h:=h.out
  refine ⟨h10,?_⟩
  unfold lE at h
  split at h
  ·rename_i b hb
   simp only [hb]
   by_cases e : b = want
   ·rw [if_pos e];exact (h.1 e).out _ fun R e h=>h.out
   ·rw [if_neg e]
    have h2:=h.2 (by cases b <;> cases want <;> simp_all)
    exact ⟨h2.1,h2.2.out⟩
  ·rename_i hb
   simp only [hb]
   exact ⟨h.1,h.2.out⟩
  ·exact h.elim
 ·exact h.elim
end
def DS (E : Env) (Q : Exit→bL→Prop) (tk : FuncId→Bool) (l : List Oper) (σ₁ : bL) : Prop:=∀ K : bL→Prop,(∀ σ',Q .normal σ'→K σ')→jQ E.P E.N tk l.toArray l σ₁ K
theorem aF {E : Env} {Q : Exit→bL→Prop} {tk : FuncId→Bool} {l : List Oper} {σ₁ : bL} (h : ∀ K : bL→Prop,(∀ σ',Q .normal σ'→K σ')→jQ E.P E.N tk l.toArray l σ₁ K) : DS E Q tk l σ₁:=h
def EY (E : Env) (Q : Exit→bL→Prop) (tk : FuncId→Bool) (l : List Oper) (σ₁ : bL) : Prop:=∀ K : bL→List Rec→Prop,(∀ σ' recs,mD l recs = true→Q .normal σ'→K σ' recs)→gZ E.P E.N tk l.toArray l σ₁ [] K
theorem eS {E : Env} {Q : Exit→bL→Prop} {tk : FuncId→Bool} {l : List Oper} {σ₁ : bL} (h : ∀ K : bL→List Rec→Prop,(∀ σ' recs,mD l recs = true→Q .normal σ'→K σ' recs)→gZ E.P E.N tk l.toArray l σ₁ [] K) : EY E Q tk l σ₁:=h
theorem ae {E : Env} {Q : Exit→bL→Prop} {σ : bL} (tk : FuncId→Bool) (LV : Nat→List Nat) {id : Nat} {l : List Oper} (h : EqTo (jW (LV id) σ) (DS E Q tk l)) : aw E (.region id l.toArray false) Q σ :=
 vP tk LV fun K hK=>h.out K hK
theorem bU {E : Env} {Q : Exit→bL→Prop} {σ : bL} (tk : FuncId→Bool) (LV : Nat→List Nat) {id : Nat} {l : List Oper} (hm : E.P.follows .mixedOrders = true) (h : EqTo (jW (LV id) σ) (EY E Q tk l)) : aw E (.region id l.toArray true) Q σ :=
 yP tk LV hm fun K hK=>h.out K hK
theorem ai {E : Env} {Q : Exit→bL→Prop} {σ : bL} {t : Nat} {x y : Code} (ht : t < 10000) (h : EqTo (bj σ t) (sr E x y Q σ)) : aw E (.cond (.tmp t) x y) Q σ:=yN ht fun v hv=>h v hv
theorem ac {P : Program} {f : FuncId} {a b bxs' : List AV} {r : AV} {X : AV→List AV→Prop} (h : AFn P f a b r bxs') (k : py (X r bxs')) : ∃ r bxs',AFn P f a b r bxs'∧X r bxs':=⟨r,bxs',h,k⟩
theorem bg {X : World→Result Value} {v : Value} {Q : Value→Prop} (h : ∀ w,X w = .ok v w) (k : py (Q v)) : ∃ v,(∀ w,X w = .ok v w)∧Q v:=⟨v,h,k⟩
theorem D4 {X : World→Result Next} {v : Value} {Q : Value→Prop} (h : ∀ w,X w = .ok (.value v) w) (k : py (Q v)) : ∃ v,(∀ w,X w = .ok (.value v) w)∧Q v:=⟨v,h,k⟩
theorem aq {P : Program} {fn : Func} {nb : Nat} {nw : List Nat} {r : AV} {bxs : List AV} {σ : bL} (h : py (fin P fn nb nw r bxs σ)) : AZ P fn nb nw r bxs .ret σ:=h
theorem dw {P : Program} {fn : Func} {nb : Nat} {nw : List Nat} {r : AV} {bxs : List AV} {σ : bL} (h : py (fin P fn nb nw r bxs σ)) : AZ P fn nb nw r bxs .normal σ:=h
section
variable {P : Program} {N : Nat} {o : Oper} {σ : bL} {K : List Nat→List (Nat × AV)→Prop}
theorem Ds {d : List (Nat × AV)} : TR.wp P (.done d) σ K = K [] d:=rfl
theorem FO {k : Nat} {f : AV→TR} : TR.wp P (.rd k f) σ K = (f (bj σ k)).wp P σ fun R d=>K (k :: R) d:=rfl
theorem Dt {p : Prop} {t : TR} : TR.wp P (.need p t) σ K = (p∧t.wp P σ K):=rfl
theorem FN {p : Value→Prop} {f : Value→TR} : TR.wp P (.ex p f) σ K = ∃ v,p v∧(f v).wp P σ K:=rfl
theorem Dr {f : FuncId} {args bxs : List AV} {k : AV→List AV→TR} : TR.wp P (.call f args bxs k) σ K = ∃ r bxs',AFn P f args bxs r bxs'∧(k r bxs').wp P σ K:=rfl
theorem wB {t : Nat} {f : AV→TR} : TR.wp P (rdo (.tmp t) f) σ K = (t < 10000∧TR.wp P (f (bj σ t)) σ fun R d=>K (t :: R) d):=rfl
theorem ui {v : Value} {f : AV→TR} : TR.wp P (rdo (.const v) f) σ K = TR.wp P (f (ofV v)) σ K:=rfl
theorem si {g : Nat} {f : AV→TR} : TR.wp P (rdo (.global g) f) σ K = TR.wp P (f (wV g)) σ K:=rfl
theorem vG {i : Nat} {f : AV→TR} : TR.wp P (rdo (.func i) f) σ K = TR.wp P (f (.fn (.func i) [] [])) σ K:=rfl
theorem vH {f : List AV→TR} : TR.wp P (rdos [] f) σ K = TR.wp P (f []) σ K:=rfl
theorem uj {x : Operand} {l : List Operand} {f : List AV→TR} : TR.wp P (rdos (x :: l) f) σ K = TR.wp P (rdo x fun v=>rdos l fun vs=>f (v :: vs)) σ K:=rfl
theorem ug {f : Option AV→TR} : TR.wp P (rX none f) σ K = TR.wp P (f none) σ K:=rfl
theorem uh {x : Operand} {f : Option AV→TR} : TR.wp P (rX (some x) f) σ K = TR.wp P (rdo x fun v=>f (some v)) σ K:=rfl
theorem wp_ret {v : AV} : TR.wp P (ret N o v) σ K = (fh N o∧K [] (fB o v)):=rfl
theorem zQ {b off : Nat} : tI N o (.loc b off) = ret N o (.loc b off):=rfl
theorem B6 {cs : List AV} {off : Nat} : tI N o (.rf cs off) = ret N o (.rf cs off):=rfl
theorem B5 {i : Nat} {a b : List AV} : tI N o (.fn (.func i) a b) = ret N o (.fn (.func i) a b):=rfl
theorem zP {t : TypeId} {x : AV} : tI N o (.ifc t x) = ret N o (.ifc t x):=rfl
theorem B7 {b : Bool} {x y : AV} : sB N o (.c (.bool b)) x y = ret N o (if b then x else y):=rfl
theorem zN {t off : Nat} {cs : List AV} {f : AV→TR} : qM P t (.rf cs off) f = kLd P t cs off f:=rfl
theorem BY {op : BinOp} {t : TypeId} {x y : Operand} {k k' : IntKind} {z z' : Int} : pB P N o op t x y (.c (.int k z)) (.c (.int k' z')) = .need (k = k'∨nG op = true) (match qI op k z z' with | some v=>ret N o (.c v) | none=>fail):=rfl
theorem BX {op : BinOp} {t : TypeId} {x y : Operand} {t' : TypeId} {a : AV} : pB P N o op t x y (.ifc t' a) (.c .nilIface) = (match kE op with | some r=>.need (aQ P t = false∧(P.underlying t).isSome = true) (ret N o (.c (.bool (!r)))) | none=>fail):=rfl
theorem BZ {op : BinOp} {t : TypeId} {x y : Operand} {t' : TypeId} {a : AV} : pB P N o op t x y (.c .nilIface) (.ifc t' a) = (match kE op with | some r=>.need (aQ P t = false∧(P.underlying t).isSome = true) (ret N o (.c (.bool (!r)))) | none=>fail):=rfl
theorem B1 {op : BinOp} {t : TypeId} {x y : Operand} : pB P N o op t x y (.c .nilIface) (.c .nilIface) = l9 P N o op t x y .nilIface .nilIface:=rfl
theorem B2 {op : BinOp} {t : TypeId} {x y : Operand} {a b : ByteArray} : pB P N o op t x y (.c (.string a)) (.c (.string b)) = l9 P N o op t x y (.string a) (.string b):=rfl
theorem BV {op : BinOp} {t : TypeId} {x y : Operand} {a b : Bool} : pB P N o op t x y (.c (.bool a)) (.c (.bool b)) = l9 P N o op t x y (.bool a) (.bool b):=rfl
theorem BW {op : BinOp} {t : TypeId} {x y : Operand} {t1 t2 : TypeId} {a b : AV} : pB P N o op t x y (.ifc t1 a) (.ifc t2 b) = (match lq (.ifc t1 a),lq (.ifc t2 b) with | some vx,some vy=>l9 P N o op t x y vx vy | _,_=>fail):=rfl
theorem B9 {b : Bool} : kUn N o .not (.c (.bool b)) = ret N o (.c (.bool (!b))):=rfl
theorem B8 {k : IntKind} {n : Int} : kUn N o .neg (.c (.int k n)) = ret N o (.c (.int k (k.wrap (0 - n)))):=rfl
theorem wa {cs : List AV} {i : Nat} : ki N o (.tup cs) i = .need (i < cs.length) (ret N o (cs.getD i .u)):=rfl
theorem B4 {t n : Nat} {cs : List AV} {w : Own} : uO P N o t (.sl cs n w) = .need ((bp P t).isSome = true) (ret N o (.c (.int .i64 n))):=rfl
theorem zM {t b off n e : Nat} : uO P N o t (.arr b off n e) = .need ((bp P t).isSome = true) (ret N o (.c (.int .i64 n))):=rfl
theorem Ee {t : Nat} {s : ByteArray} : uO P N o t (.c (.string s)) = .need (bB P t = true) (ret N o (.c (.int .i64 s.size))):=rfl
end
attribute [go_sem] wV wU
attribute [-go_sem] jQ TR.wp tI sB pB kUn ki uO aop
attribute [go_sem] zQ B6 B5 zP B7 zN BY BX BZ B1 B2 BV BW B9 B8 wa B4 zM Ee
attribute [go_sem ↓] Ds FO Dt FN Dr wB ui si vG vH uj ug uh wp_ret
end Go.Proofs.YtkjnkkmokojnpaaGreatDoor
namespace Go.Proofs.YtkjnkkmokojnpaaGreatDoor
set_option linter.unusedSimpArgs false
set_option linter.unusedVariables false
open Go.RowKit
def wkA : Nat→AV→AV
 | 0,x=>x
 | _ + 1,.sl cs n .full=>.sl cs n .none
 | k + 1,.agg cs=>.agg (cs.map (wkA k))
 | k + 1,.tup cs=>.tup (cs.map (wkA k))
 | k + 1,.ifc t x=>.ifc t (wkA k x)
 | _ + 1,x=>x
theorem pX {G : Gh} {B : Nat→AV} : ∀ (k : Nat) {x : AV} {v : Value},VRel G B v x→VRel G B v (wkA k x)
 | 0,x,v,h=>h
 | k + 1,.sl cs n .full,v,h=>by
  obtain ⟨ad,cap,b,off,f,rfl,hs,_⟩:=gD h
  exact hs.rel
 | k + 1,.agg cs,v,h=>by
  obtain ⟨vs,rfl,hs,h1,hp⟩:=iI h
  exact .agg vs _ (by simpa using hs) (fun j hj=>h1 j (by simpa using hj)) fun j hj=>by
   have hj' : j < cs.length:=by simpa using hj
   rw [List.getElem_map];exact pX k (hp j hj')
 | k + 1,.tup cs,v,h=>by
  obtain ⟨vs,rfl,hs,hp⟩:=ji h
  exact .tup vs _ (by simpa using hs) fun j hj=>by
   have hj' : j < cs.length:=by simpa using hj
   rw [List.getElem_map];exact pX k (hp j hj')
 | k + 1,.ifc t x,v,h=>by
  obtain ⟨v',rfl,h'⟩:=gN h
  exact .ifc t v' _ (pX k h')
 | _ + 1,.sl cs n .none,v,h=>h
 | _ + 1,.sl cs n (.tok b),v,h=>h
 | _ + 1,.c _,v,h=>h
 | _ + 1,.u,v,h=>h
 | _ + 1,.rf _ _,v,h=>h
 | _ + 1,.fn _ _ _,v,h=>h
 | _ + 1,.loc _ _,v,h=>h
 | _ + 1,.arr _ _ _ _,v,h=>h
 | _ + 1,.bc _ _,v,h=>h
 | _ + 1,.bt _ _,v,h=>h
 | _ + 1,.mp _,v,h=>h
theorem iA {P : Program} {f : FuncId} {args bxs bxs' : List AV} {r r' : AV} (h : AFn P f args bxs r bxs') (k : Nat) (e : wkA k r = r') : AFn P f args bxs r' bxs':=fun w G vs hst hX hvs hargs=>by
 refine (h w G vs hst hX hvs hargs).mono fun e' w' ⟨v,G',h1,h2,h3⟩=>⟨v,G',h1,e ▸ pX k h2,h3⟩
end Go.Proofs.YtkjnkkmokojnpaaGreatDoor
namespace Go.Proofs.YtkjnkkmokojnpaaGreatDoor
set_option linter.unusedSimpArgs false
set_option linter.unusedVariables false
open Go.RowKit Go.ChangeShapes Go.WideShapes
def j0 (w : World) : jf:=fun b o=>match w.cell? ⟨b,o,none⟩ with
 | some v=>if v.oneCell' = true then some v else none
 | none=>none
theorem uk {w : World} {b o : Nat} {v : Value} (h : w.cell? ⟨b,o,none⟩ = some v) (h1 : v.oneCell' = true) : j0 w b o = some v:=by
 unfold j0;rw [h];simp [h1]
theorem AX {w : World} {b o : Nat} {v : Value} (h : j0 w b o = some v) : w.cell? ⟨b,o,none⟩ = some v∧v.oneCell' = true:=by
 unfold j0 at h
 cases hc : w.cell? ⟨b,o,none⟩ with
 | none=>rw [hc] at h;cases h
 | some u =>
  rw [hc] at h
  by_cases h1 : u.oneCell' = true
  ·simp [h1] at h;subst h;exact ⟨rfl,h1⟩
  ·simp [h1] at h
def yJ (w : World) : Gh:=⟨j0 w,fun _=>none,fun _=>0⟩
def sW (w : World) (vs : List Value) (cs : List AV) : Prop:=vs.length = cs.length∧∀ j (h : j < cs.length),PRel (j0 w) (vs.getD j undef) cs[j]
theorem oq (b o n : Nat) : (⟨b,o,none⟩ : Addr).add n = ⟨b,o + n,none⟩:=by
 unfold Addr.add;split <;> simp_all
theorem wD {P : Program} {f : FuncId} {args : List AV} {x : Value} (h : AFn P f args [] (.c x) []) (w : World) (hgl : Gl (j0 w)) (vs : List Value) (hp : sW w vs args) (hX : ∀ g cs,qF g = some cs→∃ ty fl,w.heap[g]? = some (.cells cs ty fl):=by intro g cs h;cases h) :
  Calls P f vs.toArray w fun e w'=>e = .returned x∧Below w.heap.size w w':=by
 obtain ⟨hs,hp⟩:=hp
 have hst : BSim P (fun b=>b < w.heap.size∧∀ k,(yJ w).γ k ≠ some b) (yJ w) (cY []) w :=
  ⟨(fun b o v hv=>AX hv),(fun k g hk=>by cases hk),(fun k cs ty _ hc=>by unfold cY at hc;split at hc <;> simp at hc),(fun k k' g hk=>by cases hk),hgl⟩
 refine (h w (yJ w) vs.toArray hst (fun g cs hg=>⟨hX g cs hg,(let ⟨_,_,h⟩:=hX g cs hg;(Array.getElem?_eq_some_iff.1 h).1),fun k hk=>by cases hk⟩) (by simpa using hs) fun j hj=>?_).mono ?_
 ·have hj' : j < vs.length:=by omega
  have:=hp j hj
  simpa [Array.getD_eq_getD_getElem?,List.getD_eq_getElem?_getD,hj'] using VRel.p (G:=yJ w) (B:=cY []) this
 ·rintro e w' ⟨v,G',rfl,h2,h3,h4,_⟩
  refine ⟨by rw [ee h2],h4.os,h4.tape,h4.output,h4.size,fun k hk=>h4.block k ⟨hk,fun i=>by simp [yJ]⟩ hk⟩
def ls {H : Type} (P : Program) (t : TypeId) (d : DataW H) : Prop:=∀ n ∈ d.weights P t,n≤140737488351232
theorem uf {H : Type} {P : Program} {t e : TypeId} (ht : P.underlying t = some (.slice e)) {elems spare : List (DataW H)} (h : ls P t (.slice elems spare)) :
  (elems.length + spare.length) * P.bytesOf e≤140737488351232∧∀ d ∈ elems,ls P e d:=by
 unfold ls DataW.weights at h
 rw [ht] at h
 refine ⟨h _ (by simp),fun d hd n hn=>h n (by simp only [List.mem_cons,List.mem_append];exact .inr (.inl (mem_all hd hn)))⟩
where
 mem_all {H : Type} {P : Program} {e : TypeId} {l : List (DataW H)} {d : DataW H} (hd : d ∈ l) {n : Nat} (hn : n ∈ d.weights P e) : n ∈ DataW.weightsAll P e l:=by
  induction l with
  | nil=>cases hd
  | cons x l ih =>
   simp only [DataW.weightsAll,List.mem_append]
   rcases List.mem_cons.1 hd with rfl | h
   ·exact .inl hn
   ·exact .inr (ih h)
theorem weighs_struct {H : Type} {P : Program} {t : TypeId} {fs : Array Field} (ht : P.underlying t = some (.struct fs)) {parts : List (DataW H)} (h : ls P t (.agg parts)) :
  ∀ (i : Nat) (f : Field) (d : DataW H),fs[i]? = some f→parts[i]? = some d→ls P f.type d:=by
 unfold ls DataW.weights at h
 rw [ht] at h
 intro i f d hf hd n hn
 exact h n (mem_each (by simpa using congrArg (Option.map (·.type)) hf) hd hn)
where
 mem_each {H : Type} {P : Program} : ∀ {ts : List TypeId} {l : List (DataW H)} {i : Nat} {t : TypeId} {d : DataW H} {n : Nat},ts[i]? = some t→l[i]? = some d→n ∈ d.weights P t→n ∈ DataW.weightsEach P ts l
  | [],_,_,_,_,_,h,_,_=>by simp at h
  | _ :: _,[],_,_,_,_,_,h,_=>by simp at h
  | _ :: _,_ :: _,0,_,_,_,h,h',hn=>by
   simp at h h';subst h;subst h'
   simp only [DataW.weightsEach,List.mem_append];exact .inl hn
  | _ :: ts,_ :: l,i + 1,_,_,_,h,h',hn=>by
   simp only [DataW.weightsEach,List.mem_append]
   exact .inr (mem_each (ts:=ts) (l:=l) (i:=i) (by simpa using h) (by simpa using h') hn)
theorem pt {H : Type} {P : Program} {ts : List TypeId} {ds : List (DataW H)} (h : (DataW.weightsEach P ts ds).all (·≤reachBytes) = true) {i : Nat} {t : TypeId} {d : DataW H} (ht : ts[i]? = some t) (hd : ds[i]? = some d) : ls P t d:=by
 intro n hn
 have:=List.all_eq_true.1 h n (weighs_struct.mem_each ht hd hn)
 exact of_decide_eq_true this
theorem D9 {n : Int} (h : (Lit.int .i64 n).wf = true) : -9223372036854775808≤n∧n≤9223372036854775807:=by
 simpa [Lit.wf,IntKind.min,IntKind.max,IntKind.signed,IntKind.bits] using h
section
variable {H : Type} {enc : TypeId × Value→H} {P : Program} {w : World} {base : Nat} {spare : Nat→Bool} {held : Bool}
def Reads {α H : Type} (enc : TypeId × Value→H) (P : Program) (w : World) (base : Nat) (spare : Nat→Bool) (held : Bool) (t : TypeId) (A : α→List AV) (Ok : α→Prop) (fuel : Nat) : Prop :=
 ∀ cs x,DataW.trod enc P w base spare held fuel t cs = some x→ls P t x.1→∃ y : α,Ok y∧PCRel (j0 w) cs (A y)
theorem rg {Z : jf} {v : Value} {x : AV} (h : PRel Z v x) (h1 : v.oneCell' = true) : PCRel Z [v] [x]:=⟨rfl,fun j hj=>by
 obtain rfl : j = 0:=by simpa using hj
 exact ⟨h,h1⟩⟩
theorem Reads.map {α β : Type} {t fuel : Nat} {A : α→List AV} {Ok : α→Prop} (h : Reads enc P w base spare held t A Ok fuel) {A' : β→List AV} {Ok' : β→Prop} (f : α→β) (hA : ∀ y,A' (f y) = A y) (hO : ∀ y,Ok y→Ok' (f y)) :
  Reads enc P w base spare held t A' Ok' fuel:=fun cs x hx hw=>by
 obtain ⟨y,h1,h2⟩:=h cs x hx hw
 exact ⟨f y,hO y h1,by rw [hA];exact h2⟩
theorem ya {t : TypeId} (ht : P.underlying t = some (.int .i64)) (fuel : Nat) : Reads enc P w base spare held t (fun z : Int=>[.c (.int .i64 z)]) (fun z=>-9223372036854775808≤z∧z≤9223372036854775807) fuel:=fun cs x hx _=>by
 obtain ⟨n,rfl,_,hw⟩:=DataW.trod_int ht hx
 exact ⟨n,D9 hw,rg (.c _) rfl⟩
theorem tU {t : TypeId} (ht : P.underlying t = some .string) (fuel : Nat) : Reads enc P w base spare held t (fun s : ByteArray=>[.c (.string s)]) (fun s=>s.size≤140737488351232) fuel:=fun cs x hx hw=>by
 obtain ⟨s,rfl,rfl,hs⟩:=DataW.trod_string ht hx
 refine ⟨s,?_,rg (.c _) rfl⟩
 have:=hw s.data.toList.length (by simp [DataW.weights])
 simpa using this
theorem reads_slice {α : Type} [Inhabited α] {t e s fuel : Nat} {A : α→List AV} {Ok : α→Prop} (ht : P.underlying t = some (.slice e)) (hs : P.cellsOf e = s) (hby : 0 < P.bytesOf e) (hsz : 0 < s) (hA : ∀ y,(A y).length = s)
  (he : ∀ n,n < fuel→Reads enc P w base spare held e A Ok n) : Reads enc P w base spare held t (fun l : List α=>[.sl (l.flatMap A) l.length .none]) (fun l=>(∀ y ∈ l,Ok y)∧l.length * P.bytesOf e≤140737488351232) fuel:=fun cs x h hw=>by
 rcases DataW.trod_slice ht h with ⟨rfl,rfl⟩ | ⟨a,len,cap,elems,rest,n,hfuel,rfl,rfl,hb,hl,hm,hlen,hel,hsp,hns⟩
 ·exact ⟨[],by simp,rg (.sl none 0 0 0 0 .none [] (fun _=>undef) (.inl rfl) (Nat.le_refl _) (fun _=>rfl) (.inl ⟨rfl,rfl⟩) (fun j h=>by simp at h) (fun j h=>by simp at h)) rfl⟩
 ·obtain ⟨hw1,hw2⟩:=uf ht hw
  rw [List.length_map,hlen] at hw1
  have hlen8 : len * P.bytesOf e≤140737488351232:=by
   have h2 : len * P.bytesOf e≤(len + (rest.map (·.1)).length) * P.bytesOf e:=Nat.mul_le_mul_right _ (by omega)
   omega
  have hone : ∀ i,i < len→∃ (y : α × List Value),Ok y.1∧PCRel (j0 w) y.2 (A y.1)∧∀ j (hj : j < y.2.length),w.cell? ((a.add (i * s)).add j) = some y.2[j]:=fun i hi=>by
   have h1:=hel i hi
   have hi' : i < elems.length:=by omega
   rw [List.getElem?_eq_getElem hi',Option.bind_eq_some_iff] at h1
   obtain ⟨cs',hc',h2⟩:=h1
   obtain ⟨_,hcl,hcc⟩:=World.cells?_some hc'
   rw [hs] at hcl
   obtain ⟨y,hy,hyc⟩:=he n (by omega) cs' _ h2 (hw2 _ (List.mem_map.2 ⟨_,List.getElem_mem hi',rfl⟩))
   refine ⟨(y,cs'),hy,hyc,fun j hj=>?_⟩
   have hj' : j < cs'.length:=hj
   have:=hcc j (by rw [hs];omega)
   rw [hs] at this
   rw [this,List.getElem?_eq_getElem hj]
  obtain ⟨f,hf⟩:=Go.Deep.choose_lt hone
  refine ⟨(List.range len).map fun i=>(f i).1,⟨fun y hy=>?_,by simpa using hlen8⟩,rg ?_ rfl⟩
  ·obtain ⟨i,hi,rfl⟩:=List.mem_map.1 hy
   exact (hf i (by simpa using hi)).1
  rcases Nat.eq_zero_or_pos len with h0 | h0
  ·subst h0
   exact .sl (some a) 0 0 0 cap .none [] (fun _=>undef) (.inl rfl) hl (by simp) (.inl ⟨rfl,rfl⟩) (fun j h=>by simp at h) (fun j h=>by simp at h)
  have hspot : a.spot = none:=by
   obtain ⟨_,g2,g3⟩:=hf 0 h0
   have hlen0 : 0 < (f 0).2.length:=by rw [g2.1,hA];exact hsz
   have:=g3 0 hlen0
   rw [Nat.zero_mul] at this
   simp only [Addr.add,if_true] at this
   exact spot_none this
  obtain ⟨b,o,sp⟩:=a
  simp only at hspot
  subst hspot
  have hcell : ∀ i,i < len→∀ j (hj : j < (f i).2.length),w.cell? ⟨b,o + (i * s + j),none⟩ = some (f i).2[j]:=fun i hi j hj=>by
   have:=(hf i hi).2.2 j hj
   rw [oq,oq,Nat.add_assoc] at this
   exact this
  have key : ∀ m,m≤len→(((List.range m).map fun i=>(f i).1).flatMap A).length = m * s∧∀ j (hj : j < (((List.range m).map fun i=>(f i).1).flatMap A).length),∃ v,j0 w b (o + j) = some v∧PRel (j0 w) v (((List.range m).map fun i=>(f i).1).flatMap A)[j]:=fun m=>by
   induction m with
   | zero=>exact fun _=>⟨by simp,fun j hj=>by simp at hj⟩
   | succ m ih =>
    intro hm
    obtain ⟨i1,i2⟩:=ih (by omega)
    obtain ⟨g1,g2,g3⟩:=hf m (by omega)
    refine ⟨?_,fun j hj=>?_⟩
    ·rw [List.range_succ,List.map_append,List.flatMap_append,List.length_append,i1]
     simp [hA,Nat.succ_mul]
    ·by_cases hjm : j < m * s
     ·obtain ⟨v,h1,h2⟩:=i2 j (by rw [i1];exact hjm)
      refine ⟨v,h1,?_⟩
      have e : (((List.range (m + 1)).map fun i=>(f i).1).flatMap A)[j] = (((List.range m).map fun i=>(f i).1).flatMap A)[j]'(by rw [i1];exact hjm):=by
       simp only [List.range_succ,List.map_append,List.flatMap_append]
       rw [List.getElem_append_left]
      rw [e];exact h2
     ·have hj2 : j < (m + 1) * s:=by
       have : (((List.range (m + 1)).map fun i=>(f i).1).flatMap A).length = (m + 1) * s:=by
        rw [List.range_succ,List.map_append,List.flatMap_append,List.length_append,i1]
        simp [hA,Nat.succ_mul]
       rw [this] at hj;exact hj
      have hjs : j - m * s < s:=by rw [Nat.succ_mul] at hj2;omega
      have hjl : j - m * s < (f m).2.length:=by rw [g2.1,hA];exact hjs
      have hjA : j - m * s < (A (f m).1).length:=by rw [hA];exact hjs
      have hc:=hcell m (by omega) (j - m * s) hjl
      rw [show m * s + (j - m * s) = j by omega] at hc
      obtain ⟨p1,p2⟩:=g2.2 (j - m * s) hjA
      have eg : (f m).2.getD (j - m * s) undef = (f m).2[j - m * s]:=by simp [List.getD_eq_getElem?_getD,hjl]
      rw [eg] at p1 p2
      refine ⟨_,uk hc p2,?_⟩
      have e : (((List.range (m + 1)).map fun i=>(f i).1).flatMap A)[j] = (A (f m).1)[j - m * s]:=by
       simp only [List.range_succ,List.map_append,List.flatMap_append,List.map_cons,List.map_nil,List.flatMap_cons,List.flatMap_nil,List.append_nil]
       rw [List.getElem_append_right (by rw [i1];omega)]
       simp only [i1]
      rw [e];exact p1
  obtain ⟨k1,k2⟩:=key len (Nat.le_refl _)
  obtain ⟨F,hF⟩:=Go.Deep.choose_lt (p:=fun j v=>j0 w b (o + j) = some v∧∀ hj : j < (((List.range len).map fun i=>(f i).1).flatMap A).length,PRel (j0 w) v (((List.range len).map fun i=>(f i).1).flatMap A)[j]) (n:=len * s) fun j hj=>by
   obtain ⟨v,h1,h2⟩:=k2 j (by rw [k1];exact hj)
   exact ⟨v,h1,fun _=>h2⟩
  have e2 : ((List.range len).map fun i=>(f i).1).length = len:=by simp
  rw [e2]
  exact .sl (some ⟨b,o,none⟩) b o len cap .none _ F (.inl rfl) hl (by simp) (.inr rfl) (fun j hj=>(hF j (by rw [← k1];exact hj)).1) fun j hj=>(hF j (by rw [← k1];exact hj)).2 hj
where
 spot_none {w : World} {a : Addr} {v : Value} (h : w.cell? a = some v) : a.spot = none:=by
  unfold World.cell? at h
  split at h
  ·split at h
   ·cases h
   ·rename_i hh;simpa using hh
  ·cases h
theorem rY {α : Type} {t fuel : Nat} {f0 : Field} {A : α→List AV} {OkA : α→Prop} (ht : P.underlying t = some (.struct #[f0])) (o0 : f0.offset = 0) (st : P.cellsOf t = P.cellsOf f0.type) (r0 : ∀ n,n < fuel→Reads enc P w base spare held f0.type A OkA n) :
  Reads enc P w base spare held t A OkA fuel:=fun cs x hx hw=>by
 obtain ⟨xs,n,hfuel,rfl,hl,hlen,hf⟩:=DataW.trod_struct ht hx
 have h0:=hf 0 f0 rfl
 match xs,hlen with
 | [y0],_ =>
 rw [o0,List.drop_zero,List.take_of_length_le (by omega)] at h0
 exact r0 n (by omega) _ _ h0 (weighs_struct ht hw 0 f0 y0.1 rfl rfl)
end
theorem xj (w : World) : sW w [] []:=⟨rfl,fun j h=>by simp at h⟩
theorem uV {w : World} {v : Value} {a : AV} {vs : List Value} {xs : List AV} (h : PRel (j0 w) v a) (k : sW w vs xs) : sW w (v :: vs) (a :: xs):=⟨by simp [k.1],fun j hj=>by
 cases j with
 | zero=>exact h
 | succ j=>exact k.2 j (by simpa using hj)⟩
theorem Ai {Z : jf} {vs : Array Value} {xs : List AV} (h : PCRel Z vs.toList xs) : PRel Z (.agg vs) (.agg xs):=by
 have e : ∀ j,vs.toList.getD j undef = vs.getD j undef:=fun j=>by simp [Array.getD_eq_getD_getElem?]
 exact .agg vs xs (by simpa using h.1) (fun j hj=>e j ▸ (h.2 j hj).2) fun j hj=>e j ▸ (h.2 j hj).1
end Go.Proofs.YtkjnkkmokojnpaaGreatDoor
namespace Go.Proofs.YtkjnkkmokojnpaaGreatDoor
set_option linter.unusedSimpArgs false
set_option linter.unusedVariables false
open Go.RowKit
def wkD : Nat→AV→AV
 | 0,x=>x
 | k + 1,.sl cs n .full=>.sl (cs.map (wkD k)) n .none
 | k + 1,.sl cs n .none=>.sl (cs.map (wkD k)) n .none
 | k + 1,.agg cs=>.agg (cs.map (wkD k))
 | k + 1,.tup cs=>.tup (cs.map (wkD k))
 | k + 1,.ifc t x=>.ifc t (wkD k x)
 | k + 1,.rf cs o=>.rf (cs.map (wkD k)) o
 | _ + 1,x=>x
theorem ir {Z : jf} : ∀ (k : Nat) {x : AV} {v : Value},PRel Z v x→PRel Z v (wkD k x)
 | 0,x,v,h=>h
 | k + 1,.sl cs n .full,v,h=>by
  cases h with
  | sl a b off n cap o cs f ho hn ha hc hz hp =>
   exact .sl a b off n cap .none _ f (.inl rfl) hn ha (hc.imp (fun ⟨h1,h2⟩=>⟨h1,by simp [h2]⟩) id) (fun j hj=>hz j (by simpa using hj)) fun j hj=>by
    rw [List.getElem_map];exact ir k (hp j (by simpa using hj))
 | k + 1,.sl cs n .none,v,h=>by
  cases h with
  | sl a b off n cap o cs f ho hn ha hc hz hp =>
   exact .sl a b off n cap .none _ f (.inl rfl) hn ha (hc.imp (fun ⟨h1,h2⟩=>⟨h1,by simp [h2]⟩) id) (fun j hj=>hz j (by simpa using hj)) fun j hj=>by
    rw [List.getElem_map];exact ir k (hp j (by simpa using hj))
 | k + 1,.agg cs,v,h=>by
  cases h with
  | agg vs cs hs h1 hp =>
   exact .agg vs _ (by simpa using hs) (fun j hj=>h1 j (by simpa using hj)) fun j hj=>by
    rw [List.getElem_map];exact ir k (hp j (by simpa using hj))
 | k + 1,.tup cs,v,h=>by
  cases h with
  | tup vs cs hs hp =>
   exact .tup vs _ (by simpa using hs) fun j hj=>by
    rw [List.getElem_map];exact ir k (hp j (by simpa using hj))
 | k + 1,.ifc t x,v,h=>by
  cases h with
  | ifc t v x h=>exact .ifc t v _ (ir k h)
 | k + 1,.rf cs o,v,h=>by
  cases h with
  | rf b off o cs f hz hp =>
   exact .rf b off o _ f (fun j hj=>hz j (by simpa using hj)) fun j hj=>by
    rw [List.getElem_map];exact ir k (hp j (by simpa using hj))
 | _ + 1,.sl cs n (.tok b),v,h=>h
 | _ + 1,.c _,v,h=>h
 | _ + 1,.u,v,h=>h
 | _ + 1,.fn _ _ _,v,h=>h
 | _ + 1,.loc _ _,v,h=>h
 | _ + 1,.arr _ _ _ _,v,h=>h
 | _ + 1,.bc _ _,v,h=>h
 | _ + 1,.bt _ _,v,h=>h
 | _ + 1,.mp _,v,h=>h
theorem pY {G : Gh} {B : Nat→AV} : ∀ (k : Nat) {x : AV} {v : Value},VRel G B v x→VRel G B v (wkD k x)
 | 0,x,v,h=>h
 | k + 1,.sl cs n .full,v,h=>by
  cases h with
  | p h=>exact .p (ir (k + 1) h)
 | k + 1,.sl cs n .none,v,h=>by
  cases h with
  | p h=>exact .p (ir (k + 1) h)
 | k + 1,.agg cs,v,h=>by
  obtain ⟨vs,rfl,hs,h1,hp⟩:=iI h
  exact .agg vs _ (by simpa using hs) (fun j hj=>h1 j (by simpa using hj)) fun j hj=>by
   have hj' : j < cs.length:=by simpa using hj
   rw [List.getElem_map];exact pY k (hp j hj')
 | k + 1,.tup cs,v,h=>by
  obtain ⟨vs,rfl,hs,hp⟩:=ji h
  exact .tup vs _ (by simpa using hs) fun j hj=>by
   have hj' : j < cs.length:=by simpa using hj
   rw [List.getElem_map];exact pY k (hp j hj')
 | k + 1,.ifc t x,v,h=>by
  obtain ⟨v',rfl,h'⟩:=gN h
  exact .ifc t v' _ (pY k h')
 | k + 1,.rf cs o,v,h=>by
  cases h with
  | p h=>exact .p (ir (k + 1) h)
 | _ + 1,.sl cs n (.tok b),v,h=>h
 | _ + 1,.c _,v,h=>h
 | _ + 1,.u,v,h=>h
 | _ + 1,.fn _ _ _,v,h=>h
 | _ + 1,.loc _ _,v,h=>h
 | _ + 1,.arr _ _ _ _,v,h=>h
 | _ + 1,.bc _ _,v,h=>h
 | _ + 1,.bt _ _,v,h=>h
 | _ + 1,.mp _,v,h=>h
theorem gA {P : Program} {f : FuncId} {args args' bxs bxs' : List AV} {r : AV} (k : Nat) (h : AFn P f args' bxs r bxs') (e : args.map (wkD k) = args') : AFn P f args bxs r bxs':=fun w G vs hst hX hvs hargs =>
 h w G vs hst hX (by rw [hvs,← e];simp) fun j hj=>by
  subst e
  have hj' : j < args.length:=by simpa using hj
  rw [List.getElem_map];exact pY k (hargs j hj')
theorem bN {P : Program} (v : Value) : ∀ w,(((pure () : Sem Unit) >>= fun _=>pure v) : Sem Value).run P w = .ok v w:=fun w=>by
 simp [go_sem]
end Go.Proofs.YtkjnkkmokojnpaaGreatDoor
namespace Go.Proofs.YtkjnkkmokojnpaaGreatDoor
set_option linter.unusedSimpArgs false
set_option linter.unusedVariables false
open Go.RowKit
theorem wH {α : Type} (S : α→bL) (P : α→Prop) {E : Env} {c : Code} {Q : Exit→bL→Prop} {G : Prop} (use : (∀ a,P a→awl E c Q (S a))→G) (key : ∀ a,P a→awl E c Q (S a)) : G:=use key
theorem jR {α : Type} (S : α→bL) (P : α→Prop) {E : Env} {c : Code} {Q : Exit→bL→Prop} {G : Prop} (use : (∀ a,P a→aw E c Q (S a))→G) (key : ∀ a,P a→aw E c Q (S a)) : G:=use key
def yQ (n : Nat) : Code→Bool
 | .region id _ _=>id == n
 | .seq a _=>yQ n a
 | _=>false
theorem cD (n : Nat) {E : Env} {Q : Exit→bL→Prop} {σ : bL} {x y : Code} (_ : yQ n x = false) (h : aw E x (pq (aw E y Q) Q) σ) : aw E (.seq x y) Q σ:=am h
theorem bu (n : Nat) {E : Env} {Q : Exit→bL→Prop} {σ : bL} (tk : FuncId→Bool) (LV : Nat→List Nat) {id : Nat} {l : List Oper} (_ : (id == n) = false) (h : EqTo (jW (LV id) σ) (DS E Q tk l)) : aw E (.region id l.toArray false) Q σ:=ae tk LV h
theorem dm {E : Env} {Q : Exit→bL→Prop} {σ σ' : bL} {c : Code} {L : List Nat} (hσ : jW L σ = σ') (h : aw E c Q σ') : aw E c Q σ:=wG (ka L σ) (hσ ▸ h)
end Go.Proofs.YtkjnkkmokojnpaaGreatDoor
namespace Go.Proofs.YtkjnkkmokojnpaaGreatDoor
set_option linter.unusedSimpArgs false
set_option linter.unusedVariables false
open Go.RowKit
def iq (b : Nat) (cs : List AV) : Nat→AV→AV
 | 0,_=>.u
 | _ + 1,.loc b' off=>if b' = b then .rf cs off else .loc b' off
 | _ + 1,.arr b' off n e=>if b' = b then .sl (cs.drop off) n .none else .arr b' off n e
 | k + 1,.agg l=>.agg (l.map (iq b cs k))
 | k + 1,.tup l=>.tup (l.map (iq b cs k))
 | k + 1,.ifc t x=>.ifc t (iq b cs k x)
 | k + 1,.fn f p q=>.fn f (p.map (iq b cs k)) (q.map (iq b cs k))
 | k + 1,.bc l ty=>.bc (l.map (iq b cs k)) ty
 | _ + 1,.sl l n .none=>.sl l n .none
 | _ + 1,.sl l n .full=>.sl l n .full
 | _ + 1,.sl l n (.tok t)=>.sl l n (.tok t)
 | _ + 1,.c x=>.c x
 | _ + 1,.u=>.u
 | _ + 1,.rf l o=>.rf l o
 | _ + 1,.bt n e=>.bt n e
 | _ + 1,.mp b'=>if b' = b then .u else .mp b'
def rW (b : Nat) (cs : List AV) : bL→bL
 | []=>[]
 | (k,v) :: r=>if k = b then rW b cs r else (k,iq b cs 7 v) :: rW b cs r
theorem oI (b k : Nat) (cs : List AV) : ∀ σ : bL,bj (rW b cs σ) k = if k = b then .u else iq b cs 7 (bj σ k)
 | []=>by simp [rW,bj,iq]
 | (i,v) :: r=>by
  have ih:=oI b k cs r
  unfold rW
  by_cases e : i = b
  ·rw [if_pos e,ih]
   by_cases e2 : k = b
   ·rw [if_pos e2,if_pos e2]
   ·rw [if_neg e2,if_neg e2];simp only [bj];rw [if_neg (fun h : i = k=>e2 (h ▸ e))]
  ·rw [if_neg e]
   simp only [bj]
   by_cases e2 : i = k
   ·rw [if_pos e2,if_pos e2,if_neg (fun h=>e (e2.trans h))]
   ·rw [if_neg e2,ih,if_neg e2]
section
variable {E : Env}
theorem ub {b : Nat} {cs : List AV} {x : AV} {n : Nat} {e : TypeId} (h : x = .bt n e) : iq b cs 7 x = .bt n e:=by subst h;rfl
theorem oj {b : Nat} {cs l : List AV} {x : AV} {ty : TypeId} (h : x = .bc l ty) : iq b cs 7 x = .bc (l.map (iq b cs 6)) ty:=by subst h;rfl
theorem vu {b : Nat} {cs l : List AV} {x : AV} {ty : TypeId} (h : iq b cs 7 x = .bc l ty) : ∃ l',x = .bc l' ty:=by
 cases x with
 | bc l' ty'=>simp only [iq,AV.bc.injEq] at h;exact ⟨l',by rw [h.2]⟩
 | loc b' o=>simp only [iq] at h;split at h <;> cases h
 | arr b' o n e=>simp only [iq] at h;split at h <;> cases h
 | mp b'=>simp only [iq] at h;split at h <;> cases h
 | sl l n o=>cases o <;> simp [iq] at h
 | _=>simp [iq] at h
theorem xv {G : Gh} {B B' : Nat→AV} {b gb : Nat} {cs0 cs : List AV} {ty0 : TypeId} (hty0 : isM ty0 = false) {Z' : jf} {c : Array Value} (hle : SealLe G.Z Z') (hBb : B b = .bc cs0 ty0) (hgb : G.γ b = some gb) (hlen : cs.length≤c.size)
  (hZ : ∀ j,j < cs.length→Z' gb j = some (c.getD j undef)) (hp : ∀ j (h : j < cs.length),PRel Z' (c.getD j undef) cs[j])
  (hB' : ∀ k,k ≠ b→B' k = iq b cs 7 (B k)) : ∀ (n : Nat) {x : AV} {v : Value},VRel G B v x→VRel ⟨Z',fun k=>if k = b then none else G.γ k,G.κ⟩ B' v (iq b cs n x)
 | 0,x,v,_=>.p (.u v)
 | n + 1,x,v,hv=>by
  have ih:=fun {x v}=>xv hty0 hle hBb hgb hlen hZ hp hB' n (x:=x) (v:=v)
  have lst : ∀ {l : List AV} {vs : Array Value},(∀ j (hj : j < l.length),VRel G B (vs.getD j undef) l[j])→∀ j (hj : j < (l.map (iq b cs n)).length),VRel ⟨Z',fun k=>if k = b then none else G.γ k,G.κ⟩ B' (vs.getD j undef) (l.map (iq b cs n))[j]:=fun {l vs} hq j hj=>by
   rw [List.getElem_map];exact ih (hq j (by simpa using hj))
  cases x with
  | c x=>rw [ee hv];exact .p (.c x)
  | u=>exact .p (.u v)
  | sl l m o =>
   obtain ⟨ad,cap,b',off,f,rfl,⟨h1,h2,h3,h4,h5⟩,hf,ht⟩:=gD hv
   cases o with
   | none=>exact .p (.sl ad b' off m cap .none l f (.inl rfl) h1 h2 h3 (fun j hj=>hle _ _ _ (h4 j hj)) fun j hj=>(h5 j hj).mono hle)
   | full=>exact .p (.sl ad b' off m cap .full l f (.inr ⟨rfl,hf rfl⟩) h1 h2 h3 (fun j hj=>hle _ _ _ (h4 j hj)) fun j hj=>(h5 j hj).mono hle)
   | tok t =>
    obtain ⟨q1,tip,e,q2,q3,q4⟩:=ht t rfl
    have hne : t ≠ b:=fun e'=>by rw [e',hBb] at q2;cases q2
    refine .tok ad m cap l t tip e (.sl ad b' off m cap .none l f (.inl rfl) h1 h2 h3 (fun j hj=>hle _ _ _ (h4 j hj)) fun j hj=>(h5 j hj).mono hle) q1 ((hB' t hne).trans (ub q2)) q3 fun e'=>?_
    have:=q4 e'
    unfold oZ at *
    simp only [if_neg hne];exact this
  | rf l o =>
   obtain ⟨b',off,f,rfl,hz,hq⟩:=kH hv
   exact .p (.rf b' off o l f (fun j hj=>hle _ _ _ (hz j hj)) fun j hj=>(hq j hj).mono hle)
  | agg l =>
   obtain ⟨vs,rfl,hs,h1,hq⟩:=iI hv
   exact .agg vs _ (by simpa using hs) (fun j hj=>h1 j (by simpa using hj)) (lst hq)
  | tup l =>
   obtain ⟨vs,rfl,hs,hq⟩:=ji hv
   exact .tup vs _ (by simpa using hs) (lst hq)
  | ifc t x =>
   obtain ⟨v',rfl,hx⟩:=gN hv
   exact .ifc t v' _ (ih hx)
  | fn f p q =>
   obtain ⟨va,vb,rfl,ha,hb,pa,pb⟩:=kG hv
   exact .fn f va vb _ _ (by simpa using ha) (by simpa using hb) (lst pa) (lst pb)
  | loc b' off =>
   obtain ⟨g,l,ty,rfl,hb',hB,hg,hm⟩:=iJ hv
   simp only [iq]
   split
   ·rename_i e;subst e
    rw [hgb] at hg;cases hg
    have:=PRel.rf (Z:=Z') gb 0 off cs (fun j=>c.getD j undef) (fun j hj=>by rw [Nat.zero_add];exact hZ j hj) hp
    rw [Nat.zero_add] at this
    exact .p this
   ·rename_i hne
    exact .loc b' off g _ ty hb' ((hB' b' hne).trans (oj hB)) ((if_neg hne).trans hg) hm
  | arr b' off m e =>
   obtain ⟨g,cap,l,ty,rfl,hn,hb',hB,hg,hm⟩:=jh hv
   simp only [iq]
   split
   ·rename_i e';subst e'
    rw [hgb] at hg;cases hg
    exact .p (.sl _ gb off m cap .none (cs.drop off) (fun j=>c.getD (off + j) undef) (.inl rfl) hn (fun h=>by cases h) (.inr rfl)
     (fun j hj=>hZ (off + j) (by simp at hj;omega)) fun j hj=>by
      rw [List.getElem_drop];exact hp (off + j) (by simp at hj;omega))
   ·rename_i hne
    exact .arr b' off m e cap g _ ty hb' ((hB' b' hne).trans (oj hB)) ((if_neg hne).trans hg) hn hm
  | mp b' =>
   obtain ⟨g,l,ty,rfl,hb',hB,hg,hm⟩:=mI hv
   simp only [iq]
   split
   ·exact .p (.u _)
   ·rename_i hne
    exact .mp b' g _ ty hb' ((hB' b' hne).trans (oj hB)) ((if_neg hne).trans hg) hm
  | bc l ty=>exact (v6 hv).elim
  | bt m e=>exact (v7 hv).elim
theorem xF {σ : bL} (b : Nat) {cs0 cs : List AV} {ty : TypeId} (hb : 10000≤b∧b < 20000) (hB : bj σ b = .bc cs0 ty) (hty : isM ty = false) (hpu : cs0.mapM (fd 4) = some cs) : ALe E σ (rW b cs σ):=fun a w G hs=>by
 obtain ⟨gb,hgb⟩:=hs.st.real b cs0 ty hb.1 hB
 obtain ⟨c,hc,hr,hz,hpr,hfc⟩:=iB hs hb.1 hB hgb hty
 have hl0:=lG hpu
 have hlen : cs.length≤c.size:=by have : cs0.length≤c.size:=hfc;omega
 have hpc : ∀ j (h : j < cs.length),PRel G.Z (c.getD j undef) cs[j]:=fun j hj=>by
  have h1:=(iL hr (j:=j) (by omega)).1
  have h2:=lD hpu j (by omega) hj
  exact lM 4 h1 h2
 have hone : ∀ j,j < cs.length→(c.getD j undef).oneCell' = true:=fun j hj=>(iL hr (j:=j) (by omega)).2
 have hle : SealLe G.Z (dJ G.Z gb 0 (c.toList.take cs.length)):=iF fun o _=>hz o
 have hZ : ∀ j,j < cs.length→dJ G.Z gb 0 (c.toList.take cs.length) gb j = some (c.getD j undef):=fun j hj=>by
  have h:=iE (Z:=G.Z) (g:=gb) (lo:=0) (vs:=c.toList.take cs.length) (j:=j) (by simp;omega)
  rw [Nat.zero_add] at h
  rw [h];simp [Array.getD_eq_getD_getElem?,List.getD_eq_getElem?_getD,List.getElem?_take,hj]
 have hoth : ∀ g o,g ≠ gb→dJ G.Z gb 0 (c.toList.take cs.length) g o = G.Z g o:=fun g o hg=>by
  unfold dJ;rw [if_neg];rintro ⟨rfl,_⟩;exact hg rfl
 have hm : ∀ k,k ≠ b→bj (rW b cs σ) k = iq b cs 7 (bj σ k):=fun k hk=>by rw [oI,if_neg hk]
 have hrel:=fun (n : Nat) {x v}=>xv (B':=bj (rW b cs σ)) hty hle hB hgb hlen hZ (fun j hj=>(hpc j hj).mono hle) hm n (x:=x) (v:=v)
 refine ⟨⟨dJ G.Z gb 0 (c.toList.take cs.length),fun k=>if k = b then none else G.γ k,G.κ⟩,hs.defers,hs.tsize,fun t ht=>?_,⟨fun g o v hv=>?_,fun k g hk=>?_,fun k l ty' hk hkb=>?_,fun k k' g h1 h2=>?_,hs.st.gl.mono hle⟩,hs.fr,⟨hs.step.1.trans hle,fun k hk=>?_⟩,fun g o hg=>?_⟩
 ·rw [hm t (by omega)];exact hrel 7 (hs.slots t ht)
 ·rcases kW hv with ⟨rfl,_,h2,rfl⟩ | hv'
  ·rw [Nat.sub_zero] at h2 ⊢
   have h4 : o < cs.length:=by simp at h2;omega
   have h3 : o < c.size:=by omega
   rw [cell_of_row _ g o c ty _ hc]
   have:=hone o h4
   simp [Array.getD_eq_getD_getElem?,List.getD_eq_getElem?_getD,List.getElem?_take,h3,h4] at this ⊢
   exact this
  ·exact hs.st.agree g o v hv'
 ·have hk' : (if k = b then none else G.γ k) = some g:=hk
  split at hk'
  ·cases hk'
  ·rename_i hne
   have hgne : g ≠ gb:=fun e=>hne (hs.st.inj k b g hk' (e ▸ hgb))
   obtain ⟨h1,h2,h3⟩:=hs.st.box k g hk'
   refine ⟨h1,h2,?_⟩
   rcases h3 with ⟨l,ty',r1,r2⟩ | ⟨n,e,r1,c',r2,r3,r4,r5,r6⟩
   ·exact .inl ⟨l.map (iq b cs 6),ty',(hm k hne).trans (oj r1),r2.to _ (fun _=>rfl) (fun _ _ h=>hrel 6 h) rfl fun o ho=>(hoth g o hgne).trans ho⟩
   ·exact .inr ⟨n,e,(hm k hne).trans (ub r1),c',r2,r3,r4,r5,fun o ho=>(hoth g o hgne).trans (r6 o ho)⟩
 ·have hne : k ≠ b:=fun e=>by rw [oI,if_pos e] at hkb;cases hkb
  rw [hm k hne] at hkb
  obtain ⟨l',h'⟩:=vu hkb
  obtain ⟨g,hg⟩:=hs.st.real k l' ty' hk h'
  exact ⟨g,(if_neg hne).trans hg⟩
 ·have e1 : (if k = b then none else G.γ k) = some g:=h1
  have e2 : (if k' = b then none else G.γ k') = some g:=h2
  split at e1
  ·cases e1
  ·split at e2
   ·cases e2
   ·exact hs.st.inj k k' g e1 e2
 ·by_cases hne : k = b
  ·subst hne
   rw [E.hB0.1 k hb.2]
   exact ⟨(fun _ _ hc=>by cases hc),(fun _ _ hc=>by cases hc)⟩
  ·have:=hs.step.2 k hk
   refine ⟨fun l ty' hl=>?_,fun n e hn=>?_⟩
   ·obtain ⟨⟨l',h1⟩,h2⟩:=this.1 l ty' hl
    exact ⟨⟨_,(hm k hne).trans (oj h1)⟩,(if_neg hne).trans h2⟩
   ·obtain ⟨n',h1,h2⟩:=this.2 n e hn
    refine ⟨n',(hm k hne).trans (ub h1),?_⟩
    simpa only [if_neg hne] using h2
 ·have hgne : g ≠ gb:=fun e=>hpr (e ▸ hg)
  rw [show (Gh.mk (dJ G.Z gb 0 (c.toList.take cs.length)) (fun k=>if k = b then none else G.γ k) G.κ).Z g o = G.Z g o from hoth g o hgne]
  exact hs.zp g o hg
theorem dH {Q : Exit→bL→Prop} {σ σ' : bL} {c : Code} (b : Nat) {cs0 cs : List AV} {ty : TypeId} (hb : 10000≤b∧b < 20000) (hB : bj σ b = .bc cs0 ty) (hty : isM ty = false) (hpu : cs0.mapM (fd 4) = some cs) (hσ : rW b cs σ = σ') (h : aw E c Q σ') : aw E c Q σ :=
 wG (xF b hb hB hty hpu) (hσ ▸ h)
end
theorem x8 {G : Gh} {B : Nat→AV} (hB : ∀ k,10000≤k→B k = .u) {v : Value} {x : AV} (h : VRel G B v x) : PRel G.Z v x:=by
 induction h with
 | p h=>exact h
 | tok a n cap cs b tip e h hb hB' hn hk=>rw [hB b hb] at hB';cases hB'
 | loc b off g cs ty hb hB' hg hm=>rw [hB b hb] at hB';cases hB'
 | arr b off n e cap g cs ty hb hB' hg hn hm=>rw [hB b hb] at hB';cases hB'
 | mp b g cs ty hb hB' hg hm=>rw [hB b hb] at hB';cases hB'
 | agg vs cs hs h1 hp ih=>exact .agg vs cs hs h1 ih
 | tup vs cs hs hp ih=>exact .tup vs cs hs ih
 | ifc t v x h ih=>exact .ifc t v x ih
 | fn f va vb a b ha hb pa pb ia ib=>exact .fn f va vb a b ha hb ia ib
theorem pI (k : Nat) : cY [] k = .u:=by unfold cY;split <;> simp
theorem sj {P : Program} {f : FuncId} {args args0 bxs : List AV} {r : AV} (h : AFn P f args0 [] r []) (hp : args.mapM (fd 4) = some args0) : AFn P f args bxs r bxs:=fun w G vs hst hX hvs hargs=>by
 have hl:=lG hp
 have hst0 : BSim P (fun b=>b < w.heap.size∧∀ k,(Gh.mk G.Z (fun _=>none) G.κ).γ k ≠ some b) (Gh.mk G.Z (fun _=>none) G.κ) (cY []) w :=
  ⟨hst.agree,(fun k g hk=>by cases hk),(fun k cs ty _ hk=>by rw [pI] at hk;cases hk),(fun k k' g hk=>by cases hk),hst.gl⟩
 refine (h w ⟨G.Z,fun _=>none,G.κ⟩ vs hst0 (fun g cs hg=>⟨(hX g cs hg).1,(hX g cs hg).2.1,fun k hk=>by cases hk⟩) (by omega) fun j hj=>?_).mono ?_
 ·have hj' : j < args.length:=by omega
  have hq : PRel G.Z (vs.getD j undef) args0[j]:=lM 4 (hargs j hj') (lD hp j hj' hj)
  exact .p hq
 ·rintro e w' ⟨v,G',h1,h2,h3,h4,h5,h6⟩
  have hZ : SealLe G.Z G'.Z:=h5.1
  have hz : ∀ b o,b < w.heap.size→G'.Z b o = G.Z b o:=fun b o hb=>h6 b o hb fun k hk=>by cases hk
  have hbl : ∀ k g,G.γ k = some g→g < w.heap.size:=fun k g hg=>by
   obtain ⟨_,_,hb⟩:=hst.box k g hg
   rcases hb with ⟨cs,ty,_,⟨_,c,h2,_⟩ | ⟨_,es,c,h2,_⟩⟩ | ⟨n,e,_,c,h2,_⟩ <;> exact (Array.getElem?_eq_some_iff.1 h2).1
  have hvr : PRel G'.Z v r:=x8 (fun k _=>pI k) h2
  have hs : BStep G (cY bxs) ⟨G'.Z,G.γ,G.κ⟩ (cY bxs):=⟨hZ,fun k _=>⟨fun cs ty hc=>⟨⟨cs,hc⟩,rfl⟩,fun n e hc=>⟨n,hc,.inr ⟨rfl,rfl,rfl⟩⟩⟩⟩
  refine ⟨v,⟨G'.Z,G.γ,G.κ⟩,h1,.p hvr,⟨h3.agree,fun k g hk=>?_,hst.real,hst.inj,h3.gl⟩,⟨h4.os,h4.tape,h4.output,h4.size,fun b hb hlt=>h4.block b ⟨hlt,fun k hk=>by cases hk⟩ hlt⟩,hs,fun b o hb _=>hz b o hb⟩
  obtain ⟨q1,q2,q3⟩:=hst.box k g hk
  exact ⟨q1,q2,q3.step hs rfl rfl (h4.block g ⟨hbl k g hk,fun k hk=>by cases hk⟩ (hbl k g hk)) fun o=>hz g o (hbl k g hk)⟩
attribute [go_sem] rW iq
end Go.Proofs.YtkjnkkmokojnpaaGreatDoor

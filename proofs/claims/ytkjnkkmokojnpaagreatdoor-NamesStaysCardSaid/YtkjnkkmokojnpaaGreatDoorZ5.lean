/- K: the walk's rules. No program is in sight. K: tokens for rows that hang in a box. No program is in sight. K: step by step: one operation at a time, what comes behind it not in sight. No program is in sight. K: a result may be told with less. No program is in sight. K: arguments that are read as data, as trees of sealed memory; from a contract in K to a call. No program is in sight. K: arguments may be told with less, deep down. No program is in sight. -/
import Derived.Test.YtkjnkkmokojnpaaGreatDoorZ4
import Derived.Test.YtkjnkkmokojnpaaGreatDoorZ3
import Derived.ProofKit
import Derived.SizedLaws
import Derived.Deep.Slices
import Derived.Deep.Strs
import Derived.WalkArith
import Derived.LaidEql
import Derived.Lib.IfaceEq
namespace Go.Proofs.YtkjnkkmokojnpaaGreatDoor
set_option linter.unusedSimpArgs false
set_option linter.unusedVariables false
open Go.RowKit
attribute [go_sem] isM qh oD kW mZ u4 pc pd jJ TR.wp aop rdo rdos bn fH dO eS eJ ret fail ofV kLd qa sR sG Be sP kn sL ko sM pY mX kK oO kl kUn rH mY vg jX pT sJ uq jA kp sN sO yN sQ ue sI pZ sH lG AW fq ren gd jd tL rdBoxes gather cB fg ja CE wl sK ve Dd qR AV.one eI eu eF putAt mN jC eH nO mrm mgc wm jn List.any_cons List.any_nil aW aL fin xk xI iY nZ gv Aq mj wk Df gZ zT oG mc lH
def tk0 : FuncId → Bool := fun _ => true
attribute [go_sem] tk0 Option.isSome_some Option.isSome_none Value.oneCell' Nat.min_def if_true if_false and_true true_and and_false false_and or_true true_or or_false false_or not_true not_false_eq_true Bool.not_true Bool.not_false ne_eq List.length_cons List.length_nil List.length_map List.map_cons List.map_nil List.append_nil List.nil_append List.cons_append List.getD_cons_zero List.getD_cons_succ List.drop_succ_cons List.drop_zero List.take_succ_cons List.take_zero List.drop_nil List.take_nil List.flatMap_cons List.flatMap_nil List.zip_cons_cons List.zip_nil_left List.zip_nil_right List.getElem?_toArray List.getElem?_cons_zero List.getElem?_cons_succ List.getElem?_nil List.contains_cons List.contains_nil List.mapM_cons List.mapM_nil List.all_cons List.all_nil List.range_zero List.range_succ Option.bind_some Option.bind_none Option.map_some Option.map_none Option.pure_def Option.bind_eq_bind Bool.and_false Bool.false_and Bool.and_true Bool.true_and Bool.or_false Bool.false_or Bool.or_true Bool.true_or Bool.and_eq_true beq_self_eq_true Nat.zero_add Nat.add_zero Nat.zero_mul Nat.mul_one Nat.one_mul Nat.mul_zero Nat.sub_zero Int.toNat_zero exists_eq_left exists_eq' Nat.add_eq_zero_iff decide_eq_true_eq decide_true decide_false bne_self_eq_false Nat.beq_eq_true_eq beq_iff_eq Array.toList_map Int.toNat_natCast
theorem bm {p q : Prop} (hp : p) (hq : q) : p ∧ q := ⟨hp,hq⟩
def ry (E : Env) (x y : Code) (Q : Exit → bJ → Prop) (σ : bJ) : AV → Prop
 | .c (.bool b) => (b = true → aw E x Q σ) ∧ (b = false → aw E y Q σ)
 | _ => False
theorem x3 {E : Env} {Q : Exit → bJ → Prop} {σ : bJ} {t : Nat} {x y : Code} (ht : t < 10000) (h : ∀ v,bn σ t = v → ry E x y Q σ v) : aw E (.cond (.tmp t) x y) Q σ := by
 replace h := h _ rfl
 unfold ry at h
 split at h
 ·rename_i b hb; exact zY ht hb h.1 h.2
 ·exact h.elim
theorem az {E : Env} {Q : Exit → bJ → Prop} {σ : bJ} {x y : Code} (h : aw E x Q σ) : ry E x y Q σ (.c (.bool true)) := ⟨(fun _ => h),(fun e => by cases e)⟩
theorem aA {E : Env} {Q : Exit → bJ → Prop} {σ : bJ} {x y : Code} (h : aw E y Q σ) : ry E x y Q σ (.c (.bool false)) := ⟨(fun e => by cases e),(fun _ => h)⟩
theorem fi {E : Env} {Q : Exit → bJ → Prop} {σ : bJ} {x y : Code} {b : Bool} (h1 : b = true → aw E x Q σ) (h2 : b = false → aw E y Q σ) : ry E x y Q σ (.c (.bool b)) := ⟨h1,h2⟩
theorem uS {E : Env} {Q : Exit → bJ → Prop} {σ : bJ} (tk : FuncId → Bool) (LV : Nat → List Nat) {id : Nat} {l : List Oper} (h : ∀ K : bJ → Prop,(∀ σ',Q .normal σ' → K σ') → jJ E.P E.N tk l.toArray l (jn (LV id) σ) K) : aw E (.region id l.toArray false) Q σ :=
 rq (jS (LV id) σ) (wW tk h)
theorem x5 {E : Env} {Q : Exit → bJ → Prop} {σ : bJ} (tk : FuncId → Bool) (LV : Nat → List Nat) {id : Nat} {l : List Oper} (hm : E.P.follows .mixedOrders = true)
  (h : ∀ K : bJ → List Rec → Prop,(∀ σ' recs,md l recs = true → Q .normal σ' → K σ' recs) → gz E.P E.N tk l.toArray l (jn (LV id) σ) [] K) : aw E (.region id l.toArray true) Q σ := rq (jS (LV id) σ) (x4 tk hm h)
theorem am {K : bJ → Prop} {Q : Exit → bJ → Prop} {σ : bJ} (h : K σ) : oG K Q .normal σ := h
theorem bY {K : bJ → Prop} {Q : Exit → bJ → Prop} {σ : bJ} {e : Nat} (h : Q (.exit e) σ) : oG K Q (.exit e) σ := h
theorem bh {K : bJ → Prop} {Q : Exit → bJ → Prop} {σ : bJ} (h : Q .ret σ) : oG K Q .ret σ := h
theorem ba {id : Nat} {Q : Exit → bJ → Prop} {σ : bJ} (h : Q .normal σ) : mc id Q .normal σ := h
theorem bp {id : Nat} {Q : Exit → bJ → Prop} {σ : bJ} (h : Q .ret σ) : mc id Q .ret σ := h
theorem bF {id : Nat} {Q : Exit → bJ → Prop} {σ : bJ} (h : Q .normal σ) : mc id Q (.exit id) σ := by simp only [mc,if_true]; exact h
theorem bg {E : Env} {Q : Exit → bJ → Prop} {σ : bJ} {c : Code} (L : List Nat) {σ' : bJ} (hσ : jn L σ = σ') (h : awl E c Q σ') : awl E c Q σ := nT (jS L σ) (hσ ▸ h)
theorem db {E : Env} {Q : Exit → bJ → Prop} {σ σ' : bJ} {c : Code} (h : awl E c Q σ') (e : σ = σ') : awl E c Q σ := e ▸ h
theorem jy {E : Env} {Q : Exit → bJ → Prop} {σ σ' : bJ} {c : Code} (h : aw E c Q σ') (e : σ = σ') : aw E c Q σ := e ▸ h
theorem bX {E : Env} {Q : Exit → bJ → Prop} {c : Code} {α : Type} (I : α → bJ) (P : α → Prop) (m : α → Nat) (x0 : α) {σ : bJ} (L : List Nat) (h0 : jn L σ = I x0) (hp : P x0)
  (step : ∀ x,P x → (∀ y,P y → m y < m x → awl E c Q (I y)) → aw E c (oG (awl E c Q) Q) (I x)) : awl E c Q σ := by
 have all : ∀ n x,m x = n → P x → awl E c Q (I x) := fun n => by
  induction n using Nat.strongRecOn with
  | _ n ih => exact fun x hx hP => rr (step x hP fun y hy hm => ih (m y) (hx ▸ hm) y rfl hy)
 exact nT (jS L σ) (h0 ▸ all _ x0 rfl hp)
theorem cF {x : Int} (h1 : -9223372036854775808 ≤ x) (h2 : x ≤ 9223372036854775807) : IntKind.i64.wrap x = x := by
 have e : IntKind.i64.wrap x = if x % 18446744073709551616 ≥ 9223372036854775808 then x % 18446744073709551616 - 18446744073709551616 else x % 18446744073709551616 := by
  simp [IntKind.wrap,IntKind.bits,IntKind.signed]
 rw [e]
 split <;> omega
end Go.Proofs.YtkjnkkmokojnpaaGreatDoor
namespace Go.Proofs.YtkjnkkmokojnpaaGreatDoor
set_option linter.unusedSimpArgs false
set_option linter.unusedVariables false
open Go.RowKit
theorem xV {E : Env} {σ : bJ} {b k0 i n : Nat} {cs cells : List AV} {ty : TypeId} (e : TypeId) (hb : 10000 ≤ b ∧ b < 20000) (hk0 : 10000 ≤ k0) (hne : ¬ k0 = b) (hu : bn σ b = .u) (hB : bn σ k0 = .bc cells ty)
  (hi : cells[i]? = some (.sl cs n .full)) : ALe E σ (fH (fH σ b (.bt n e)) k0 (.bc (cells.set i (.sl cs n (.tok b))) ty)) := fun a w G hs => by
 have hm : ∀ k,bn (fH (fH σ b (.bt n e)) k0 (.bc (cells.set i (.sl cs n (.tok b))) ty)) k = if k0 = k then .bc (cells.set i (.sl cs n (.tok b))) ty else if b = k then .bt n e else bn σ k := fun k => by rw [eB,eB]
 generalize fH (fH σ b (.bt n e)) k0 (.bc (cells.set i (.sl cs n (.tok b))) ty) = σ' at hm
 have hγ : G.γ b = none := by
  cases hg : G.γ b with
  | none => rfl
  | some g =>
   obtain ⟨_,_,hbx⟩ := hs.st.box b g hg
   rcases hbx with ⟨_,_,h1,_⟩ | ⟨_,_,h1,_⟩ <;> rw [hu] at h1 <;> cases h1
 have hst : BStep G (bn σ) G (bn σ') := ⟨.refl _,fun k hk => by
  rw [hm]
  by_cases h0 : k0 = k
  ·subst h0; rw [if_pos rfl,hB]; exact ⟨(fun _ _ hc => by cases hc; exact ⟨⟨_,rfl⟩,rfl⟩),(fun _ _ hc => by cases hc)⟩
  rw [if_neg h0]
  by_cases h1 : b = k
  ·subst h1; rw [hu]; exact ⟨(fun _ _ hc => by cases hc),(fun _ _ hc => by cases hc)⟩
  ·rw [if_neg h1]; exact ⟨fun cs ty hc => ⟨⟨cs,hc⟩,rfl⟩,fun n e hc => ⟨n,hc,.inr ⟨rfl,rfl,rfl⟩⟩⟩⟩
 refine ⟨G,hs.defers,hs.tsize,fun k hk => ?_,⟨hs.st.agree,fun k g hk => ?_,fun k cs' ty' hk hc => ?_,hs.st.inj,hs.st.gl⟩,hs.fr,hs.step.trans hst,hs.zp⟩
 ·rw [hm,if_neg (by omega),if_neg (by omega)]; exact (hs.slots k hk).step hst
 ·obtain ⟨h1,h2,h3⟩ := hs.st.box k g hk
  refine ⟨h1,h2,?_⟩
  by_cases h0 : k0 = k
  ·subst h0
   rcases h3 with ⟨cs1,ty1,q1,⟨qm,c,q2,q3,q4,q5⟩ | ⟨qm,es,clk,q2,q3,q4⟩⟩ | ⟨_,_,q1,_⟩
   ·rw [hB] at q1; cases q1
    refine .inl ⟨_,_,by rw [hm,if_pos rfl],.inl ⟨qm,c,q2,(by unfold FitsC; rw [List.length_set]; exact q3),q4,fun j hj => ?_⟩⟩
    have hj' : j < cells.length := by simpa using hj
    obtain ⟨r1,r2⟩ := q5 j hj'
    refine ⟨?_,r2⟩
    rw [List.getElem_set]
    split
    ·rename_i hij
     subst hij
     obtain ⟨hl,hi2⟩ := List.getElem?_eq_some_iff.1 hi
     rw [hi2] at r1
     obtain ⟨ad,cap,b',off,f,ev,⟨p1,p2,p3,p4,p5⟩,hf,_⟩ := eR r1
     rw [ev]
     refine .tok ad n cap cs b n e (.sl ad b' off n cap .none cs f (.inl rfl) p1 p2 p3 p4 p5) hb.1 (by rw [hm,if_neg hne,if_pos rfl]) (Nat.le_refl _) fun _ => ⟨fun _ => hf rfl,fun g hg => by rw [hγ] at hg; cases hg⟩
    ·exact r1.step hst
   ·rw [hB] at q1; cases q1
    obtain ⟨q4,_⟩ := q4
    rw [q4] at hi
    obtain ⟨v,hv⟩ := vi (List.mem_of_getElem? hi)
    cases hv
   ·rw [hB] at q1; cases q1
  ·refine h3.step hst ?_ rfl rfl fun _ => rfl
   rw [hm,if_neg h0,if_neg (fun h4 => by rw [← h4,hγ] at hk; cases hk)]
 ·rw [hm] at hc
  by_cases h0 : k0 = k
  ·subst h0; exact hs.st.real k0 cells ty hk0 hB
  rw [if_neg h0] at hc
  by_cases h1 : b = k
  ·rw [if_pos h1] at hc; cases hc
  ·rw [if_neg h1] at hc; exact hs.st.real k cs' ty' hk hc
end Go.Proofs.YtkjnkkmokojnpaaGreatDoor
namespace Go.Proofs.YtkjnkkmokojnpaaGreatDoor
set_option linter.unusedSimpArgs false
set_option linter.unusedVariables false
open Go.RowKit
def pt (p : Prop) : Prop := p
theorem aa {p : Prop} (h : p) : pt p := h
def EqTo {α : Type} (e : α) (X : α → Prop) : Prop := ∀ v,e = v → X v
theorem ab {α : Type} {e : α} {X : α → Prop} (h : ∀ Y : α → Prop,(∀ v,X v → Y v) → pt (Y e)) : EqTo e X := fun v hv => hv ▸ h X fun _ h => h
theorem EqTo.out {α : Type} {e : α} {X : α → Prop} (h : EqTo e X) : X e := h _ rfl
def xM (p q : Prop) : Prop := p ∧ q
theorem cN {p q : Prop} (h : pt p) (k : q) : xM p q := ⟨h,k⟩
def kV (v : AV) (want : Bool) (A B C : Prop) : Prop := match v with | .c (.bool b) => (b = want → A) ∧ (b = !want → B) | .c (.tuple _) => C | _ => False
theorem eN {want : Bool} {A B C : Prop} (h : C) : kV (.c undef) want A B C := h
theorem aK {want : Bool} {A B C : Prop} (h : A) : kV (.c (.bool want)) want A B C := ⟨fun _ => h,fun e => by cases want <;> cases e⟩
theorem aU {b want : Bool} {A B C : Prop} (hb : b = !want) (h : B) : kV (.c (.bool b)) want A B C := ⟨(fun e => by subst e; cases b <;> cases hb),fun _ => h⟩
theorem bP {b want : Bool} {A B C : Prop} (h1 : b = want → A) (h2 : b = !want → B) : kV (.c (.bool b)) want A B C := ⟨h1,h2⟩
def gO (d : Option Nat) (X : Nat → Prop) : Prop := match d with | some t => t < 10000 ∧ X t | none => False
theorem aJ {t : Nat} {X : Nat → Prop} (ht : t < 10000) (h : X t) : gO (some t) X := ⟨ht,h⟩
def CO (P : Program) (N : Nat) (tk : FuncId → Bool) (ops : Array Oper) (o : Oper) (r : List Oper) (K : bJ → Prop) (σ : bJ) : Prop :=
 ∀ K' : List (Nat × AV) → Prop,(∀ e,EqTo (dO σ e) (fun σ' => jJ P N tk ops r σ' K) → K' e) → pt ((aop P N tk o).wp P σ fun _ e => K' e)
def xN (P : Program) (N : Nat) (tk : FuncId → Bool) (ops : Array Oper) (o : Oper) (r : List Oper) (acc : List Rec) (pre : List Nat) (K : bJ → List Rec → Prop) (σ : bJ) : Prop :=
 ∀ K' : List Nat → List (Nat × AV) → Prop,(∀ R e,EqTo (dO σ e) (fun σ' => gz P N tk ops r σ' (acc ++ [(pre ++ R,e)]) K) → K' R e) → pt ((aop P N tk o).wp P σ fun R e => K' R e)
section
variable {P : Program} {N : Nat} {tk : FuncId → Bool} {ops : Array Oper} {r : List Oper} {σ : bJ} {o : Oper} {g : Nat} {want : Bool}
theorem ay {K : bJ → Prop} (h : ∀ K' : List (Nat × AV) → Prop,(∀ e,EqTo (dO σ e) (fun σ' => jJ P N tk ops r σ' K) → K' e) → pt ((aop P N tk o).wp P σ fun _ e => K' e)) : CO P N tk ops o r K σ := h
theorem cQ {acc : List Rec} {pre : List Nat} {K : bJ → List Rec → Prop} (h : ∀ K' : List Nat → List (Nat × AV) → Prop,(∀ R e,EqTo (dO σ e) (fun σ' => gz P N tk ops r σ' (acc ++ [(pre ++ R,e)]) K) → K' R e) → pt ((aop P N tk o).wp P σ fun R e => K' R e)) : xN P N tk ops o r acc pre K σ := h
theorem ag {K : bJ → Prop} (h : K σ) : jJ P N tk ops [] σ K := h
theorem au {K : bJ → Prop} (hg : o.guard = none) (h : CO P N tk ops o r K σ) : jJ P N tk ops (o :: r) σ K := by
 unfold jJ; rw [hg]; exact h _ fun e h => h.out
theorem bf {K : bJ → Prop} (hg : o.guard = some (g,want))
  (h : EqTo (mN ops g) fun d => gO d fun t => EqTo (bn σ t) fun v => kV v want (EqTo (fH σ t (.c (.bool want))) (CO P N tk ops o r K))
   (xM (eJ N o) (EqTo (dO (fH σ t (.c (.bool (!want)))) (eS o (.c undef))) fun σ' => jJ P N tk ops r σ' K))
   (xM (eJ N o) (EqTo (dO σ (eS o (.c undef))) fun σ' => jJ P N tk ops r σ' K))) : jJ P N tk ops (o :: r) σ K := by
 replace h := h.out
 unfold jJ
 rw [hg]
 unfold gO at h
 split at h
 ·rename_i t ht
  simp only [ht]
  obtain ⟨h10,h⟩ := h
  replace h := h.out
  refine ⟨h10,?_⟩
  unfold kV at h
  split at h
  ·rename_i b hb
   simp only [hb]
   by_cases e : b = want
   ·rw [if_pos e]; exact (h.1 e).out _ fun e h => h.out
   ·rw [if_neg e]
    have h2 := h.2 (by cases b <;> cases want <;> simp_all)
    exact ⟨h2.1,h2.2.out⟩
  ·rename_i hb
   simp only [hb]
   exact ⟨h.1,h.2.out⟩
  ·exact h.elim
 ·exact h.elim
theorem bK {acc : List Rec} {K : bJ → List Rec → Prop} (h : K σ acc) : gz P N tk ops [] σ acc K := h
theorem cG {acc : List Rec} {K : bJ → List Rec → Prop} (hg : o.guard = none) (h : xN P N tk ops o r acc [] K σ) : gz P N tk ops (o :: r) σ acc K := by
 unfold gz; rw [hg]; exact h _ fun R e h => h.out
theorem fX {acc : List Rec} {K : bJ → List Rec → Prop} (hg : o.guard = some (g,want))
  (h : EqTo (mN ops g) fun d => gO d fun t => EqTo (bn σ t) fun v => kV v want (EqTo (fH σ t (.c (.bool want))) (xN P N tk ops o r acc [t] K))
   (xM (eJ N o) (EqTo (dO (fH σ t (.c (.bool (!want)))) (eS o (.c undef))) fun σ' => gz P N tk ops r σ' (acc ++ [([t],eS o (.c undef))]) K))
   (xM (eJ N o) (EqTo (dO σ (eS o (.c undef))) fun σ' => gz P N tk ops r σ' (acc ++ [([t],eS o (.c undef))]) K))) : gz P N tk ops (o :: r) σ acc K := by
 replace h := h.out
 unfold gz
 rw [hg]
 unfold gO at h
 split at h
 ·rename_i t ht
  simp only [ht]
  obtain ⟨h10,h⟩ := h
  replace h := h.out
  refine ⟨h10,?_⟩
  unfold kV at h
  split at h
  ·rename_i b hb
   simp only [hb]
   by_cases e : b = want
   ·rw [if_pos e]; exact (h.1 e).out _ fun R e h => h.out
   ·rw [if_neg e]
    have h2 := h.2 (by cases b <;> cases want <;> simp_all)
    exact ⟨h2.1,h2.2.out⟩
  ·rename_i hb
   simp only [hb]
   exact ⟨h.1,h.2.out⟩
  ·exact h.elim
 ·exact h.elim
end
def CN (E : Env) (Q : Exit → bJ → Prop) (tk : FuncId → Bool) (l : List Oper) (σ₁ : bJ) : Prop := ∀ K : bJ → Prop,(∀ σ',Q .normal σ' → K σ') → jJ E.P E.N tk l.toArray l σ₁ K
theorem aG {E : Env} {Q : Exit → bJ → Prop} {tk : FuncId → Bool} {l : List Oper} {σ₁ : bJ} (h : ∀ K : bJ → Prop,(∀ σ',Q .normal σ' → K σ') → jJ E.P E.N tk l.toArray l σ₁ K) : CN E Q tk l σ₁ := h
def CM (E : Env) (Q : Exit → bJ → Prop) (tk : FuncId → Bool) (l : List Oper) (σ₁ : bJ) : Prop := ∀ K : bJ → List Rec → Prop,(∀ σ' recs,md l recs = true → Q .normal σ' → K σ' recs) → gz E.P E.N tk l.toArray l σ₁ [] K
theorem ef {E : Env} {Q : Exit → bJ → Prop} {tk : FuncId → Bool} {l : List Oper} {σ₁ : bJ} (h : ∀ K : bJ → List Rec → Prop,(∀ σ' recs,md l recs = true → Q .normal σ' → K σ' recs) → gz E.P E.N tk l.toArray l σ₁ [] K) : CM E Q tk l σ₁ := h
theorem ac {E : Env} {Q : Exit → bJ → Prop} {σ : bJ} (tk : FuncId → Bool) (LV : Nat → List Nat) {id : Nat} {l : List Oper} (h : EqTo (jn (LV id) σ) (CN E Q tk l)) : aw E (.region id l.toArray false) Q σ :=
 uS tk LV fun K hK => h.out K hK
theorem bV {E : Env} {Q : Exit → bJ → Prop} {σ : bJ} (tk : FuncId → Bool) (LV : Nat → List Nat) {id : Nat} {l : List Oper} (hm : E.P.follows .mixedOrders = true) (h : EqTo (jn (LV id) σ) (CM E Q tk l)) : aw E (.region id l.toArray true) Q σ :=
 x5 tk LV hm fun K hK => h.out K hK
theorem ai {E : Env} {Q : Exit → bJ → Prop} {σ : bJ} {t : Nat} {x y : Code} (ht : t < 10000) (h : EqTo (bn σ t) (ry E x y Q σ)) : aw E (.cond (.tmp t) x y) Q σ := x3 ht fun v hv => h v hv
theorem ae {P : Program} {f : FuncId} {a b bxs' : List AV} {r : AV} {X : AV → List AV → Prop} (h : AFn P f a b r bxs') (k : pt (X r bxs')) : ∃ r bxs',AFn P f a b r bxs' ∧ X r bxs' := ⟨r,bxs',h,k⟩
theorem bv {X : World → Result Value} {v : Value} {Q : Value → Prop} (h : ∀ w,X w = .ok v w) (k : pt (Q v)) : ∃ v,(∀ w,X w = .ok v w) ∧ Q v := ⟨v,h,k⟩
theorem ax {P : Program} {fn : Func} {nb : Nat} {nw : List Nat} {r : AV} {bxs : List AV} {σ : bJ} (h : pt (fin P fn nb nw r bxs σ)) : zT P fn nb nw r bxs .ret σ := h
theorem jF {P : Program} {fn : Func} {nb : Nat} {nw : List Nat} {r : AV} {bxs : List AV} {σ : bJ} (h : pt (fin P fn nb nw r bxs σ)) : zT P fn nb nw r bxs .normal σ := h
section
variable {P : Program} {N : Nat} {o : Oper} {σ : bJ} {K : List Nat → List (Nat × AV) → Prop}
theorem Ch {d : List (Nat × AV)} : TR.wp P (.done d) σ K = K [] d := rfl
theorem E0 {k : Nat} {f : AV → TR} : TR.wp P (.rd k f) σ K = (f (bn σ k)).wp P σ fun R d => K (k :: R) d := rfl
theorem Ci {p : Prop} {t : TR} : TR.wp P (.need p t) σ K = (p ∧ t.wp P σ K) := rfl
theorem EZ {p : Value → Prop} {f : Value → TR} : TR.wp P (.ex p f) σ K = ∃ v,p v ∧ (f v).wp P σ K := rfl
theorem Cg {f : FuncId} {args bxs : List AV} {k : AV → List AV → TR} : TR.wp P (.call f args bxs k) σ K = ∃ r bxs',AFn P f args bxs r bxs' ∧ (k r bxs').wp P σ K := rfl
theorem vJ {t : Nat} {f : AV → TR} : TR.wp P (rdo (.tmp t) f) σ K = (t < 10000 ∧ TR.wp P (f (bn σ t)) σ fun R d => K (t :: R) d) := rfl
theorem tE {v : Value} {f : AV → TR} : TR.wp P (rdo (.const v) f) σ K = TR.wp P (f (ofV v)) σ K := rfl
theorem rh {g : Nat} {f : AV → TR} : TR.wp P (rdo (.global g) f) σ K = TR.wp P (f (wa g)) σ K := rfl
theorem uG {i : Nat} {f : AV → TR} : TR.wp P (rdo (.func i) f) σ K = TR.wp P (f (.fn (.func i) [] [])) σ K := rfl
theorem uH {f : List AV → TR} : TR.wp P (rdos [] f) σ K = TR.wp P (f []) σ K := rfl
theorem tF {x : Operand} {l : List Operand} {f : List AV → TR} : TR.wp P (rdos (x :: l) f) σ K = TR.wp P (rdo x fun v => rdos l fun vs => f (v :: vs)) σ K := rfl
theorem tC {f : Option AV → TR} : TR.wp P (qR none f) σ K = TR.wp P (f none) σ K := rfl
theorem tD {x : Operand} {f : Option AV → TR} : TR.wp P (qR (some x) f) σ K = TR.wp P (rdo x fun v => f (some v)) σ K := rfl
theorem wp_ret {v : AV} : TR.wp P (ret N o v) σ K = (eJ N o ∧ K [] (eS o v)) := rfl
theorem yP {b off : Nat} : sP N o (.loc b off) = ret N o (.loc b off) := rfl
theorem Bh {cs : List AV} {off : Nat} : sP N o (.rf cs off) = ret N o (.rf cs off) := rfl
theorem Bg {i : Nat} {a b : List AV} : sP N o (.fn (.func i) a b) = ret N o (.fn (.func i) a b) := rfl
theorem yO {t : TypeId} {x : AV} : sP N o (.ifc t x) = ret N o (.ifc t x) := rfl
theorem Bi {b : Bool} {x y : AV} : rH N o (.c (.bool b)) x y = ret N o (if b then x else y) := rfl
theorem yM {t off : Nat} {cs : List AV} {f : AV → TR} : qa P t (.rf cs off) f = kLd P t cs off f := rfl
theorem Ba {op : BinOp} {t : TypeId} {x y : Operand} {k k' : IntKind} {z z' : Int} : oO P N o op t x y (.c (.int k z)) (.c (.int k' z')) = .need (k = k' ∨ mX op = true) (match pY op k z z' with | some v => ret N o (.c v) | none => fail) := rfl
theorem AZ {op : BinOp} {t : TypeId} {x y : Operand} {t' : TypeId} {a : AV} : oO P N o op t x y (.ifc t' a) (.c .nilIface) = (match kl op with | some r => .need (aV P t = false ∧ (P.underlying t).isSome = true) (ret N o (.c (.bool (!r)))) | none => fail) := rfl
theorem Bb {op : BinOp} {t : TypeId} {x y : Operand} {t' : TypeId} {a : AV} : oO P N o op t x y (.c .nilIface) (.ifc t' a) = (match kl op with | some r => .need (aV P t = false ∧ (P.underlying t).isSome = true) (ret N o (.c (.bool (!r)))) | none => fail) := rfl
theorem Bc {op : BinOp} {t : TypeId} {x y : Operand} : oO P N o op t x y (.c .nilIface) (.c .nilIface) = lH P N o op t x y .nilIface .nilIface := rfl
theorem Bd {op : BinOp} {t : TypeId} {x y : Operand} {a b : ByteArray} : oO P N o op t x y (.c (.string a)) (.c (.string b)) = lH P N o op t x y (.string a) (.string b) := rfl
theorem AX {op : BinOp} {t : TypeId} {x y : Operand} {a b : Bool} : oO P N o op t x y (.c (.bool a)) (.c (.bool b)) = lH P N o op t x y (.bool a) (.bool b) := rfl
theorem AY {op : BinOp} {t : TypeId} {x y : Operand} {t1 t2 : TypeId} {a b : AV} : oO P N o op t x y (.ifc t1 a) (.ifc t2 b) = (match kK (.ifc t1 a),kK (.ifc t2 b) with | some vx,some vy => lH P N o op t x y vx vy | _,_ => fail) := rfl
theorem Bk {b : Bool} : kUn N o .not (.c (.bool b)) = ret N o (.c (.bool (!b))) := rfl
theorem Bj {k : IntKind} {n : Int} : kUn N o .neg (.c (.int k n)) = ret N o (.c (.int k (k.wrap (0 - n)))) := rfl
theorem vf {cs : List AV} {i : Nat} : jX N o (.tup cs) i = .need (i < cs.length) (ret N o (cs.getD i .u)) := rfl
theorem Bf {t n : Nat} {cs : List AV} {w : Own} : ue P N o t (.sl cs n w) = .need ((bA P t).isSome = true) (ret N o (.c (.int .i64 n))) := rfl
theorem yL {t b off n e : Nat} : ue P N o t (.arr b off n e) = .need ((bA P t).isSome = true) (ret N o (.c (.int .i64 n))) := rfl
theorem De {t : Nat} {s : ByteArray} : ue P N o t (.c (.string s)) = .need (bG P t = true) (ret N o (.c (.int .i64 s.size))) := rfl
end
attribute [go_sem] wa v8
attribute [-go_sem] jJ TR.wp sP rH oO kUn jX ue aop
attribute [go_sem] yP Bh Bg yO Bi yM Ba AZ Bb Bc Bd AX AY Bk Bj vf Bf yL De
attribute [go_sem ↓] Ch E0 Ci EZ Cg vJ tE rh uG uH tF tC tD wp_ret
end Go.Proofs.YtkjnkkmokojnpaaGreatDoor
namespace Go.Proofs.YtkjnkkmokojnpaaGreatDoor
set_option linter.unusedSimpArgs false
set_option linter.unusedVariables false
open Go.RowKit
def wkA : Nat → AV → AV
 | 0,x => x
 | _ + 1,.sl cs n .full => .sl cs n .none
 | k + 1,.agg cs => .agg (cs.map (wkA k))
 | k + 1,.tup cs => .tup (cs.map (wkA k))
 | k + 1,.ifc t x => .ifc t (wkA k x)
 | _ + 1,x => x
theorem pk {G : Gh} {B : Nat → AV} : ∀ (k : Nat) {x : AV} {v : Value},VRel G B v x → VRel G B v (wkA k x)
 | 0,x,v,h => h
 | k + 1,.sl cs n .full,v,h => by
  obtain ⟨ad,cap,b,off,f,rfl,hs,_⟩ := eR h
  exact hs.rel
 | k + 1,.agg cs,v,h => by
  obtain ⟨vs,rfl,hs,h1,hp⟩ := gS h
  exact .agg vs _ (by simpa using hs) (fun j hj => h1 j (by simpa using hj)) fun j hj => by
   have hj' : j < cs.length := by simpa using hj
   rw [List.getElem_map]; exact pk k (hp j hj')
 | k + 1,.tup cs,v,h => by
  obtain ⟨vs,rfl,hs,hp⟩ := jf h
  exact .tup vs _ (by simpa using hs) fun j hj => by
   have hj' : j < cs.length := by simpa using hj
   rw [List.getElem_map]; exact pk k (hp j hj')
 | k + 1,.ifc t x,v,h => by
  obtain ⟨v',rfl,h'⟩ := fj h
  exact .ifc t v' _ (pk k h')
 | _ + 1,.sl cs n .none,v,h => h
 | _ + 1,.sl cs n (.tok b),v,h => h
 | _ + 1,.c _,v,h => h
 | _ + 1,.u,v,h => h
 | _ + 1,.rf _ _,v,h => h
 | _ + 1,.fn _ _ _,v,h => h
 | _ + 1,.loc _ _,v,h => h
 | _ + 1,.arr _ _ _ _,v,h => h
 | _ + 1,.bc _ _,v,h => h
 | _ + 1,.bt _ _,v,h => h
 | _ + 1,.mp _,v,h => h
theorem CP {P : Program} {f : FuncId} {args bxs bxs' : List AV} {r r' : AV} (h : AFn P f args bxs r bxs') (k : Nat) (e : wkA k r = r') : AFn P f args bxs r' bxs' := fun w G vs hst hvs hargs => by
 refine (h w G vs hst hvs hargs).mono fun e' w' ⟨v,G',h1,h2,h3⟩ => ⟨v,G',h1,e ▸ pk k h2,h3⟩
end Go.Proofs.YtkjnkkmokojnpaaGreatDoor
namespace Go.Proofs.YtkjnkkmokojnpaaGreatDoor
set_option linter.unusedSimpArgs false
set_option linter.unusedVariables false
open Go.RowKit Go.ChangeShapes Go.WideShapes
def jR (w : World) : iW := fun b o => match w.cell? ⟨b,o,none⟩ with
 | some v => if v.oneCell' = true then some v else none
 | none => none
theorem tG {w : World} {b o : Nat} {v : Value} (h : w.cell? ⟨b,o,none⟩ = some v) (h1 : v.oneCell' = true) : jR w b o = some v := by
 unfold jR; rw [h]; simp [h1]
theorem zR {w : World} {b o : Nat} {v : Value} (h : jR w b o = some v) : w.cell? ⟨b,o,none⟩ = some v ∧ v.oneCell' = true := by
 unfold jR at h
 cases hc : w.cell? ⟨b,o,none⟩ with
 | none => rw [hc] at h; cases h
 | some u =>
  rw [hc] at h
  by_cases h1 : u.oneCell' = true
  ·simp [h1] at h; subst h; exact ⟨rfl,h1⟩
  ·simp [h1] at h
def xO (w : World) : Gh := ⟨jR w,fun _ => none,fun _ => 0⟩
def rY (w : World) (vs : List Value) (cs : List AV) : Prop := vs.length = cs.length ∧ ∀ j (h : j < cs.length),PRel (jR w) (vs.getD j undef) cs[j]
theorem nN (b o n : Nat) : (⟨b,o,none⟩ : Addr).add n = ⟨b,o + n,none⟩ := by
 unfold Addr.add; split <;> simp_all
theorem vN {P : Program} {f : FuncId} {args : List AV} {x : Value} (h : AFn P f args [] (.c x) []) (w : World) (hgl : Gl (jR w)) (vs : List Value) (hp : rY w vs args) :
  Calls P f vs.toArray w fun e w' => e = .returned x ∧ Below w.heap.size w w' := by
 obtain ⟨hs,hp⟩ := hp
 have hst : BSim P (fun b => b < w.heap.size ∧ ∀ k,(xO w).γ k ≠ some b) (xO w) (cm []) w :=
  ⟨(fun b o v hv => zR hv),(fun k g hk => by cases hk),(fun k cs ty _ hc => by unfold cm at hc; split at hc <;> simp at hc),(fun k k' g hk => by cases hk),hgl⟩
 refine (h w (xO w) vs.toArray hst (by simpa using hs) fun j hj => ?_).mono ?_
 ·have hj' : j < vs.length := by omega
  have := hp j hj
  simpa [Array.getD_eq_getD_getElem?,List.getD_eq_getElem?_getD,hj'] using VRel.p (G := xO w) (B := cm []) this
 ·rintro e w' ⟨v,G',rfl,h2,h3,h4,_⟩
  refine ⟨by rw [dL h2],h4.os,h4.tape,h4.output,h4.size,fun k hk => h4.block k ⟨hk,fun i => by simp [xO]⟩ hk⟩
def kO {H : Type} (P : Program) (t : TypeId) (d : DataW H) : Prop := ∀ n ∈ d.weights P t,n ≤ 140737488351232
theorem tB {H : Type} {P : Program} {t e : TypeId} (ht : P.underlying t = some (.slice e)) {elems spare : List (DataW H)} (h : kO P t (.slice elems spare)) :
  (elems.length + spare.length) * P.bytesOf e ≤ 140737488351232 ∧ ∀ d ∈ elems,kO P e d := by
 unfold kO DataW.weights at h
 rw [ht] at h
 refine ⟨h _ (by simp),fun d hd n hn => h n (by simp only [List.mem_cons,List.mem_append]; exact .inr (.inl (mem_all hd hn)))⟩
where
 mem_all {H : Type} {P : Program} {e : TypeId} {l : List (DataW H)} {d : DataW H} (hd : d ∈ l) {n : Nat} (hn : n ∈ d.weights P e) : n ∈ DataW.weightsAll P e l := by
  induction l with
  | nil => cases hd
  | cons x l ih =>
   simp only [DataW.weightsAll,List.mem_append]
   rcases List.mem_cons.1 hd with rfl | h
   ·exact .inl hn
   ·exact .inr (ih h)
theorem weighs_struct {H : Type} {P : Program} {t : TypeId} {fs : Array Field} (ht : P.underlying t = some (.struct fs)) {parts : List (DataW H)} (h : kO P t (.agg parts)) :
  ∀ (i : Nat) (f : Field) (d : DataW H),fs[i]? = some f → parts[i]? = some d → kO P f.type d := by
 unfold kO DataW.weights at h
 rw [ht] at h
 intro i f d hf hd n hn
 exact h n (mem_each (by simpa using congrArg (Option.map (·.type)) hf) hd hn)
where
 mem_each {H : Type} {P : Program} : ∀ {ts : List TypeId} {l : List (DataW H)} {i : Nat} {t : TypeId} {d : DataW H} {n : Nat},ts[i]? = some t → l[i]? = some d → n ∈ d.weights P t → n ∈ DataW.weightsEach P ts l
  | [],_,_,_,_,_,h,_,_ => by simp at h
  | _ :: _,[],_,_,_,_,_,h,_ => by simp at h
  | _ :: _,_ :: _,0,_,_,_,h,h',hn => by
   simp at h h'; subst h; subst h'
   simp only [DataW.weightsEach,List.mem_append]; exact .inl hn
  | _ :: ts,_ :: l,i + 1,_,_,_,h,h',hn => by
   simp only [DataW.weightsEach,List.mem_append]
   exact .inr (mem_each (ts := ts) (l := l) (i := i) (by simpa using h) (by simpa using h') hn)
theorem oH {H : Type} {P : Program} {ts : List TypeId} {ds : List (DataW H)} (h : (DataW.weightsEach P ts ds).all (· ≤ reachBytes) = true) {i : Nat} {t : TypeId} {d : DataW H} (ht : ts[i]? = some t) (hd : ds[i]? = some d) : kO P t d := by
 intro n hn
 have := List.all_eq_true.1 h n (weighs_struct.mem_each ht hd hn)
 exact of_decide_eq_true this
theorem C9 {n : Int} (h : (Lit.int .i64 n).wf = true) : -9223372036854775808 ≤ n ∧ n ≤ 9223372036854775807 := by
 simpa [Lit.wf,IntKind.min,IntKind.max,IntKind.signed,IntKind.bits] using h
section
variable {H : Type} {enc : TypeId × Value → H} {P : Program} {w : World} {base : Nat} {spare : Nat → Bool} {held : Bool}
def Reads {α H : Type} (enc : TypeId × Value → H) (P : Program) (w : World) (base : Nat) (spare : Nat → Bool) (held : Bool) (t : TypeId) (A : α → List AV) (Ok : α → Prop) (fuel : Nat) : Prop :=
 ∀ cs x,DataW.trod enc P w base spare held fuel t cs = some x → kO P t x.1 → ∃ y : α,Ok y ∧ PCRel (jR w) cs (A y)
theorem qs {Z : iW} {v : Value} {x : AV} (h : PRel Z v x) (h1 : v.oneCell' = true) : PCRel Z [v] [x] := ⟨rfl,fun j hj => by
 obtain rfl : j = 0 := by simpa using hj
 exact ⟨h,h1⟩⟩
theorem Reads.map {α β : Type} {t fuel : Nat} {A : α → List AV} {Ok : α → Prop} (h : Reads enc P w base spare held t A Ok fuel) {A' : β → List AV} {Ok' : β → Prop} (f : α → β) (hA : ∀ y,A' (f y) = A y) (hO : ∀ y,Ok y → Ok' (f y)) :
  Reads enc P w base spare held t A' Ok' fuel := fun cs x hx hw => by
 obtain ⟨y,h1,h2⟩ := h cs x hx hw
 exact ⟨f y,hO y h1,by rw [hA]; exact h2⟩
theorem xj {t : TypeId} (ht : P.underlying t = some (.int .i64)) (fuel : Nat) : Reads enc P w base spare held t (fun z : Int => [.c (.int .i64 z)]) (fun z => -9223372036854775808 ≤ z ∧ z ≤ 9223372036854775807) fuel := fun cs x hx _ => by
 obtain ⟨n,rfl,_,hw⟩ := DataW.trod_int ht hx
 exact ⟨n,C9 hw,qs (.c _) rfl⟩
theorem tg {t : TypeId} (ht : P.underlying t = some .string) (fuel : Nat) : Reads enc P w base spare held t (fun s : ByteArray => [.c (.string s)]) (fun s => s.size ≤ 140737488351232) fuel := fun cs x hx hw => by
 obtain ⟨s,rfl,rfl,hs⟩ := DataW.trod_string ht hx
 refine ⟨s,?_,qs (.c _) rfl⟩
 have := hw s.data.toList.length (by simp [DataW.weights])
 simpa using this
theorem reads_slice {α : Type} [Inhabited α] {t e s fuel : Nat} {A : α → List AV} {Ok : α → Prop} (ht : P.underlying t = some (.slice e)) (hs : P.cellsOf e = s) (hby : 0 < P.bytesOf e) (hsz : 0 < s) (hA : ∀ y,(A y).length = s)
  (he : ∀ n,n < fuel → Reads enc P w base spare held e A Ok n) : Reads enc P w base spare held t (fun l : List α => [.sl (l.flatMap A) l.length .none]) (fun l => (∀ y ∈ l,Ok y) ∧ l.length * P.bytesOf e ≤ 140737488351232) fuel := fun cs x h hw => by
 rcases DataW.trod_slice ht h with ⟨rfl,rfl⟩ | ⟨a,len,cap,elems,rest,n,hfuel,rfl,rfl,hb,hl,hm,hlen,hel,hsp,hns⟩
 ·exact ⟨[],by simp,qs (.sl none 0 0 0 0 .none [] (fun _ => undef) (.inl rfl) (Nat.le_refl _) (fun _ => rfl) (.inl ⟨rfl,rfl⟩) (fun j h => by simp at h) (fun j h => by simp at h)) rfl⟩
 ·obtain ⟨hw1,hw2⟩ := tB ht hw
  rw [List.length_map,hlen] at hw1
  have hlen8 : len * P.bytesOf e ≤ 140737488351232 := by
   have h2 : len * P.bytesOf e ≤ (len + (rest.map (·.1)).length) * P.bytesOf e := Nat.mul_le_mul_right _ (by omega)
   omega
  have hone : ∀ i,i < len → ∃ (y : α × List Value),Ok y.1 ∧ PCRel (jR w) y.2 (A y.1) ∧ ∀ j (hj : j < y.2.length),w.cell? ((a.add (i * s)).add j) = some y.2[j] := fun i hi => by
   have h1 := hel i hi
   have hi' : i < elems.length := by omega
   rw [List.getElem?_eq_getElem hi',Option.bind_eq_some_iff] at h1
   obtain ⟨cs',hc',h2⟩ := h1
   obtain ⟨_,hcl,hcc⟩ := World.cells?_some hc'
   rw [hs] at hcl
   obtain ⟨y,hy,hyc⟩ := he n (by omega) cs' _ h2 (hw2 _ (List.mem_map.2 ⟨_,List.getElem_mem hi',rfl⟩))
   refine ⟨(y,cs'),hy,hyc,fun j hj => ?_⟩
   have hj' : j < cs'.length := hj
   have := hcc j (by rw [hs]; omega)
   rw [hs] at this
   rw [this,List.getElem?_eq_getElem hj]
  obtain ⟨f,hf⟩ := Go.Deep.choose_lt hone
  refine ⟨(List.range len).map fun i => (f i).1,⟨fun y hy => ?_,by simpa using hlen8⟩,qs ?_ rfl⟩
  ·obtain ⟨i,hi,rfl⟩ := List.mem_map.1 hy
   exact (hf i (by simpa using hi)).1
  rcases Nat.eq_zero_or_pos len with h0 | h0
  ·subst h0
   exact .sl (some a) 0 0 0 cap .none [] (fun _ => undef) (.inl rfl) hl (by simp) (.inl ⟨rfl,rfl⟩) (fun j h => by simp at h) (fun j h => by simp at h)
  have hspot : a.spot = none := by
   obtain ⟨_,g2,g3⟩ := hf 0 h0
   have hlen0 : 0 < (f 0).2.length := by rw [g2.1,hA]; exact hsz
   have := g3 0 hlen0
   rw [Nat.zero_mul] at this
   simp only [Addr.add,if_true] at this
   exact spot_none this
  obtain ⟨b,o,sp⟩ := a
  simp only at hspot
  subst hspot
  have hcell : ∀ i,i < len → ∀ j (hj : j < (f i).2.length),w.cell? ⟨b,o + (i * s + j),none⟩ = some (f i).2[j] := fun i hi j hj => by
   have := (hf i hi).2.2 j hj
   rw [nN,nN,Nat.add_assoc] at this
   exact this
  have key : ∀ m,m ≤ len → (((List.range m).map fun i => (f i).1).flatMap A).length = m * s ∧ ∀ j (hj : j < (((List.range m).map fun i => (f i).1).flatMap A).length),∃ v,jR w b (o + j) = some v ∧ PRel (jR w) v (((List.range m).map fun i => (f i).1).flatMap A)[j] := fun m => by
   induction m with
   | zero => exact fun _ => ⟨by simp,fun j hj => by simp at hj⟩
   | succ m ih =>
    intro hm
    obtain ⟨i1,i2⟩ := ih (by omega)
    obtain ⟨g1,g2,g3⟩ := hf m (by omega)
    refine ⟨?_,fun j hj => ?_⟩
    ·rw [List.range_succ,List.map_append,List.flatMap_append,List.length_append,i1]
     simp [hA,Nat.succ_mul]
    ·by_cases hjm : j < m * s
     ·obtain ⟨v,h1,h2⟩ := i2 j (by rw [i1]; exact hjm)
      refine ⟨v,h1,?_⟩
      have e : (((List.range (m + 1)).map fun i => (f i).1).flatMap A)[j] = (((List.range m).map fun i => (f i).1).flatMap A)[j]'(by rw [i1]; exact hjm) := by
       simp only [List.range_succ,List.map_append,List.flatMap_append]
       rw [List.getElem_append_left]
      rw [e]; exact h2
     ·have hj2 : j < (m + 1) * s := by
       have : (((List.range (m + 1)).map fun i => (f i).1).flatMap A).length = (m + 1) * s := by
        rw [List.range_succ,List.map_append,List.flatMap_append,List.length_append,i1]
        simp [hA,Nat.succ_mul]
       rw [this] at hj; exact hj
      have hjs : j - m * s < s := by rw [Nat.succ_mul] at hj2; omega
      have hjl : j - m * s < (f m).2.length := by rw [g2.1,hA]; exact hjs
      have hjA : j - m * s < (A (f m).1).length := by rw [hA]; exact hjs
      have hc := hcell m (by omega) (j - m * s) hjl
      rw [show m * s + (j - m * s) = j by omega] at hc
      obtain ⟨p1,p2⟩ := g2.2 (j - m * s) hjA
      have eg : (f m).2.getD (j - m * s) undef = (f m).2[j - m * s] := by simp [List.getD_eq_getElem?_getD,hjl]
      rw [eg] at p1 p2
      refine ⟨_,tG hc p2,?_⟩
      have e : (((List.range (m + 1)).map fun i => (f i).1).flatMap A)[j] = (A (f m).1)[j - m * s] := by
       simp only [List.range_succ,List.map_append,List.flatMap_append,List.map_cons,List.map_nil,List.flatMap_cons,List.flatMap_nil,List.append_nil]
       rw [List.getElem_append_right (by rw [i1]; omega)]
       simp only [i1]
      rw [e]; exact p1
  obtain ⟨k1,k2⟩ := key len (Nat.le_refl _)
  obtain ⟨F,hF⟩ := Go.Deep.choose_lt (p := fun j v => jR w b (o + j) = some v ∧ ∀ hj : j < (((List.range len).map fun i => (f i).1).flatMap A).length,PRel (jR w) v (((List.range len).map fun i => (f i).1).flatMap A)[j]) (n := len * s) fun j hj => by
   obtain ⟨v,h1,h2⟩ := k2 j (by rw [k1]; exact hj)
   exact ⟨v,h1,fun _ => h2⟩
  have e2 : ((List.range len).map fun i => (f i).1).length = len := by simp
  rw [e2]
  exact .sl (some ⟨b,o,none⟩) b o len cap .none _ F (.inl rfl) hl (by simp) (.inr rfl) (fun j hj => (hF j (by rw [← k1]; exact hj)).1) fun j hj => (hF j (by rw [← k1]; exact hj)).2 hj
where
 spot_none {w : World} {a : Addr} {v : Value} (h : w.cell? a = some v) : a.spot = none := by
  unfold World.cell? at h
  split at h
  ·split at h
   ·cases h
   ·rename_i hh; simpa using hh
  ·cases h
theorem qS {α : Type} {t fuel : Nat} {f0 : Field} {A : α → List AV} {OkA : α → Prop} (ht : P.underlying t = some (.struct #[f0])) (o0 : f0.offset = 0) (st : P.cellsOf t = P.cellsOf f0.type) (r0 : ∀ n,n < fuel → Reads enc P w base spare held f0.type A OkA n) :
  Reads enc P w base spare held t A OkA fuel := fun cs x hx hw => by
 obtain ⟨xs,n,hfuel,rfl,hl,hlen,hf⟩ := DataW.trod_struct ht hx
 have h0 := hf 0 f0 rfl
 match xs,hlen with
 | [y0],_ =>
 rw [o0,List.drop_zero,List.take_of_length_le (by omega)] at h0
 exact r0 n (by omega) _ _ h0 (weighs_struct ht hw 0 f0 y0.1 rfl rfl)
end
theorem ww (w : World) : rY w [] [] := ⟨rfl,fun j h => by simp at h⟩
theorem un {w : World} {v : Value} {a : AV} {vs : List Value} {xs : List AV} (h : PRel (jR w) v a) (k : rY w vs xs) : rY w (v :: vs) (a :: xs) := ⟨by simp [k.1],fun j hj => by
 cases j with
 | zero => exact h
 | succ j => exact k.2 j (by simpa using hj)⟩
theorem zc {Z : iW} {vs : Array Value} {xs : List AV} (h : PCRel Z vs.toList xs) : PRel Z (.agg vs) (.agg xs) := by
 have e : ∀ j,vs.toList.getD j undef = vs.getD j undef := fun j => by simp [Array.getD_eq_getD_getElem?]
 exact .agg vs xs (by simpa using h.1) (fun j hj => e j ▸ (h.2 j hj).2) fun j hj => e j ▸ (h.2 j hj).1
end Go.Proofs.YtkjnkkmokojnpaaGreatDoor
namespace Go.Proofs.YtkjnkkmokojnpaaGreatDoor
set_option linter.unusedSimpArgs false
set_option linter.unusedVariables false
open Go.RowKit
def wkD : Nat → AV → AV
 | 0,x => x
 | k + 1,.sl cs n .full => .sl (cs.map (wkD k)) n .none
 | k + 1,.sl cs n .none => .sl (cs.map (wkD k)) n .none
 | k + 1,.agg cs => .agg (cs.map (wkD k))
 | k + 1,.tup cs => .tup (cs.map (wkD k))
 | k + 1,.ifc t x => .ifc t (wkD k x)
 | k + 1,.rf cs o => .rf (cs.map (wkD k)) o
 | _ + 1,x => x
theorem ic {Z : iW} : ∀ (k : Nat) {x : AV} {v : Value},PRel Z v x → PRel Z v (wkD k x)
 | 0,x,v,h => h
 | k + 1,.sl cs n .full,v,h => by
  cases h with
  | sl a b off n cap o cs f ho hn ha hc hz hp =>
   exact .sl a b off n cap .none _ f (.inl rfl) hn ha (hc.imp (fun ⟨h1,h2⟩ => ⟨h1,by simp [h2]⟩) id) (fun j hj => hz j (by simpa using hj)) fun j hj => by
    rw [List.getElem_map]; exact ic k (hp j (by simpa using hj))
 | k + 1,.sl cs n .none,v,h => by
  cases h with
  | sl a b off n cap o cs f ho hn ha hc hz hp =>
   exact .sl a b off n cap .none _ f (.inl rfl) hn ha (hc.imp (fun ⟨h1,h2⟩ => ⟨h1,by simp [h2]⟩) id) (fun j hj => hz j (by simpa using hj)) fun j hj => by
    rw [List.getElem_map]; exact ic k (hp j (by simpa using hj))
 | k + 1,.agg cs,v,h => by
  cases h with
  | agg vs cs hs h1 hp =>
   exact .agg vs _ (by simpa using hs) (fun j hj => h1 j (by simpa using hj)) fun j hj => by
    rw [List.getElem_map]; exact ic k (hp j (by simpa using hj))
 | k + 1,.tup cs,v,h => by
  cases h with
  | tup vs cs hs hp =>
   exact .tup vs _ (by simpa using hs) fun j hj => by
    rw [List.getElem_map]; exact ic k (hp j (by simpa using hj))
 | k + 1,.ifc t x,v,h => by
  cases h with
  | ifc t v x h => exact .ifc t v _ (ic k h)
 | k + 1,.rf cs o,v,h => by
  cases h with
  | rf b off o cs f hz hp =>
   exact .rf b off o _ f (fun j hj => hz j (by simpa using hj)) fun j hj => by
    rw [List.getElem_map]; exact ic k (hp j (by simpa using hj))
 | _ + 1,.sl cs n (.tok b),v,h => h
 | _ + 1,.c _,v,h => h
 | _ + 1,.u,v,h => h
 | _ + 1,.fn _ _ _,v,h => h
 | _ + 1,.loc _ _,v,h => h
 | _ + 1,.arr _ _ _ _,v,h => h
 | _ + 1,.bc _ _,v,h => h
 | _ + 1,.bt _ _,v,h => h
 | _ + 1,.mp _,v,h => h
theorem pm {G : Gh} {B : Nat → AV} : ∀ (k : Nat) {x : AV} {v : Value},VRel G B v x → VRel G B v (wkD k x)
 | 0,x,v,h => h
 | k + 1,.sl cs n .full,v,h => by
  cases h with
  | p h => exact .p (ic (k + 1) h)
 | k + 1,.sl cs n .none,v,h => by
  cases h with
  | p h => exact .p (ic (k + 1) h)
 | k + 1,.agg cs,v,h => by
  obtain ⟨vs,rfl,hs,h1,hp⟩ := gS h
  exact .agg vs _ (by simpa using hs) (fun j hj => h1 j (by simpa using hj)) fun j hj => by
   have hj' : j < cs.length := by simpa using hj
   rw [List.getElem_map]; exact pm k (hp j hj')
 | k + 1,.tup cs,v,h => by
  obtain ⟨vs,rfl,hs,hp⟩ := jf h
  exact .tup vs _ (by simpa using hs) fun j hj => by
   have hj' : j < cs.length := by simpa using hj
   rw [List.getElem_map]; exact pm k (hp j hj')
 | k + 1,.ifc t x,v,h => by
  obtain ⟨v',rfl,h'⟩ := fj h
  exact .ifc t v' _ (pm k h')
 | k + 1,.rf cs o,v,h => by
  cases h with
  | p h => exact .p (ic (k + 1) h)
 | _ + 1,.sl cs n (.tok b),v,h => h
 | _ + 1,.c _,v,h => h
 | _ + 1,.u,v,h => h
 | _ + 1,.fn _ _ _,v,h => h
 | _ + 1,.loc _ _,v,h => h
 | _ + 1,.arr _ _ _ _,v,h => h
 | _ + 1,.bc _ _,v,h => h
 | _ + 1,.bt _ _,v,h => h
 | _ + 1,.mp _,v,h => h
theorem fK {P : Program} {f : FuncId} {args args' bxs bxs' : List AV} {r : AV} (k : Nat) (h : AFn P f args' bxs r bxs') (e : args.map (wkD k) = args') : AFn P f args bxs r bxs' := fun w G vs hst hvs hargs =>
 h w G vs hst (by rw [hvs,← e]; simp) fun j hj => by
  subst e
  have hj' : j < args.length := by simpa using hj
  rw [List.getElem_map]; exact pm k (hargs j hj')
theorem bW {P : Program} (v : Value) : ∀ w,(((pure () : Sem Unit) >>= fun _ => pure v) : Sem Value).run P w = .ok v w := fun w => by
 simp [go_sem]
end Go.Proofs.YtkjnkkmokojnpaaGreatDoor

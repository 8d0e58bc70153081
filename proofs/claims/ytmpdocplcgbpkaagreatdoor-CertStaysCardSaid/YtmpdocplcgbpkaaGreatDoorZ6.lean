/- K: the walk's rules. No program is in sight. K: tokens for rows that hang in a box. No program is in sight. K: step by step: one operation at a time, what comes behind it not in sight. No program is in sight. -/
import Derived.Test.YtmpdocplcgbpkaaGreatDoorZ5
import Derived.Test.YtmpdocplcgbpkaaGreatDoorZ3
namespace Go.Proofs.YtmpdocplcgbpkaaGreatDoor
set_option linter.unusedSimpArgs false
set_option linter.unusedVariables false
open Go.RowKit
attribute [go_sem] isM i6 jA gI ka kD lw lx gE TR.wp aop rdo rdos bP cX cL dz dj ret fail ofV kLd lU oe nU wz mC ir n3 iu n5 lT j8 xC gr kE ik kUn m4 j9 qN gU iT nY jx gy iv n8 n9 ut od ly dO nW lv xV uu rdRow gA dK fP kT xk iL qz ff fL n7 nX gT nV gx wo eq ren dC fw oO rdBoxes gather cb dV gj xS rS nZ qL yA mF AV.one cA ei c6 putAt jY gp cQ jG mrm mgc rU gn List.any_cons List.any_nil bD bj fin te tC eQ il eI uc jM rR yC eO vB lf ie iq
def tk0 : FuncId → Bool := fun _ => true
attribute [go_sem] tk0 Option.isSome_some Option.isSome_none Value.oneCell' Nat.min_def if_true if_false and_true true_and and_false false_and or_true true_or or_false false_or not_true not_false_eq_true Bool.not_true Bool.not_false ne_eq List.length_cons List.length_nil List.length_map List.map_cons List.map_nil List.append_nil List.nil_append List.cons_append List.getD_cons_zero List.getD_cons_succ List.drop_succ_cons List.drop_zero List.take_succ_cons List.take_zero List.drop_nil List.take_nil List.flatMap_cons List.flatMap_nil List.zip_cons_cons List.zip_nil_left List.zip_nil_right List.getElem?_toArray List.getElem?_cons_zero List.getElem?_cons_succ List.getElem?_nil List.contains_cons List.contains_nil List.mapM_cons List.mapM_nil List.all_cons List.all_nil List.range_zero List.range_succ Option.bind_some Option.bind_none Option.map_some Option.map_none Option.pure_def Option.bind_eq_bind Bool.and_false Bool.false_and Bool.and_true Bool.true_and Bool.or_false Bool.false_or Bool.or_true Bool.true_or Bool.and_eq_true beq_self_eq_true Nat.zero_add Nat.add_zero Nat.zero_mul Nat.mul_one Nat.one_mul Nat.mul_zero Nat.sub_zero Int.toNat_zero exists_eq_left exists_eq' Nat.add_eq_zero_iff decide_eq_true_eq decide_true decide_false bne_self_eq_false Nat.beq_eq_true_eq beq_iff_eq Array.toList_map Int.toNat_natCast
theorem aV {p q : Prop} (hp : p) (hq : q) : p ∧ q := ⟨hp,hq⟩
def mR (E : Env) (x y : Code) (Q : Exit → bT → Prop) (σ : bT) : AV → Prop
 | .c (.bool b) => (b = true → aw E x Q σ) ∧ (b = false → aw E y Q σ)
 | _ => False
theorem tS {E : Env} {Q : Exit → bT → Prop} {σ : bT} {t : Nat} {x y : Code} (ht : t < 10000) (h : ∀ v,bP σ t = v → mR E x y Q σ v) : aw E (.cond (.tmp t) x y) Q σ := by
 replace h := h _ rfl
 unfold mR at h
 split at h
 ·rename_i b hb;exact vM ht hb h.1 h.2
 ·exact h.elim
theorem aD {E : Env} {Q : Exit → bT → Prop} {σ : bT} {x y : Code} (h : aw E x Q σ) : mR E x y Q σ (.c (.bool true)) := ⟨(fun _ => h),(fun e => by cases e)⟩
theorem aC {E : Env} {Q : Exit → bT → Prop} {σ : bT} {x y : Code} (h : aw E y Q σ) : mR E x y Q σ (.c (.bool false)) := ⟨(fun e => by cases e),(fun _ => h)⟩
theorem aB {E : Env} {Q : Exit → bT → Prop} {σ : bT} {x y : Code} {b : Bool} (h1 : b = true → aw E x Q σ) (h2 : b = false → aw E y Q σ) : mR E x y Q σ (.c (.bool b)) := ⟨h1,h2⟩
theorem qr {E : Env} {Q : Exit → bT → Prop} {σ : bT} (tk : FuncId → Bool) (LV : Nat → List Nat) {id : Nat} {l : List Oper} (h : ∀ K : bT → Prop,(∀ σ',Q .normal σ' → K σ') → gE E.P E.N tk l.toArray l (gn (LV id) σ) K) : aw E (.region id l.toArray false) Q σ :=
 fY (gP (LV id) σ) (sI tk h)
theorem tU {E : Env} {Q : Exit → bT → Prop} {σ : bT} (tk : FuncId → Bool) (LV : Nat → List Nat) {id : Nat} {l : List Oper} (hm : E.P.follows .mixedOrders = true)
  (h : ∀ K : bT → List Rec → Prop,(∀ σ' recs,jH l recs = true → Q .normal σ' → K σ' recs) → fa E.P E.N tk l.toArray l (gn (LV id) σ) [] K) : aw E (.region id l.toArray true) Q σ := fY (gP (LV id) σ) (tT tk hm h)
theorem aP {K : bT → Prop} {Q : Exit → bT → Prop} {σ : bT} (h : K σ) : lf K Q .normal σ := h
theorem aO {K : bT → Prop} {Q : Exit → bT → Prop} {σ : bT} {e : Nat} (h : Q (.exit e) σ) : lf K Q (.exit e) σ := h
theorem aQ {K : bT → Prop} {Q : Exit → bT → Prop} {σ : bT} (h : Q .ret σ) : lf K Q .ret σ := h
theorem ay {id : Nat} {Q : Exit → bT → Prop} {σ : bT} (h : Q .normal σ) : ie id Q .normal σ := h
theorem aA {id : Nat} {Q : Exit → bT → Prop} {σ : bT} (h : Q .ret σ) : ie id Q .ret σ := h
theorem ax {id : Nat} {Q : Exit → bT → Prop} {σ : bT} (h : Q .normal σ) : ie id Q (.exit id) σ := by simp only [ie,if_true];exact h
theorem bO {E : Env} {Q : Exit → bT → Prop} {σ : bT} {c : Code} (L : List Nat) {σ' : bT} (hσ : gn L σ = σ') (h : awl E c Q σ') : awl E c Q σ := d5 (gP L σ) (hσ ▸ h)
theorem gF {E : Env} {Q : Exit → bT → Prop} {σ σ' : bT} {c : Code} (h : awl E c Q σ') (e : σ = σ') : awl E c Q σ := e ▸ h
theorem b7 {E : Env} {Q : Exit → bT → Prop} {c : Code} {α : Type} (I : α → bT) (P : α → Prop) (m : α → Nat) (x0 : α) {σ : bT} (L : List Nat) (h0 : gn L σ = I x0) (hp : P x0)
  (step : ∀ x,P x → (∀ y,P y → m y < m x → awl E c Q (I y)) → aw E c (lf (awl E c Q) Q) (I x)) : awl E c Q σ := by
 have all : ∀ n x,m x = n → P x → awl E c Q (I x) := fun n => by
  induction n using Nat.strongRecOn with
  | _ n ih => exact fun x hx hP => fb (step x hP fun y hy hm => ih (m y) (hx ▸ hm) y rfl hy)
 exact d5 (gP L σ) (h0 ▸ all _ x0 rfl hp)
theorem bQ {x : Int} (h1 : -9223372036854775808 ≤ x) (h2 : x ≤ 9223372036854775807) : IntKind.i64.wrap x = x := by
 have e : IntKind.i64.wrap x = if x % 18446744073709551616 ≥ 9223372036854775808 then x % 18446744073709551616 - 18446744073709551616 else x % 18446744073709551616 := by
  simp [IntKind.wrap,IntKind.bits,IntKind.signed]
 rw [e]
 split <;> omega
end Go.Proofs.YtmpdocplcgbpkaaGreatDoor
namespace Go.Proofs.YtmpdocplcgbpkaaGreatDoor
set_option linter.unusedSimpArgs false
set_option linter.unusedVariables false
open Go.RowKit
theorem dk {E : Env} {σ : bT} {b k0 i n : Nat} {cs cells : List AV} {ty : TypeId} (e : TypeId) (hb : 10000 ≤ b ∧ b < 20000) (hk0 : 10000 ≤ k0 ∧ k0 < 1000000) (hne : ¬ k0 = b) (hu : bP σ b = .u) (hB : bP σ k0 = .bc cells ty)
  (hi : cells[i]? = some (.sl cs n .full)) : ALe E σ (cX (cX σ b (.bt n e)) k0 (.bc (cells.set i (.sl cs n (.tok b))) ty)) := fun a w G hs => by
 have hm : ∀ k,bP (cX (cX σ b (.bt n e)) k0 (.bc (cells.set i (.sl cs n (.tok b))) ty)) k = if k0 = k then .bc (cells.set i (.sl cs n (.tok b))) ty else if b = k then .bt n e else bP σ k := fun k => by rw [cj,cj]
 have hub : lm σ b = .u := (cE (by omega)).trans hu
 have hBl : lm σ k0 = .bc cells ty := (cE hk0.2).trans hB
 have hlm : ∀ k,10000 ≤ k → lm (cX (cX σ b (.bt n e)) k0 (.bc (cells.set i (.sl cs n (.tok b))) ty)) k = if k0 = k then .bc (cells.set i (.sl cs n (.tok b))) ty else if b = k then .bt n e else lm σ k := fun k hk => by
  have e1 : ∀ k,10000 ≤ k → lm (cX σ b (.bt n e)) k = if b = k then .bt n e else lm σ k := fj (fun k _ _ => cj ..) (by omega) (by rw [hu];rfl) rfl
  have e2 : ∀ k,10000 ≤ k → lm (cX (cX σ b (.bt n e)) k0 (.bc (cells.set i (.sl cs n (.tok b))) ty)) k = if k0 = k then .bc (cells.set i (.sl cs n (.tok b))) ty else lm (cX σ b (.bt n e)) k := fj (fun k _ _ => cj ..) hk0.2 (by rw [cj,if_neg (fun e => hne e.symm),hB];rfl) rfl
  rw [e2 k hk]
  split
  ·rfl
  ·exact e1 k hk
 generalize cX (cX σ b (.bt n e)) k0 (.bc (cells.set i (.sl cs n (.tok b))) ty) = σ' at hm hlm
 have hγ : G.γ b = none := by
  cases hg : G.γ b with
  | none => rfl
  | some g =>
   exact ((hs.st.box b g hg).2.2.not_u ((cE (by omega)).trans hu)).elim
 have hst : BStep G (lm σ) G (lm σ') := ⟨.refl _,fun k hk => by
  rw [hlm k hk]
  by_cases h0 : k0 = k
  ·subst h0;rw [if_pos rfl];exact .bc hBl rfl rfl
  rw [if_neg h0]
  by_cases h1 : b = k
  ·subst h1;exact .u hub
  ·rw [if_neg h1];exact .same rfl rfl rfl rfl⟩
 refine ⟨G,hs.defers,hs.tsize,fun k hk => ?_,⟨hs.st.agree,fun k g hk => ?_,fun k cs' ty' hk hc => ?_,hs.st.inj,hs.st.gl⟩,hs.fr,hs.step.trans hst,hs.zp⟩
 ·rw [hm,if_neg (by omega),if_neg (by omega)];exact (hs.slots k hk).step hst
 ·obtain ⟨h1,h2,h3⟩ := hs.st.box k g hk
  refine ⟨h1,h2,?_⟩
  by_cases h0 : k0 = k
  ·subst h0
   rcases h3 with ⟨cs1,ty1,q1,⟨qm,c,q2,q3,q4,q5⟩ | ⟨qm,es,clk,q2,q3,q4⟩⟩ | ⟨_,_,q1,_⟩ | ⟨_,_,_,_,q1,_⟩
   ·rw [hBl] at q1;cases q1
    refine .inl ⟨_,_,by rw [hlm _ h1,if_pos rfl],.inl ⟨qm,c,q2,(by unfold FitsC;rw [List.length_set];exact q3),q4,fun j hj => ?_⟩⟩
    have hj' : j < cells.length := by simpa using hj
    obtain ⟨r1,r2⟩ := q5 j hj'
    refine ⟨?_,r2⟩
    rw [List.getElem_set]
    split
    ·rename_i hij
     subst hij
     obtain ⟨hl,hi2⟩ := List.getElem?_eq_some_iff.1 hi
     rw [hi2] at r1
     obtain ⟨ad,cap,b',off,f,ev,⟨p1,p2,p3,p4,p5⟩,hf,_⟩ := d7 r1
     rw [ev]
     refine .tok ad n cap cs b n e (.sl ad b' off n cap .none cs f (.inl rfl) p1 p2 p3 p4 p5) hb.1 (by rw [hlm _ hb.1,if_neg hne,if_pos rfl]) (Nat.le_refl _) fun _ => ⟨fun _ => hf rfl,fun g hg => by rw [hγ] at hg;cases hg⟩
    ·exact r1.step hst
   ·rw [hBl] at q1;cases q1
    obtain ⟨q4,_⟩ := q4
    rw [q4] at hi
    obtain ⟨v,hv⟩ := l8 (List.mem_of_getElem? hi)
    cases hv
   ·rw [hBl] at q1;cases q1
   ·rw [hBl] at q1;cases q1
  ·refine h3.step hst ?_ rfl rfl rfl fun _ => rfl
   rw [hlm k h1,if_neg h0,if_neg (fun h4 => by rw [← h4,hγ] at hk;cases hk)]
 ·rw [hlm k hk] at hc
  by_cases h0 : k0 = k
  ·subst h0;exact hs.st.real k0 cells ty hk0.1 hBl
  rw [if_neg h0] at hc
  by_cases h1 : b = k
  ·rw [if_pos h1] at hc;cases hc
  ·rw [if_neg h1] at hc;exact hs.st.real k cs' ty' hk hc
theorem vH {E : Env} {σ : bT} {b k0 i : Nat} {cells : List AV} {ty : TypeId} (e sz : Nat) (hb : 10000 ≤ b ∧ b < 20000) (hk0 : 10000 ≤ k0 ∧ k0 < 1000000) (hne : ¬ k0 = b) (hu : bP σ b = .u) (hB : bP σ k0 = .bc cells ty)
  (hi : cells[i]? = some (.sl [] 0 .full)) : ALe E σ (cX (cX σ b (.br [] 0 e sz)) k0 (.bc (cells.set i (.ow b 0 0 0)) ty)) := fun a w G hs => by
 have hm : ∀ k,bP (cX (cX σ b (.br [] 0 e sz)) k0 (.bc (cells.set i (.ow b 0 0 0)) ty)) k = if k0 = k then .bc (cells.set i (.ow b 0 0 0)) ty else if b = k then .br [] 0 e sz else bP σ k := fun k => by rw [cj,cj]
 have hub : lm σ b = .u := (cE (by omega)).trans hu
 have hBl : lm σ k0 = .bc cells ty := (cE hk0.2).trans hB
 have hlm : ∀ k,10000 ≤ k → lm (cX (cX σ b (.br [] 0 e sz)) k0 (.bc (cells.set i (.ow b 0 0 0)) ty)) k = if k0 = k then .bc (cells.set i (.ow b 0 0 0)) ty else if b = k then .br [] 0 e sz else lm σ k := fun k hk => by
  have e1 : ∀ k,10000 ≤ k → lm (cX σ b (.br [] 0 e sz)) k = if b = k then .br [] 0 e sz else lm σ k := fj (fun k _ _ => cj ..) (by omega) (by rw [hu];rfl) rfl
  have e2 : ∀ k,10000 ≤ k → lm (cX (cX σ b (.br [] 0 e sz)) k0 (.bc (cells.set i (.ow b 0 0 0)) ty)) k = if k0 = k then .bc (cells.set i (.ow b 0 0 0)) ty else lm (cX σ b (.br [] 0 e sz)) k := fj (fun k _ _ => cj ..) hk0.2 (by rw [cj,if_neg (fun e => hne e.symm),hB];rfl) rfl
  rw [e2 k hk]
  split
  ·rfl
  ·exact e1 k hk
 generalize cX (cX σ b (.br [] 0 e sz)) k0 (.bc (cells.set i (.ow b 0 0 0)) ty) = σ' at hm hlm
 have hγ : G.γ b = none := by
  cases hg : G.γ b with
  | none => rfl
  | some g =>
   exact ((hs.st.box b g hg).2.2.not_u ((cE (by omega)).trans hu)).elim
 have hst : BStep G (lm σ) G (lm σ') := ⟨.refl _,fun k hk => by
  rw [hlm k hk]
  by_cases h0 : k0 = k
  ·subst h0;rw [if_pos rfl];exact .bc hBl rfl rfl
  rw [if_neg h0]
  by_cases h1 : b = k
  ·subst h1;exact .u hub
  ·rw [if_neg h1];exact .same rfl rfl rfl rfl⟩
 refine ⟨G,hs.defers,hs.tsize,fun k hk => ?_,⟨hs.st.agree,fun k g hk => ?_,fun k cs' ty' hk hc => ?_,hs.st.inj,hs.st.gl⟩,hs.fr,hs.step.trans hst,hs.zp⟩
 ·rw [hm,if_neg (by omega),if_neg (by omega)];exact (hs.slots k hk).step hst
 ·obtain ⟨h1,h2,h3⟩ := hs.st.box k g hk
  refine ⟨h1,h2,?_⟩
  by_cases h0 : k0 = k
  ·subst h0
   rcases h3 with ⟨cs1,ty1,q1,⟨qm,c,q2,q3,q4,q5⟩ | ⟨qm,es,clk,q2,q3,q4⟩⟩ | ⟨_,_,q1,_⟩ | ⟨_,_,_,_,q1,_⟩
   ·rw [hBl] at q1;cases q1
    refine .inl ⟨_,_,by rw [hlm _ h1,if_pos rfl],.inl ⟨qm,c,q2,(by unfold FitsC;rw [List.length_set];exact q3),q4,fun j hj => ?_⟩⟩
    have hj' : j < cells.length := by simpa using hj
    obtain ⟨r1,r2⟩ := q5 j hj'
    refine ⟨?_,r2⟩
    rw [List.getElem_set]
    split
    ·rename_i hij
     subst hij
     obtain ⟨hl,hi2⟩ := List.getElem?_eq_some_iff.1 hi
     rw [hi2] at r1
     obtain ⟨ad,cap,b',off,f,ev,⟨p1,p2,p3,p4,p5⟩,hf,_⟩ := d7 r1
     rw [ev]
     have hcap := hf rfl
     exact .ow ad 0 cap b 0 0 [] 0 e sz hb.1 (by rw [hlm _ hb.1,if_neg hne,if_pos rfl]) p1 (fun _ => hcap) (Nat.le_refl _) fun _ => ⟨fun _ => hcap,fun g hg => by rw [hγ] at hg;cases hg⟩
    ·exact r1.step hst
   ·rw [hBl] at q1;cases q1
    obtain ⟨q4,_⟩ := q4
    rw [q4] at hi
    obtain ⟨v,hv⟩ := l8 (List.mem_of_getElem? hi)
    cases hv
   ·rw [hBl] at q1;cases q1
   ·rw [hBl] at q1;cases q1
  ·refine h3.step hst ?_ rfl rfl rfl fun _ => rfl
   rw [hlm k h1,if_neg h0,if_neg (fun h4 => by rw [← h4,hγ] at hk;cases hk)]
 ·rw [hlm k hk] at hc
  by_cases h0 : k0 = k
  ·subst h0;exact hs.st.real k0 cells ty hk0.1 hBl
  rw [if_neg h0] at hc
  by_cases h1 : b = k
  ·rw [if_pos h1] at hc;cases hc
  ·rw [if_neg h1] at hc;exact hs.st.real k cs' ty' hk hc
end Go.Proofs.YtmpdocplcgbpkaaGreatDoor
namespace Go.Proofs.YtmpdocplcgbpkaaGreatDoor
set_option linter.unusedSimpArgs false
set_option linter.unusedVariables false
open Go.RowKit
def kx (p : Prop) : Prop := p
theorem aa {p : Prop} (h : p) : kx p := h
def EqTo {α : Type} (e : α) (X : α → Prop) : Prop := ∀ v,e = v → X v
theorem ab {α : Type} {e : α} {X : α → Prop} (h : ∀ Y : α → Prop,(∀ v,X v → Y v) → kx (Y e)) : EqTo e X := fun v hv => hv ▸ h X fun _ h => h
theorem EqTo.out {α : Type} {e : α} {X : α → Prop} (h : EqTo e X) : X e := h _ rfl
def tG (p q : Prop) : Prop := p ∧ q
theorem bg {p q : Prop} (h : kx p) (k : q) : tG p q := ⟨h,k⟩
def iY (v : AV) (want : Bool) (A B C : Prop) : Prop := match v with | .c (.bool b) => (b = want → A) ∧ (b = !want → B) | .c (.tuple _) => C | _ => False
theorem an {want : Bool} {A B C : Prop} (h : C) : iY (.c undef) want A B C := h
theorem ao {want : Bool} {A B C : Prop} (h : A) : iY (.c (.bool want)) want A B C := ⟨fun _ => h,fun e => by cases want <;> cases e⟩
theorem am {b want : Bool} {A B C : Prop} (hb : b = !want) (h : B) : iY (.c (.bool b)) want A B C := ⟨(fun e => by subst e;cases b <;> cases hb),fun _ => h⟩
def gO (d : Option Nat) (X : Nat → Prop) : Prop := match d with | some t => t < 10000 ∧ X t | none => False
theorem aF {t : Nat} {X : Nat → Prop} (ht : t < 10000) (h : X t) : gO (some t) X := ⟨ht,h⟩
def x7 (P : Program) (N : Nat) (tk : FuncId → Bool) (ops : Array Oper) (o : Oper) (r : List Oper) (K : bT → Prop) (σ : bT) : Prop :=
 ∀ K' : List (Nat × AV) → Prop,(∀ e,EqTo (cL σ e) (fun σ' => gE P N tk ops r σ' K) → K' e) → kx ((aop P N tk o).wp P σ fun _ e => K' e)
def tH (P : Program) (N : Nat) (tk : FuncId → Bool) (ops : Array Oper) (o : Oper) (r : List Oper) (acc : List Rec) (pre : List Nat) (K : bT → List Rec → Prop) (σ : bT) : Prop :=
 ∀ K' : List Nat → List (Nat × AV) → Prop,(∀ R e,EqTo (cL σ e) (fun σ' => fa P N tk ops r σ' (acc ++ [(pre ++ R,e)]) K) → K' R e) → kx ((aop P N tk o).wp P σ fun R e => K' R e)
section
variable {P : Program} {N : Nat} {tk : FuncId → Bool} {ops : Array Oper} {r : List Oper} {σ : bT} {o : Oper} {g : Nat} {want : Bool}
theorem aR {K : bT → Prop} (h : ∀ K' : List (Nat × AV) → Prop,(∀ e,EqTo (cL σ e) (fun σ' => gE P N tk ops r σ' K) → K' e) → kx ((aop P N tk o).wp P σ fun _ e => K' e)) : x7 P N tk ops o r K σ := h
theorem ap {acc : List Rec} {pre : List Nat} {K : bT → List Rec → Prop} (h : ∀ K' : List Nat → List (Nat × AV) → Prop,(∀ R e,EqTo (cL σ e) (fun σ' => fa P N tk ops r σ' (acc ++ [(pre ++ R,e)]) K) → K' R e) → kx ((aop P N tk o).wp P σ fun R e => K' R e)) : tH P N tk ops o r acc pre K σ := h
theorem aI {K : bT → Prop} (h : K σ) : gE P N tk ops [] σ K := h
theorem aX {K : bT → Prop} (hg : o.guard = none) (h : x7 P N tk ops o r K σ) : gE P N tk ops (o :: r) σ K := by
 unfold gE;rw [hg];exact h _ fun e h => h.out
theorem aW {K : bT → Prop} (hg : o.guard = some (g,want))
  (h : EqTo (jY ops g) fun d => gO d fun t => EqTo (bP σ t) fun v => iY v want (EqTo (cX σ t (.c (.bool want))) (x7 P N tk ops o r K))
   (tG (dj N o) (EqTo (cL (cX σ t (.c (.bool (!want)))) (dz o (.c undef))) fun σ' => gE P N tk ops r σ' K))
   (tG (dj N o) (EqTo (cL σ (dz o (.c undef))) fun σ' => gE P N tk ops r σ' K))) : gE P N tk ops (o :: r) σ K := by
 replace h := h.out
 unfold gE
 rw [hg]
 unfold gO at h
 split at h
 ·rename_i t ht
  simp only [ht]
  obtain ⟨h10,h⟩ := h
  replace h := h.out
  refine ⟨h10,?_⟩
  unfold iY at h
  split at h
  ·rename_i b hb
   simp only [hb]
   by_cases e : b = want
   ·rw [if_pos e];exact (h.1 e).out _ fun e h => h.out
   ·rw [if_neg e]
    have h2 := h.2 (by cases b <;> cases want <;> simp_all)
    exact ⟨h2.1,h2.2.out⟩
  ·rename_i hb
   simp only [hb]
   exact ⟨h.1,h.2.out⟩
  ·exact h.elim
 ·exact h.elim
theorem aj {acc : List Rec} {K : bT → List Rec → Prop} (h : K σ acc) : fa P N tk ops [] σ acc K := h
theorem aN {acc : List Rec} {K : bT → List Rec → Prop} (hg : o.guard = none) (h : tH P N tk ops o r acc [] K σ) : fa P N tk ops (o :: r) σ acc K := by
 unfold fa;rw [hg];exact h _ fun R e h => h.out
theorem aM {acc : List Rec} {K : bT → List Rec → Prop} (hg : o.guard = some (g,want))
  (h : EqTo (jY ops g) fun d => gO d fun t => EqTo (bP σ t) fun v => iY v want (EqTo (cX σ t (.c (.bool want))) (tH P N tk ops o r acc [t] K))
   (tG (dj N o) (EqTo (cL (cX σ t (.c (.bool (!want)))) (dz o (.c undef))) fun σ' => fa P N tk ops r σ' (acc ++ [([t],dz o (.c undef))]) K))
   (tG (dj N o) (EqTo (cL σ (dz o (.c undef))) fun σ' => fa P N tk ops r σ' (acc ++ [([t],dz o (.c undef))]) K))) : fa P N tk ops (o :: r) σ acc K := by
 replace h := h.out
 unfold fa
 rw [hg]
 unfold gO at h
 split at h
 ·rename_i t ht
  simp only [ht]
  obtain ⟨h10,h⟩ := h
  replace h := h.out
  refine ⟨h10,?_⟩
  unfold iY at h
  split at h
  ·rename_i b hb
   simp only [hb]
   by_cases e : b = want
   ·rw [if_pos e];exact (h.1 e).out _ fun R e h => h.out
   ·rw [if_neg e]
    have h2 := h.2 (by cases b <;> cases want <;> simp_all)
    exact ⟨h2.1,h2.2.out⟩
  ·rename_i hb
   simp only [hb]
   exact ⟨h.1,h.2.out⟩
  ·exact h.elim
 ·exact h.elim
end
def x6 (E : Env) (Q : Exit → bT → Prop) (tk : FuncId → Bool) (l : List Oper) (σ₁ : bT) : Prop := ∀ K : bT → Prop,(∀ σ',Q .normal σ' → K σ') → gE E.P E.N tk l.toArray l σ₁ K
theorem bi {E : Env} {Q : Exit → bT → Prop} {tk : FuncId → Bool} {l : List Oper} {σ₁ : bT} (h : ∀ K : bT → Prop,(∀ σ',Q .normal σ' → K σ') → gE E.P E.N tk l.toArray l σ₁ K) : x6 E Q tk l σ₁ := h
def x5 (E : Env) (Q : Exit → bT → Prop) (tk : FuncId → Bool) (l : List Oper) (σ₁ : bT) : Prop := ∀ K : bT → List Rec → Prop,(∀ σ' recs,jH l recs = true → Q .normal σ' → K σ' recs) → fa E.P E.N tk l.toArray l σ₁ [] K
theorem bh {E : Env} {Q : Exit → bT → Prop} {tk : FuncId → Bool} {l : List Oper} {σ₁ : bT} (h : ∀ K : bT → List Rec → Prop,(∀ σ' recs,jH l recs = true → Q .normal σ' → K σ' recs) → fa E.P E.N tk l.toArray l σ₁ [] K) : x5 E Q tk l σ₁ := h
theorem ag {E : Env} {Q : Exit → bT → Prop} {σ : bT} (tk : FuncId → Bool) (LV : Nat → List Nat) {id : Nat} {l : List Oper} (h : EqTo (gn (LV id) σ) (x6 E Q tk l)) : aw E (.region id l.toArray false) Q σ :=
 qr tk LV fun K hK => h.out K hK
theorem aq {E : Env} {Q : Exit → bT → Prop} {σ : bT} (tk : FuncId → Bool) (LV : Nat → List Nat) {id : Nat} {l : List Oper} (hm : E.P.follows .mixedOrders = true) (h : EqTo (gn (LV id) σ) (x5 E Q tk l)) : aw E (.region id l.toArray true) Q σ :=
 tU tk LV hm fun K hK => h.out K hK
theorem ai {E : Env} {Q : Exit → bT → Prop} {σ : bT} {t : Nat} {x y : Code} (ht : t < 10000) (h : EqTo (bP σ t) (mR E x y Q σ)) : aw E (.cond (.tmp t) x y) Q σ := tS ht fun v hv => h v hv
theorem aK {P : Program} {f : FuncId} {a b bxs' : List AV} {r : AV} {X : AV → List AV → Prop} (h : AFn P f a b r bxs') (k : kx (X r bxs')) : ∃ r bxs',AFn P f a b r bxs' ∧ X r bxs' := ⟨r,bxs',h,k⟩
theorem ce {X : World → Result Value} {v : Value} {Q : Value → Prop} (h : ∀ w,X w = .ok v w) (k : kx (Q v)) : ∃ v,(∀ w,X w = .ok v w) ∧ Q v := ⟨v,h,k⟩
theorem aE {X : Value → Prop} (k : kx (X (.bool false))) : ∃ v : Value,(v = .bool true ∨ v = .bool false) ∧ X v := ⟨_,.inr rfl,k⟩
theorem ud {X : Value → Prop} (k : kx (X (.bool true))) : ∃ v : Value,(v = .bool true ∨ v = .bool false) ∧ X v := ⟨_,.inl rfl,k⟩
theorem aH {P : Program} {fn : Func} {nb : Nat} {nw : List Nat} {r : AV} {bxs : List AV} {σ : bT} (h : kx (fin P fn nb nw r bxs σ)) : vB P fn nb nw r bxs .ret σ := h
theorem aG {P : Program} {fn : Func} {nb : Nat} {nw : List Nat} {r : AV} {bxs : List AV} {σ : bT} (h : kx (fin P fn nb nw r bxs σ)) : vB P fn nb nw r bxs .normal σ := h
section
variable {P : Program} {N : Nat} {o : Oper} {σ : bT} {K : List Nat → List (Nat × AV) → Prop}
theorem xF {d : List (Nat × AV)} : TR.wp P (.done d) σ K = K [] d := rfl
theorem zG {k : Nat} {f : AV → TR} : TR.wp P (.rd k f) σ K = (f (bP σ k)).wp P σ fun R d => K (k :: R) d := rfl
theorem xG {p : Prop} {t : TR} : TR.wp P (.need p t) σ K = (p ∧ t.wp P σ K) := rfl
theorem zE {p : Value → Prop} {f : Value → TR} : TR.wp P (.ex p f) σ K = ∃ v,p v ∧ (f v).wp P σ K := rfl
theorem xE {f : FuncId} {args bxs : List AV} {k : AV → List AV → TR} : TR.wp P (.call f args bxs k) σ K = ∃ r bxs',AFn P f args bxs r bxs' ∧ (k r bxs').wp P σ K := rfl
theorem rx {t : Nat} {f : AV → TR} : TR.wp P (rdo (.tmp t) f) σ K = (t < 10000 ∧ TR.wp P (f (bP σ t)) σ fun R d => K (t :: R) d) := rfl
theorem oK {v : Value} {f : AV → TR} : TR.wp P (rdo (.const v) f) σ K = TR.wp P (f (ofV v)) σ K := rfl
theorem mK {g : Nat} {f : AV → TR} : TR.wp P (rdo (.global g) f) σ K = TR.wp P (f (rQ g)) σ K := rfl
theorem qe {i : Nat} {f : AV → TR} : TR.wp P (rdo (.func i) f) σ K = TR.wp P (f (.fn (.func i) [] [])) σ K := rfl
theorem qf {f : List AV → TR} : TR.wp P (rdos [] f) σ K = TR.wp P (f []) σ K := rfl
theorem oL {x : Operand} {l : List Operand} {f : List AV → TR} : TR.wp P (rdos (x :: l) f) σ K = TR.wp P (rdo x fun v => rdos l fun vs => f (v :: vs)) σ K := rfl
theorem oI {f : Option AV → TR} : TR.wp P (mF none f) σ K = TR.wp P (f none) σ K := rfl
theorem oJ {x : Operand} {f : Option AV → TR} : TR.wp P (mF (some x) f) σ K = TR.wp P (rdo x fun v => f (some v)) σ K := rfl
theorem wp_ret {v : AV} : TR.wp P (ret N o v) σ K = (dj N o ∧ K [] (dz o v)) := rfl
theorem uw {b off : Nat} : mC N o (.loc b off) = ret N o (.loc b off) := rfl
theorem wF {b off v : Nat} : mC N o (.lo b off v) = ret N o (.lo b off v) := rfl
theorem wG {cs : List AV} {off : Nat} : mC N o (.rf cs off) = ret N o (.rf cs off) := rfl
theorem wE {i : Nat} {a b : List AV} : mC N o (.fn (.func i) a b) = ret N o (.fn (.func i) a b) := rfl
theorem uv {t : TypeId} {x : AV} : mC N o (.ifc t x) = ret N o (.ifc t x) := rfl
theorem wH {b : Bool} {x y : AV} : m4 N o (.c (.bool b)) x y = ret N o (if b then x else y) := rfl
theorem ur {t off : Nat} {cs : List AV} {f : AV → TR} : lU P t (.rf cs off) f = kLd P t cs off f := rfl
theorem wv {op : BinOp} {t : TypeId} {x y : Operand} {k k' : IntKind} {z z' : Int} : kE P N o op t x y (.c (.int k z)) (.c (.int k' z')) = .need (k = k' ∨ j8 op = true) (match lT op k z z' with | some v => ret N o (.c v) | none => fail) := rfl
theorem wu {op : BinOp} {t : TypeId} {x y : Operand} {t' : TypeId} {a : AV} : kE P N o op t x y (.ifc t' a) (.c .nilIface) = (match ik op with | some r => .need (bo P t = false ∧ (P.underlying t).isSome = true) (ret N o (.c (.bool (!r)))) | none => fail) := rfl
theorem ww {op : BinOp} {t : TypeId} {x y : Operand} {t' : TypeId} {a : AV} : kE P N o op t x y (.c .nilIface) (.ifc t' a) = (match ik op with | some r => .need (bo P t = false ∧ (P.underlying t).isSome = true) (ret N o (.c (.bool (!r)))) | none => fail) := rfl
theorem wx {op : BinOp} {t : TypeId} {x y : Operand} : kE P N o op t x y (.c .nilIface) (.c .nilIface) = iq P N o op t x y .nilIface .nilIface := rfl
theorem wy {op : BinOp} {t : TypeId} {x y : Operand} {a b : ByteArray} : kE P N o op t x y (.c (.string a)) (.c (.string b)) = iq P N o op t x y (.string a) (.string b) := rfl
theorem ws {op : BinOp} {t : TypeId} {x y : Operand} {a b : Bool} : kE P N o op t x y (.c (.bool a)) (.c (.bool b)) = iq P N o op t x y (.bool a) (.bool b) := rfl
theorem wt {op : BinOp} {t : TypeId} {x y : Operand} {t1 t2 : TypeId} {a b : AV} : kE P N o op t x y (.ifc t1 a) (.ifc t2 b) = (match gr (.ifc t1 a),gr (.ifc t2 b) with | some vx,some vy => iq P N o op t x y vx vy | _,_ => fail) := rfl
theorem wq {op : BinOp} {t : TypeId} {x y : Operand} {a b : List AV} : kE P N o op t x y (.agg a) (.agg b) = (match gr (.agg a),gr (.agg b) with | some vx,some vy => iq P N o op t x y vx vy | _,_ => fail) := rfl
theorem wJ {b : Bool} : kUn N o .not (.c (.bool b)) = ret N o (.c (.bool (!b))) := rfl
theorem wI {k : IntKind} {n : Int} : kUn N o .neg (.c (.int k n)) = ret N o (.c (.int k (k.wrap (0 - n)))) := rfl
theorem qM {cs : List AV} {i : Nat} : gU N o (.tup cs) i = .need (i < cs.length) (ret N o (cs.getD i .u)) := rfl
theorem wB {t n : Nat} {cs : List AV} {w : Own} : n7 P N o t (.sl cs n w) = .need ((bL P t).isSome = true) (ret N o (.c (.int .i64 n))) := rfl
theorem uq {t b off n e : Nat} : n7 P N o t (.arr b off n e) = .need ((bL P t).isSome = true) (ret N o (.c (.int .i64 n))) := rfl
theorem wA {t b off n v : Nat} : n7 P N o t (.ow b off n v) = .need ((bL P t).isSome = true) (ret N o (.c (.int .i64 n))) := rfl
theorem yB {t : Nat} {s : ByteArray} : n7 P N o t (.c (.string s)) = .need (bS P t = true) (ret N o (.c (.int .i64 s.size))) := rfl
theorem wC {k k' : IntKind} {m n : Int} : kMM N o true (.c (.int k m)) (.c (.int k' n)) = ret N o (.c (.int k (if n > m then n else m))) := rfl
theorem wD {k k' : IntKind} {m n : Int} : kMM N o false (.c (.int k m)) (.c (.int k' n)) = ret N o (.c (.int k (if n < m then n else m))) := rfl
end
attribute [go_sem] rQ rP
attribute [-go_sem] gE TR.wp mC m4 kE kUn gU n7 aop
attribute [go_sem] uw wF wG wE uv wH ur wv wu ww wx wy ws wt wq wJ wI qM wB uq wA yB wC wD
attribute [go_sem ↓] xF zG xG zE xE rx oK mK qe qf oL oI oJ wp_ret
end Go.Proofs.YtmpdocplcgbpkaaGreatDoor

/- K: the walk's rules. No program is in sight. K: tokens for rows that hang in a box. No program is in sight. K: step by step: one operation at a time, what comes behind it not in sight. No program is in sight. -/
import Derived.Test.YtiiaokjgbjhfhaaGreatDoorZ5
import Derived.Test.YtiiaokjgbjhfhaaGreatDoorZ3
namespace Go.Proofs.YtiiaokjgbjhfhaaGreatDoor
set_option linter.unusedSimpArgs false
set_option linter.unusedVariables false
open Go.RowKit
attribute [go_sem] isM iA gU fI gA kZ hJ hM eE TR.wp aop rdo rdos bm ch cb cO cD ret fail ofV kLd iq jQ jE oG iW fg jK fh jL ip gy pg ep gJ fc kUn jh gz lc eP fC jI g7 ew fi jN jO nz jP hR c6 jG hI pE nA rdRow eU c7 dQ gT oY fx pV ec eL jM jH eO jF eu ox db ren cQ dW ke rdBoxes gather bE cZ d9 pD lU jJ k8 qe iX AV.one bU c9 cH putAt gv ef cx f8 mrm mgc lV fL List.any_cons List.any_nil bu bf fin mz mL dz fd dp m9 gk lT qg du nV iR fa ff
def tk0 : FuncId → Bool := fun _ => true
attribute [go_sem] tk0 Option.isSome_some Option.isSome_none Value.oneCell' Nat.min_def if_true if_false and_true true_and and_false false_and or_true true_or or_false false_or not_true not_false_eq_true Bool.not_true Bool.not_false ne_eq List.length_cons List.length_nil List.length_map List.map_cons List.map_nil List.append_nil List.nil_append List.cons_append List.getD_cons_zero List.getD_cons_succ List.drop_succ_cons List.drop_zero List.take_succ_cons List.take_zero List.drop_nil List.take_nil List.flatMap_cons List.flatMap_nil List.zip_cons_cons List.zip_nil_left List.zip_nil_right List.getElem?_toArray List.getElem?_cons_zero List.getElem?_cons_succ List.getElem?_nil List.contains_cons List.contains_nil List.mapM_cons List.mapM_nil List.all_cons List.all_nil List.range_zero List.range_succ Option.bind_some Option.bind_none Option.map_some Option.map_none Option.pure_def Option.bind_eq_bind Bool.and_false Bool.false_and Bool.and_true Bool.true_and Bool.or_false Bool.false_or Bool.or_true Bool.true_or Bool.and_eq_true beq_self_eq_true Nat.zero_add Nat.add_zero Nat.zero_mul Nat.mul_one Nat.one_mul Nat.mul_zero Nat.sub_zero Int.toNat_zero exists_eq_left exists_eq' Nat.add_eq_zero_iff decide_eq_true_eq decide_true decide_false bne_self_eq_false Nat.beq_eq_true_eq beq_iff_eq Array.toList_map Int.toNat_natCast
theorem aY {p q : Prop} (hp : p) (hq : q) : p ∧ q := ⟨hp,hq⟩
def je (E : Env) (x y : Code) (Q : Exit → bq → Prop) (σ : bq) : AV → Prop
 | .c (.bool b) => (b = true → aw E x Q σ) ∧ (b = false → aw E y Q σ)
 | _ => False
theorem mZ {E : Env} {Q : Exit → bq → Prop} {σ : bq} {t : Nat} {x y : Code} (ht : t < 10000) (h : ∀ v,bm σ t = v → je E x y Q σ v) : aw E (.cond (.tmp t) x y) Q σ := by
 replace h := h _ rfl
 unfold je at h
 split at h
 ·rename_i b hb;exact nZ ht hb h.1 h.2
 ·exact h.elim
theorem ay {E : Env} {Q : Exit → bq → Prop} {σ : bq} {x y : Code} (h : aw E x Q σ) : je E x y Q σ (.c (.bool true)) := ⟨(fun _ => h),(fun e => by cases e)⟩
theorem az {E : Env} {Q : Exit → bq → Prop} {σ : bq} {x y : Code} (h : aw E y Q σ) : je E x y Q σ (.c (.bool false)) := ⟨(fun e => by cases e),(fun _ => h)⟩
theorem aH {E : Env} {Q : Exit → bq → Prop} {σ : bq} {x y : Code} {b : Bool} (h1 : b = true → aw E x Q σ) (h2 : b = false → aw E y Q σ) : je E x y Q σ (.c (.bool b)) := ⟨h1,h2⟩
theorem ag {E : Env} {Q : Exit → bq → Prop} {σ : bq} {x y : Code} (h : aw E x Q σ) : aw E (.cond (.const (.bool true)) x y) Q σ := kg (fun _ => h) (fun e => by cases e)
theorem af {E : Env} {Q : Exit → bq → Prop} {σ : bq} {x y : Code} (h : aw E y Q σ) : aw E (.cond (.const (.bool false)) x y) Q σ := kg (fun e => by cases e) (fun _ => h)
theorem kQ {E : Env} {Q : Exit → bq → Prop} {σ : bq} (tk : FuncId → Bool) (LV : Nat → List Nat) {id : Nat} {l : List Oper} (h : ∀ K : bq → Prop,(∀ σ',Q .normal σ' → K σ') → eE E.P E.N tk l.toArray l (fL (LV id) σ) K) : aw E (.region id l.toArray false) Q σ :=
 pA (fS (LV id) σ) (mm tk h)
theorem m3 {E : Env} {Q : Exit → bq → Prop} {σ : bq} (tk : FuncId → Bool) (LV : Nat → List Nat) {id : Nat} {l : List Oper} (hm : E.P.follows .mixedOrders = true)
  (h : ∀ K : bq → List Rec → Prop,(∀ σ' recs,gd l recs = true → Q .normal σ' → K σ' recs) → dx E.P E.N tk l.toArray l (fL (LV id) σ) [] K) : aw E (.region id l.toArray true) Q σ := pA (fS (LV id) σ) (m2 tk hm h)
theorem aO {K : bq → Prop} {Q : Exit → bq → Prop} {σ : bq} (h : K σ) : iR K Q .normal σ := h
theorem aU {K : bq → Prop} {Q : Exit → bq → Prop} {σ : bq} {e : Nat} (h : Q (.exit e) σ) : iR K Q (.exit e) σ := h
theorem aQ {K : bq → Prop} {Q : Exit → bq → Prop} {σ : bq} (h : Q .ret σ) : iR K Q .ret σ := h
theorem aC {id : Nat} {Q : Exit → bq → Prop} {σ : bq} (h : Q .normal σ) : fa id Q .normal σ := h
theorem aD {id : Nat} {Q : Exit → bq → Prop} {σ : bq} (h : Q .ret σ) : fa id Q .ret σ := h
theorem aF {id : Nat} {Q : Exit → bq → Prop} {σ : bq} (h : Q .normal σ) : fa id Q (.exit id) σ := by simp only [fa,if_true];exact h
theorem aG {id i : Nat} {Q : Exit → bq → Prop} {σ : bq} (hi : ¬ i = id) (h : Q (.exit i) σ) : fa id Q (.exit i) σ := by simp only [fa,if_neg hi];exact h
theorem bJ {E : Env} {Q : Exit → bq → Prop} {σ : bq} {c : Code} (L : List Nat) {σ' : bq} (hσ : fL L σ = σ') (h : awl E c Q σ') : awl E c Q σ := dI (fS L σ) (hσ ▸ h)
theorem jw {E : Env} {Q : Exit → bq → Prop} {σ σ' : bq} {c : Code} (h : awl E c Q σ') (e : σ = σ') : awl E c Q σ := e ▸ h
theorem cq {E : Env} {Q : Exit → bq → Prop} {c : Code} {α : Type} (I : α → bq) (P : α → Prop) (m : α → Nat) (x0 : α) {σ : bq} (L : List Nat) (h0 : fL L σ = I x0) (hp : P x0)
  (step : ∀ x,P x → (∀ y,P y → m y < m x → awl E c Q (I y)) → aw E c (iR (awl E c Q) Q) (I x)) : awl E c Q σ := by
 have all : ∀ n x,m x = n → P x → awl E c Q (I x) := fun n => by
  induction n using Nat.strongRecOn with
  | _ n ih => exact fun x hx hP => bV (step x hP fun y hy hm => ih (m y) (hx ▸ hm) y rfl hy)
 exact dI (fS L σ) (h0 ▸ all _ x0 rfl hp)
theorem bQ {x : Int} (h1 : -9223372036854775808 ≤ x) (h2 : x ≤ 9223372036854775807) : IntKind.i64.wrap x = x := by
 have e : IntKind.i64.wrap x = if x % 18446744073709551616 ≥ 9223372036854775808 then x % 18446744073709551616 - 18446744073709551616 else x % 18446744073709551616 := by
  simp [IntKind.wrap,IntKind.bits,IntKind.signed]
 rw [e]
 split <;> omega
end Go.Proofs.YtiiaokjgbjhfhaaGreatDoor
namespace Go.Proofs.YtiiaokjgbjhfhaaGreatDoor
set_option linter.unusedSimpArgs false
set_option linter.unusedVariables false
open Go.RowKit
theorem ii {E : Env} {σ : bq} {b k0 i n : Nat} {cs cells : List AV} {ty : TypeId} (e : TypeId) (hb : 10000 ≤ b ∧ b < 20000) (hk0 : 10000 ≤ k0 ∧ k0 < 1000000) (hne : ¬ k0 = b) (hu : bm σ b = .u) (hB : bm σ k0 = .bc cells ty)
  (hi : cells[i]? = some (.sl cs n .full)) : ALe E σ (ch (ch σ b (.bt n e)) k0 (.bc (cells.set i (.sl cs n (.tok b))) ty)) := fun a w G hs => by
 have hm : ∀ k,bm (ch (ch σ b (.bt n e)) k0 (.bc (cells.set i (.sl cs n (.tok b))) ty)) k = if k0 = k then .bc (cells.set i (.sl cs n (.tok b))) ty else if b = k then .bt n e else bm σ k := fun k => by rw [bH,bH]
 have hub : lm σ b = .u := (b7 (by omega)).trans hu
 have hBl : lm σ k0 = .bc cells ty := (b7 hk0.2).trans hB
 have hlm : ∀ k,10000 ≤ k → lm (ch (ch σ b (.bt n e)) k0 (.bc (cells.set i (.sl cs n (.tok b))) ty)) k = if k0 = k then .bc (cells.set i (.sl cs n (.tok b))) ty else if b = k then .bt n e else lm σ k := fun k hk => by
  have e1 : ∀ k,10000 ≤ k → lm (ch σ b (.bt n e)) k = if b = k then .bt n e else lm σ k := dB (fun k _ _ => bH ..) (by omega) (by rw [hu];rfl) rfl
  have e2 : ∀ k,10000 ≤ k → lm (ch (ch σ b (.bt n e)) k0 (.bc (cells.set i (.sl cs n (.tok b))) ty)) k = if k0 = k then .bc (cells.set i (.sl cs n (.tok b))) ty else lm (ch σ b (.bt n e)) k := dB (fun k _ _ => bH ..) hk0.2 (by rw [bH,if_neg (fun e => hne e.symm),hB];rfl) rfl
  rw [e2 k hk]
  split
  ·rfl
  ·exact e1 k hk
 generalize ch (ch σ b (.bt n e)) k0 (.bc (cells.set i (.sl cs n (.tok b))) ty) = σ' at hm hlm
 have hγ : G.γ b = none := by
  cases hg : G.γ b with
  | none => rfl
  | some g =>
   exact ((hs.st.box b g hg).2.2.not_u ((b7 (by omega)).trans hu)).elim
 have hst : BStep G (lm σ) G (lm σ') := ⟨.refl _,fun k hk => by
  rw [hlm k hk]
  by_cases h0 : k0 = k
  ·subst h0;rw [if_pos rfl];exact .bc hBl rfl rfl
  rw [if_neg h0]
  by_cases h1 : b = k
  ·subst h1;exact .u hub
  ·rw [if_neg h1];exact .same rfl rfl rfl rfl⟩
 refine ⟨G,hs.defers,hs.tsize,fun k hk => ?_,⟨hs.st.agree,fun k g hk => ?_,fun k cs' ty' hk hc => ?_,hs.st.inj,hs.st.gl⟩,hs.fr,hs.step.trans hst,hs.zp⟩
 ·rw [hm,if_neg (by omega),if_neg (by omega)];exact (hs.slots k hk).step hst
 ·obtain ⟨h1,h2,h3⟩ := hs.st.box k g hk
  refine ⟨h1,h2,?_⟩
  by_cases h0 : k0 = k
  ·subst h0
   rcases h3 with ⟨cs1,ty1,q1,⟨qm,c,q2,q3,q4,q5⟩ | ⟨qm,es,clk,q2,q3,q4⟩⟩ | ⟨_,_,q1,_⟩ | ⟨_,_,_,_,q1,_⟩
   ·rw [hBl] at q1;cases q1
    refine .inl ⟨_,_,by rw [hlm _ h1,if_pos rfl],.inl ⟨qm,c,q2,(by unfold FitsC;rw [List.length_set];exact q3),q4,fun j hj => ?_⟩⟩
    have hj' : j < cells.length := by simpa using hj
    obtain ⟨r1,r2⟩ := q5 j hj'
    refine ⟨?_,r2⟩
    rw [List.getElem_set]
    split
    ·rename_i hij
     subst hij
     obtain ⟨hl,hi2⟩ := List.getElem?_eq_some_iff.1 hi
     rw [hi2] at r1
     obtain ⟨ad,cap,b',off,f,ev,⟨p1,p2,p3,p4,p5⟩,hf,_⟩ := df r1
     rw [ev]
     refine .tok ad n cap cs b n e (.sl ad b' off n cap .none cs f (.inl rfl) p1 p2 p3 p4 p5) hb.1 (by rw [hlm _ hb.1,if_neg hne,if_pos rfl]) (Nat.le_refl _) fun _ => ⟨fun _ => hf rfl,fun g hg => by rw [hγ] at hg;cases hg⟩
    ·exact r1.step hst
   ·rw [hBl] at q1;cases q1
    obtain ⟨q4,_⟩ := q4
    rw [q4] at hi
    obtain ⟨v,hv⟩ := ix (List.mem_of_getElem? hi)
    cases hv
   ·rw [hBl] at q1;cases q1
   ·rw [hBl] at q1;cases q1
  ·refine h3.step hst ?_ rfl rfl rfl fun _ => rfl
   rw [hlm k h1,if_neg h0,if_neg (fun h4 => by rw [← h4,hγ] at hk;cases hk)]
 ·rw [hlm k hk] at hc
  by_cases h0 : k0 = k
  ·subst h0;exact hs.st.real k0 cells ty hk0.1 hBl
  rw [if_neg h0] at hc
  by_cases h1 : b = k
  ·rw [if_pos h1] at hc;cases hc
  ·rw [if_neg h1] at hc;exact hs.st.real k cs' ty' hk hc
theorem lE {E : Env} {σ : bq} {b k0 i : Nat} {cells : List AV} {ty : TypeId} (e sz : Nat) (hb : 10000 ≤ b ∧ b < 20000) (hk0 : 10000 ≤ k0 ∧ k0 < 1000000) (hne : ¬ k0 = b) (hu : bm σ b = .u) (hB : bm σ k0 = .bc cells ty)
  (hi : cells[i]? = some (.sl [] 0 .full)) : ALe E σ (ch (ch σ b (.br [] 0 e sz)) k0 (.bc (cells.set i (.ow b 0 0 0)) ty)) := fun a w G hs => by
 have hm : ∀ k,bm (ch (ch σ b (.br [] 0 e sz)) k0 (.bc (cells.set i (.ow b 0 0 0)) ty)) k = if k0 = k then .bc (cells.set i (.ow b 0 0 0)) ty else if b = k then .br [] 0 e sz else bm σ k := fun k => by rw [bH,bH]
 have hub : lm σ b = .u := (b7 (by omega)).trans hu
 have hBl : lm σ k0 = .bc cells ty := (b7 hk0.2).trans hB
 have hlm : ∀ k,10000 ≤ k → lm (ch (ch σ b (.br [] 0 e sz)) k0 (.bc (cells.set i (.ow b 0 0 0)) ty)) k = if k0 = k then .bc (cells.set i (.ow b 0 0 0)) ty else if b = k then .br [] 0 e sz else lm σ k := fun k hk => by
  have e1 : ∀ k,10000 ≤ k → lm (ch σ b (.br [] 0 e sz)) k = if b = k then .br [] 0 e sz else lm σ k := dB (fun k _ _ => bH ..) (by omega) (by rw [hu];rfl) rfl
  have e2 : ∀ k,10000 ≤ k → lm (ch (ch σ b (.br [] 0 e sz)) k0 (.bc (cells.set i (.ow b 0 0 0)) ty)) k = if k0 = k then .bc (cells.set i (.ow b 0 0 0)) ty else lm (ch σ b (.br [] 0 e sz)) k := dB (fun k _ _ => bH ..) hk0.2 (by rw [bH,if_neg (fun e => hne e.symm),hB];rfl) rfl
  rw [e2 k hk]
  split
  ·rfl
  ·exact e1 k hk
 generalize ch (ch σ b (.br [] 0 e sz)) k0 (.bc (cells.set i (.ow b 0 0 0)) ty) = σ' at hm hlm
 have hγ : G.γ b = none := by
  cases hg : G.γ b with
  | none => rfl
  | some g =>
   exact ((hs.st.box b g hg).2.2.not_u ((b7 (by omega)).trans hu)).elim
 have hst : BStep G (lm σ) G (lm σ') := ⟨.refl _,fun k hk => by
  rw [hlm k hk]
  by_cases h0 : k0 = k
  ·subst h0;rw [if_pos rfl];exact .bc hBl rfl rfl
  rw [if_neg h0]
  by_cases h1 : b = k
  ·subst h1;exact .u hub
  ·rw [if_neg h1];exact .same rfl rfl rfl rfl⟩
 refine ⟨G,hs.defers,hs.tsize,fun k hk => ?_,⟨hs.st.agree,fun k g hk => ?_,fun k cs' ty' hk hc => ?_,hs.st.inj,hs.st.gl⟩,hs.fr,hs.step.trans hst,hs.zp⟩
 ·rw [hm,if_neg (by omega),if_neg (by omega)];exact (hs.slots k hk).step hst
 ·obtain ⟨h1,h2,h3⟩ := hs.st.box k g hk
  refine ⟨h1,h2,?_⟩
  by_cases h0 : k0 = k
  ·subst h0
   rcases h3 with ⟨cs1,ty1,q1,⟨qm,c,q2,q3,q4,q5⟩ | ⟨qm,es,clk,q2,q3,q4⟩⟩ | ⟨_,_,q1,_⟩ | ⟨_,_,_,_,q1,_⟩
   ·rw [hBl] at q1;cases q1
    refine .inl ⟨_,_,by rw [hlm _ h1,if_pos rfl],.inl ⟨qm,c,q2,(by unfold FitsC;rw [List.length_set];exact q3),q4,fun j hj => ?_⟩⟩
    have hj' : j < cells.length := by simpa using hj
    obtain ⟨r1,r2⟩ := q5 j hj'
    refine ⟨?_,r2⟩
    rw [List.getElem_set]
    split
    ·rename_i hij
     subst hij
     obtain ⟨hl,hi2⟩ := List.getElem?_eq_some_iff.1 hi
     rw [hi2] at r1
     obtain ⟨ad,cap,b',off,f,ev,⟨p1,p2,p3,p4,p5⟩,hf,_⟩ := df r1
     rw [ev]
     have hcap := hf rfl
     exact .ow ad 0 cap b 0 0 [] 0 e sz hb.1 (by rw [hlm _ hb.1,if_neg hne,if_pos rfl]) p1 (fun _ => hcap) (Nat.le_refl _) fun _ => ⟨fun _ => hcap,fun g hg => by rw [hγ] at hg;cases hg⟩
    ·exact r1.step hst
   ·rw [hBl] at q1;cases q1
    obtain ⟨q4,_⟩ := q4
    rw [q4] at hi
    obtain ⟨v,hv⟩ := ix (List.mem_of_getElem? hi)
    cases hv
   ·rw [hBl] at q1;cases q1
   ·rw [hBl] at q1;cases q1
  ·refine h3.step hst ?_ rfl rfl rfl fun _ => rfl
   rw [hlm k h1,if_neg h0,if_neg (fun h4 => by rw [← h4,hγ] at hk;cases hk)]
 ·rw [hlm k hk] at hc
  by_cases h0 : k0 = k
  ·subst h0;exact hs.st.real k0 cells ty hk0.1 hBl
  rw [if_neg h0] at hc
  by_cases h1 : b = k
  ·rw [if_pos h1] at hc;cases hc
  ·rw [if_neg h1] at hc;exact hs.st.real k cs' ty' hk hc
end Go.Proofs.YtiiaokjgbjhfhaaGreatDoor
namespace Go.Proofs.YtiiaokjgbjhfhaaGreatDoor
set_option linter.unusedSimpArgs false
set_option linter.unusedVariables false
open Go.RowKit
def gG (p : Prop) : Prop := p
theorem aa {p : Prop} (h : p) : gG p := h
def EqTo {α : Type} (e : α) (X : α → Prop) : Prop := ∀ v,e = v → X v
theorem ab {α : Type} {e : α} {X : α → Prop} (h : ∀ Y : α → Prop,(∀ v,X v → Y v) → gG (Y e)) : EqTo e X := fun v hv => hv ▸ h X fun _ h => h
theorem EqTo.out {α : Type} {e : α} {X : α → Prop} (h : EqTo e X) : X e := h _ rfl
def mP (p q : Prop) : Prop := p ∧ q
theorem bk {p q : Prop} (h : gG p) (k : q) : mP p q := ⟨h,k⟩
def fF (v : AV) (want : Bool) (A B C : Prop) : Prop := match v with | .c (.bool b) => (b = want → A) ∧ (b = !want → B) | .c (.tuple _) => C | _ => False
theorem ao {want : Bool} {A B C : Prop} (h : C) : fF (.c undef) want A B C := h
theorem ap {want : Bool} {A B C : Prop} (h : A) : fF (.c (.bool want)) want A B C := ⟨fun _ => h,fun e => by cases want <;> cases e⟩
theorem an {b want : Bool} {A B C : Prop} (hb : b = !want) (h : B) : fF (.c (.bool b)) want A B C := ⟨(fun e => by subst e;cases b <;> cases hb),fun _ => h⟩
theorem am {b want : Bool} {A B C : Prop} (h1 : b = want → A) (h2 : b = !want → B) : fF (.c (.bool b)) want A B C := ⟨h1,h2⟩
def gO (d : Option Nat) (X : Nat → Prop) : Prop := match d with | some t => t < 10000 ∧ X t | none => False
theorem aJ {t : Nat} {X : Nat → Prop} (ht : t < 10000) (h : X t) : gO (some t) X := ⟨ht,h⟩
def pK (P : Program) (N : Nat) (tk : FuncId → Bool) (ops : Array Oper) (o : Oper) (r : List Oper) (K : bq → Prop) (σ : bq) : Prop :=
 ∀ K' : List (Nat × AV) → Prop,(∀ e,EqTo (cb σ e) (fun σ' => eE P N tk ops r σ' K) → K' e) → gG ((aop P N tk o).wp P σ fun _ e => K' e)
def mQ (P : Program) (N : Nat) (tk : FuncId → Bool) (ops : Array Oper) (o : Oper) (r : List Oper) (acc : List Rec) (pre : List Nat) (K : bq → List Rec → Prop) (σ : bq) : Prop :=
 ∀ K' : List Nat → List (Nat × AV) → Prop,(∀ R e,EqTo (cb σ e) (fun σ' => dx P N tk ops r σ' (acc ++ [(pre ++ R,e)]) K) → K' R e) → gG ((aop P N tk o).wp P σ fun R e => K' R e)
section
variable {P : Program} {N : Nat} {tk : FuncId → Bool} {ops : Array Oper} {r : List Oper} {σ : bq} {o : Oper} {g : Nat} {want : Bool}
theorem aR {K : bq → Prop} (h : ∀ K' : List (Nat × AV) → Prop,(∀ e,EqTo (cb σ e) (fun σ' => eE P N tk ops r σ' K) → K' e) → gG ((aop P N tk o).wp P σ fun _ e => K' e)) : pK P N tk ops o r K σ := h
theorem aq {acc : List Rec} {pre : List Nat} {K : bq → List Rec → Prop} (h : ∀ K' : List Nat → List (Nat × AV) → Prop,(∀ R e,EqTo (cb σ e) (fun σ' => dx P N tk ops r σ' (acc ++ [(pre ++ R,e)]) K) → K' R e) → gG ((aop P N tk o).wp P σ fun R e => K' R e)) : mQ P N tk ops o r acc pre K σ := h
theorem av {K : bq → Prop} (h : K σ) : eE P N tk ops [] σ K := h
theorem aX {K : bq → Prop} (hg : o.guard = none) (h : pK P N tk ops o r K σ) : eE P N tk ops (o :: r) σ K := by
 unfold eE;rw [hg];exact h _ fun e h => h.out
theorem aZ {K : bq → Prop} (hg : o.guard = some (g,want))
  (h : EqTo (gv ops g) fun d => gO d fun t => EqTo (bm σ t) fun v => fF v want (EqTo (ch σ t (.c (.bool want))) (pK P N tk ops o r K))
   (mP (cD N o) (EqTo (cb (ch σ t (.c (.bool (!want)))) (cO o (.c undef))) fun σ' => eE P N tk ops r σ' K))
   (mP (cD N o) (EqTo (cb σ (cO o (.c undef))) fun σ' => eE P N tk ops r σ' K))) : eE P N tk ops (o :: r) σ K := by
 replace h := h.out
 unfold eE
 rw [hg]
 unfold gO at h
 split at h
 ·rename_i t ht
  simp only [ht]
  obtain ⟨h10,h⟩ := h
  replace h := h.out
  refine ⟨h10,?_⟩
  unfold fF at h
  split at h
  ·rename_i b hb
   simp only [hb]
   by_cases e : b = want
   ·rw [if_pos e];exact (h.1 e).out _ fun e h => h.out
   ·rw [if_neg e]
    have h2 := h.2 (by cases b <;> cases want <;> simp_all)
    exact ⟨h2.1,h2.2.out⟩
  ·rename_i hb
   simp only [hb]
   exact ⟨h.1,h.2.out⟩
  ·exact h.elim
 ·exact h.elim
theorem al {acc : List Rec} {K : bq → List Rec → Prop} (h : K σ acc) : dx P N tk ops [] σ acc K := h
theorem aT {acc : List Rec} {K : bq → List Rec → Prop} (hg : o.guard = none) (h : mQ P N tk ops o r acc [] K σ) : dx P N tk ops (o :: r) σ acc K := by
 unfold dx;rw [hg];exact h _ fun R e h => h.out
theorem aS {acc : List Rec} {K : bq → List Rec → Prop} (hg : o.guard = some (g,want))
  (h : EqTo (gv ops g) fun d => gO d fun t => EqTo (bm σ t) fun v => fF v want (EqTo (ch σ t (.c (.bool want))) (mQ P N tk ops o r acc [t] K))
   (mP (cD N o) (EqTo (cb (ch σ t (.c (.bool (!want)))) (cO o (.c undef))) fun σ' => dx P N tk ops r σ' (acc ++ [([t],cO o (.c undef))]) K))
   (mP (cD N o) (EqTo (cb σ (cO o (.c undef))) fun σ' => dx P N tk ops r σ' (acc ++ [([t],cO o (.c undef))]) K))) : dx P N tk ops (o :: r) σ acc K := by
 replace h := h.out
 unfold dx
 rw [hg]
 unfold gO at h
 split at h
 ·rename_i t ht
  simp only [ht]
  obtain ⟨h10,h⟩ := h
  replace h := h.out
  refine ⟨h10,?_⟩
  unfold fF at h
  split at h
  ·rename_i b hb
   simp only [hb]
   by_cases e : b = want
   ·rw [if_pos e];exact (h.1 e).out _ fun R e h => h.out
   ·rw [if_neg e]
    have h2 := h.2 (by cases b <;> cases want <;> simp_all)
    exact ⟨h2.1,h2.2.out⟩
  ·rename_i hb
   simp only [hb]
   exact ⟨h.1,h.2.out⟩
  ·exact h.elim
 ·exact h.elim
end
def qM (E : Env) (Q : Exit → bq → Prop) (tk : FuncId → Bool) (l : List Oper) (σ₁ : bq) : Prop := ∀ K : bq → Prop,(∀ σ',Q .normal σ' → K σ') → eE E.P E.N tk l.toArray l σ₁ K
theorem bj {E : Env} {Q : Exit → bq → Prop} {tk : FuncId → Bool} {l : List Oper} {σ₁ : bq} (h : ∀ K : bq → Prop,(∀ σ',Q .normal σ' → K σ') → eE E.P E.N tk l.toArray l σ₁ K) : qM E Q tk l σ₁ := h
def qL (E : Env) (Q : Exit → bq → Prop) (tk : FuncId → Bool) (l : List Oper) (σ₁ : bq) : Prop := ∀ K : bq → List Rec → Prop,(∀ σ' recs,gd l recs = true → Q .normal σ' → K σ' recs) → dx E.P E.N tk l.toArray l σ₁ [] K
theorem bl {E : Env} {Q : Exit → bq → Prop} {tk : FuncId → Bool} {l : List Oper} {σ₁ : bq} (h : ∀ K : bq → List Rec → Prop,(∀ σ' recs,gd l recs = true → Q .normal σ' → K σ' recs) → dx E.P E.N tk l.toArray l σ₁ [] K) : qL E Q tk l σ₁ := h
theorem ae {E : Env} {Q : Exit → bq → Prop} {σ : bq} (tk : FuncId → Bool) (LV : Nat → List Nat) {id : Nat} {l : List Oper} (h : EqTo (fL (LV id) σ) (qM E Q tk l)) : aw E (.region id l.toArray false) Q σ :=
 kQ tk LV fun K hK => h.out K hK
theorem ak {E : Env} {Q : Exit → bq → Prop} {σ : bq} (tk : FuncId → Bool) (LV : Nat → List Nat) {id : Nat} {l : List Oper} (hm : E.P.follows .mixedOrders = true) (h : EqTo (fL (LV id) σ) (qL E Q tk l)) : aw E (.region id l.toArray true) Q σ :=
 m3 tk LV hm fun K hK => h.out K hK
theorem ai {E : Env} {Q : Exit → bq → Prop} {σ : bq} {t : Nat} {x y : Code} (ht : t < 10000) (h : EqTo (bm σ t) (je E x y Q σ)) : aw E (.cond (.tmp t) x y) Q σ := mZ ht fun v hv => h v hv
theorem au {P : Program} {f : FuncId} {a b bxs' : List AV} {r : AV} {X : AV → List AV → Prop} (h : AFn P f a b r bxs') (k : gG (X r bxs')) : ∃ r bxs',AFn P f a b r bxs' ∧ X r bxs' := ⟨r,bxs',h,k⟩
theorem cI {X : World → Result Value} {v : Value} {Q : Value → Prop} (h : ∀ w,X w = .ok v w) (k : gG (Q v)) : ∃ v,(∀ w,X w = .ok v w) ∧ Q v := ⟨v,h,k⟩
theorem aI {X : Value → Prop} (k : gG (X (.bool false))) : ∃ v : Value,(v = .bool true ∨ v = .bool false) ∧ X v := ⟨_,.inr rfl,k⟩
theorem jB {X : Value → Prop} (k : gG (X (.bool true))) : ∃ v : Value,(v = .bool true ∨ v = .bool false) ∧ X v := ⟨_,.inl rfl,k⟩
theorem aA {P : Program} {fn : Func} {nb : Nat} {nw : List Nat} {r : AV} {bxs : List AV} {σ : bq} (h : gG (fin P fn nb nw r bxs σ)) : nV P fn nb nw r bxs .ret σ := h
theorem aK {P : Program} {fn : Func} {nb : Nat} {nw : List Nat} {r : AV} {bxs : List AV} {σ : bq} (h : gG (fin P fn nb nw r bxs σ)) : nV P fn nb nw r bxs .normal σ := h
section
variable {P : Program} {N : Nat} {o : Oper} {σ : bq} {K : List Nat → List (Nat × AV) → Prop}
theorem pi {d : List (Nat × AV)} : TR.wp P (.done d) σ K = K [] d := rfl
theorem rj {k : Nat} {f : AV → TR} : TR.wp P (.rd k f) σ K = (f (bm σ k)).wp P σ fun R d => K (k :: R) d := rfl
theorem pj {p : Prop} {t : TR} : TR.wp P (.need p t) σ K = (p ∧ t.wp P σ K) := rfl
theorem ri {p : Value → Prop} {f : Value → TR} : TR.wp P (.ex p f) σ K = ∃ v,p v ∧ (f v).wp P σ K := rfl
theorem ph {f : FuncId} {args bxs : List AV} {k : AV → List AV → TR} : TR.wp P (.call f args bxs k) σ K = ∃ r bxs',AFn P f args bxs r bxs' ∧ (k r bxs').wp P σ K := rfl
theorem lx {t : Nat} {f : AV → TR} : TR.wp P (rdo (.tmp t) f) σ K = (t < 10000 ∧ TR.wp P (f (bm σ t)) σ fun R d => K (t :: R) d) := rfl
theorem ka {v : Value} {f : AV → TR} : TR.wp P (rdo (.const v) f) σ K = TR.wp P (f (ofV v)) σ K := rfl
theorem i5 {g : Nat} {f : AV → TR} : TR.wp P (rdo (.global g) f) σ K = TR.wp P (f (lS g)) σ K := rfl
theorem kK {i : Nat} {f : AV → TR} : TR.wp P (rdo (.func i) f) σ K = TR.wp P (f (.fn (.func i) [] [])) σ K := rfl
theorem kL {f : List AV → TR} : TR.wp P (rdos [] f) σ K = TR.wp P (f []) σ K := rfl
theorem kc {x : Operand} {l : List Operand} {f : List AV → TR} : TR.wp P (rdos (x :: l) f) σ K = TR.wp P (rdo x fun v => rdos l fun vs => f (v :: vs)) σ K := rfl
theorem j8 {f : Option AV → TR} : TR.wp P (iX none f) σ K = TR.wp P (f none) σ K := rfl
theorem j9 {x : Operand} {f : Option AV → TR} : TR.wp P (iX (some x) f) σ K = TR.wp P (rdo x fun v => f (some v)) σ K := rfl
theorem wp_ret {v : AV} : TR.wp P (ret N o v) σ K = (cD N o ∧ K [] (cO o v)) := rfl
theorem nC {b off : Nat} : iW N o (.loc b off) = ret N o (.loc b off) := rfl
theorem oK {b off v : Nat} : iW N o (.lo b off v) = ret N o (.lo b off v) := rfl
theorem oL {cs : List AV} {off : Nat} : iW N o (.rf cs off) = ret N o (.rf cs off) := rfl
theorem oJ {i : Nat} {a b : List AV} : iW N o (.fn (.func i) a b) = ret N o (.fn (.func i) a b) := rfl
theorem nB {t : TypeId} {x : AV} : iW N o (.ifc t x) = ret N o (.ifc t x) := rfl
theorem oM {b : Bool} {x y : AV} : jh N o (.c (.bool b)) x y = ret N o (if b then x else y) := rfl
theorem ny {t off : Nat} {cs : List AV} {f : AV → TR} : iq P t (.rf cs off) f = kLd P t cs off f := rfl
theorem oC {op : BinOp} {t : TypeId} {x y : Operand} {k k' : IntKind} {z z' : Int} : gJ P N o op t x y (.c (.int k z)) (.c (.int k' z')) = .need (k = k' ∨ gy op = true) (match ip op k z z' with | some v => ret N o (.c v) | none => fail) := rfl
theorem oB {op : BinOp} {t : TypeId} {x y : Operand} {t' : TypeId} {a : AV} : gJ P N o op t x y (.ifc t' a) (.c .nilIface) = (match fc op with | some r => .need (aV P t = false ∧ (P.underlying t).isSome = true) (ret N o (.c (.bool (!r)))) | none => fail) := rfl
theorem oD {op : BinOp} {t : TypeId} {x y : Operand} {t' : TypeId} {a : AV} : gJ P N o op t x y (.c .nilIface) (.ifc t' a) = (match fc op with | some r => .need (aV P t = false ∧ (P.underlying t).isSome = true) (ret N o (.c (.bool (!r)))) | none => fail) := rfl
theorem oE {op : BinOp} {t : TypeId} {x y : Operand} : gJ P N o op t x y (.c .nilIface) (.c .nilIface) = ff P N o op t x y .nilIface .nilIface := rfl
theorem oF {op : BinOp} {t : TypeId} {x y : Operand} {a b : ByteArray} : gJ P N o op t x y (.c (.string a)) (.c (.string b)) = ff P N o op t x y (.string a) (.string b) := rfl
theorem oz {op : BinOp} {t : TypeId} {x y : Operand} {a b : Bool} : gJ P N o op t x y (.c (.bool a)) (.c (.bool b)) = ff P N o op t x y (.bool a) (.bool b) := rfl
theorem oA {op : BinOp} {t : TypeId} {x y : Operand} {t1 t2 : TypeId} {a b : AV} : gJ P N o op t x y (.ifc t1 a) (.ifc t2 b) = (match ep (.ifc t1 a),ep (.ifc t2 b) with | some vx,some vy => ff P N o op t x y vx vy | _,_ => fail) := rfl
theorem oy {op : BinOp} {t : TypeId} {x y : Operand} {a b : List AV} : gJ P N o op t x y (.agg a) (.agg b) = (match ep (.agg a),ep (.agg b) with | some vx,some vy => ff P N o op t x y vx vy | _,_ => fail) := rfl
theorem oO {b : Bool} : kUn N o .not (.c (.bool b)) = ret N o (.c (.bool (!b))) := rfl
theorem oN {k : IntKind} {n : Int} : kUn N o .neg (.c (.int k n)) = ret N o (.c (.int k (k.wrap (0 - n)))) := rfl
theorem k9 {cs : List AV} {i : Nat} : eP N o (.tup cs) i = .need (i < cs.length) (ret N o (cs.getD i .u)) := rfl
theorem oI {t n : Nat} {cs : List AV} {w : Own} : jM P N o t (.sl cs n w) = .need ((bg P t).isSome = true) (ret N o (.c (.int .i64 n))) := rfl
theorem nx {t b off n e : Nat} : jM P N o t (.arr b off n e) = .need ((bg P t).isSome = true) (ret N o (.c (.int .i64 n))) := rfl
theorem oH {t b off n v : Nat} : jM P N o t (.ow b off n v) = .need ((bg P t).isSome = true) (ret N o (.c (.int .i64 n))) := rfl
theorem qf {t : Nat} {s : ByteArray} : jM P N o t (.c (.string s)) = .need (bn P t = true) (ret N o (.c (.int .i64 s.size))) := rfl
end
attribute [go_sem] lS lR
attribute [-go_sem] eE TR.wp iW jh gJ kUn eP jM aop
attribute [go_sem] nC oK oL oJ nB oM ny oC oB oD oE oF oz oA oy oO oN k9 oI nx oH qf
attribute [go_sem ↓] pi rj pj ri ph lx ka i5 kK kL kc j8 j9 wp_ret
end Go.Proofs.YtiiaokjgbjhfhaaGreatDoor

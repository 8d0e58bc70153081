/- K: the walk's rules. No program is in sight. K: tokens for rows that hang in a box. No program is in sight. K: step by step: one operation at a time, what comes behind it not in sight. No program is in sight. -/
import Derived.Test.YtpkcgdikbjaoaaaGreatDoorZ4
import Derived.Test.YtpkcgdikbjaoaaaGreatDoorZ3
namespace Go.Proofs.YtpkcgdikbjaoaaaGreatDoor
set_option linter.unusedSimpArgs false
set_option linter.unusedVariables false
open Go.RowKit
attribute [go_sem] gJ TR.wp aop rdo rdos aZ eq dn ef dS ret fail ofV kLd mv oB pk x8 pj iN oy io ph mh kl iW lG iA kUn ot kp rh hC md oY qb gQ iO pe oP vX pm pO pw mg oZ jE w5 eC ren eD names pJ rdBoxes gather bW dV fY yq sa pz rz yP ni AV.one dE eU dY putAt kE fX dK k8 mrm mgc sP gW List.any_cons List.any_nil aQ aI fin tS uh gz lt fa wS kf sH za fo tV m4 iJ jQ
def tk0 : FuncId → Bool := fun _ => true
attribute [go_sem] tk0 Option.isSome_some Option.isSome_none Value.oneCell' Nat.min_def if_true if_false and_true true_and and_false false_and or_true true_or or_false false_or not_true not_false_eq_true Bool.not_true Bool.not_false ne_eq List.length_cons List.length_nil List.length_map List.map_cons List.map_nil List.append_nil List.nil_append List.cons_append List.getD_cons_zero List.getD_cons_succ List.drop_succ_cons List.drop_zero List.take_succ_cons List.take_zero List.drop_nil List.take_nil List.flatMap_cons List.flatMap_nil List.zip_cons_cons List.zip_nil_left List.zip_nil_right List.getElem?_toArray List.getElem?_cons_zero List.getElem?_cons_succ List.getElem?_nil List.contains_cons List.contains_nil List.mapM_cons List.mapM_nil List.all_cons List.all_nil List.range_zero List.range_succ Option.bind_some Option.bind_none Option.map_some Option.map_none Option.pure_def Option.bind_eq_bind Bool.and_false Bool.false_and Bool.and_true Bool.true_and Bool.or_false Bool.false_or Bool.or_true Bool.true_or Bool.and_eq_true beq_self_eq_true Nat.zero_add Nat.add_zero Nat.zero_mul Nat.mul_one Nat.one_mul Nat.mul_zero Nat.sub_zero Int.toNat_zero exists_eq_left exists_eq' Nat.add_eq_zero_iff decide_eq_true_eq decide_true decide_false bne_self_eq_false Nat.beq_eq_true_eq beq_iff_eq Array.toList_map Int.toNat_natCast
theorem bQ {p q : Prop} (hp : p) (hq : q) : p ∧ q := ⟨hp, hq⟩
theorem Ao {P : Program} {f : FuncId} {a b bxs' : List AV} {r : AV} {X : AV → List AV → Prop} (h : AFn P f a b r bxs') (k : X r bxs') : ∃ r bxs', AFn P f a b r bxs' ∧ X r bxs' := ⟨r, bxs', h, k⟩
theorem AD {P : Program} {fn : Func} {nb : Nat} {nw : List Nat} {r : AV} {bxs : List AV} {σ : ba} (h : fin P fn nb nw r bxs σ) : tV P fn nb nw r bxs .ret σ := h
theorem AE {P : Program} {fn : Func} {nb : Nat} {nw : List Nat} {r : AV} {bxs : List AV} {σ : ba} (h : fin P fn nb nw r bxs σ) : tV P fn nb nw r bxs .normal σ := h
def nL (E : Env) (x y : Code) (Q : Exit → ba → Prop) (σ : ba) : AV → Prop
  | .c (.bool b) => (b = true → aw E x Q σ) ∧ (b = false → aw E y Q σ)
  | _ => False
theorem vG {E : Env} {Q : Exit → ba → Prop} {σ : ba} {t : Nat} {x y : Code} (ht : t < 10000) (h : ∀ v, aZ σ t = v → nL E x y Q σ v) : aw E (.cond (.tmp t) x y) Q σ := by
  replace h := h _ rfl
  unfold nL at h
  split at h
  · rename_i b hb; exact oN ht hb h.1 h.2
  · exact h.elim
theorem ax {E : Env} {Q : Exit → ba → Prop} {σ : ba} {x y : Code} (h : aw E x Q σ) : nL E x y Q σ (.c (.bool true)) := ⟨(fun _ => h), (fun e => by cases e)⟩
theorem ar {E : Env} {Q : Exit → ba → Prop} {σ : ba} {x y : Code} (h : aw E y Q σ) : nL E x y Q σ (.c (.bool false)) := ⟨(fun e => by cases e), (fun _ => h)⟩
theorem bV {E : Env} {Q : Exit → ba → Prop} {σ : ba} {x y : Code} {b : Bool} (h1 : b = true → aw E x Q σ) (h2 : b = false → aw E y Q σ) : nL E x y Q σ (.c (.bool b)) := ⟨h1, h2⟩
theorem zD {E : Env} {Q : Exit → ba → Prop} {σ : ba} {t : Nat} {x y : Code} (ht : t < 10000) (hb : aZ σ t = .c (.bool true)) (h : aw E x Q σ) : aw E (.cond (.tmp t) x y) Q σ := oN ht hb (fun _ => h) (fun e => by cases e)
theorem zy {E : Env} {Q : Exit → ba → Prop} {σ : ba} {t : Nat} {x y : Code} (ht : t < 10000) (hb : aZ σ t = .c (.bool false)) (h : aw E y Q σ) : aw E (.cond (.tmp t) x y) Q σ := oN ht hb (fun e => by cases e) (fun _ => h)
theorem b8 {E : Env} {Q : Exit → ba → Prop} {σ : ba} {x y : Code} (h : aw E x Q σ) : aw E (.cond (.const (.bool true)) x y) Q σ := qj (fun _ => h) (fun e => by cases e)
theorem b7 {E : Env} {Q : Exit → ba → Prop} {σ : ba} {x y : Code} (h : aw E y Q σ) : aw E (.cond (.const (.bool false)) x y) Q σ := qj (fun e => by cases e) (fun _ => h)
theorem rO {E : Env} {Q : Exit → ba → Prop} {σ : ba} (tk : FuncId → Bool) (LV : Nat → List Nat) {id : Nat} {l : List Oper} (h : ∀ K : ba → Prop, (∀ σ', Q .normal σ' → K σ') → gJ E.P E.N tk l.toArray l (gW (LV id) σ) K) : aw E (.region id l.toArray false) Q σ :=
  q7 (ii (LV id) σ) (nu tk h)
theorem vV {E : Env} {Q : Exit → ba → Prop} {σ : ba} (tk : FuncId → Bool) (LV : Nat → List Nat) {id : Nat} {l : List Oper} (hm : E.P.follows .mixedOrders = true)
    (h : ∀ K : ba → List Rec → Prop, (∀ σ' recs, ka l recs = true → Q .normal σ' → K σ' recs) → fh E.P E.N tk l.toArray l (gW (LV id) σ) [] K) : aw E (.region id l.toArray true) Q σ := q7 (ii (LV id) σ) (vR tk hm h)
theorem al {K : ba → Prop} {Q : Exit → ba → Prop} {σ : ba} (h : K σ) : m4 K Q .normal σ := h
theorem bN {K : ba → Prop} {Q : Exit → ba → Prop} {σ : ba} {e : Nat} (h : Q (.exit e) σ) : m4 K Q (.exit e) σ := h
theorem bg {K : ba → Prop} {Q : Exit → ba → Prop} {σ : ba} (h : Q .ret σ) : m4 K Q .ret σ := h
theorem aO {id : Nat} {Q : Exit → ba → Prop} {σ : ba} (h : Q .normal σ) : iJ id Q .normal σ := h
theorem bL {id : Nat} {Q : Exit → ba → Prop} {σ : ba} (h : Q .ret σ) : iJ id Q .ret σ := h
theorem bo {id : Nat} {Q : Exit → ba → Prop} {σ : ba} (h : Q .normal σ) : iJ id Q (.exit id) σ := by simp only [iJ, if_true]; exact h
theorem cR {id i : Nat} {Q : Exit → ba → Prop} {σ : ba} (hi : ¬ i = id) (h : Q (.exit i) σ) : iJ id Q (.exit i) σ := by simp only [iJ, if_neg hi]; exact h
theorem Aq {E : Env} {Q : Exit → ba → Prop} {σ : ba} {c : Code} (L : List Nat) {σ' : ba} (hσ : fX L σ = σ') (h : aw E c Q σ') : aw E c Q σ := q7 (l7 L σ) (hσ ▸ h)
theorem bA {E : Env} {Q : Exit → ba → Prop} {σ : ba} {c : Code} (L : List Nat) {σ' : ba} (hσ : gW L σ = σ') (h : awl E c Q σ') : awl E c Q σ := fw (ii L σ) (hσ ▸ h)
theorem yA {E : Env} {Q : Exit → ba → Prop} {σ : ba} (tk : FuncId → Bool) (L : List Nat) {id : Nat} {l : List Oper} (h : ∀ K : ba → Prop, (∀ σ', Q .normal σ' → K σ') → gJ E.P E.N tk l.toArray l (fX L σ) K) : aw E (.region id l.toArray false) Q σ :=
  q7 (l7 L σ) (nu tk h)
theorem dw {E : Env} {Q : Exit → ba → Prop} {σ σ' : ba} {c : Code} (h : awl E c Q σ') (e : σ = σ') : awl E c Q σ := e ▸ h
theorem Db {E : Env} {Q : Exit → ba → Prop} {σ σ' : ba} {c : Code} (h : aw E c Q σ') (e : σ = σ') : aw E c Q σ := e ▸ h
theorem cw {E : Env} {Q : Exit → ba → Prop} {c : Code} {α : Type} (I : α → ba) (P : α → Prop) (m : α → Nat) (x0 : α) {σ : ba} (L : List Nat) (h0 : gW L σ = I x0) (hp : P x0)
    (step : ∀ x, P x → (∀ y, P y → m y < m x → awl E c Q (I y)) → aw E c (m4 (awl E c Q) Q) (I x)) : awl E c Q σ := by
  have all : ∀ n x, m x = n → P x → awl E c Q (I x) := fun n => by
    induction n using Nat.strongRecOn with
    | _ n ih => exact fun x hx hP => tO (step x hP fun y hy hm => ih (m y) (hx ▸ hm) y rfl hy)
  exact fw (ii L σ) (h0 ▸ all _ x0 rfl hp)
theorem bO {x : Int} (h1 : -9223372036854775808 ≤ x) (h2 : x ≤ 9223372036854775807) : IntKind.i64.wrap x = x := by
  have e : IntKind.i64.wrap x = if x % 18446744073709551616 ≥ 9223372036854775808 then x % 18446744073709551616 - 18446744073709551616 else x % 18446744073709551616 := by
    simp [IntKind.wrap, IntKind.bits, IntKind.signed]
  rw [e]
  split <;> omega
end Go.Proofs.YtpkcgdikbjaoaaaGreatDoor
namespace Go.Proofs.YtpkcgdikbjaoaaaGreatDoor
set_option linter.unusedSimpArgs false
set_option linter.unusedVariables false
open Go.RowKit
theorem mz {E : Env} {σ : ba} {b k0 i n : Nat} {cs cells : List AV} {ty : TypeId} (e : TypeId) (hb : 10000 ≤ b ∧ b < 20000) (hk0 : 10000 ≤ k0) (hne : ¬ k0 = b) (hu : aZ σ b = .u) (hB : aZ σ k0 = .bc cells ty)
    (hi : cells[i]? = some (.sl cs n .full)) : ALe E σ (eq (eq σ b (.bt n e)) k0 (.bc (cells.set i (.sl cs n (.tok b))) ty)) := fun a w G hs => by
  have hm : ∀ k, aZ (eq (eq σ b (.bt n e)) k0 (.bc (cells.set i (.sl cs n (.tok b))) ty)) k = if k0 = k then .bc (cells.set i (.sl cs n (.tok b))) ty else if b = k then .bt n e else aZ σ k := fun k => by rw [dJ, dJ]
  generalize eq (eq σ b (.bt n e)) k0 (.bc (cells.set i (.sl cs n (.tok b))) ty) = σ' at hm
  have hγ : G.γ b = none := by
    cases hg : G.γ b with
    | none => rfl
    | some g =>
      obtain ⟨_, _, hbx⟩ := hs.st.box b g hg
      rcases hbx with ⟨_, _, h1, _⟩ | ⟨_, _, h1, _⟩ <;> rw [hu] at h1 <;> cases h1
  have hst : BStep G (aZ σ) G (aZ σ') := ⟨.refl _, fun k hk => by
    rw [hm]
    by_cases h0 : k0 = k
    · subst h0; rw [if_pos rfl, hB]; exact ⟨(fun _ _ hc => by cases hc; exact ⟨⟨_, rfl⟩, rfl⟩), (fun _ _ hc => by cases hc)⟩
    rw [if_neg h0]
    by_cases h1 : b = k
    · subst h1; rw [hu]; exact ⟨(fun _ _ hc => by cases hc), (fun _ _ hc => by cases hc)⟩
    · rw [if_neg h1]; exact ⟨fun cs ty hc => ⟨⟨cs, hc⟩, rfl⟩, fun n e hc => ⟨n, hc, .inr ⟨rfl, rfl, rfl⟩⟩⟩⟩
  refine ⟨G, hs.defers, hs.tsize, fun k hk => ?_, ⟨hs.st.agree, fun k g hk => ?_, fun k cs' ty' hk hc => ?_, hs.st.inj, hs.st.gl⟩, hs.fr, hs.step.trans hst, hs.zp⟩
  · rw [hm, if_neg (by omega), if_neg (by omega)]; exact (hs.slots k hk).step hst
  · obtain ⟨h1, h2, h3⟩ := hs.st.box k g hk
    refine ⟨h1, h2, ?_⟩
    by_cases h0 : k0 = k
    · subst h0
      rcases h3 with ⟨cs1, ty1, q1, c, q2, q3, q4, q5⟩ | ⟨_, _, q1, _⟩
      · rw [hB] at q1; cases q1
        refine .inl ⟨_, _, by rw [hm, if_pos rfl], c, q2, by simpa using q3, q4, fun j hj => ?_⟩
        have hj' : j < cells.length := by simpa using hj
        obtain ⟨r1, r2⟩ := q5 j hj'
        refine ⟨?_, r2⟩
        rw [List.getElem_set]
        split
        · rename_i hij
          subst hij
          obtain ⟨hl, hi2⟩ := List.getElem?_eq_some_iff.1 hi
          rw [hi2] at r1
          obtain ⟨ad, cap, b', off, f, ev, ⟨p1, p2, p3, p4, p5⟩, hf, _⟩ := ff r1
          rw [ev]
          refine .tok ad n cap cs b n e (.sl ad b' off n cap .none cs f (.inl rfl) p1 p2 p3 p4 p5) hb.1 (by rw [hm, if_neg hne, if_pos rfl]) (Nat.le_refl _) fun _ => ⟨fun _ => hf rfl, fun g hg => by rw [hγ] at hg; cases hg⟩
        · exact r1.step hst
      · rw [hB] at q1; cases q1
    · refine h3.step hst ?_ rfl rfl fun _ => rfl
      rw [hm, if_neg h0, if_neg (fun h4 => by rw [← h4, hγ] at hk; cases hk)]
  · rw [hm] at hc
    by_cases h0 : k0 = k
    · subst h0; exact hs.st.real k0 cells ty hk0 hB
    rw [if_neg h0] at hc
    by_cases h1 : b = k
    · rw [if_pos h1] at hc; cases hc
    · rw [if_neg h1] at hc; exact hs.st.real k cs' ty' hk hc
end Go.Proofs.YtpkcgdikbjaoaaaGreatDoor
namespace Go.Proofs.YtpkcgdikbjaoaaaGreatDoor
set_option linter.unusedSimpArgs false
set_option linter.unusedVariables false
open Go.RowKit
def kv (p : Prop) : Prop := p
theorem ab {p : Prop} (h : p) : kv p := h
def EqTo {α : Type} (e : α) (X : α → Prop) : Prop := ∀ v, e = v → X v
theorem EZ {α : Type} {e : α} {X : α → Prop} (h : ∀ v, e = v → X v) : EqTo e X := h
theorem ac {α : Type} {e : α} {X : α → Prop} (h : ∀ Y : α → Prop, (∀ v, X v → Y v) → kv (Y e)) : EqTo e X := fun v hv => hv ▸ h X fun _ h => h
theorem EqTo.out {α : Type} {e : α} {X : α → Prop} (h : EqTo e X) : X e := h _ rfl
def vi (p q : Prop) : Prop := p ∧ q
theorem dk {p q : Prop} (h : kv p) (k : q) : vi p q := ⟨h, k⟩
def jo (v : AV) (want : Bool) (A B C : Prop) : Prop := match v with | .c (.bool b) => (b = want → A) ∧ (b = !want → B) | .c (.tuple _) => C | _ => False
theorem cp {want : Bool} {A B C : Prop} (h : C) : jo (.c undef) want A B C := h
theorem aS {want : Bool} {A B C : Prop} (h : A) : jo (.c (.bool want)) want A B C := ⟨fun _ => h, fun e => by cases want <;> cases e⟩
theorem bj {b want : Bool} {A B C : Prop} (hb : b = !want) (h : B) : jo (.c (.bool b)) want A B C := ⟨(fun e => by subst e; cases b <;> cases hb), fun _ => h⟩
theorem bK {b want : Bool} {A B C : Prop} (h1 : b = want → A) (h2 : b = !want → B) : jo (.c (.bool b)) want A B C := ⟨h1, h2⟩
def gO (d : Option Nat) (X : Nat → Prop) : Prop := match d with | some t => t < 10000 ∧ X t | none => False
theorem aR {t : Nat} {X : Nat → Prop} (ht : t < 10000) (h : X t) : gO (some t) X := ⟨ht, h⟩
def zc (P : Program) (N : Nat) (tk : FuncId → Bool) (ops : Array Oper) (o : Oper) (r : List Oper) (K : ba → Prop) (σ : ba) : Prop :=
  ∀ K' : List (Nat × AV) → Prop, (∀ e, EqTo (dn σ e) (fun σ' => gJ P N tk ops r σ' K) → K' e) → kv ((aop P N tk o).wp P σ fun _ e => K' e)
def vg (P : Program) (N : Nat) (tk : FuncId → Bool) (ops : Array Oper) (o : Oper) (r : List Oper) (acc : List Rec) (pre : List Nat) (K : ba → List Rec → Prop) (σ : ba) : Prop :=
  ∀ K' : List Nat → List (Nat × AV) → Prop, (∀ R e, EqTo (dn σ e) (fun σ' => fh P N tk ops r σ' (acc ++ [(pre ++ R, e)]) K) → K' R e) → kv ((aop P N tk o).wp P σ fun R e => K' R e)
section
variable {P : Program} {N : Nat} {tk : FuncId → Bool} {ops : Array Oper} {r : List Oper} {σ : ba} {o : Oper} {g : Nat} {want : Bool}
theorem aD {K : ba → Prop} (h : ∀ K' : List (Nat × AV) → Prop, (∀ e, EqTo (dn σ e) (fun σ' => gJ P N tk ops r σ' K) → K' e) → kv ((aop P N tk o).wp P σ fun _ e => K' e)) : zc P N tk ops o r K σ := h
theorem bI {acc : List Rec} {pre : List Nat} {K : ba → List Rec → Prop} (h : ∀ K' : List Nat → List (Nat × AV) → Prop, (∀ R e, EqTo (dn σ e) (fun σ' => fh P N tk ops r σ' (acc ++ [(pre ++ R, e)]) K) → K' R e) → kv ((aop P N tk o).wp P σ fun R e => K' R e)) : vg P N tk ops o r acc pre K σ := h
theorem ai {K : ba → Prop} (h : K σ) : gJ P N tk ops [] σ K := h
theorem av {K : ba → Prop} (hg : o.guard = none) (h : zc P N tk ops o r K σ) : gJ P N tk ops (o :: r) σ K := by
  unfold gJ; rw [hg]; exact h _ fun e h => h.out
theorem bR {K : ba → Prop} (hg : o.guard = some (g, want))
    (h : EqTo (kE ops g) fun d => gO d fun t => EqTo (aZ σ t) fun v => jo v want (EqTo (eq σ t (.c (.bool want))) (zc P N tk ops o r K))
      (vi (dS N o) (EqTo (dn (eq σ t (.c (.bool (!want)))) (ef o (.c undef))) fun σ' => gJ P N tk ops r σ' K))
      (vi (dS N o) (EqTo (dn σ (ef o (.c undef))) fun σ' => gJ P N tk ops r σ' K))) : gJ P N tk ops (o :: r) σ K := by
  replace h := h.out
  unfold gJ
  rw [hg]
  unfold gO at h
  split at h
  · rename_i t ht
    simp only [ht]
    obtain ⟨h10, h⟩ := h
    replace h := h.out
    refine ⟨h10, ?_⟩
    unfold jo at h
    split at h
    · rename_i b hb
      simp only [hb]
      by_cases e : b = want
      · rw [if_pos e]; exact (h.1 e).out _ fun e h => h.out
      · rw [if_neg e]
        have h2 := h.2 (by cases b <;> cases want <;> simp_all)
        exact ⟨h2.1, h2.2.out⟩
    · rename_i hb
      simp only [hb]
      exact ⟨h.1, h.2.out⟩
    · exact h.elim
  · exact h.elim
theorem bl {acc : List Rec} {K : ba → List Rec → Prop} (h : K σ acc) : fh P N tk ops [] σ acc K := h
theorem bY {acc : List Rec} {K : ba → List Rec → Prop} (hg : o.guard = none) (h : vg P N tk ops o r acc [] K σ) : fh P N tk ops (o :: r) σ acc K := by
  unfold fh; rw [hg]; exact h _ fun R e h => h.out
theorem cJ {acc : List Rec} {K : ba → List Rec → Prop} (hg : o.guard = some (g, want))
    (h : EqTo (kE ops g) fun d => gO d fun t => EqTo (aZ σ t) fun v => jo v want (EqTo (eq σ t (.c (.bool want))) (vg P N tk ops o r acc [t] K))
      (vi (dS N o) (EqTo (dn (eq σ t (.c (.bool (!want)))) (ef o (.c undef))) fun σ' => fh P N tk ops r σ' (acc ++ [([t], ef o (.c undef))]) K))
      (vi (dS N o) (EqTo (dn σ (ef o (.c undef))) fun σ' => fh P N tk ops r σ' (acc ++ [([t], ef o (.c undef))]) K))) : fh P N tk ops (o :: r) σ acc K := by
  replace h := h.out
  unfold fh
  rw [hg]
  unfold gO at h
  split at h
  · rename_i t ht
    simp only [ht]
    obtain ⟨h10, h⟩ := h
    replace h := h.out
    refine ⟨h10, ?_⟩
    unfold jo at h
    split at h
    · rename_i b hb
      simp only [hb]
      by_cases e : b = want
      · rw [if_pos e]; exact (h.1 e).out _ fun R e h => h.out
      · rw [if_neg e]
        have h2 := h.2 (by cases b <;> cases want <;> simp_all)
        exact ⟨h2.1, h2.2.out⟩
    · rename_i hb
      simp only [hb]
      exact ⟨h.1, h.2.out⟩
    · exact h.elim
  · exact h.elim
end
def z4 (E : Env) (Q : Exit → ba → Prop) (tk : FuncId → Bool) (l : List Oper) (σ₁ : ba) : Prop := ∀ K : ba → Prop, (∀ σ', Q .normal σ' → K σ') → gJ E.P E.N tk l.toArray l σ₁ K
theorem aL {E : Env} {Q : Exit → ba → Prop} {tk : FuncId → Bool} {l : List Oper} {σ₁ : ba} (h : ∀ K : ba → Prop, (∀ σ', Q .normal σ' → K σ') → gJ E.P E.N tk l.toArray l σ₁ K) : z4 E Q tk l σ₁ := h
def zY (E : Env) (Q : Exit → ba → Prop) (tk : FuncId → Bool) (l : List Oper) (σ₁ : ba) : Prop := ∀ K : ba → List Rec → Prop, (∀ σ' recs, ka l recs = true → Q .normal σ' → K σ' recs) → fh E.P E.N tk l.toArray l σ₁ [] K
theorem dq {E : Env} {Q : Exit → ba → Prop} {tk : FuncId → Bool} {l : List Oper} {σ₁ : ba} (h : ∀ K : ba → List Rec → Prop, (∀ σ' recs, ka l recs = true → Q .normal σ' → K σ' recs) → fh E.P E.N tk l.toArray l σ₁ [] K) : zY E Q tk l σ₁ := h
theorem ae {E : Env} {Q : Exit → ba → Prop} {σ : ba} (tk : FuncId → Bool) (LV : Nat → List Nat) {id : Nat} {l : List Oper} (h : EqTo (gW (LV id) σ) (z4 E Q tk l)) : aw E (.region id l.toArray false) Q σ :=
  rO tk LV fun K hK => h.out K hK
theorem bm {E : Env} {Q : Exit → ba → Prop} {σ : ba} (tk : FuncId → Bool) (LV : Nat → List Nat) {id : Nat} {l : List Oper} (hm : E.P.follows .mixedOrders = true) (h : EqTo (gW (LV id) σ) (zY E Q tk l)) : aw E (.region id l.toArray true) Q σ :=
  vV tk LV hm fun K hK => h.out K hK
theorem ah {E : Env} {Q : Exit → ba → Prop} {σ : ba} {t : Nat} {x y : Code} (ht : t < 10000) (h : EqTo (aZ σ t) (nL E x y Q σ)) : aw E (.cond (.tmp t) x y) Q σ := vG ht fun v hv => h v hv
theorem aa {P : Program} {f : FuncId} {a b bxs' : List AV} {r : AV} {X : AV → List AV → Prop} (h : AFn P f a b r bxs') (k : kv (X r bxs')) : ∃ r bxs', AFn P f a b r bxs' ∧ X r bxs' := ⟨r, bxs', h, k⟩
theorem be {X : World → Result Value} {v : Value} {Q : Value → Prop} (h : ∀ w, X w = .ok v w) (k : kv (Q v)) : ∃ v, (∀ w, X w = .ok v w) ∧ Q v := ⟨v, h, k⟩
theorem yQ {X : World → Result Next} {v : Value} {Q : Value → Prop} (h : ∀ w, X w = .ok (.value v) w) (k : kv (Q v)) : ∃ v, (∀ w, X w = .ok (.value v) w) ∧ Q v := ⟨v, h, k⟩
theorem cS {X : Value → Prop} (k : kv (X (.bool false))) : ∃ v : Value, (v = .bool true ∨ v = .bool false) ∧ X v := ⟨_, .inr rfl, k⟩
theorem Az {X : Value → Prop} (k : kv (X (.bool true))) : ∃ v : Value, (v = .bool true ∨ v = .bool false) ∧ X v := ⟨_, .inl rfl, k⟩
theorem ap {P : Program} {fn : Func} {nb : Nat} {nw : List Nat} {r : AV} {bxs : List AV} {σ : ba} (h : kv (fin P fn nb nw r bxs σ)) : tV P fn nb nw r bxs .ret σ := h
theorem bX {P : Program} {fn : Func} {nb : Nat} {nw : List Nat} {r : AV} {bxs : List AV} {σ : ba} (h : kv (fin P fn nb nw r bxs σ)) : tV P fn nb nw r bxs .normal σ := h
section
variable {P : Program} {N : Nat} {o : Oper} {σ : ba} {K : List Nat → List (Nat × AV) → Prop}
theorem x5 {d : List (Nat × AV)} : TR.wp P (.done d) σ K = K [] d := rfl
theorem zQ {k : Nat} {f : AV → TR} : TR.wp P (.rd k f) σ K = (f (aZ σ k)).wp P σ fun R d => K (k :: R) d := rfl
theorem xS {p : Prop} {t : TR} : TR.wp P (.need p t) σ K = (p ∧ t.wp P σ K) := rfl
theorem Ab {p : Value → Prop} {f : Value → TR} : TR.wp P (.ex p f) σ K = ∃ v, p v ∧ (f v).wp P σ K := rfl
theorem xL {f : FuncId} {args bxs : List AV} {k : AV → List AV → TR} : TR.wp P (.call f args bxs k) σ K = ∃ r bxs', AFn P f args bxs r bxs' ∧ (k r bxs').wp P σ K := rfl
theorem rL {t : Nat} {f : AV → TR} : TR.wp P (rdo (.tmp t) f) σ K = (t < 10000 ∧ TR.wp P (f (aZ σ t)) σ fun R d => K (t :: R) d) := rfl
theorem oL {v : Value} {f : AV → TR} : TR.wp P (rdo (.const v) f) σ K = TR.wp P (f (ofV v)) σ K := rfl
theorem nh {g : Nat} {f : AV → TR} : TR.wp P (rdo (.global g) f) σ K = TR.wp P (f (sZ g)) σ K := rfl
theorem qK {i : Nat} {f : AV → TR} : TR.wp P (rdo (.func i) f) σ K = TR.wp P (f (.fn (.func i) [] [])) σ K := rfl
theorem qN {f : List AV → TR} : TR.wp P (rdos [] f) σ K = TR.wp P (f []) σ K := rfl
theorem o6 {x : Operand} {l : List Operand} {f : List AV → TR} : TR.wp P (rdos (x :: l) f) σ K = TR.wp P (rdo x fun v => rdos l fun vs => f (v :: vs)) σ K := rfl
theorem oF {f : Option AV → TR} : TR.wp P (ni none f) σ K = TR.wp P (f none) σ K := rfl
theorem pH {x : Operand} {f : Option AV → TR} : TR.wp P (ni (some x) f) σ K = TR.wp P (rdo x fun v => f (some v)) σ K := rfl
theorem wp_ret {v : AV} : TR.wp P (ret N o v) σ K = (dS N o ∧ K [] (ef o v)) := rfl
theorem vC {b off : Nat} : pj N o (.loc b off) = ret N o (.loc b off) := rfl
theorem xu {cs : List AV} {off : Nat} : pj N o (.rf cs off) = ret N o (.rf cs off) := rfl
theorem xm {i : Nat} {a b : List AV} : pj N o (.fn (.func i) a b) = ret N o (.fn (.func i) a b) := rfl
theorem vj {t : TypeId} {x : AV} : pj N o (.ifc t x) = ret N o (.ifc t x) := rfl
theorem xg {b : Bool} {x y : AV} : ot N o (.c (.bool b)) x y = ret N o (if b then x else y) := rfl
theorem uP {t off : Nat} {cs : List AV} {f : AV → TR} : mv P t (.rf cs off) f = kLd P t cs off f := rfl
theorem xY {op : BinOp} {t : TypeId} {x y : Operand} {k k' : IntKind} {z z' : Int} : lG P N o op t x y (.c (.int k z)) (.c (.int k' z')) = .need (k = k' ∨ kl op = true) (match mh op k z z' with | some v => ret N o (.c v) | none => fail) := rfl
theorem wP {op : BinOp} {t : TypeId} {x y : Operand} {t' : TypeId} {a : AV} : lG P N o op t x y (.ifc t' a) (.c .nilIface) = (match iA op with | some r => .need (aj P t = false ∧ (P.underlying t).isSome = true) (ret N o (.c (.bool (!r)))) | none => fail) := rfl
theorem wK {op : BinOp} {t : TypeId} {x y : Operand} {t' : TypeId} {a : AV} : lG P N o op t x y (.c .nilIface) (.ifc t' a) = (match iA op with | some r => .need (aj P t = false ∧ (P.underlying t).isSome = true) (ret N o (.c (.bool (!r)))) | none => fail) := rfl
theorem xU {op : BinOp} {t : TypeId} {x y : Operand} : lG P N o op t x y (.c .nilIface) (.c .nilIface) = jQ P N o op t x y .nilIface .nilIface := rfl
theorem wE {op : BinOp} {t : TypeId} {x y : Operand} {a b : ByteArray} : lG P N o op t x y (.c (.string a)) (.c (.string b)) = jQ P N o op t x y (.string a) (.string b) := rfl
theorem xv {op : BinOp} {t : TypeId} {x y : Operand} {a b : Bool} : lG P N o op t x y (.c (.bool a)) (.c (.bool b)) = jQ P N o op t x y (.bool a) (.bool b) := rfl
theorem wM {op : BinOp} {t : TypeId} {x y : Operand} {t1 t2 : TypeId} {a b : AV} : lG P N o op t x y (.ifc t1 a) (.ifc t2 b) = (match iW (.ifc t1 a), iW (.ifc t2 b) with | some vx, some vy => jQ P N o op t x y vx vy | _, _ => fail) := rfl
theorem wB {b : Bool} : kUn N o .not (.c (.bool b)) = ret N o (.c (.bool (!b))) := rfl
theorem xQ {k : IntKind} {n : Int} : kUn N o .neg (.c (.int k n)) = ret N o (.c (.int k (k.wrap (0 - n)))) := rfl
theorem ri {cs : List AV} {i : Nat} : hC N o (.tup cs) i = .need (i < cs.length) (ret N o (cs.getD i .u)) := rfl
theorem xb {t n : Nat} {cs : List AV} {w : Own} : pO P N o t (.sl cs n w) = .need ((aA P t).isSome = true) (ret N o (.c (.int .i64 n))) := rfl
theorem we {t b off n e : Nat} : pO P N o t (.arr b off n e) = .need ((aA P t).isSome = true) (ret N o (.c (.int .i64 n))) := rfl
theorem yv {t : Nat} {s : ByteArray} : pO P N o t (.c (.string s)) = .need (aF P t = true) (ret N o (.c (.int .i64 s.size))) := rfl
end
attribute [go_sem] sZ sL
attribute [-go_sem] gJ TR.wp pj ot lG kUn hC pO aop
attribute [go_sem] vC xu xm vj xg uP xY wP wK xU wE xv wM wB xQ ri xb we yv
attribute [go_sem ↓] x5 zQ xS Ab xL rL oL nh qK qN o6 oF pH wp_ret
end Go.Proofs.YtpkcgdikbjaoaaaGreatDoor

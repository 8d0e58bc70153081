/- K: the walk's rules. No program is in sight. K: tokens for rows that hang in a box. No program is in sight. K: step by step: one operation at a time, what comes behind it not in sight. No program is in sight. -/
import Derived.Test.YtpkcgdikbjaoaaaDoorZ4
import Derived.Test.YtpkcgdikbjaoaaaDoorZ3
namespace Go.Proofs.YtpkcgdikbjaoaaaDoor
set_option linter.unusedSimpArgs false
set_option linter.unusedVariables false
open Go.RowKit
attribute [go_sem] d7 TR.wp aop rdo rdos aE cF bU cC co ret fail ofV kLd jd kM lf rX le fc k6 eT kW ja gZ fv iD eR kUn kA gY mE ez jE lm lz ef fh kK lk qa kT mt lj jP lr gf qZ cI ren cL names mn rdBoxes gather aY cp dC sc nH kP mA sI jY AV.one b9 cS cv putAt gH dD cd ij mrm mgc na fH List.any_cons List.any_nil aS aJ fin oH oc dX hU c9 qV gr nu sN dj oD i5 eU ge
def tk0 : FuncId → Bool := fun _ => true
attribute [go_sem] tk0 Option.isSome_some Option.isSome_none Value.oneCell' Nat.min_def if_true if_false and_true true_and and_false false_and or_true true_or or_false false_or not_true not_false_eq_true Bool.not_true Bool.not_false ne_eq List.length_cons List.length_nil List.length_map List.map_cons List.map_nil List.append_nil List.nil_append List.cons_append List.getD_cons_zero List.getD_cons_succ List.drop_succ_cons List.drop_zero List.take_succ_cons List.take_zero List.drop_nil List.take_nil List.flatMap_cons List.flatMap_nil List.zip_cons_cons List.zip_nil_left List.zip_nil_right List.getElem?_toArray List.getElem?_cons_zero List.getElem?_cons_succ List.getElem?_nil List.contains_cons List.contains_nil List.mapM_cons List.mapM_nil List.all_cons List.all_nil List.range_zero List.range_succ Option.bind_some Option.bind_none Option.map_some Option.map_none Option.pure_def Option.bind_eq_bind Bool.and_false Bool.false_and Bool.and_true Bool.true_and Bool.or_false Bool.false_or Bool.or_true Bool.true_or Bool.and_eq_true beq_self_eq_true Nat.zero_add Nat.add_zero Nat.zero_mul Nat.mul_one Nat.one_mul Nat.mul_zero Nat.sub_zero Int.toNat_zero exists_eq_left exists_eq' Nat.add_eq_zero_iff decide_eq_true_eq decide_true decide_false bne_self_eq_false Nat.beq_eq_true_eq beq_iff_eq Array.toList_map Int.toNat_natCast
theorem bT {p q : Prop} (hp : p) (hq : q) : p ∧ q := ⟨hp, hq⟩
theorem t8 {P : Program} {f : FuncId} {a b bxs' : List AV} {r : AV} {X : AV → List AV → Prop} (h : AFn P f a b r bxs') (k : X r bxs') : ∃ r bxs', AFn P f a b r bxs' ∧ X r bxs' := ⟨r, bxs', h, k⟩
theorem uf {P : Program} {fn : Func} {nb : Nat} {nw : List Nat} {r : AV} {bxs : List AV} {σ : aI} (h : fin P fn nb nw r bxs σ) : oD P fn nb nw r bxs .ret σ := h
theorem um {P : Program} {fn : Func} {nb : Nat} {nw : List Nat} {r : AV} {bxs : List AV} {σ : aI} (h : fin P fn nb nw r bxs σ) : oD P fn nb nw r bxs .normal σ := h
def kH (E : Env) (x y : Code) (Q : Exit → aI → Prop) (σ : aI) : AV → Prop
  | .c (.bool b) => (b = true → aw E x Q σ) ∧ (b = false → aw E y Q σ)
  | _ => False
theorem qi {E : Env} {Q : Exit → aI → Prop} {σ : aI} {t : Nat} {x y : Code} (ht : t < 10000) (h : ∀ v, aE σ t = v → kH E x y Q σ v) : aw E (.cond (.tmp t) x y) Q σ := by
  replace h := h _ rfl
  unfold kH at h
  split at h
  · rename_i b hb; exact lq ht hb h.1 h.2
  · exact h.elim
theorem aK {E : Env} {Q : Exit → aI → Prop} {σ : aI} {x y : Code} (h : aw E x Q σ) : kH E x y Q σ (.c (.bool true)) := ⟨(fun _ => h), (fun e => by cases e)⟩
theorem aC {E : Env} {Q : Exit → aI → Prop} {σ : aI} {x y : Code} (h : aw E y Q σ) : kH E x y Q σ (.c (.bool false)) := ⟨(fun e => by cases e), (fun _ => h)⟩
theorem dK {E : Env} {Q : Exit → aI → Prop} {σ : aI} {x y : Code} {b : Bool} (h1 : b = true → aw E x Q σ) (h2 : b = false → aw E y Q σ) : kH E x y Q σ (.c (.bool b)) := ⟨h1, h2⟩
theorem tq {E : Env} {Q : Exit → aI → Prop} {σ : aI} {t : Nat} {x y : Code} (ht : t < 10000) (hb : aE σ t = .c (.bool true)) (h : aw E x Q σ) : aw E (.cond (.tmp t) x y) Q σ := lq ht hb (fun _ => h) (fun e => by cases e)
theorem ti {E : Env} {Q : Exit → aI → Prop} {σ : aI} {t : Nat} {x y : Code} (ht : t < 10000) (hb : aE σ t = .c (.bool false)) (h : aw E y Q σ) : aw E (.cond (.tmp t) x y) Q σ := lq ht hb (fun e => by cases e) (fun _ => h)
theorem fm {E : Env} {Q : Exit → aI → Prop} {σ : aI} {x y : Code} (h : aw E x Q σ) : aw E (.cond (.const (.bool true)) x y) Q σ := lI (fun _ => h) (fun e => by cases e)
theorem fj {E : Env} {Q : Exit → aI → Prop} {σ : aI} {x y : Code} (h : aw E y Q σ) : aw E (.cond (.const (.bool false)) x y) Q σ := lI (fun e => by cases e) (fun _ => h)
theorem mP {E : Env} {Q : Exit → aI → Prop} {σ : aI} (tk : FuncId → Bool) (LV : Nat → List Nat) {id : Nat} {l : List Oper} (h : ∀ K : aI → Prop, (∀ σ', Q .normal σ' → K σ') → d7 E.P E.N tk l.toArray l (fH (LV id) σ) K) : aw E (.region id l.toArray false) Q σ :=
  nB (ga (LV id) σ) (ku tk h)
theorem pE {E : Env} {Q : Exit → aI → Prop} {σ : aI} (tk : FuncId → Bool) (LV : Nat → List Nat) {id : Nat} {l : List Oper} (hm : E.P.follows .mixedOrders = true)
    (h : ∀ K : aI → List Rec → Prop, (∀ σ' recs, go l recs = true → Q .normal σ' → K σ' recs) → dc E.P E.N tk l.toArray l (fH (LV id) σ) [] K) : aw E (.region id l.toArray true) Q σ := nB (ga (LV id) σ) (pc tk hm h)
theorem ar {K : aI → Prop} {Q : Exit → aI → Prop} {σ : aI} (h : K σ) : i5 K Q .normal σ := h
theorem b3 {K : aI → Prop} {Q : Exit → aI → Prop} {σ : aI} {e : Nat} (h : Q (.exit e) σ) : i5 K Q (.exit e) σ := h
theorem bA {K : aI → Prop} {Q : Exit → aI → Prop} {σ : aI} (h : Q .ret σ) : i5 K Q .ret σ := h
theorem a8 {id : Nat} {Q : Exit → aI → Prop} {σ : aI} (h : Q .normal σ) : eU id Q .normal σ := h
theorem b6 {id : Nat} {Q : Exit → aI → Prop} {σ : aI} (h : Q .ret σ) : eU id Q .ret σ := h
theorem bG {id : Nat} {Q : Exit → aI → Prop} {σ : aI} (h : Q .normal σ) : eU id Q (.exit id) σ := by simp only [eU, if_true]; exact h
theorem iM {id i : Nat} {Q : Exit → aI → Prop} {σ : aI} (hi : ¬ i = id) (h : Q (.exit i) σ) : eU id Q (.exit i) σ := by simp only [eU, if_neg hi]; exact h
theorem t3 {E : Env} {Q : Exit → aI → Prop} {σ : aI} {c : Code} (L : List Nat) {σ' : aI} (hσ : dD L σ = σ') (h : aw E c Q σ') : aw E c Q σ := nB (jK L σ) (hσ ▸ h)
theorem bI {E : Env} {Q : Exit → aI → Prop} {σ : aI} {c : Code} (L : List Nat) {σ' : aI} (hσ : fH L σ = σ') (h : awl E c Q σ') : awl E c Q σ := fB (ga L σ) (hσ ▸ h)
theorem sY {E : Env} {Q : Exit → aI → Prop} {σ : aI} (tk : FuncId → Bool) (L : List Nat) {id : Nat} {l : List Oper} (h : ∀ K : aI → Prop, (∀ σ', Q .normal σ' → K σ') → d7 E.P E.N tk l.toArray l (dD L σ) K) : aw E (.region id l.toArray false) Q σ :=
  nB (jK L σ) (ku tk h)
theorem et {E : Env} {Q : Exit → aI → Prop} {σ σ' : aI} {c : Code} (h : awl E c Q σ') (e : σ = σ') : awl E c Q σ := e ▸ h
theorem wK {E : Env} {Q : Exit → aI → Prop} {σ σ' : aI} {c : Code} (h : aw E c Q σ') (e : σ = σ') : aw E c Q σ := e ▸ h
theorem b7 {E : Env} {Q : Exit → aI → Prop} {c : Code} {α : Type} (I : α → aI) (P : α → Prop) (m : α → Nat) (x0 : α) {σ : aI} (L : List Nat) (h0 : fH L σ = I x0) (hp : P x0)
    (step : ∀ x, P x → (∀ y, P y → m y < m x → awl E c Q (I y)) → aw E c (i5 (awl E c Q) Q) (I x)) : awl E c Q σ := by
  have all : ∀ n x, m x = n → P x → awl E c Q (I x) := fun n => by
    induction n using Nat.strongRecOn with
    | _ n ih => exact fun x hx hP => n6 (step x hP fun y hy hm => ih (m y) (hx ▸ hm) y rfl hy)
  exact fB (ga L σ) (h0 ▸ all _ x0 rfl hp)
theorem bX {x : Int} (h1 : -9223372036854775808 ≤ x) (h2 : x ≤ 9223372036854775807) : IntKind.i64.wrap x = x := by
  have e : IntKind.i64.wrap x = if x % 18446744073709551616 ≥ 9223372036854775808 then x % 18446744073709551616 - 18446744073709551616 else x % 18446744073709551616 := by
    simp [IntKind.wrap, IntKind.bits, IntKind.signed]
  rw [e]
  split <;> omega
end Go.Proofs.YtpkcgdikbjaoaaaDoor
namespace Go.Proofs.YtpkcgdikbjaoaaaDoor
set_option linter.unusedSimpArgs false
set_option linter.unusedVariables false
open Go.RowKit
theorem lB {E : Env} {σ : aI} {b k0 i n : Nat} {cs cells : List AV} {ty : TypeId} (e : TypeId) (hb : 10000 ≤ b ∧ b < 20000) (hk0 : 10000 ≤ k0) (hne : ¬ k0 = b) (hu : aE σ b = .u) (hB : aE σ k0 = .bc cells ty)
    (hi : cells[i]? = some (.sl cs n .full)) : ALe E σ (cF (cF σ b (.bt n e)) k0 (.bc (cells.set i (.sl cs n (.tok b))) ty)) := fun a w G hs => by
  have hm : ∀ k, aE (cF (cF σ b (.bt n e)) k0 (.bc (cells.set i (.sl cs n (.tok b))) ty)) k = if k0 = k then .bc (cells.set i (.sl cs n (.tok b))) ty else if b = k then .bt n e else aE σ k := fun k => by rw [cc, cc]
  generalize cF (cF σ b (.bt n e)) k0 (.bc (cells.set i (.sl cs n (.tok b))) ty) = σ' at hm
  have hγ : G.γ b = none := by
    cases hg : G.γ b with
    | none => rfl
    | some g =>
      obtain ⟨_, _, hbx⟩ := hs.st.box b g hg
      rcases hbx with ⟨_, _, h1, _⟩ | ⟨_, _, h1, _⟩ <;> rw [hu] at h1 <;> cases h1
  have hst : BStep G (aE σ) G (aE σ') := ⟨.refl _, fun k hk => by
    rw [hm]
    by_cases h0 : k0 = k
    · subst h0; rw [if_pos rfl, hB]; exact ⟨(fun _ _ hc => by cases hc; exact ⟨⟨_, rfl⟩, rfl⟩), (fun _ _ hc => by cases hc)⟩
    rw [if_neg h0]
    by_cases h1 : b = k
    · subst h1; rw [hu]; exact ⟨(fun _ _ hc => by cases hc), (fun _ _ hc => by cases hc)⟩
    · rw [if_neg h1]; exact ⟨fun cs ty hc => ⟨⟨cs, hc⟩, rfl⟩, fun n e hc => ⟨n, hc, .inr ⟨rfl, rfl, rfl⟩⟩⟩⟩
  refine ⟨G, hs.defers, hs.tsize, fun k hk => ?_, ⟨hs.st.agree, fun k g hk => ?_, fun k cs' ty' hk hc => ?_, hs.st.inj, hs.st.gl⟩, hs.fr, hs.step.trans hst, hs.zp⟩
  · rw [hm, if_neg (by omega), if_neg (by omega)]; exact (hs.slots k hk).step hst
  · obtain ⟨h1, h2, h3⟩ := hs.st.box k g hk
    refine ⟨h1, h2, ?_⟩
    by_cases h0 : k0 = k
    · subst h0
      rcases h3 with ⟨cs1, ty1, q1, c, q2, q3, q4, q5⟩ | ⟨_, _, q1, _⟩
      · rw [hB] at q1; cases q1
        refine .inl ⟨_, _, by rw [hm, if_pos rfl], c, q2, by simpa using q3, q4, fun j hj => ?_⟩
        have hj' : j < cells.length := by simpa using hj
        obtain ⟨r1, r2⟩ := q5 j hj'
        refine ⟨?_, r2⟩
        rw [List.getElem_set]
        split
        · rename_i hij
          subst hij
          obtain ⟨hl, hi2⟩ := List.getElem?_eq_some_iff.1 hi
          rw [hi2] at r1
          obtain ⟨ad, cap, b', off, f, ev, ⟨p1, p2, p3, p4, p5⟩, hf, _⟩ := da r1
          rw [ev]
          refine .tok ad n cap cs b n e (.sl ad b' off n cap .none cs f (.inl rfl) p1 p2 p3 p4 p5) hb.1 (by rw [hm, if_neg hne, if_pos rfl]) (Nat.le_refl _) fun _ => ⟨fun _ => hf rfl, fun g hg => by rw [hγ] at hg; cases hg⟩
        · exact r1.step hst
      · rw [hB] at q1; cases q1
    · refine h3.step hst ?_ rfl rfl fun _ => rfl
      rw [hm, if_neg h0, if_neg (fun h4 => by rw [← h4, hγ] at hk; cases hk)]
  · rw [hm] at hc
    by_cases h0 : k0 = k
    · subst h0; exact hs.st.real k0 cells ty hk0 hB
    rw [if_neg h0] at hc
    by_cases h1 : b = k
    · rw [if_pos h1] at hc; cases hc
    · rw [if_neg h1] at hc; exact hs.st.real k cs' ty' hk hc
end Go.Proofs.YtpkcgdikbjaoaaaDoor
namespace Go.Proofs.YtpkcgdikbjaoaaaDoor
set_option linter.unusedSimpArgs false
set_option linter.unusedVariables false
open Go.RowKit
def gG (p : Prop) : Prop := p
theorem ab {p : Prop} (h : p) : gG p := h
def EqTo {α : Type} (e : α) (X : α → Prop) : Prop := ∀ v, e = v → X v
theorem yQ {α : Type} {e : α} {X : α → Prop} (h : ∀ v, e = v → X v) : EqTo e X := h
theorem ac {α : Type} {e : α} {X : α → Prop} (h : ∀ Y : α → Prop, (∀ v, X v → Y v) → gG (Y e)) : EqTo e X := fun v hv => hv ▸ h X fun _ h => h
theorem EqTo.out {α : Type} {e : α} {X : α → Prop} (h : EqTo e X) : X e := h _ rfl
def pD (p q : Prop) : Prop := p ∧ q
theorem fa {p q : Prop} (h : gG p) (k : q) : pD p q := ⟨h, k⟩
def fD (v : AV) (want : Bool) (A B C : Prop) : Prop := match v with | .c (.bool b) => (b = want → A) ∧ (b = !want → B) | .c (.tuple _) => C | _ => False
theorem dU {want : Bool} {A B C : Prop} (h : C) : fD (.c undef) want A B C := h
theorem bl {want : Bool} {A B C : Prop} (h : A) : fD (.c (.bool want)) want A B C := ⟨fun _ => h, fun e => by cases want <;> cases e⟩
theorem bW {b want : Bool} {A B C : Prop} (hb : b = !want) (h : B) : fD (.c (.bool b)) want A B C := ⟨(fun e => by subst e; cases b <;> cases hb), fun _ => h⟩
theorem cu {b want : Bool} {A B C : Prop} (h1 : b = want → A) (h2 : b = !want → B) : fD (.c (.bool b)) want A B C := ⟨h1, h2⟩
def gO (d : Option Nat) (X : Nat → Prop) : Prop := match d with | some t => t < 10000 ∧ X t | none => False
theorem bh {t : Nat} {X : Nat → Prop} (ht : t < 10000) (h : X t) : gO (some t) X := ⟨ht, h⟩
def sW (P : Program) (N : Nat) (tk : FuncId → Bool) (ops : Array Oper) (o : Oper) (r : List Oper) (K : aI → Prop) (σ : aI) : Prop :=
  ∀ K' : List (Nat × AV) → Prop, (∀ e, EqTo (bU σ e) (fun σ' => d7 P N tk ops r σ' K) → K' e) → gG ((aop P N tk o).wp P σ fun _ e => K' e)
def o6 (P : Program) (N : Nat) (tk : FuncId → Bool) (ops : Array Oper) (o : Oper) (r : List Oper) (acc : List Rec) (pre : List Nat) (K : aI → List Rec → Prop) (σ : aI) : Prop :=
  ∀ K' : List Nat → List (Nat × AV) → Prop, (∀ R e, EqTo (bU σ e) (fun σ' => dc P N tk ops r σ' (acc ++ [(pre ++ R, e)]) K) → K' R e) → gG ((aop P N tk o).wp P σ fun R e => K' R e)
section
variable {P : Program} {N : Nat} {tk : FuncId → Bool} {ops : Array Oper} {r : List Oper} {σ : aI} {o : Oper} {g : Nat} {want : Bool}
theorem aN {K : aI → Prop} (h : ∀ K' : List (Nat × AV) → Prop, (∀ e, EqTo (bU σ e) (fun σ' => d7 P N tk ops r σ' K) → K' e) → gG ((aop P N tk o).wp P σ fun _ e => K' e)) : sW P N tk ops o r K σ := h
theorem dp {acc : List Rec} {pre : List Nat} {K : aI → List Rec → Prop} (h : ∀ K' : List Nat → List (Nat × AV) → Prop, (∀ R e, EqTo (bU σ e) (fun σ' => dc P N tk ops r σ' (acc ++ [(pre ++ R, e)]) K) → K' R e) → gG ((aop P N tk o).wp P σ fun R e => K' R e)) : o6 P N tk ops o r acc pre K σ := h
theorem aj {K : aI → Prop} (h : K σ) : d7 P N tk ops [] σ K := h
theorem aD {K : aI → Prop} (hg : o.guard = none) (h : sW P N tk ops o r K σ) : d7 P N tk ops (o :: r) σ K := by
  unfold d7; rw [hg]; exact h _ fun e h => h.out
theorem bV {K : aI → Prop} (hg : o.guard = some (g, want))
    (h : EqTo (gH ops g) fun d => gO d fun t => EqTo (aE σ t) fun v => fD v want (EqTo (cF σ t (.c (.bool want))) (sW P N tk ops o r K))
      (pD (co N o) (EqTo (bU (cF σ t (.c (.bool (!want)))) (cC o (.c undef))) fun σ' => d7 P N tk ops r σ' K))
      (pD (co N o) (EqTo (bU σ (cC o (.c undef))) fun σ' => d7 P N tk ops r σ' K))) : d7 P N tk ops (o :: r) σ K := by
  replace h := h.out
  unfold d7
  rw [hg]
  unfold gO at h
  split at h
  · rename_i t ht
    simp only [ht]
    obtain ⟨h10, h⟩ := h
    replace h := h.out
    refine ⟨h10, ?_⟩
    unfold fD at h
    split at h
    · rename_i b hb
      simp only [hb]
      by_cases e : b = want
      · rw [if_pos e]; exact (h.1 e).out _ fun e h => h.out
      · rw [if_neg e]
        have h2 := h.2 (by cases b <;> cases want <;> simp_all)
        exact ⟨h2.1, h2.2.out⟩
    · rename_i hb
      simp only [hb]
      exact ⟨h.1, h.2.out⟩
    · exact h.elim
  · exact h.elim
theorem cn {acc : List Rec} {K : aI → List Rec → Prop} (h : K σ acc) : dc P N tk ops [] σ acc K := h
theorem dg {acc : List Rec} {K : aI → List Rec → Prop} (hg : o.guard = none) (h : o6 P N tk ops o r acc [] K σ) : dc P N tk ops (o :: r) σ acc K := by
  unfold dc; rw [hg]; exact h _ fun R e h => h.out
theorem lg {acc : List Rec} {K : aI → List Rec → Prop} (hg : o.guard = some (g, want))
    (h : EqTo (gH ops g) fun d => gO d fun t => EqTo (aE σ t) fun v => fD v want (EqTo (cF σ t (.c (.bool want))) (o6 P N tk ops o r acc [t] K))
      (pD (co N o) (EqTo (bU (cF σ t (.c (.bool (!want)))) (cC o (.c undef))) fun σ' => dc P N tk ops r σ' (acc ++ [([t], cC o (.c undef))]) K))
      (pD (co N o) (EqTo (bU σ (cC o (.c undef))) fun σ' => dc P N tk ops r σ' (acc ++ [([t], cC o (.c undef))]) K))) : dc P N tk ops (o :: r) σ acc K := by
  replace h := h.out
  unfold dc
  rw [hg]
  unfold gO at h
  split at h
  · rename_i t ht
    simp only [ht]
    obtain ⟨h10, h⟩ := h
    replace h := h.out
    refine ⟨h10, ?_⟩
    unfold fD at h
    split at h
    · rename_i b hb
      simp only [hb]
      by_cases e : b = want
      · rw [if_pos e]; exact (h.1 e).out _ fun R e h => h.out
      · rw [if_neg e]
        have h2 := h.2 (by cases b <;> cases want <;> simp_all)
        exact ⟨h2.1, h2.2.out⟩
    · rename_i hb
      simp only [hb]
      exact ⟨h.1, h.2.out⟩
    · exact h.elim
  · exact h.elim
end
def tJ (E : Env) (Q : Exit → aI → Prop) (tk : FuncId → Bool) (l : List Oper) (σ₁ : aI) : Prop := ∀ K : aI → Prop, (∀ σ', Q .normal σ' → K σ') → d7 E.P E.N tk l.toArray l σ₁ K
theorem aT {E : Env} {Q : Exit → aI → Prop} {tk : FuncId → Bool} {l : List Oper} {σ₁ : aI} (h : ∀ K : aI → Prop, (∀ σ', Q .normal σ' → K σ') → d7 E.P E.N tk l.toArray l σ₁ K) : tJ E Q tk l σ₁ := h
def tt (E : Env) (Q : Exit → aI → Prop) (tk : FuncId → Bool) (l : List Oper) (σ₁ : aI) : Prop := ∀ K : aI → List Rec → Prop, (∀ σ' recs, go l recs = true → Q .normal σ' → K σ' recs) → dc E.P E.N tk l.toArray l σ₁ [] K
theorem gT {E : Env} {Q : Exit → aI → Prop} {tk : FuncId → Bool} {l : List Oper} {σ₁ : aI} (h : ∀ K : aI → List Rec → Prop, (∀ σ' recs, go l recs = true → Q .normal σ' → K σ' recs) → dc E.P E.N tk l.toArray l σ₁ [] K) : tt E Q tk l σ₁ := h
theorem ae {E : Env} {Q : Exit → aI → Prop} {σ : aI} (tk : FuncId → Bool) (LV : Nat → List Nat) {id : Nat} {l : List Oper} (h : EqTo (fH (LV id) σ) (tJ E Q tk l)) : aw E (.region id l.toArray false) Q σ :=
  mP tk LV fun K hK => h.out K hK
theorem cj {E : Env} {Q : Exit → aI → Prop} {σ : aI} (tk : FuncId → Bool) (LV : Nat → List Nat) {id : Nat} {l : List Oper} (hm : E.P.follows .mixedOrders = true) (h : EqTo (fH (LV id) σ) (tt E Q tk l)) : aw E (.region id l.toArray true) Q σ :=
  pE tk LV hm fun K hK => h.out K hK
theorem al {E : Env} {Q : Exit → aI → Prop} {σ : aI} {t : Nat} {x y : Code} (ht : t < 10000) (h : EqTo (aE σ t) (kH E x y Q σ)) : aw E (.cond (.tmp t) x y) Q σ := qi ht fun v hv => h v hv
theorem aa {P : Program} {f : FuncId} {a b bxs' : List AV} {r : AV} {X : AV → List AV → Prop} (h : AFn P f a b r bxs') (k : gG (X r bxs')) : ∃ r bxs', AFn P f a b r bxs' ∧ X r bxs' := ⟨r, bxs', h, k⟩
theorem bE {X : World → Result Value} {v : Value} {Q : Value → Prop} (h : ∀ w, X w = .ok v w) (k : gG (Q v)) : ∃ v, (∀ w, X w = .ok v w) ∧ Q v := ⟨v, h, k⟩
theorem sA {X : World → Result Next} {v : Value} {Q : Value → Prop} (h : ∀ w, X w = .ok (.value v) w) (k : gG (Q v)) : ∃ v, (∀ w, X w = .ok (.value v) w) ∧ Q v := ⟨v, h, k⟩
theorem iL {X : Value → Prop} (k : gG (X (.bool false))) : ∃ v : Value, (v = .bool true ∨ v = .bool false) ∧ X v := ⟨_, .inr rfl, k⟩
theorem ui {X : Value → Prop} (k : gG (X (.bool true))) : ∃ v : Value, (v = .bool true ∨ v = .bool false) ∧ X v := ⟨_, .inl rfl, k⟩
theorem av {P : Program} {fn : Func} {nb : Nat} {nw : List Nat} {r : AV} {bxs : List AV} {σ : aI} (h : gG (fin P fn nb nw r bxs σ)) : oD P fn nb nw r bxs .ret σ := h
theorem dl {P : Program} {fn : Func} {nb : Nat} {nw : List Nat} {r : AV} {bxs : List AV} {σ : aI} (h : gG (fin P fn nb nw r bxs σ)) : oD P fn nb nw r bxs .normal σ := h
section
variable {P : Program} {N : Nat} {o : Oper} {σ : aI} {K : List Nat → List (Nat × AV) → Prop}
theorem re {d : List (Nat × AV)} : TR.wp P (.done d) σ K = K [] d := rfl
theorem tB {k : Nat} {f : AV → TR} : TR.wp P (.rd k f) σ K = (f (aE σ k)).wp P σ fun R d => K (k :: R) d := rfl
theorem qK {p : Prop} {t : TR} : TR.wp P (.need p t) σ K = (p ∧ t.wp P σ K) := rfl
theorem tw {p : Value → Prop} {f : Value → TR} : TR.wp P (.ex p f) σ K = ∃ v, p v ∧ (f v).wp P σ K := rfl
theorem rF {f : FuncId} {args bxs : List AV} {k : AV → List AV → TR} : TR.wp P (.call f args bxs k) σ K = ∃ r bxs', AFn P f args bxs r bxs' ∧ (k r bxs').wp P σ K := rfl
theorem m2 {t : Nat} {f : AV → TR} : TR.wp P (rdo (.tmp t) f) σ K = (t < 10000 ∧ TR.wp P (f (aE σ t)) σ fun R d => K (t :: R) d) := rfl
theorem kY {v : Value} {f : AV → TR} : TR.wp P (rdo (.const v) f) σ K = TR.wp P (f (ofV v)) σ K := rfl
theorem jV {g : Nat} {f : AV → TR} : TR.wp P (rdo (.global g) f) σ K = TR.wp P (f (nJ g)) σ K := rfl
theorem mi {i : Nat} {f : AV → TR} : TR.wp P (rdo (.func i) f) σ K = TR.wp P (f (.fn (.func i) [] [])) σ K := rfl
theorem l3 {f : List AV → TR} : TR.wp P (rdos [] f) σ K = TR.wp P (f []) σ K := rfl
theorem k5 {x : Operand} {l : List Operand} {f : List AV → TR} : TR.wp P (rdos (x :: l) f) σ K = TR.wp P (rdo x fun v => rdos l fun vs => f (v :: vs)) σ K := rfl
theorem lv {f : Option AV → TR} : TR.wp P (jY none f) σ K = TR.wp P (f none) σ K := rfl
theorem lw {x : Operand} {f : Option AV → TR} : TR.wp P (jY (some x) f) σ K = TR.wp P (rdo x fun v => f (some v)) σ K := rfl
theorem wp_ret {v : AV} : TR.wp P (ret N o v) σ K = (co N o ∧ K [] (cC o v)) := rfl
theorem o8 {b off : Nat} : le N o (.loc b off) = ret N o (.loc b off) := rfl
theorem rS {cs : List AV} {off : Nat} : le N o (.rf cs off) = ret N o (.rf cs off) := rfl
theorem rg {i : Nat} {a b : List AV} : le N o (.fn (.func i) a b) = ret N o (.fn (.func i) a b) := rfl
theorem pG {t : TypeId} {x : AV} : le N o (.ifc t x) = ret N o (.ifc t x) := rfl
theorem qP {b : Bool} {x y : AV} : kA N o (.c (.bool b)) x y = ret N o (if b then x else y) := rfl
theorem pz {t off : Nat} {cs : List AV} {f : AV → TR} : jd P t (.rf cs off) f = kLd P t cs off f := rfl
theorem rO {op : BinOp} {t : TypeId} {x y : Operand} {k k' : IntKind} {z z' : Int} : iD P N o op t x y (.c (.int k z)) (.c (.int k' z')) = .need (k = k' ∨ gZ op = true) (match ja op k z z' with | some v => ret N o (.c v) | none => fail) := rfl
theorem qI {op : BinOp} {t : TypeId} {x y : Operand} {t' : TypeId} {a : AV} : iD P N o op t x y (.ifc t' a) (.c .nilIface) = (match eR op with | some r => .need (ag P t = false ∧ (P.underlying t).isSome = true) (ret N o (.c (.bool (!r)))) | none => fail) := rfl
theorem qM {op : BinOp} {t : TypeId} {x y : Operand} {t' : TypeId} {a : AV} : iD P N o op t x y (.c .nilIface) (.ifc t' a) = (match eR op with | some r => .need (ag P t = false ∧ (P.underlying t).isSome = true) (ret N o (.c (.bool (!r)))) | none => fail) := rfl
theorem rn {op : BinOp} {t : TypeId} {x y : Operand} : iD P N o op t x y (.c .nilIface) (.c .nilIface) = ge P N o op t x y .nilIface .nilIface := rfl
theorem qF {op : BinOp} {t : TypeId} {x y : Operand} {a b : ByteArray} : iD P N o op t x y (.c (.string a)) (.c (.string b)) = ge P N o op t x y (.string a) (.string b) := rfl
theorem rt {op : BinOp} {t : TypeId} {x y : Operand} {a b : Bool} : iD P N o op t x y (.c (.bool a)) (.c (.bool b)) = ge P N o op t x y (.bool a) (.bool b) := rfl
theorem qC {op : BinOp} {t : TypeId} {x y : Operand} {t1 t2 : TypeId} {a b : AV} : iD P N o op t x y (.ifc t1 a) (.ifc t2 b) = (match fv (.ifc t1 a), fv (.ifc t2 b) with | some vx, some vy => ge P N o op t x y vx vy | _, _ => fail) := rfl
theorem rL {b : Bool} : kUn N o .not (.c (.bool b)) = ret N o (.c (.bool (!b))) := rfl
theorem qN {k : IntKind} {n : Int} : kUn N o .neg (.c (.int k n)) = ret N o (.c (.int k (k.wrap (0 - n)))) := rfl
theorem mY {cs : List AV} {i : Nat} : ez N o (.tup cs) i = .need (i < cs.length) (ret N o (cs.getD i .u)) := rfl
theorem rP {t n : Nat} {cs : List AV} {w : Own} : mt P N o t (.sl cs n w) = .need ((am P t).isSome = true) (ret N o (.c (.int .i64 n))) := rfl
theorem qu {t b off n e : Nat} : mt P N o t (.arr b off n e) = .need ((am P t).isSome = true) (ret N o (.c (.int .i64 n))) := rfl
theorem sZ {t : Nat} {s : ByteArray} : mt P N o t (.c (.string s)) = .need (ao P t = true) (ret N o (.c (.int .i64 s.size))) := rfl
end
attribute [go_sem] nJ nz
attribute [-go_sem] d7 TR.wp le kA iD kUn ez mt aop
attribute [go_sem] o8 rS rg pG qP pz rO qI qM rn qF rt qC rL qN mY rP qu sZ
attribute [go_sem ↓] re tB qK tw rF m2 kY jV mi l3 k5 lv lw wp_ret
end Go.Proofs.YtpkcgdikbjaoaaaDoor

/- K: the walk's rules. No program is in sight. -/
import Derived.Test.YtjabaenpkimmjaaTy
import Derived.Test.YtjabaenpkimmjaaKO
namespace Go.Proofs.Ytjabaenpkimmjaa
set_option linter.unusedSimpArgs false
set_option linter.unusedVariables false
open Go.RowKit

attribute [go_sem] isM mlook mputC keysOk kMakeMap foundA kLookup kMapUpd arun TR.wp aop rdo rdos mget mset mupd outs dstOk ret fail ofV kLd kLoad kStore kAlloc kBox kNil kFieldAddr kField kIndexAddr kIndex intBin isShift valC valOf kBin eqIface kUn kPick kConvert kIface kExtract fillA kBuild repA kBuildSlice kMakeSlice kMakeB kMakeM kMakeX kSlice kSliceR rowCut kAppRow kAppNew kAppX kNews rdRow rowAt rowOf lookK baseK rowV isFo enc_lt encB_enc encI_enc kLen kAppTok kAppFull kAppOwn kAppend kApp lookN ren renBox names addN rdBoxes gather zipFrom flipN backs isBox kCall kCallV kCallW kExt optO AV.one cellsOfA allOne pureA putAt dstOf mkeep hasRef anyRef mrm mgc keysB mclean List.any_cons List.any_nil start argMap fin resT tupA expA expBox exNames exOk nodupB kBack kNew pureX Qret thenA blockA kBinGen
def tk0 : FuncId → Bool := fun _ => true
attribute [go_sem] tk0 Option.isSome_some Option.isSome_none Value.oneCell' Nat.min_def if_true if_false and_true true_and and_false false_and or_true true_or or_false false_or not_true not_false_eq_true Bool.not_true Bool.not_false ne_eq List.length_cons List.length_nil List.length_map List.map_cons List.map_nil List.append_nil List.nil_append List.cons_append List.getD_cons_zero List.getD_cons_succ List.drop_succ_cons List.drop_zero List.take_succ_cons List.take_zero List.drop_nil List.take_nil List.flatMap_cons List.flatMap_nil List.zip_cons_cons List.zip_nil_left List.zip_nil_right List.getElem?_toArray List.getElem?_cons_zero List.getElem?_cons_succ List.getElem?_nil List.contains_cons List.contains_nil List.mapM_cons List.mapM_nil List.all_cons List.all_nil List.range_zero List.range_succ Option.bind_some Option.bind_none Option.map_some Option.map_none Option.pure_def Option.bind_eq_bind Bool.and_false Bool.false_and Bool.and_true Bool.true_and Bool.or_false Bool.false_or Bool.or_true Bool.true_or Bool.and_eq_true beq_self_eq_true Nat.zero_add Nat.add_zero Nat.zero_mul Nat.mul_one Nat.one_mul Nat.mul_zero Nat.sub_zero Int.toNat_zero exists_eq_left exists_eq' Nat.add_eq_zero_iff decide_eq_true_eq decide_true decide_false bne_self_eq_false Nat.beq_eq_true_eq beq_iff_eq Array.toList_map Int.toNat_natCast
theorem and_i {p q : Prop} (hp : p) (hq : q) : p ∧ q := ⟨hp, hq⟩
theorem ex_call {P : Program} {f : FuncId} {a b bxs' : List AV} {r : AV} {X : AV → List AV → Prop} (h : AFn P f a b r bxs') (k : X r bxs') : ∃ r bxs', AFn P f a b r bxs' ∧ X r bxs' := ⟨r, bxs', h, k⟩
theorem qret_r {P : Program} {fn : Func} {nb : Nat} {nw : List Nat} {r : AV} {bxs : List AV} {σ : AMap} (h : fin P fn nb nw r bxs σ) : Qret P fn nb nw r bxs .ret σ := h
theorem qret_n {P : Program} {fn : Func} {nb : Nat} {nw : List Nat} {r : AV} {bxs : List AV} {σ : AMap} (h : fin P fn nb nw r bxs σ) : Qret P fn nb nw r bxs .normal σ := h
def condV (E : Env) (x y : Code) (Q : Exit → AMap → Prop) (σ : AMap) : AV → Prop
  | .c (.bool b) => (b = true → aw E x Q σ) ∧ (b = false → aw E y Q σ)
  | _ => False
theorem aw_condv {E : Env} {Q : Exit → AMap → Prop} {σ : AMap} {t : Nat} {x y : Code} (ht : t < 10000) (h : ∀ v, mget σ t = v → condV E x y Q σ v) : aw E (.cond (.tmp t) x y) Q σ := by
  replace h := h _ rfl
  unfold condV at h
  split at h
  · rename_i b hb; exact aw_cond ht hb h.1 h.2
  · exact h.elim
theorem condV_t {E : Env} {Q : Exit → AMap → Prop} {σ : AMap} {x y : Code} (h : aw E x Q σ) : condV E x y Q σ (.c (.bool true)) := ⟨(fun _ => h), (fun e => by cases e)⟩
theorem condV_f {E : Env} {Q : Exit → AMap → Prop} {σ : AMap} {x y : Code} (h : aw E y Q σ) : condV E x y Q σ (.c (.bool false)) := ⟨(fun e => by cases e), (fun _ => h)⟩
theorem condV_b {E : Env} {Q : Exit → AMap → Prop} {σ : AMap} {x y : Code} {b : Bool} (h1 : b = true → aw E x Q σ) (h2 : b = false → aw E y Q σ) : condV E x y Q σ (.c (.bool b)) := ⟨h1, h2⟩
theorem aw_cond_t {E : Env} {Q : Exit → AMap → Prop} {σ : AMap} {t : Nat} {x y : Code} (ht : t < 10000) (hb : mget σ t = .c (.bool true)) (h : aw E x Q σ) : aw E (.cond (.tmp t) x y) Q σ := aw_cond ht hb (fun _ => h) (fun e => by cases e)
theorem aw_cond_f {E : Env} {Q : Exit → AMap → Prop} {σ : AMap} {t : Nat} {x y : Code} (ht : t < 10000) (hb : mget σ t = .c (.bool false)) (h : aw E y Q σ) : aw E (.cond (.tmp t) x y) Q σ := aw_cond ht hb (fun e => by cases e) (fun _ => h)
theorem aw_condc_t {E : Env} {Q : Exit → AMap → Prop} {σ : AMap} {x y : Code} (h : aw E x Q σ) : aw E (.cond (.const (.bool true)) x y) Q σ := aw_condc (fun _ => h) (fun e => by cases e)
theorem aw_condc_f {E : Env} {Q : Exit → AMap → Prop} {σ : AMap} {x y : Code} (h : aw E y Q σ) : aw E (.cond (.const (.bool false)) x y) Q σ := aw_condc (fun e => by cases e) (fun _ => h)
theorem aw_regionA {E : Env} {Q : Exit → AMap → Prop} {σ : AMap} (tk : FuncId → Bool) (LV : Nat → List Nat) {id : Nat} {l : List Oper} (h : ∀ K : AMap → Prop, (∀ σ', Q .normal σ' → K σ') → arun E.P E.N tk l.toArray l (mclean (LV id) σ) K) : aw E (.region id l.toArray false) Q σ :=
  aw_le (ale_clean (LV id) σ) (aw_region tk h)
theorem aw_drawA {E : Env} {Q : Exit → AMap → Prop} {σ : AMap} (tk : FuncId → Bool) (LV : Nat → List Nat) {id : Nat} {l : List Oper} (hm : E.P.follows .mixedOrders = true)
    (h : ∀ K : AMap → List Rec → Prop, (∀ σ' recs, drawOk l recs = true → Q .normal σ' → K σ' recs) → adraw E.P E.N tk l.toArray l (mclean (LV id) σ) [] K) : aw E (.region id l.toArray true) Q σ := aw_le (ale_clean (LV id) σ) (aw_draw0 tk hm h)
theorem then_n {K : AMap → Prop} {Q : Exit → AMap → Prop} {σ : AMap} (h : K σ) : thenA K Q .normal σ := h
theorem then_e {K : AMap → Prop} {Q : Exit → AMap → Prop} {σ : AMap} {e : Nat} (h : Q (.exit e) σ) : thenA K Q (.exit e) σ := h
theorem then_r {K : AMap → Prop} {Q : Exit → AMap → Prop} {σ : AMap} (h : Q .ret σ) : thenA K Q .ret σ := h
theorem block_n {id : Nat} {Q : Exit → AMap → Prop} {σ : AMap} (h : Q .normal σ) : blockA id Q .normal σ := h
theorem block_r {id : Nat} {Q : Exit → AMap → Prop} {σ : AMap} (h : Q .ret σ) : blockA id Q .ret σ := h
theorem block_e {id : Nat} {Q : Exit → AMap → Prop} {σ : AMap} (h : Q .normal σ) : blockA id Q (.exit id) σ := by simp only [blockA, if_true]; exact h
theorem block_o {id i : Nat} {Q : Exit → AMap → Prop} {σ : AMap} (hi : ¬ i = id) (h : Q (.exit i) σ) : blockA id Q (.exit i) σ := by simp only [blockA, if_neg hi]; exact h
theorem aw_keep {E : Env} {Q : Exit → AMap → Prop} {σ : AMap} {c : Code} (L : List Nat) {σ' : AMap} (hσ : mkeep L σ = σ') (h : aw E c Q σ') : aw E c Q σ := aw_le (ale_keep L σ) (hσ ▸ h)
theorem awl_keep {E : Env} {Q : Exit → AMap → Prop} {σ : AMap} {c : Code} (L : List Nat) {σ' : AMap} (hσ : mclean L σ = σ') (h : awl E c Q σ') : awl E c Q σ := awl_le (ale_clean L σ) (hσ ▸ h)
theorem aw_regionL {E : Env} {Q : Exit → AMap → Prop} {σ : AMap} (tk : FuncId → Bool) (L : List Nat) {id : Nat} {l : List Oper} (h : ∀ K : AMap → Prop, (∀ σ', Q .normal σ' → K σ') → arun E.P E.N tk l.toArray l (mkeep L σ) K) : aw E (.region id l.toArray false) Q σ :=
  aw_le (ale_keep L σ) (aw_region tk h)
theorem awl_eq {E : Env} {Q : Exit → AMap → Prop} {σ σ' : AMap} {c : Code} (h : awl E c Q σ') (e : σ = σ') : awl E c Q σ := e ▸ h
theorem aw_eq {E : Env} {Q : Exit → AMap → Prop} {σ σ' : AMap} {c : Code} (h : aw E c Q σ') (e : σ = σ') : aw E c Q σ := e ▸ h
theorem awl_ind {E : Env} {Q : Exit → AMap → Prop} {c : Code} {α : Type} (I : α → AMap) (P : α → Prop) (m : α → Nat) (x0 : α) {σ : AMap} (L : List Nat) (h0 : mclean L σ = I x0) (hp : P x0)
    (step : ∀ x, P x → (∀ y, P y → m y < m x → awl E c Q (I y)) → aw E c (thenA (awl E c Q) Q) (I x)) : awl E c Q σ := by
  have all : ∀ n x, m x = n → P x → awl E c Q (I x) := fun n => by
    induction n using Nat.strongRecOn with
    | _ n ih => exact fun x hx hP => awl_round (step x hP fun y hy hm => ih (m y) (hx ▸ hm) y rfl hy)
  exact awl_le (ale_clean L σ) (h0 ▸ all _ x0 rfl hp)
theorem wrap_i64 {x : Int} (h1 : -9223372036854775808 ≤ x) (h2 : x ≤ 9223372036854775807) : IntKind.i64.wrap x = x := by
  have e : IntKind.i64.wrap x = if x % 18446744073709551616 ≥ 9223372036854775808 then x % 18446744073709551616 - 18446744073709551616 else x % 18446744073709551616 := by
    simp [IntKind.wrap, IntKind.bits, IntKind.signed]
  rw [e]
  split <;> omega
end Go.Proofs.Ytjabaenpkimmjaa

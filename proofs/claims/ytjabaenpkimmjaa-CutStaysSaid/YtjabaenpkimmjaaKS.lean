/- K: step by step: one operation at a time, what comes behind it not in sight. No program is in sight. -/
import Derived.Test.YtjabaenpkimmjaaKN
namespace Go.Proofs.Ytjabaenpkimmjaa
set_option linter.unusedSimpArgs false
set_option linter.unusedVariables false
open Go.RowKit
/-- What is to be simplified. -/
def Todo (p : Prop) : Prop := p
theorem todo {p : Prop} (h : p) : Todo p := h
/-- e is computed, then handed on. -/
def EqTo {α : Type} (e : α) (X : α → Prop) : Prop := ∀ v, e = v → X v
theorem eqTo {α : Type} {e : α} {X : α → Prop} (h : ∀ v, e = v → X v) : EqTo e X := h
theorem eqTo2 {α : Type} {e : α} {X : α → Prop} (h : ∀ Y : α → Prop, (∀ v, X v → Y v) → Todo (Y e)) : EqTo e X := fun v hv => hv ▸ h X fun _ h => h
theorem EqTo.out {α : Type} {e : α} {X : α → Prop} (h : EqTo e X) : X e := h _ rfl
def AndD (p q : Prop) : Prop := p ∧ q
theorem andD {p q : Prop} (h : Todo p) (k : q) : AndD p q := ⟨h, k⟩
def guardG (v : AV) (want : Bool) (A B C : Prop) : Prop := match v with | .c (.bool b) => (b = want → A) ∧ (b = !want → B) | .c (.tuple _) => C | _ => False
theorem guardG_u {want : Bool} {A B C : Prop} (h : C) : guardG (.c undef) want A B C := h
theorem guardG_y {want : Bool} {A B C : Prop} (h : A) : guardG (.c (.bool want)) want A B C := ⟨fun _ => h, fun e => by cases want <;> cases e⟩
theorem guardG_n {b want : Bool} {A B C : Prop} (hb : b = !want) (h : B) : guardG (.c (.bool b)) want A B C := ⟨(fun e => by subst e; cases b <;> cases hb), fun _ => h⟩
theorem guardG_b {b want : Bool} {A B C : Prop} (h1 : b = want → A) (h2 : b = !want → B) : guardG (.c (.bool b)) want A B C := ⟨h1, h2⟩
def gO (d : Option Nat) (X : Nat → Prop) : Prop := match d with | some t => t < 10000 ∧ X t | none => False
theorem gO_some {t : Nat} {X : Nat → Prop} (ht : t < 10000) (h : X t) : gO (some t) X := ⟨ht, h⟩
def RunN (P : Program) (N : Nat) (tk : FuncId → Bool) (ops : Array Oper) (o : Oper) (r : List Oper) (K : AMap → Prop) (σ : AMap) : Prop :=
  ∀ K' : List (Nat × AV) → Prop, (∀ e, EqTo (mupd σ e) (fun σ' => arun P N tk ops r σ' K) → K' e) → Todo ((aop P N tk o).wp P σ fun _ e => K' e)
def DrawN (P : Program) (N : Nat) (tk : FuncId → Bool) (ops : Array Oper) (o : Oper) (r : List Oper) (acc : List Rec) (pre : List Nat) (K : AMap → List Rec → Prop) (σ : AMap) : Prop :=
  ∀ K' : List Nat → List (Nat × AV) → Prop, (∀ R e, EqTo (mupd σ e) (fun σ' => adraw P N tk ops r σ' (acc ++ [(pre ++ R, e)]) K) → K' R e) → Todo ((aop P N tk o).wp P σ fun R e => K' R e)
section
variable {P : Program} {N : Nat} {tk : FuncId → Bool} {ops : Array Oper} {r : List Oper} {σ : AMap} {o : Oper} {g : Nat} {want : Bool}
theorem runN {K : AMap → Prop} (h : ∀ K' : List (Nat × AV) → Prop, (∀ e, EqTo (mupd σ e) (fun σ' => arun P N tk ops r σ' K) → K' e) → Todo ((aop P N tk o).wp P σ fun _ e => K' e)) : RunN P N tk ops o r K σ := h
theorem drawN {acc : List Rec} {pre : List Nat} {K : AMap → List Rec → Prop} (h : ∀ K' : List Nat → List (Nat × AV) → Prop, (∀ R e, EqTo (mupd σ e) (fun σ' => adraw P N tk ops r σ' (acc ++ [(pre ++ R, e)]) K) → K' R e) → Todo ((aop P N tk o).wp P σ fun R e => K' R e)) : DrawN P N tk ops o r acc pre K σ := h
theorem run_nil {K : AMap → Prop} (h : K σ) : arun P N tk ops [] σ K := h
theorem run_n {K : AMap → Prop} (hg : o.guard = none) (h : RunN P N tk ops o r K σ) : arun P N tk ops (o :: r) σ K := by
  unfold arun; rw [hg]; exact h _ fun e h => h.out
theorem run_g {K : AMap → Prop} (hg : o.guard = some (g, want))
    (h : EqTo (dstOf ops g) fun d => gO d fun t => EqTo (mget σ t) fun v => guardG v want (EqTo (mset σ t (.c (.bool want))) (RunN P N tk ops o r K))
      (AndD (dstOk N o) (EqTo (mupd (mset σ t (.c (.bool (!want)))) (outs o (.c undef))) fun σ' => arun P N tk ops r σ' K))
      (AndD (dstOk N o) (EqTo (mupd σ (outs o (.c undef))) fun σ' => arun P N tk ops r σ' K))) : arun P N tk ops (o :: r) σ K := by
  replace h := h.out
  unfold arun
  rw [hg]
  unfold gO at h
  split at h
  · rename_i t ht
    simp only [ht]
    obtain ⟨h10, h⟩ := h
    replace h := h.out
    refine ⟨h10, ?_⟩
    unfold guardG at h
    split at h
    · rename_i b hb
      simp only [hb]
      by_cases e : b = want
      · rw [if_pos e]; exact (h.1 e).out _ fun e h => h.out
      · rw [if_neg e]
        have h2 := h.2 (by cases b <;> cases want <;> simp_all)
        exact ⟨h2.1, h2.2.out⟩
    · rename_i hb
      simp only [hb]
      exact ⟨h.1, h.2.out⟩
    · exact h.elim
  · exact h.elim
theorem draw_nil {acc : List Rec} {K : AMap → List Rec → Prop} (h : K σ acc) : adraw P N tk ops [] σ acc K := h
theorem draw_n {acc : List Rec} {K : AMap → List Rec → Prop} (hg : o.guard = none) (h : DrawN P N tk ops o r acc [] K σ) : adraw P N tk ops (o :: r) σ acc K := by
  unfold adraw; rw [hg]; exact h _ fun R e h => h.out
theorem draw_g {acc : List Rec} {K : AMap → List Rec → Prop} (hg : o.guard = some (g, want))
    (h : EqTo (dstOf ops g) fun d => gO d fun t => EqTo (mget σ t) fun v => guardG v want (EqTo (mset σ t (.c (.bool want))) (DrawN P N tk ops o r acc [t] K))
      (AndD (dstOk N o) (EqTo (mupd (mset σ t (.c (.bool (!want)))) (outs o (.c undef))) fun σ' => adraw P N tk ops r σ' (acc ++ [([t], outs o (.c undef))]) K))
      (AndD (dstOk N o) (EqTo (mupd σ (outs o (.c undef))) fun σ' => adraw P N tk ops r σ' (acc ++ [([t], outs o (.c undef))]) K))) : adraw P N tk ops (o :: r) σ acc K := by
  replace h := h.out
  unfold adraw
  rw [hg]
  unfold gO at h
  split at h
  · rename_i t ht
    simp only [ht]
    obtain ⟨h10, h⟩ := h
    replace h := h.out
    refine ⟨h10, ?_⟩
    unfold guardG at h
    split at h
    · rename_i b hb
      simp only [hb]
      by_cases e : b = want
      · rw [if_pos e]; exact (h.1 e).out _ fun R e h => h.out
      · rw [if_neg e]
        have h2 := h.2 (by cases b <;> cases want <;> simp_all)
        exact ⟨h2.1, h2.2.out⟩
    · rename_i hb
      simp only [hb]
      exact ⟨h.1, h.2.out⟩
    · exact h.elim
  · exact h.elim
end
def RegN (E : Env) (Q : Exit → AMap → Prop) (tk : FuncId → Bool) (l : List Oper) (σ₁ : AMap) : Prop := ∀ K : AMap → Prop, (∀ σ', Q .normal σ' → K σ') → arun E.P E.N tk l.toArray l σ₁ K
theorem regN {E : Env} {Q : Exit → AMap → Prop} {tk : FuncId → Bool} {l : List Oper} {σ₁ : AMap} (h : ∀ K : AMap → Prop, (∀ σ', Q .normal σ' → K σ') → arun E.P E.N tk l.toArray l σ₁ K) : RegN E Q tk l σ₁ := h
def RegD (E : Env) (Q : Exit → AMap → Prop) (tk : FuncId → Bool) (l : List Oper) (σ₁ : AMap) : Prop := ∀ K : AMap → List Rec → Prop, (∀ σ' recs, drawOk l recs = true → Q .normal σ' → K σ' recs) → adraw E.P E.N tk l.toArray l σ₁ [] K
theorem regD {E : Env} {Q : Exit → AMap → Prop} {tk : FuncId → Bool} {l : List Oper} {σ₁ : AMap} (h : ∀ K : AMap → List Rec → Prop, (∀ σ' recs, drawOk l recs = true → Q .normal σ' → K σ' recs) → adraw E.P E.N tk l.toArray l σ₁ [] K) : RegD E Q tk l σ₁ := h
theorem aw_regionB {E : Env} {Q : Exit → AMap → Prop} {σ : AMap} (tk : FuncId → Bool) (LV : Nat → List Nat) {id : Nat} {l : List Oper} (h : EqTo (mclean (LV id) σ) (RegN E Q tk l)) : aw E (.region id l.toArray false) Q σ :=
  aw_regionA tk LV fun K hK => h.out K hK
theorem aw_drawB {E : Env} {Q : Exit → AMap → Prop} {σ : AMap} (tk : FuncId → Bool) (LV : Nat → List Nat) {id : Nat} {l : List Oper} (hm : E.P.follows .mixedOrders = true) (h : EqTo (mclean (LV id) σ) (RegD E Q tk l)) : aw E (.region id l.toArray true) Q σ :=
  aw_drawA tk LV hm fun K hK => h.out K hK
theorem aw_condE {E : Env} {Q : Exit → AMap → Prop} {σ : AMap} {t : Nat} {x y : Code} (ht : t < 10000) (h : EqTo (mget σ t) (condV E x y Q σ)) : aw E (.cond (.tmp t) x y) Q σ := aw_condv ht fun v hv => h v hv
theorem ex_callT {P : Program} {f : FuncId} {a b bxs' : List AV} {r : AV} {X : AV → List AV → Prop} (h : AFn P f a b r bxs') (k : Todo (X r bxs')) : ∃ r bxs', AFn P f a b r bxs' ∧ X r bxs' := ⟨r, bxs', h, k⟩
theorem ex_okT {X : World → Result Value} {v : Value} {Q : Value → Prop} (h : ∀ w, X w = .ok v w) (k : Todo (Q v)) : ∃ v, (∀ w, X w = .ok v w) ∧ Q v := ⟨v, h, k⟩
theorem ex_okN {X : World → Result Next} {v : Value} {Q : Value → Prop} (h : ∀ w, X w = .ok (.value v) w) (k : Todo (Q v)) : ∃ v, (∀ w, X w = .ok (.value v) w) ∧ Q v := ⟨v, h, k⟩
theorem ex_seal {X : Value → Prop} (k : Todo (X (.bool false))) : ∃ v : Value, (v = .bool true ∨ v = .bool false) ∧ X v := ⟨_, .inr rfl, k⟩
theorem ex_mut {X : Value → Prop} (k : Todo (X (.bool true))) : ∃ v : Value, (v = .bool true ∨ v = .bool false) ∧ X v := ⟨_, .inl rfl, k⟩
theorem qretT_r {P : Program} {fn : Func} {nb : Nat} {nw : List Nat} {r : AV} {bxs : List AV} {σ : AMap} (h : Todo (fin P fn nb nw r bxs σ)) : Qret P fn nb nw r bxs .ret σ := h
theorem qretT_n {P : Program} {fn : Func} {nb : Nat} {nw : List Nat} {r : AV} {bxs : List AV} {σ : AMap} (h : Todo (fin P fn nb nw r bxs σ)) : Qret P fn nb nw r bxs .normal σ := h
section
variable {P : Program} {N : Nat} {o : Oper} {σ : AMap} {K : List Nat → List (Nat × AV) → Prop}
theorem wp_done {d : List (Nat × AV)} : TR.wp P (.done d) σ K = K [] d := rfl
theorem wp_rd {k : Nat} {f : AV → TR} : TR.wp P (.rd k f) σ K = (f (mget σ k)).wp P σ fun R d => K (k :: R) d := rfl
theorem wp_need {p : Prop} {t : TR} : TR.wp P (.need p t) σ K = (p ∧ t.wp P σ K) := rfl
theorem wp_ex {p : Value → Prop} {f : Value → TR} : TR.wp P (.ex p f) σ K = ∃ v, p v ∧ (f v).wp P σ K := rfl
theorem wp_call {f : FuncId} {args bxs : List AV} {k : AV → List AV → TR} : TR.wp P (.call f args bxs k) σ K = ∃ r bxs', AFn P f args bxs r bxs' ∧ (k r bxs').wp P σ K := rfl
theorem wp_rdo_tmp {t : Nat} {f : AV → TR} : TR.wp P (rdo (.tmp t) f) σ K = (t < 10000 ∧ TR.wp P (f (mget σ t)) σ fun R d => K (t :: R) d) := rfl
theorem wp_rdo_const {v : Value} {f : AV → TR} : TR.wp P (rdo (.const v) f) σ K = TR.wp P (f (ofV v)) σ K := rfl
theorem wp_rdo_global {g : Nat} {f : AV → TR} : TR.wp P (rdo (.global g) f) σ K = TR.wp P (f (globV g)) σ K := rfl
theorem wp_rdo_func {i : Nat} {f : AV → TR} : TR.wp P (rdo (.func i) f) σ K = TR.wp P (f (.fn (.func i) [] [])) σ K := rfl
theorem wp_rdos_nil {f : List AV → TR} : TR.wp P (rdos [] f) σ K = TR.wp P (f []) σ K := rfl
theorem wp_rdos_cons {x : Operand} {l : List Operand} {f : List AV → TR} : TR.wp P (rdos (x :: l) f) σ K = TR.wp P (rdo x fun v => rdos l fun vs => f (v :: vs)) σ K := rfl
theorem wp_optO_none {f : Option AV → TR} : TR.wp P (optO none f) σ K = TR.wp P (f none) σ K := rfl
theorem wp_optO_some {x : Operand} {f : Option AV → TR} : TR.wp P (optO (some x) f) σ K = TR.wp P (rdo x fun v => f (some v)) σ K := rfl
theorem wp_ret {v : AV} : TR.wp P (ret N o v) σ K = (dstOk N o ∧ K [] (outs o v)) := rfl
theorem kNil_loc {b off : Nat} : kNil N o (.loc b off) = ret N o (.loc b off) := rfl
theorem kNil_lo {b off v : Nat} : kNil N o (.lo b off v) = ret N o (.lo b off v) := rfl
theorem kNil_rf {cs : List AV} {off : Nat} : kNil N o (.rf cs off) = ret N o (.rf cs off) := rfl
theorem kNil_fn {i : Nat} {a b : List AV} : kNil N o (.fn (.func i) a b) = ret N o (.fn (.func i) a b) := rfl
theorem kNil_ifc {t : TypeId} {x : AV} : kNil N o (.ifc t x) = ret N o (.ifc t x) := rfl
theorem kPick_c {b : Bool} {x y : AV} : kPick N o (.c (.bool b)) x y = ret N o (if b then x else y) := rfl
theorem kLoad_rf {t off : Nat} {cs : List AV} {f : AV → TR} : kLoad P t (.rf cs off) f = kLd P t cs off f := rfl
theorem kBin_ii {op : BinOp} {t : TypeId} {x y : Operand} {k k' : IntKind} {z z' : Int} : kBin P N o op t x y (.c (.int k z)) (.c (.int k' z')) = .need (k = k' ∨ isShift op = true) (match intBin op k z z' with | some v => ret N o (.c v) | none => fail) := rfl
theorem kBin_fn {op : BinOp} {t : TypeId} {x y : Operand} {t' : TypeId} {a : AV} : kBin P N o op t x y (.ifc t' a) (.c .nilIface) = (match eqIface op with | some r => .need (concreteT P t = false ∧ (P.underlying t).isSome = true) (ret N o (.c (.bool (!r)))) | none => fail) := rfl
theorem kBin_nf {op : BinOp} {t : TypeId} {x y : Operand} {t' : TypeId} {a : AV} : kBin P N o op t x y (.c .nilIface) (.ifc t' a) = (match eqIface op with | some r => .need (concreteT P t = false ∧ (P.underlying t).isSome = true) (ret N o (.c (.bool (!r)))) | none => fail) := rfl
theorem kBin_nn {op : BinOp} {t : TypeId} {x y : Operand} : kBin P N o op t x y (.c .nilIface) (.c .nilIface) = kBinGen P N o op t x y .nilIface .nilIface := rfl
theorem kBin_ss {op : BinOp} {t : TypeId} {x y : Operand} {a b : ByteArray} : kBin P N o op t x y (.c (.string a)) (.c (.string b)) = kBinGen P N o op t x y (.string a) (.string b) := rfl
theorem kBin_bb {op : BinOp} {t : TypeId} {x y : Operand} {a b : Bool} : kBin P N o op t x y (.c (.bool a)) (.c (.bool b)) = kBinGen P N o op t x y (.bool a) (.bool b) := rfl
theorem kBin_ff {op : BinOp} {t : TypeId} {x y : Operand} {t1 t2 : TypeId} {a b : AV} : kBin P N o op t x y (.ifc t1 a) (.ifc t2 b) = (match valOf (.ifc t1 a), valOf (.ifc t2 b) with | some vx, some vy => kBinGen P N o op t x y vx vy | _, _ => fail) := rfl
theorem kBin_aa {op : BinOp} {t : TypeId} {x y : Operand} {a b : List AV} : kBin P N o op t x y (.agg a) (.agg b) = (match valOf (.agg a), valOf (.agg b) with | some vx, some vy => kBinGen P N o op t x y vx vy | _, _ => fail) := rfl
theorem kUn_not {b : Bool} : kUn N o .not (.c (.bool b)) = ret N o (.c (.bool (!b))) := rfl
theorem kUn_neg {k : IntKind} {n : Int} : kUn N o .neg (.c (.int k n)) = ret N o (.c (.int k (k.wrap (0 - n)))) := rfl
theorem kExtract_t {cs : List AV} {i : Nat} : kExtract N o (.tup cs) i = .need (i < cs.length) (ret N o (cs.getD i .u)) := rfl
theorem kLen_sl {t n : Nat} {cs : List AV} {w : Own} : kLen P N o t (.sl cs n w) = .need ((elemOf P t).isSome = true) (ret N o (.c (.int .i64 n))) := rfl
theorem kLen_arr {t b off n e : Nat} : kLen P N o t (.arr b off n e) = .need ((elemOf P t).isSome = true) (ret N o (.c (.int .i64 n))) := rfl
theorem kLen_ow {t b off n v : Nat} : kLen P N o t (.ow b off n v) = .need ((elemOf P t).isSome = true) (ret N o (.c (.int .i64 n))) := rfl
theorem kLen_s {t : Nat} {s : ByteArray} : kLen P N o t (.c (.string s)) = .need (strOfT P t = true) (ret N o (.c (.int .i64 s.size))) := rfl
end
attribute [go_sem] globV globA
attribute [-go_sem] arun TR.wp kNil kPick kBin kUn kExtract kLen aop
attribute [go_sem] kNil_loc kNil_lo kNil_rf kNil_fn kNil_ifc kPick_c kLoad_rf kBin_ii kBin_fn kBin_nf kBin_nn kBin_ss kBin_bb kBin_ff kBin_aa kUn_not kUn_neg kExtract_t kLen_sl kLen_arr kLen_ow kLen_s
attribute [go_sem ↓] wp_done wp_rd wp_need wp_ex wp_call wp_rdo_tmp wp_rdo_const wp_rdo_global wp_rdo_func wp_rdos_nil wp_rdos_cons wp_optO_none wp_optO_some wp_ret
end Go.Proofs.Ytjabaenpkimmjaa

/- K: regions in the order of the text; code. No program is in sight. -/
import Derived.Test.YtjabaenpkimmjaaKJ
namespace Go.Proofs.Ytjabaenpkimmjaa
set_option linter.unusedSimpArgs false
set_option linter.unusedVariables false
open Go.RowKit

def dstOf (ops : Array Oper) (g : Nat) : Option Nat := (ops[g]?).bind (·.dst)
theorem gsplit {b want : Bool} {A B : Prop} (h : if b = want then A else B) : (b = want → A) ∧ (b = !want → B) := by
  by_cases e : b = want
  · rw [if_pos e] at h; exact ⟨fun _ => h, fun e' => by cases want <;> simp_all⟩
  · rw [if_neg e] at h; exact ⟨fun e' => absurd e' e, fun _ => h⟩
/-- A region's operations, in the order of the text. -/
def arun (P : Program) (N : Nat) (tk : FuncId → Bool) (ops : Array Oper) : List Oper → AMap → (AMap → Prop) → Prop
  | [], σ, K => K σ
  | o :: r, σ, K => match o.guard with
    | none => (aop P N tk o).wp P σ fun _ d => arun P N tk ops r (mupd σ d) K
    | some (g, want) => match dstOf ops g with
      | some t => t < 10000 ∧ match mget σ t with
        | .c (.bool b) => if b = want then (aop P N tk o).wp P (mset σ t (.c (.bool want))) fun _ d => arun P N tk ops r (mupd (mset σ t (.c (.bool want))) d) K
            else dstOk N o ∧ arun P N tk ops r (mupd (mset σ t (.c (.bool (!want)))) (outs o (.c undef))) K
        | .c (.tuple _) => dstOk N o ∧ arun P N tk ops r (mupd σ (outs o (.c undef))) K
        | _ => False
      | none => False

section
variable {E : Env} {σ : AMap} {a : Act} {w : World} {G : Gh}
theorem Sim.same (h : Sim E σ a w G) {t : Nat} {v : AV} (ht : t < 10000) (hv : mget σ t = v) : Sim E (mset σ t v) a w G := by
  have hm : ∀ k, mget (mset σ t v) k = mget σ k := fun k => by
    rw [mget_mset]; split
    · rename_i e; rw [← hv, e]
    · rfl
  have hl : lm (mset σ t v) = lm σ := by unfold lm; rw [show mget (mset σ t v) = mget σ from funext hm]
  have hs : BStep G (lm σ) G (lm (mset σ t v)) := .congr fun k _ => by rw [hl]
  exact ⟨h.defers, h.tsize, fun k hk => by rw [hm]; exact (h.slots k hk).step hs, h.st.congr fun k _ => by rw [hl], h.fr, h.step.trans hs, h.zp⟩
theorem yielded_of (h : Sim E σ a w G) {ops : Array Oper} {g t : Nat} {b : Bool} (hd : dstOf ops g = some t) (ht : t < 10000) (hv : mget σ t = .c (.bool b)) : yielded ops a.tmps g = some b := by
  have h1 := h.slots t ht
  rw [hv] at h1
  have h2 := inv_c h1
  unfold dstOf at hd
  unfold yielded
  rw [hd]
  simp only [Option.bind_some]
  rw [Array.getD_eq_getD_getElem?] at h2
  cases h3 : a.tmps[t]? with
  | none => rw [h3] at h2; simp [undef] at h2
  | some x => rw [h3] at h2; simp at h2; rw [h2]
theorem yielded_tup (h : Sim E σ a w G) {ops : Array Oper} {g t : Nat} {vs : Array Value} (hd : dstOf ops g = some t) (ht : t < 10000) (hv : mget σ t = .c (.tuple vs)) : yielded ops a.tmps g = none := by
  have h1 := h.slots t ht
  rw [hv] at h1
  have h2 := inv_c h1
  unfold dstOf at hd
  unfold yielded
  rw [hd]
  simp only [Option.bind_some]
  rw [Array.getD_eq_getD_getElem?] at h2
  cases h3 : a.tmps[t]? with
  | none => rfl
  | some x => rw [h3] at h2; simp at h2; rw [h2]
theorem good_skip (h : Sim E σ a w G) {o : Oper} (hd : dstOk E.N o) : Sim E (mupd σ (outs o (.c undef))) (a.put o.dst undef) w G :=
  h.put (x := .c undef) (dst_lt hd) (.congr (outs_lm hd _)) (h.st.congr (outs_lm hd _)) (.refl _ _) (fun _ _ _ => rfl) (.p (.c _)) fun t _ => mget_outs t
theorem arun_sound {tk : FuncId → Bool} {ops : Array Oper} {K : AMap → Prop} {Q : Exit → Act → World → Prop} (hQ : ∀ σ' a' w' G', K σ' → Sim E σ' a' w' G' → Q .normal a' w') :
    ∀ {l : List Oper} {σ : AMap} {a : Act} {w : World} {G : Gh}, arun E.P E.N tk ops l σ K → Sim E σ a w G → wpList E.P ops Q l a w
  | [], σ, a, w, G, h, hs => hQ _ _ _ _ h hs
  | o :: r, σ, a, w, G, h, hs => by
    unfold arun at h
    split at h
    · rename_i hg
      obtain ⟨R, d, hK, hgood⟩ := aop_sound hs tk o _ h
      refine wpList_plain hg fun K' hK' => Oper.wp_mono (fun a' w' ⟨G', hG'⟩ => hK' a' w' (arun_sound hQ hK hG')) (hgood Q)
    · rename_i g want hg
      split at h
      · rename_i t ht
        obtain ⟨ht', h⟩ := h
        split at h
        · rename_i b hb
          have h := gsplit h
          have hy := yielded_of hs ht ht' hb
          by_cases hbw : b = want
          · subst hbw
            have hs' := hs.same ht' hb
            obtain ⟨R, d, hK, hgood⟩ := aop_sound hs' tk o _ (h.1 rfl)
            refine wpList_step fun K' hK' => ?_
            rw [if_pos (by simp [Region.wanted, hg, hy])]
            exact Oper.wp_mono (fun a' w' ⟨G', hG'⟩ => hK' a' w' (arun_sound hQ hK hG')) (hgood Q)
          · have hbn : b = !want := by cases b <;> cases want <;> simp_all
            obtain ⟨hd, h2⟩ := h.2 hbn
            have hs' := hs.same ht' (hbn ▸ hb)
            refine wpList_step fun K' hK' => ?_
            rw [if_neg (by simp [Region.wanted, hg, hy, hbw])]
            exact hK' _ _ (arun_sound hQ h2 (good_skip hs' hd))
        · rename_i vs hb
          have hy := yielded_tup hs ht ht' hb
          refine wpList_step fun K' hK' => ?_
          rw [if_neg (by simp [Region.wanted, hg, hy])]
          exact hK' _ _ (arun_sound hQ h.2 (good_skip hs h.1))
        · exact h.elim
      · exact h.elim
end

/-! ### Code. -/
def aw (E : Env) (c : Code) (Q : Exit → AMap → Prop) (σ : AMap) : Prop :=
  ∀ a w G, Sim E σ a w G → c.wp E.P (fun e a' w' => ∃ σ' G', Q e σ' ∧ Sim E σ' a' w' G') a w
def thenA (K : AMap → Prop) (Q : Exit → AMap → Prop) : Exit → AMap → Prop
  | .normal, σ => K σ
  | e, σ => Q e σ
def blockA (id : Nat) (Q : Exit → AMap → Prop) : Exit → AMap → Prop
  | .exit i, σ => if i = id then Q .normal σ else Q (.exit i) σ
  | e, σ => Q e σ
def LoopWp (P : Program) (c : Code) (Q : Exit → Act → World → Prop) (a : Act) (w : World) : Prop :=
  ∀ (b : Frame) (k : List Item) (cs : List Frame), ∃ e a' w', Q e a' w' ∧ Arrives P (lone (b.at a (.code c :: .inLoop c :: k)) cs w) b k cs e a' w'
def awl (E : Env) (c : Code) (Q : Exit → AMap → Prop) (σ : AMap) : Prop :=
  ∀ a w G, Sim E σ a w G → LoopWp E.P c (fun e a' w' => ∃ σ' G', Q e σ' ∧ Sim E σ' a' w' G') a w

section
variable {E : Env} {Q : Exit → AMap → Prop} {σ : AMap}
theorem aw_seq {x y : Code} (h : aw E x (thenA (aw E y Q) Q) σ) : aw E (.seq x y) Q σ := fun a w G hs => by
  refine wp_seq (Code.wp_mono (fun e a' w' ⟨σ', G', h1, h2⟩ => ?_) (h a w G hs))
  cases e with
  | normal => exact h1 a' w' G' h2
  | _ => exact ⟨σ', G', h1, h2⟩
theorem aw_block {id : Nat} {c : Code} (h : aw E c (blockA id Q) σ) : aw E (.block id c) Q σ := fun a w G hs => by
  refine wp_block (Code.wp_mono (fun e a' w' ⟨σ', G', h1, h2⟩ => ?_) (h a w G hs))
  cases e with
  | exit i =>
    simp only [blockA] at h1
    simp only [Exit.inBlock]
    split
    · rename_i e; rw [if_pos e] at h1; exact ⟨σ', G', h1, h2⟩
    · rename_i e; rw [if_neg e] at h1; exact ⟨σ', G', h1, h2⟩
  | _ => exact ⟨σ', G', h1, h2⟩
theorem aw_skip (h : Q .normal σ) : aw E .skip Q σ := fun a w G hs => wp_skip ⟨σ, G, h, hs⟩
theorem aw_ret (h : Q .ret σ) : aw E .ret Q σ := fun a w G hs => wp_ret ⟨σ, G, h, hs⟩
theorem aw_exit {id : Nat} (h : Q (.exit id) σ) : aw E (.exit id) Q σ := fun a w G hs => wp_exit ⟨σ, G, h, hs⟩
theorem aw_cond {t : Nat} {b : Bool} {x y : Code} (ht : t < 10000) (hb : mget σ t = .c (.bool b)) (h1 : b = true → aw E x Q σ) (h2 : b = false → aw E y Q σ) : aw E (.cond (.tmp t) x y) Q σ := fun a w G hs => by
  have h3 := hs.slots t ht
  rw [hb] at h3
  exact wp_cond_split (inv_c h3) (fun e => h1 e a w G hs) (fun e => h2 e a w G hs)
theorem aw_condc {b : Bool} {x y : Code} (h1 : b = true → aw E x Q σ) (h2 : b = false → aw E y Q σ) : aw E (.cond (.const (.bool b)) x y) Q σ := fun a w G hs =>
  wp_cond_split rfl (fun e => h1 e a w G hs) (fun e => h2 e a w G hs)
theorem aw_region (tk : FuncId → Bool) {id : Nat} {l : List Oper} (h : ∀ K : AMap → Prop, (∀ σ', Q .normal σ' → K σ') → arun E.P E.N tk l.toArray l σ K) : aw E (.region id l.toArray false) Q σ := fun a w G hs =>
  wp_region_lit (arun_sound (fun σ' a' w' G' h1 h2 => ⟨σ', G', h1, h2⟩) (h _ fun _ h => h) hs)
theorem aw_loop {c : Code} (h : awl E c Q σ) : aw E (.loop c) Q σ := fun a w G hs b k cs => by
  obtain ⟨e, a', w', hq, harr⟩ := h a w G hs b k cs
  exact ⟨e, a', w', hq, .of_steps (.one step_loop) harr⟩
theorem awl_round {c : Code} (h : aw E c (thenA (awl E c Q) Q) σ) : awl E c Q σ := fun a w G hs b k cs => by
  obtain ⟨e, a₁, w₁, ⟨σ', G', hq, hs'⟩, harr⟩ := h a w G hs b (.inLoop c :: k) cs
  cases e with
  | normal =>
    obtain ⟨e₂, a₂, w₂, hq₂, harr₂⟩ := hq a₁ w₁ G' hs' b k cs
    exact ⟨e₂, a₂, w₂, hq₂, .of_steps (Steps.trans harr (.one step_inLoop)) harr₂⟩
  | _ => exact ⟨_, a₁, w₁, ⟨σ', G', hq, hs'⟩, .pass (x := .inLoop c) rfl (fun _ _ => .inl (by simp)) harr⟩
/-- Weaker states. -/
def ALe (E : Env) (σ σ' : AMap) : Prop := ∀ a w G, Sim E σ a w G → ∃ G', Sim E σ' a w G'
theorem aw_le {σ' : AMap} {c : Code} (hl : ALe E σ σ') (h : aw E c Q σ') : aw E c Q σ := fun a w G hs => by
  obtain ⟨G', hs'⟩ := hl a w G hs
  exact h a w G' hs'
theorem awl_le {σ' : AMap} {c : Code} (hl : ALe E σ σ') (h : awl E c Q σ') : awl E c Q σ := fun a w G hs => by
  obtain ⟨G', hs'⟩ := hl a w G hs
  exact h a w G' hs'
def mkeep (L : List Nat) : AMap → AMap
  | [] => []
  | (k, v) :: r => if k < 10000 ∧ L.contains k = false then mkeep L r else (k, v) :: mkeep L r
theorem mget_mkeep (L : List Nat) (k : Nat) : ∀ σ : AMap, mget (mkeep L σ) k = mget σ k ∨ (mget (mkeep L σ) k = .u ∧ k < 10000)
  | [] => .inl rfl
  | (i, v) :: r => by
    unfold mkeep
    split
    · rename_i hc
      by_cases e : i = k
      · subst e
        rcases mget_mkeep L i r with h | h
        · have : mget (mkeep L r) i = .u := mkeep_none L i hc r
          exact .inr ⟨this, hc.1⟩
        · exact .inr h
      · rcases mget_mkeep L k r with h | h
        · left; simp only [mget, if_neg e]; exact h
        · exact .inr h
    · simp only [mget]
      split
      · exact .inl rfl
      · exact mget_mkeep L k r
where
  mkeep_none (L : List Nat) (i : Nat) (hc : i < 10000 ∧ L.contains i = false) : ∀ r : AMap, mget (mkeep L r) i = .u
    | [] => rfl
    | (j, v) :: r => by
      unfold mkeep
      split
      · exact mkeep_none L i hc r
      · rename_i h
        simp only [mget]
        rw [if_neg (fun e : j = i => h (e ▸ hc))]
        exact mkeep_none L i hc r
theorem ale_keep (L : List Nat) (σ : AMap) : ALe E σ (mkeep L σ) := fun a w G hs => by
  have hb : ∀ k, 10000 ≤ k → mget (mkeep L σ) k = mget σ k := fun k hk => (mget_mkeep L k σ).resolve_right fun h => by omega
  have hb : ∀ k, 10000 ≤ k → lm (mkeep L σ) k = lm σ k := lk_congr fun k hk _ => hb k hk
  have hst : BStep G (lm σ) G (lm (mkeep L σ)) := .congr hb
  refine ⟨G, hs.defers, hs.tsize, fun t ht => ?_, hs.st.congr hb, hs.fr, hs.step.trans hst, hs.zp⟩
  rcases mget_mkeep L t σ with h | ⟨h, _⟩
  · rw [h]; exact (hs.slots t ht).step hst
  · rw [h]; exact .p (.u _)
end
end Go.Proofs.Ytjabaenpkimmjaa

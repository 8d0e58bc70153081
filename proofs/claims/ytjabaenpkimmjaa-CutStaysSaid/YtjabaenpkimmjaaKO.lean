/- K: regions that draw their order. One run in the order of the text serves every order, if what conflicts is ordered. No program is in sight. -/
import Derived.Test.YtjabaenpkimmjaaKK
import Derived.Orders
namespace Go.Proofs.Ytjabaenpkimmjaa
set_option linter.unusedSimpArgs false
set_option linter.unusedVariables false
open Go.RowKit

abbrev Rec := List Nat × List (Nat × AV)
/-- The last value that is written under a key. -/
def lookD : List (Nat × AV) → Nat → Option AV
  | [], _ => none
  | (k, v) :: r, i => match lookD r i with
    | some x => some x
    | none => if k = i then some v else none
theorem mget_mupd (d : List (Nat × AV)) : ∀ (σ : AMap) (k : Nat), mget (mupd σ d) k = (lookD d k).getD (mget σ k) := by
  induction d with
  | nil => intro σ k; rfl
  | cons p r ih =>
    obtain ⟨i, v⟩ := p
    intro σ k
    show mget (mupd (mset σ i v) r) k = _
    rw [ih, mget_mset]
    simp only [lookD]
    cases lookD r k with
    | some x => rfl
    | none => simp only [Option.getD_none]; split <;> rfl
def fupd (F : Nat → AV) (d : List (Nat × AV)) : Nat → AV := fun k => (lookD d k).getD (F k)
theorem lookD_mem : ∀ {d : List (Nat × AV)} {k : Nat}, (lookD d k).isSome = true ↔ k ∈ d.map (·.1)
  | [], k => by simp [lookD]
  | (i, v) :: r, k => by
    have ih := lookD_mem (d := r) (k := k)
    simp only [lookD, List.map_cons, List.mem_cons]
    cases h : lookD r k with
    | some x => rw [h] at ih; simp at ih ⊢; exact .inr ih
    | none =>
      rw [h] at ih
      simp only [Option.isSome_none, Bool.false_eq_true, false_iff] at ih
      by_cases e : i = k
      · simp [e]
      · rw [if_neg e]; simp [ih]; exact fun h => e h.symm
theorem lookD_none {d : List (Nat × AV)} {k : Nat} (h : k ∉ d.map (·.1)) : lookD d k = none := by
  cases h' : lookD d k with
  | none => rfl
  | some x => exact absurd (lookD_mem.1 (by rw [h']; rfl)) h
theorem lookD_some {d : List (Nat × AV)} {k : Nat} (h : k ∈ d.map (·.1)) : ∃ x, lookD d k = some x := Option.isSome_iff_exists.1 (lookD_mem.2 h)

/-- In the order of the text, noting what was read and written. -/
def adraw (P : Program) (N : Nat) (tk : FuncId → Bool) (ops : Array Oper) : List Oper → AMap → List Rec → (AMap → List Rec → Prop) → Prop
  | [], σ, acc, K => K σ acc
  | o :: r, σ, acc, K => match o.guard with
    | none => (aop P N tk o).wp P σ fun R d => adraw P N tk ops r (mupd σ d) (acc ++ [(R, d)]) K
    | some (g, want) => match dstOf ops g with
      | some t => t < 10000 ∧ match mget σ t with
        | .c (.bool b) => if b = want then (aop P N tk o).wp P (mset σ t (.c (.bool want))) fun R d => adraw P N tk ops r (mupd (mset σ t (.c (.bool want))) d) (acc ++ [(t :: R, d)]) K
            else dstOk N o ∧ adraw P N tk ops r (mupd (mset σ t (.c (.bool (!want)))) (outs o (.c undef))) (acc ++ [([t], outs o (.c undef))]) K
        | .c (.tuple _) => dstOk N o ∧ adraw P N tk ops r (mupd σ (outs o (.c undef))) (acc ++ [([t], outs o (.c undef))]) K
        | _ => False
      | none => False

section
variable {E : Env}
theorem Sim.ext {σ σ' : AMap} {a : Act} {w : World} {G : Gh} (h : Sim E σ a w G) (he : ∀ k, mget σ' k = mget σ k) : Sim E σ' a w G := by
  exact h.ext' he
/-- Wherever a state reads as F does at what the operation reads, it does what was noted. -/
def StepOk (E : Env) (ops : Array Oper) (o : Oper) (F : Nat → AV) (x : Rec) : Prop :=
  ∀ σ, (∀ k ∈ x.1, mget σ k = F k) → ∀ a w G (K' : Act → World → Prop) (Q : Exit → Act → World → Prop), Sim E σ a w G → (∀ a' w' G', Sim E (mupd σ x.2) a' w' G' → K' a' w') →
    if Region.wanted o (yielded ops a.tmps) then o.wp E.P a w K' Q else K' (a.put o.dst undef) w
def states (F : Nat → AV) (l : List Rec) : Nat → AV := l.foldl (fun F x => fupd F x.2) F
theorem adraw_trace {tk : FuncId → Bool} {ops : Array Oper} {K : AMap → List Rec → Prop} : ∀ {l : List Oper} {σ : AMap} {acc : List Rec} (hsim : True), adraw E.P E.N tk ops l σ acc K →
    ∃ recs σ', K σ' (acc ++ recs) ∧ recs.length = l.length ∧ (∀ i (h1 : i < l.length) (h2 : i < recs.length), StepOk E ops l[i] (states (mget σ) (recs.take i)) recs[i]) ∧ ∀ k, mget σ' k = states (mget σ) recs k
  | [], σ, acc, _, h => ⟨[], σ, by have h' : K σ acc := h; simpa using h', rfl, fun i h1 => by simp at h1, fun k => rfl⟩
  | o :: r, σ, acc, _, h => by
    have cont : ∀ (σ1 : AMap) (x : Rec), (∀ k, mget σ1 k = fupd (mget σ) x.2 k) → StepOk E ops o (mget σ) x → adraw E.P E.N tk ops r σ1 (acc ++ [x]) K →
        ∃ recs σ', K σ' (acc ++ recs) ∧ recs.length = (o :: r).length ∧ (∀ i (h1 : i < (o :: r).length) (h2 : i < recs.length), StepOk E ops (o :: r)[i] (states (mget σ) (recs.take i)) recs[i]) ∧ ∀ k, mget σ' k = states (mget σ) recs k := fun σ1 x h1 h2 h3 => by
      obtain ⟨recs, σ', k1, k2, k3, k4⟩ := adraw_trace (l := r) trivial h3
      have hf : mget σ1 = fupd (mget σ) x.2 := funext h1
      refine ⟨x :: recs, σ', by simpa using k1, by simp [k2], fun i h4 h5 => ?_, fun k => ?_⟩
      · cases i with
        | zero => exact h2
        | succ i =>
          have := k3 i (by simpa using h4) (by simpa using h5)
          rw [hf] at this
          exact this
      · rw [k4, hf]; rfl
    unfold adraw at h
    split at h
    · rename_i hg
      obtain ⟨R, d, h1, h2⟩ := TR.frame h
      refine cont _ (R, d) (fun k => mget_mupd d σ k) (fun σ' hσ a w G K' Q hs hK' => ?_) h1
      obtain ⟨R', d', ⟨_, rfl⟩, hgood⟩ := aop_sound hs tk o _ (h2 σ' hσ)
      rw [if_pos (by simp [Region.wanted, hg])]
      exact Oper.wp_mono (fun a' w' ⟨G', hG'⟩ => hK' a' w' G' hG') (hgood Q)
    · rename_i g want hg
      split at h
      · rename_i t ht
        obtain ⟨ht', h⟩ := h
        split at h
        · rename_i b hb
          have h := gsplit h
          have same : ∀ v, v = AV.c (.bool b) → ∀ k, mget (mset σ t v) k = mget σ k := fun v hv k => by
            rw [mget_mset]; split
            · rename_i e; subst e; rw [hb, hv]
            · rfl
          by_cases hbw : b = want
          · subst hbw
            obtain ⟨R, d, h1, h2⟩ := TR.frame (h.1 rfl)
            refine cont _ (t :: R, d) (fun k => by rw [mget_mupd, same _ rfl]; rfl) (fun σ' hσ a w G K' Q hs hK' => ?_) h1
            have hy := yielded_of hs ht ht' ((hσ t (by simp)).trans hb)
            obtain ⟨R', d', ⟨_, rfl⟩, hgood⟩ := aop_sound hs tk o _ (h2 σ' fun k hk => (hσ k (by simp [hk])).trans (same _ rfl k).symm)
            rw [if_pos (by simp [Region.wanted, hg, hy])]
            exact Oper.wp_mono (fun a' w' ⟨G', hG'⟩ => hK' a' w' G' hG') (hgood Q)
          · have hbn : b = !want := by cases b <;> cases want <;> simp_all
            obtain ⟨hd, h2⟩ := h.2 hbn
            refine cont _ ([t], outs o (.c undef)) (fun k => by rw [mget_mupd, same _ (by rw [hbn])]; rfl) (fun σ' hσ a w G K' Q hs hK' => ?_) h2
            have hy := yielded_of hs ht ht' ((hσ t (by simp)).trans hb)
            rw [if_neg (by simp [Region.wanted, hg, hy, hbw])]
            exact hK' _ _ _ (good_skip hs hd)
        · rename_i vs hb
          refine cont _ ([t], outs o (.c undef)) (fun k => mget_mupd _ σ k) (fun σ' hσ a w G K' Q hs hK' => ?_) h.2
          have hy := yielded_tup hs ht ht' ((hσ t (by simp)).trans hb)
          rw [if_neg (by simp [Region.wanted, hg, hy])]
          exact hK' _ _ _ (good_skip hs h.1)
        · exact h.elim
      · exact h.elim

/-! ### Which orders are the same. -/
def meets (a b : List Nat) : Bool := a.any fun x => b.contains x
def conflicts (x y : Rec) : Bool := meets (x.2.map (·.1)) y.1 || meets x.1 (y.2.map (·.1)) || meets (x.2.map (·.1)) (y.2.map (·.1))
def ancOf (anc : List (List Nat)) (o : Oper) : List Nat := o.after.toList.flatMap fun e => if Region.binds .any e then e.on :: anc.getD e.on [] else []
def ancs : List Oper → List (List Nat) → List (List Nat)
  | [], anc => anc
  | o :: r, anc => ancs r (anc ++ [ancOf anc o])
def drawOk (ops : List Oper) (recs : List Rec) : Bool :=
  (ops.zipIdx.all fun p => p.1.after.toList.all fun e => !Region.binds .any e || decide (e.on < p.2)) &&
  (List.range ops.length).all fun j => (List.range j).all fun i => !conflicts (recs.getD i ([], [])) (recs.getD j ([], [])) || ((ancs ops []).getD j []).contains i
inductive Path (ops : List Oper) : Nat → Nat → Prop
  | edge (i j : Nat) (o : Oper) (e : Edge) (ho : ops[j]? = some o) (he : e ∈ o.after) (hb : Region.binds .any e = true) (hi : e.on = i) : Path ops i j
  | more (i j : Nat) (o : Oper) (e : Edge) (ho : ops[j]? = some o) (he : e ∈ o.after) (hb : Region.binds .any e = true) (hp : Path ops i e.on) : Path ops i j
theorem ancs_path {ops : List Oper} : ∀ {l done : List Oper} {acc : List (List Nat)}, ops = done ++ l → acc.length = done.length → (∀ j i, i ∈ acc.getD j [] → Path ops i j) → ∀ j i, i ∈ (ancs l acc).getD j [] → Path ops i j
  | [], done, acc, _, _, h => h
  | o :: r, done, acc, ho, hl, h => by
    refine ancs_path (l := r) (done := done ++ [o]) (by rw [ho]; simp) (by simp [hl]) fun j i hi => ?_
    rcases Nat.lt_trichotomy j acc.length with hj | hj | hj
    · rw [List.getD_eq_getElem?_getD, List.getElem?_append_left hj] at hi
      exact h j i (by rw [List.getD_eq_getElem?_getD]; exact hi)
    · have hoj : ops[j]? = some o := by rw [ho, hj, hl]; simp
      rw [List.getD_eq_getElem?_getD, hj, List.getElem?_append_right (Nat.le_refl _)] at hi
      simp only [Nat.sub_self, List.getElem?_cons_zero, Option.getD_some] at hi
      unfold ancOf at hi
      obtain ⟨e, he, hi⟩ := List.mem_flatMap.1 hi
      split at hi
      · rename_i hb
        rcases List.mem_cons.1 hi with rfl | hi
        · exact .edge _ j o e hoj (by simpa using he) hb rfl
        · exact .more i j o e hoj (by simpa using he) hb (h e.on i hi)
      · simp at hi
    · rw [List.getD_eq_getElem?_getD, List.getElem?_eq_none (by simp; omega)] at hi
      simp at hi

section order
variable {E : Env} {ops : Array Oper} {recs : List Rec} {F : Nat → AV}
/-- The state when the operations in D among the first m have been carried out. -/
def part (F : Nat → AV) (recs : List Rec) (D : Nat → Bool) : Nat → Nat → AV
  | 0 => F
  | m + 1 => if D m then fupd (part F recs D m) (recs.getD m ([], [])).2 else part F recs D m
def wkeys (recs : List Rec) (i : Nat) : List Nat := (recs.getD i ([], [])).2.map (·.1)
theorem part_same {D D' : Nat → Bool} {k : Nat} : ∀ {m : Nat}, (∀ i, i < m → k ∈ wkeys recs i → D i = D' i) → part F recs D m k = part F recs D' m k
  | 0, _ => rfl
  | m + 1, h => by
    have ih := part_same (m := m) fun i hi hk => h i (by omega) hk
    by_cases hk : k ∈ wkeys recs m
    · have e := h m (by omega) hk
      simp only [part, e]
      split
      · obtain ⟨x, hx⟩ := lookD_some hk
        simp only [fupd, hx, Option.getD_some]
      · exact ih
    · have hn := lookD_none hk
      simp only [part]
      split <;> split <;> (try simp only [fupd, hn, Option.getD_none]) <;> exact ih
theorem part_skip {D : Nat → Bool} {k : Nat} {j : Nat} : ∀ {m : Nat}, j ≤ m → (∀ i, j ≤ i → i < m → D i = true → k ∉ wkeys recs i) → part F recs D m k = part F recs D j k
  | 0, hj, _ => by obtain rfl : j = 0 := (by omega); rfl
  | m + 1, hj, h => by
    by_cases e : j = m + 1
    · rw [e]
    · have ih := part_skip (m := m) (by omega) fun i h1 h2 h3 => h i h1 (by omega) h3
      simp only [part]
      split
      · rename_i hd
        simp only [fupd, lookD_none (h m (by omega) (by omega) hd), Option.getD_none]; exact ih
      · exact ih
theorem part_all : ∀ {m : Nat}, m ≤ recs.length → part F recs (fun _ => true) m = states F (recs.take m)
  | 0, _ => rfl
  | m + 1, h => by
    rw [List.take_succ_eq_append_getElem (by omega)]
    simp only [states, List.foldl_append, List.foldl_cons, List.foldl_nil, part, if_true]
    rw [part_all (m := m) (by omega), List.getD_eq_getElem?_getD, List.getElem?_eq_getElem (by omega)]
    rfl

theorem meets_iff {a b : List Nat} : meets a b = true ↔ ∃ x, x ∈ a ∧ x ∈ b := by simp [meets]

theorem any_order (hlen : recs.length = ops.size) (hok : drawOk ops.toList recs = true) {Q : Exit → Act → World → Prop} (hstep : ∀ i (h1 : i < ops.size) (h2 : i < recs.length), StepOk E ops ops[i] (states F (recs.take i)) recs[i])
    (hQ : ∀ σ a w G, (∀ k, mget σ k = states F recs k) → Sim E σ a w G → Q .normal a w) :
    ∀ (fuel : Nat) (listed : Array Bool) (σ : AMap) (a : Act) (w : World) (G : Gh), listed.size = ops.size → ((List.range ops.size).filter fun i => !listed.getD i false).length ≤ fuel →
      (∀ j o e, listed.getD j false = true → ops[j]? = some o → e ∈ o.after → Region.binds .any e = true → listed.getD e.on false = true) →
      (∀ k, mget σ k = part F recs (fun i => listed.getD i false) ops.size k) → Sim E σ a w G → wpAny E.P .any ops Q fuel listed a w := by
  have hok' := hok
  simp only [drawOk, Bool.and_eq_true, List.all_eq_true, List.mem_range, Bool.or_eq_true, Bool.not_eq_true', decide_eq_true_eq] at hok'
  obtain ⟨hdown, hconf⟩ := hok'
  have hpath : ∀ j i, i ∈ (ancs ops.toList []).getD j [] → Path ops.toList i j := ancs_path (done := []) rfl rfl fun j i h => by simp at h
  have hconf' : ∀ i j, i < j → j < ops.size → conflicts (recs.getD i ([], [])) (recs.getD j ([], [])) = true → Path ops.toList i j := fun i j hij hj hc => by
    rcases hconf j (by simpa using hj) i hij with h | h
    · rw [h] at hc; cases hc
    · exact hpath j i (by simpa using h)
  have closed : ∀ (listed : Array Bool), (∀ j o e, listed.getD j false = true → ops[j]? = some o → e ∈ o.after → Region.binds .any e = true → listed.getD e.on false = true) →
      ∀ i j, Path ops.toList i j → (∀ o, ops[j]? = some o → ∀ e ∈ o.after, Region.binds .any e = true → listed.getD e.on false = true) → listed.getD i false = true := fun listed hcl i j hp => by
    induction hp with
    | edge j o e ho he hb hi => intro h; rw [← hi]; exact h o (by simpa using ho) e he hb
    | more j o e ho he hb hp ih =>
      intro h
      have h1 := h o (by simpa using ho) e he hb
      exact ih fun o' ho' e' he' hb' => hcl e.on o' e' h1 ho' he' hb'
  have ready_nil : ∀ (listed : Array Bool), listed.size = ops.size → Region.ready .any ops listed = [] → ∀ i, i < ops.size → listed.getD i false = true := fun listed hsz hr i => by
    induction i using Nat.strongRecOn with
    | _ i ih =>
      intro hi
      cases h : listed.getD i false with
      | true => rfl
      | false =>
        exfalso
        have : i ∈ Region.ready .any ops listed := by
          rw [mem_ready]
          refine ⟨?_, ops[i], by simp [hi], fun e he hb => ?_⟩
          · rw [Array.getD_eq_getD_getElem?] at h ⊢
            have : i < listed.size := by omega
            rw [Array.getElem?_eq_getElem this] at h ⊢
            exact h
          · have h1 := hdown (ops[i], i) (by
              rw [List.mem_zipIdx_iff_getElem?]; simp [hi]) e (by simpa using he)
            rcases h1 with h1 | h1
            · rw [hb] at h1; cases h1
            · exact ih e.on h1 (by omega)
        rw [hr] at this; cases this
  have final : ∀ (listed : Array Bool) (σ : AMap) (a : Act) (w : World) (G : Gh), listed.size = ops.size → (∀ k, mget σ k = part F recs (fun i => listed.getD i false) ops.size k) → Sim E σ a w G → Region.ready .any ops listed = [] → Q .normal a w := fun listed σ a w G hsz hσ hs hr => by
    refine hQ σ a w G (fun k => ?_) hs
    rw [hσ, part_same (D' := fun _ => true) fun i hi _ => ready_nil listed hsz hr i hi, part_all (by omega), ← hlen, List.take_length]
  intro fuel
  induction fuel with
  | zero =>
    intro listed σ a w G hsz hcount hcl hσ hs
    have hr : Region.ready .any ops listed = [] := by
      apply List.eq_nil_iff_forall_not_mem.2
      intro j hj
      rw [mem_ready] at hj
      obtain ⟨h1, o, ho, _⟩ := hj
      have hlt := (Array.getElem?_eq_some_iff.1 ho).1
      have h2 : ((List.range ops.size).filter fun i => !listed.getD i false) = [] := List.eq_nil_of_length_eq_zero (by omega)
      have h3 : j ∈ ((List.range ops.size).filter fun i => !listed.getD i false) := by
        rw [List.mem_filter]
        refine ⟨by simpa using hlt, ?_⟩
        have h4 : j < listed.size := by omega
        rw [Array.getD_eq_getD_getElem?, Array.getElem?_eq_getElem h4] at h1 ⊢
        simpa using h1
      rw [h2] at h3; cases h3
    exact ⟨hr, final listed σ a w G hsz hσ hs hr⟩
  | succ fuel ih =>
    intro listed σ a w G hsz hcount hcl hσ hs
    refine ⟨final listed σ a w G hsz hσ hs, fun j hj => ?_⟩
    rw [mem_ready] at hj
    obtain ⟨h1, o, ho, hpre⟩ := hj
    have hlt := (Array.getElem?_eq_some_iff.1 ho).1
    have hoj : ops[j] = o := (Array.getElem?_eq_some_iff.1 ho).2
    have hD : listed.getD j false = false := by
      have h4 : j < listed.size := by omega
      rw [Array.getD_eq_getD_getElem?, Array.getElem?_eq_getElem h4] at h1 ⊢
      exact h1
    have hrec : recs.getD j ([], []) = recs[j] := by rw [List.getD_eq_getElem?_getD, List.getElem?_eq_getElem (by omega)]; rfl
    -- earlier ones that conflict are done, later ones aren't
    have early : ∀ i, i < j → conflicts (recs.getD i ([], [])) (recs.getD j ([], [])) = true → listed.getD i false = true := fun i hij hc =>
      closed listed hcl i j (hconf' i j hij hlt hc) fun o' ho' e he hb => by rw [ho] at ho'; cases ho'; exact hpre e he hb
    have late : ∀ i, j < i → i < ops.size → listed.getD i false = true → conflicts (recs.getD j ([], [])) (recs.getD i ([], [])) = true → False := fun i hji hi hdi hc => by
      have := closed listed hcl j i (hconf' j i hji hi hc) fun o' ho' e he hb => hcl i o' e hdi ho' he hb
      rw [hD] at this; cases this
    have hread : ∀ k ∈ (recs[j]'(by omega)).1, mget σ k = states F (recs.take j) k := fun k hk => by
      rw [hσ, ← part_all (by omega), part_skip (j := j) (by omega), part_same (D' := fun _ => true)]
      · intro i hi hw
        refine early i hi ?_
        simp only [conflicts, Bool.or_eq_true]
        exact .inl (.inl (meets_iff.2 ⟨k, hw, by rw [hrec]; exact hk⟩))
      · intro i h5 h6 h7 hw
        by_cases e : i = j
        · subst e; rw [hD] at h7; cases h7
        · refine late i (by omega) h6 h7 ?_
          simp only [conflicts, Bool.or_eq_true]
          exact .inl (.inr (meets_iff.2 ⟨k, by rw [hrec]; exact hk, hw⟩))
    have hst := hstep j hlt (by omega)
    rw [hoj] at hst
    have next : ∀ a' w' G', Sim E (mupd σ (recs[j]'(by omega)).2) a' w' G' → wpAny E.P .any ops Q fuel (listed.setIfInBounds j true) a' w' := fun a' w' G' hs' => by
      have hset : ∀ i, (listed.setIfInBounds j true).getD i false = if i = j then true else listed.getD i false := fun i => by
        by_cases e : i = j
        · subst e; rw [if_pos rfl, Array.getD_eq_getD_getElem?, Array.getElem?_setIfInBounds_self_of_lt (by omega)]; rfl
        · rw [if_neg e, getD_set_ne false (fun h => e h.symm)]
      refine ih (listed.setIfInBounds j true) _ a' w' G' (by simpa using hsz) ?_ (fun i o' e hi ho' he hb => ?_) (fun k => ?_) hs'
      · have hmem : j ∈ (List.range ops.size).filter fun i => !listed.getD i false := by
          rw [List.mem_filter]; exact ⟨by simpa using hlt, by rw [hD]; rfl⟩
        have hsub : ((List.range ops.size).filter fun i => !(listed.setIfInBounds j true).getD i false) = ((List.range ops.size).filter fun i => !listed.getD i false).filter (fun i => i != j) := by
          rw [List.filter_filter]
          apply List.filter_congr
          intro i _
          rw [hset]
          by_cases e : i = j <;> simp [e]
        rw [hsub]
        have : (((List.range ops.size).filter fun i => !listed.getD i false).filter (fun i => i != j)).length < ((List.range ops.size).filter fun i => !listed.getD i false).length := by
          apply List.length_filter_lt_length_iff_exists.2
          exact ⟨j, hmem, by simp⟩
        omega
      · rw [hset]
        by_cases e2 : e.on = j
        · rw [if_pos e2]
        · rw [if_neg e2]
          rw [hset] at hi
          by_cases e3 : i = j
          · subst e3; rw [ho] at ho'; cases ho'; exact hpre e he hb
          · rw [if_neg e3] at hi; exact hcl i o' e hi ho' he hb
      · rw [mget_mupd, hσ]
        by_cases hk : k ∈ wkeys recs j
        · obtain ⟨x, hx⟩ := lookD_some hk
          rw [hrec] at hx
          rw [hx, Option.getD_some]
          have e1 := part_skip (F := F) (recs := recs) (D := fun i => (listed.setIfInBounds j true).getD i false) (k := k) (j := j + 1) (m := ops.size) (by omega) (fun i h5 h6 h7 hw => by
            rw [hset, if_neg (by omega)] at h7
            refine late i (by omega) h6 h7 ?_
            simp only [conflicts, Bool.or_eq_true]
            exact .inr (meets_iff.2 ⟨k, hk, hw⟩))
          rw [e1]
          simp only [part, hset, if_true, fupd, hrec, hx, Option.getD_some]
        · have hn := lookD_none hk
          rw [hrec] at hn
          rw [hn, Option.getD_none]
          exact part_same fun i hi hw => by rw [hset, if_neg (fun e : i = j => hk (e ▸ hw))]
    have hcase := hst σ hread a w G (wpAny E.P .any ops Q fuel (listed.setIfInBounds j true)) Q hs next
    unfold wpOp
    rw [ho]
    simp only
    split
    · rename_i hw; rw [if_pos hw] at hcase; exact .inl hcase
    · rename_i hw; rw [if_neg hw] at hcase; exact hcase

theorem drew_sim {σ : AMap} {a : Act} {w : World} {G : Gh} (h : Sim E σ a w G) : Sim E σ a { w with drawn := w.drawn + 1 } G :=
  ⟨h.defers, h.tsize, h.slots, ⟨h.st.agree, h.st.box, h.st.real, h.st.inj, h.st.gl⟩, ⟨h.fr.os, h.fr.tape, h.fr.output, h.fr.size, h.fr.block⟩, h.step, h.zp⟩
theorem aw_draw0 (tk : FuncId → Bool) {Q : Exit → AMap → Prop} {σ : AMap} {id : Nat} {l : List Oper} (hm : E.P.follows .mixedOrders = true)
    (h : ∀ K : AMap → List Rec → Prop, (∀ σ' recs, drawOk l recs = true → Q .normal σ' → K σ' recs) → adraw E.P E.N tk l.toArray l σ [] K) : aw E (.region id l.toArray true) Q σ := fun a w G hs => by
  obtain ⟨recs, σ', h1, h2, h3, h4⟩ := adraw_trace (E := E) (K := fun σ' recs => drawOk l recs = true ∧ Q .normal σ') trivial (h _ fun σ' recs h1 h2 => ⟨h1, h2⟩)
  simp only [List.nil_append] at h1
  refine wp_region_any hm (any_order (F := mget σ) (by simpa using h2) (by simpa using h1.1) (fun i h5 h6 => by simpa using h3 i (by simpa using h5) h6) (fun σ'' a' w' G' h5 h6 => ⟨σ', G', h1.2, h6.ext fun k => ?ext⟩) _ _ σ a _ G (by simp) ?cnt (fun j o e hj => ?cls) (fun k => ?prt) (drew_sim hs))
  case ext => rw [h4 k, h5 k]
  case cnt => exact Nat.le_trans (List.length_filter_le _ _) (by simp)
  case cls =>
    exfalso
    rw [Array.getD_eq_getD_getElem?, Array.getElem?_replicate] at hj
    split at hj <;> simp at hj
  case prt =>
    have : ∀ m, part (mget σ) recs (fun i => (Array.replicate l.toArray.size false).getD i false) m = mget σ := fun m => by
      induction m with
      | zero => rfl
      | succ m ih =>
        simp only [part]
        rw [if_neg, ih]
        rw [Array.getD_eq_getD_getElem?, Array.getElem?_replicate]
        split <;> simp
    rw [this]
end order
end

/-! ### Boxes that nobody names any more. -/
def hasRef (b : Nat) : Nat → AV → Bool
  | 0, _ => true
  | _ + 1, .sl _ _ (.tok b') => b' == b
  | _ + 1, .loc b' _ => b' == b
  | _ + 1, .arr b' _ _ _ => b' == b
  | _ + 1, .mp b' => b' == b
  | n + 1, .agg cs => cs.any (hasRef b n)
  | n + 1, .tup cs => cs.any (hasRef b n)
  | n + 1, .ifc _ x => hasRef b n x
  | n + 1, .fn _ p q => p.any (hasRef b n) || q.any (hasRef b n)
  | n + 1, .bc cs _ => cs.any (hasRef b n)
  | n + 1, .br cs _ _ _ => cs.any (hasRef b n)
  | _ + 1, .ow b' _ _ _ => b' == b
  | _ + 1, .lo b' _ _ => b' == b
  | n + 1, .fo rows => rows.any fun | .br cs _ _ _ => cs.any (hasRef b n) | _ => false
  | _ + 1, .sl _ _ .none => false
  | _ + 1, .sl _ _ .full => false
  | _ + 1, .c _ => false
  | _ + 1, .u => false
  | _ + 1, .rf _ _ => false
  | _ + 1, .bt _ _ => false
def anyRef (b : Nat) : AMap → Bool
  | [] => false
  | (k, v) :: r => (k != b && hasRef b 5 v) || anyRef b r
def mrm (b : Nat) : AMap → AMap
  | [] => []
  | (k, v) :: r => if k = b then mrm b r else (k, v) :: mrm b r
theorem mget_mrm (b k : Nat) : ∀ σ : AMap, mget (mrm b σ) k = if k = b then .u else mget σ k
  | [] => by simp [mrm, mget]
  | (i, v) :: r => by
    have ih := mget_mrm b k r
    unfold mrm
    by_cases e : i = b
    · rw [if_pos e, ih]
      by_cases e2 : k = b
      · rw [if_pos e2, if_pos e2]
      · rw [if_neg e2, if_neg e2]; simp only [mget]; rw [if_neg (fun h : i = k => e2 (h ▸ e))]
    · rw [if_neg e]
      simp only [mget]
      by_cases e2 : i = k
      · rw [if_pos e2, if_pos e2, if_neg (fun h => e (e2.trans h))]
      · rw [if_neg e2, ih, if_neg e2]
theorem anyRef_get {b : Nat} : ∀ {σ : AMap}, anyRef b σ = false → ∀ k, k ≠ b → hasRef b 5 (mget σ k) = false
  | [], _, k, _ => rfl
  | (i, v) :: r, h, k, hk => by
    simp only [anyRef, Bool.or_eq_false_iff, Bool.and_eq_false_iff] at h
    simp only [mget]
    split
    · rename_i e; subst e
      rcases h.1 with h1 | h1
      · simp at h1; exact absurd h1 hk
      · exact h1
    · exact anyRef_get h.2 k hk
section gc
variable {E : Env}
theorem noref_rel {G : Gh} {B B' : Nat → AV} {b : Nat} (hB : ∀ k, 10000 ≤ k → k ≠ b → B' k = B k) : ∀ (n : Nat) {x : AV} {v : Value}, hasRef b n x = false → VRel G B v x → VRel ⟨G.Z, fun k => if k = b then none else G.γ k, G.κ, G.β⟩ B' v x
  | 0, x, v, h, _ => by simp [hasRef] at h
  | n + 1, x, v, h, hv => by
    have lst : ∀ {cs : List AV} {vs : Array Value}, cs.any (hasRef b n) = false → (∀ j (hj : j < cs.length), VRel G B (vs.getD j undef) cs[j]) → ∀ j (hj : j < cs.length), VRel ⟨G.Z, fun k => if k = b then none else G.γ k, G.κ, G.β⟩ B' (vs.getD j undef) cs[j] := fun {cs vs} hc hp j hj =>
      noref_rel hB n (by rw [List.any_eq_false] at hc; simpa using hc cs[j] (List.getElem_mem hj)) (hp j hj)
    cases x with
    | c x => rw [inv_c hv]; exact .p (.c x)
    | u => exact .p (.u v)
    | sl cs m o =>
      obtain ⟨ad, cap, b', off, f, rfl, hs, hf, ht⟩ := inv_sl hv
      cases o with
      | none => exact .p (.sl ad b' off m cap .none cs f (.inl rfl) hs.1 hs.2.1 hs.2.2.1 hs.2.2.2.1 hs.2.2.2.2)
      | full => exact .p (.sl ad b' off m cap .full cs f (.inr ⟨rfl, hf rfl⟩) hs.1 hs.2.1 hs.2.2.1 hs.2.2.2.1 hs.2.2.2.2)
      | tok t =>
        have hne : t ≠ b := by simpa [hasRef] using h
        obtain ⟨h1, tip, e, h2, h3, h4⟩ := ht t rfl
        refine .tok ad m cap cs t tip e (.sl ad b' off m cap .none cs f (.inl rfl) hs.1 hs.2.1 hs.2.2.1 hs.2.2.2.1 hs.2.2.2.2) h1 ((hB t h1 hne).trans h2) h3 fun e' => ?_
        have := h4 e'
        unfold TokAt at *
        simp only [if_neg hne]; exact this
    | rf cs o =>
      obtain ⟨b', off, f, rfl, hz, hp⟩ := inv_rf hv
      exact .p (.rf b' off o cs f hz hp)
    | agg cs =>
      obtain ⟨vs, rfl, hs, h1, hp⟩ := inv_agg hv
      exact .agg vs cs hs h1 (lst (by simpa [hasRef] using h) hp)
    | tup cs =>
      obtain ⟨vs, rfl, hs, hp⟩ := inv_tup hv
      exact .tup vs cs hs (lst (by simpa [hasRef] using h) hp)
    | ifc t x =>
      obtain ⟨v', rfl, hx⟩ := inv_ifc hv
      exact .ifc t v' x (noref_rel hB n (by simpa [hasRef] using h) hx)
    | fn f p q =>
      obtain ⟨va, vb, rfl, ha, hb, pa, pb⟩ := inv_fn hv
      simp only [hasRef, Bool.or_eq_false_iff] at h
      exact .fn f va vb p q ha hb (lst h.1 pa) (lst h.2 pb)
    | loc b' off =>
      have hne : b' ≠ b := by simpa [hasRef] using h
      obtain ⟨g, cs, ty, rfl, hb', hB', hg, hm⟩ := inv_loc hv
      exact .loc b' off g cs ty hb' ((hB b' hb' hne).trans hB') ((if_neg hne).trans hg) hm
    | arr b' off m e =>
      have hne : b' ≠ b := by simpa [hasRef] using h
      obtain ⟨g, cap, cs, ty, rfl, hn, hb', hB', hg, hm⟩ := inv_arr hv
      exact .arr b' off m e cap g cs ty hb' ((hB b' hb' hne).trans hB') ((if_neg hne).trans hg) hn hm
    | mp b' =>
      have hne : b' ≠ b := by simpa [hasRef] using h
      obtain ⟨g, cs, ty, rfl, hb', hB', hg, hm⟩ := inv_mp hv
      exact .mp b' g cs ty hb' ((hB b' hb' hne).trans hB') ((if_neg hne).trans hg) hm
    | bc cs ty => exact (inv_bc hv).elim
    | bt m e => exact (inv_bt hv).elim
    | br cs v e sz => exact (inv_br hv).elim
    | fo rows => exact (inv_fo hv).elim
    | ow b' off m ver =>
      have hne : b' ≠ b := by simpa [hasRef] using h
      obtain ⟨ad, cap, cs, v', e, sz, rfl, hn, had, hb', hB', hvv, how⟩ := inv_ow hv
      refine .ow ad m cap b' off ver cs v' e sz hb' ((hB b' hb' hne).trans hB') hn had hvv fun hv => ?_
      have := how hv
      unfold OwAt at *
      simp only [if_neg hne]; exact this
    | lo b' off ver =>
      have hne : b' ≠ b := by simpa [hasRef] using h
      obtain ⟨g, o, cs, v', e, sz, rfl, hb', hB', hvv, hk⟩ := inv_lo hv
      exact .lo g o b' off ver cs v' e sz hb' ((hB b' hb' hne).trans hB') hvv fun hv => ⟨(if_neg hne).trans (hk hv).1, (hk hv).2⟩
theorem anyRef_lm {b : Nat} {σ : AMap} (h : anyRef b σ = false) (hb : isFo (mget σ b) = false) {k : Nat} (hne : k ≠ b) {cs : List AV} : (∀ {ty}, lm σ k = .bc cs ty → cs.any (hasRef b 4) = false) ∧ ∀ {v e sz}, lm σ k = .br cs v e sz → cs.any (hasRef b 4) = false := by
  refine ⟨fun {ty} hc => ?_, fun {v e sz} hc => ?_⟩
  · have h5 := anyRef_get h k hne
    rw [(lk_bc hc).2] at h5
    simpa only [hasRef] using h5
  · by_cases hk : k < 1000000
    · have h5 := anyRef_get h k hne
      have e1 : lm σ k = mget σ k := lk_real hk
      rw [e1] at hc
      rw [hc] at h5
      simpa only [hasRef] using h5
    · rcases lk_big (B := mget σ) hk with e1 | ⟨rows, cs', v', e', sz', h10, e1, e2, e3⟩
      · have hc' : lk (mget σ) k = .br cs v e sz := hc
        rw [e1] at hc'; cases hc'
      · have hc' : lk (mget σ) k = .br cs v e sz := hc
        rw [e2] at hc'; cases hc'
        have hne2 : encB k ≠ b := fun e4 => by rw [← e4, e1] at hb; cases hb
        have h5 := anyRef_get h (encB k) hne2
        rw [e1] at h5
        simp only [hasRef] at h5
        rw [List.any_eq_false] at h5
        have := h5 _ (List.mem_of_getElem? e3)
        simpa using this
theorem ale_rm {b : Nat} {σ : AMap} (hb : 10000 ≤ b ∧ b < 20000) (hfo : isFo (mget σ b) = false) (h : anyRef b σ = false) : ALe E σ (mrm b σ) := fun a w G hs => by
  have hlm : ∀ k, 10000 ≤ k → lm (mrm b σ) k = if b = k then .u else lm σ k := lk_set (fun k _ _ => by
    rw [mget_mrm]
    by_cases e : k = b
    · rw [if_pos e, if_pos e.symm]
    · rw [if_neg e, if_neg (fun h => e h.symm)]) (by omega) hfo rfl
  have hB : ∀ k, 10000 ≤ k → k ≠ b → lm (mrm b σ) k = lm σ k := fun k hk hne => by rw [hlm k hk, if_neg (fun h => hne h.symm)]
  have hr := fun k (hk : k ≠ b) {v} (hv : VRel G (lm σ) v (mget σ k)) => noref_rel (B' := lm (mrm b σ)) hB 5 (anyRef_get h k hk) hv
  refine ⟨⟨G.Z, fun k => if k = b then none else G.γ k, G.κ, G.β⟩, hs.defers, hs.tsize, fun t ht => ?_, ⟨hs.st.agree, fun k g hk => ?_, fun k cs ty hk hc => ?_, fun k k' g h1 h2 => ?_, hs.st.gl⟩, hs.fr, ⟨hs.step.1, fun k hk => ?_⟩, hs.zp⟩
  · rw [mget_mrm, if_neg (by omega)]; exact hr t (by omega) (hs.slots t ht)
  · have hk' : (if k = b then none else G.γ k) = some g := hk
    split at hk'
    · cases hk'
    · rename_i hne
      obtain ⟨h1, h2, h3⟩ := hs.st.box k g hk'
      refine ⟨h1, h2, ?_⟩
      rcases h3 with ⟨cs, ty, r1, ⟨rm, c, r2, r3, r4, r5⟩ | rm⟩ | ⟨n, e, r1, c, r2, r3, r4, r5, r6⟩ | ⟨cs, v, e, sz, r1, c, r2, r3, r4, r5, r6, r7⟩
      · refine .inl ⟨cs, ty, (hB k h1 hne).trans r1, .inl ⟨rm, c, r2, r3, r4, fun j hj => ⟨?_, (r5 j hj).2⟩⟩⟩
        have h5 := (anyRef_lm h hfo hne).1 r1
        rw [List.any_eq_false] at h5
        exact noref_rel hB 4 (by simpa using h5 cs[j] (List.getElem_mem hj)) (r5 j hj).1
      · exact .inl ⟨cs, ty, (hB k h1 hne).trans r1, .inr rm⟩
      · exact .inr (.inl ⟨n, e, (hB k h1 hne).trans r1, c, r2, r3, r4, r5, r6⟩)
      · refine .inr (.inr ⟨cs, v, e, sz, (hB k h1 hne).trans r1, c, r2, r3, r4, r5, r6, fun j hj => ⟨?_, (r7 j hj).2⟩⟩)
        have h5 := (anyRef_lm h hfo hne).2 r1
        rw [List.any_eq_false] at h5
        exact noref_rel hB 4 (by simpa using h5 cs[j] (List.getElem_mem hj)) (r7 j hj).1
  · have hne : k ≠ b := fun e => by rw [hlm k hk, if_pos e.symm] at hc; cases hc
    rw [hB k hk hne] at hc
    obtain ⟨g, hg⟩ := hs.st.real k cs ty hk hc
    exact ⟨g, (if_neg hne).trans hg⟩
  · have e1 : (if k = b then none else G.γ k) = some g := h1
    have e2 : (if k' = b then none else G.γ k') = some g := h2
    split at e1
    · cases e1
    · split at e2
      · cases e2
      · exact hs.st.inj k k' g e1 e2
  · by_cases hne : k = b
    · subst hne
      exact .u (E.hB0.1 k hb.2)
    · rw [hB k hk hne]
      have := hs.step.2 k hk
      unfold KStep at *
      simpa only [if_neg hne] using this
/-- All boxes of the call's own that nobody names are let go. -/
def mgc : List Nat → AMap → AMap
  | [], σ => σ
  | b :: r, σ => if 10000 ≤ b ∧ b < 20000 ∧ isFo (mget σ b) = false ∧ anyRef b σ = false then mgc r (mrm b σ) else mgc r σ
theorem ale_gc : ∀ (bs : List Nat) (σ : AMap), ALe E σ (mgc bs σ)
  | [], σ => fun a w G hs => ⟨G, hs⟩
  | b :: r, σ => by
    unfold mgc
    split
    · rename_i h
      intro a w G hs
      obtain ⟨G', hs'⟩ := ale_rm ⟨h.1, h.2.1⟩ h.2.2.1 h.2.2.2 a w G hs
      exact ale_gc r _ a w G' hs'
    · exact ale_gc r σ
def keysB : AMap → List Nat
  | [] => []
  | (k, _) :: r => if 10000 ≤ k ∧ k < 20000 then k :: keysB r else keysB r
def mclean (L : List Nat) (σ : AMap) : AMap := mgc (keysB (mkeep L σ)) (mkeep L σ)
theorem ale_clean (L : List Nat) (σ : AMap) : ALe E σ (mclean L σ) := fun a w G hs => by
  obtain ⟨G', hs'⟩ := ale_keep L σ a w G hs
  exact ale_gc _ _ a w G' hs'
end gc
/-- A slice whose capacity is its length may have a token at any time. -/
theorem ale_tok {E : Env} {σ : AMap} {b t n : Nat} {cs : List AV} (e : TypeId) (hb : 10000 ≤ b ∧ b < 20000) (ht : t < 10000) (hu : mget σ b = .u) (hv : mget σ t = .sl cs n .full) : ALe E σ (mset (mset σ b (.bt n e)) t (.sl cs n (.tok b))) := fun a w G hs => by
  have hm : ∀ k, mget (mset (mset σ b (.bt n e)) t (.sl cs n (.tok b))) k = if t = k then .sl cs n (.tok b) else if b = k then .bt n e else mget σ k := fun k => by rw [mget_mset, mget_mset]
  have hub : lm σ b = .u := (lk_real (by omega)).trans hu
  have hγ : G.γ b = none := by
    cases hg : G.γ b with
    | none => rfl
    | some g =>
      exact ((hs.st.box b g hg).2.2.not_u hub).elim
  have hlm : ∀ k, 10000 ≤ k → lm (mset (mset σ b (.bt n e)) t (.sl cs n (.tok b))) k = if b = k then .bt n e else lm σ k := lk_set (fun k hk _ => by rw [hm, if_neg (by omega)]) (by omega) (by rw [hu]; rfl) rfl
  have hst : BStep G (lm σ) G (lm (mset (mset σ b (.bt n e)) t (.sl cs n (.tok b)))) := ⟨.refl _, fun k hk => by
    rw [hlm k hk]
    by_cases h1 : b = k
    · subst h1; exact .u hub
    · rw [if_neg h1]; exact .same rfl rfl rfl rfl⟩
  refine ⟨G, hs.defers, hs.tsize, fun k hk => ?_, ⟨hs.st.agree, fun k g hk => ?_, fun k cs' ty hk hc => ?_, hs.st.inj, hs.st.gl⟩, hs.fr, hs.step.trans hst, hs.zp⟩
  · rw [hm]
    by_cases h1 : t = k
    · subst h1
      rw [if_pos rfl]
      have h2 := hs.slots t ht
      rw [hv] at h2
      obtain ⟨ad, cap, b', off, f, ev, ⟨q1, q2, q3, q4, q5⟩, hf, _⟩ := inv_sl h2
      rw [ev]
      refine .tok ad n cap cs b n e (.sl ad b' off n cap .none cs f (.inl rfl) q1 q2 q3 q4 q5) hb.1 ((hlm b hb.1).trans (if_pos rfl)) (Nat.le_refl _) fun _ => ⟨fun _ => hf rfl, fun g hg => by rw [hγ] at hg; cases hg⟩
    · rw [if_neg h1, if_neg (by omega)]; exact (hs.slots k hk).step hst
  · obtain ⟨h1, h2, h3⟩ := hs.st.box k g hk
    refine ⟨h1, h2, h3.step hst ?_ rfl rfl rfl fun _ => rfl⟩
    rw [hlm k h1, if_neg (fun h4 => by rw [← h4, hγ] at hk; cases hk)]
  · rw [hlm k hk] at hc
    by_cases h1 : b = k
    · rw [if_pos h1] at hc; cases hc
    · rw [if_neg h1] at hc; exact hs.st.real k cs' ty hk hc
/-- A slice of nothing becomes a row of one's own. -/
theorem ale_ow {E : Env} {σ : AMap} {b t : Nat} (e sz : Nat) (hb : 10000 ≤ b ∧ b < 20000) (ht : t < 10000) (hu : mget σ b = .u) (hv : mget σ t = .sl [] 0 .full) : ALe E σ (mset (mset σ b (.br [] 0 e sz)) t (.ow b 0 0 0)) := fun a w G hs => by
  have hm : ∀ k, mget (mset (mset σ b (.br [] 0 e sz)) t (.ow b 0 0 0)) k = if t = k then .ow b 0 0 0 else if b = k then .br [] 0 e sz else mget σ k := fun k => by rw [mget_mset, mget_mset]
  have hub : lm σ b = .u := (lk_real (by omega)).trans hu
  have hγ : G.γ b = none := by
    cases hg : G.γ b with
    | none => rfl
    | some g =>
      exact ((hs.st.box b g hg).2.2.not_u hub).elim
  have hlm : ∀ k, 10000 ≤ k → lm (mset (mset σ b (.br [] 0 e sz)) t (.ow b 0 0 0)) k = if b = k then .br [] 0 e sz else lm σ k := lk_set (fun k hk _ => by rw [hm, if_neg (by omega)]) (by omega) (by rw [hu]; rfl) rfl
  have hst : BStep G (lm σ) G (lm (mset (mset σ b (.br [] 0 e sz)) t (.ow b 0 0 0))) := ⟨.refl _, fun k hk => by
    rw [hlm k hk]
    by_cases h1 : b = k
    · subst h1; exact .u hub
    · rw [if_neg h1]; exact .same rfl rfl rfl rfl⟩
  refine ⟨G, hs.defers, hs.tsize, fun k hk => ?_, ⟨hs.st.agree, fun k g hk => ?_, fun k cs' ty hk hc => ?_, hs.st.inj, hs.st.gl⟩, hs.fr, hs.step.trans hst, hs.zp⟩
  · rw [hm]
    by_cases h1 : t = k
    · subst h1
      rw [if_pos rfl]
      have h2 := hs.slots t ht
      rw [hv] at h2
      obtain ⟨ad, cap, b', off, f, ev, ⟨q1, q2, q3, q4, q5⟩, hf, _⟩ := inv_sl h2
      rw [ev]
      have hcap := hf rfl
      exact .ow ad 0 cap b 0 0 [] 0 e sz hb.1 ((hlm b hb.1).trans (if_pos rfl)) q1 (fun _ => hcap) (Nat.le_refl _) fun _ => ⟨fun _ => hcap, fun g hg => by rw [hγ] at hg; cases hg⟩
    · rw [if_neg h1, if_neg (by omega)]; exact (hs.slots k hk).step hst
  · obtain ⟨h1, h2, h3⟩ := hs.st.box k g hk
    refine ⟨h1, h2, h3.step hst ?_ rfl rfl rfl fun _ => rfl⟩
    rw [hlm k h1, if_neg (fun h4 => by rw [← h4, hγ] at hk; cases hk)]
  · rw [hlm k hk] at hc
    by_cases h1 : b = k
    · rw [if_pos h1] at hc; cases hc
    · rw [if_neg h1] at hc; exact hs.st.real k cs' ty hk hc
/-- A family of no rows may be made at any time. -/
theorem ale_fo {E : Env} {σ : AMap} {b : Nat} (hb : 10000 ≤ b ∧ b < 20000) (hu : mget σ b = .u) : ALe E σ (mset σ b (.fo [])) := fun a w G hs => by
  have hm : ∀ k, mget (mset σ b (.fo [])) k = if b = k then .fo [] else mget σ k := fun k => mget_mset ..
  have hl : ∀ k, 10000 ≤ k → lm (mset σ b (.fo [])) k = if b = k then .fo [] else lm σ k := fun k hk => by
    by_cases hk1 : k < 1000000
    · show lk _ k = if b = k then .fo [] else lk _ k
      rw [lk_real hk1, lk_real hk1, hm]
    · rw [if_neg (by omega)]
      show lk _ k = lk _ k
      unfold lk
      rw [if_neg hk1, if_neg hk1, hm]
      by_cases e : b = encB k
      · rw [if_pos e, ← e, hu]; rfl
      · rw [if_neg e]
  have hub : lm σ b = .u := (lk_real (by omega)).trans hu
  have hγ : G.γ b = none := by
    cases hg : G.γ b with
    | none => rfl
    | some g => exact ((hs.st.box b g hg).2.2.not_u hub).elim
  have hst : BStep G (lm σ) G (lm (mset σ b (.fo []))) := ⟨.refl _, fun k hk => by
    rw [hl k hk]
    by_cases h1 : b = k
    · subst h1; exact .u hub
    · rw [if_neg h1]; exact .same rfl rfl rfl rfl⟩
  refine ⟨G, hs.defers, hs.tsize, fun k hk => ?_, ⟨hs.st.agree, fun k g hk => ?_, fun k cs' ty hk hc => ?_, hs.st.inj, hs.st.gl⟩, hs.fr, hs.step.trans hst, hs.zp⟩
  · rw [hm, if_neg (by omega)]; exact (hs.slots k hk).step hst
  · obtain ⟨h1, h2, h3⟩ := hs.st.box k g hk
    refine ⟨h1, h2, h3.step hst ?_ rfl rfl rfl fun _ => rfl⟩
    rw [hl k h1, if_neg (fun h4 => by rw [← h4, hγ] at hk; cases hk)]
  · rw [hl k hk] at hc
    by_cases h1 : b = k
    · rw [if_pos h1] at hc; cases hc
    · rw [if_neg h1] at hc; exact hs.st.real k cs' ty hk hc
end Go.Proofs.Ytjabaenpkimmjaa

/- K: calls, sound; and all operations together. No program is in sight. -/
import Derived.Test.YtjabaenpkimmjaaKI
import Derived.Test.YtjabaenpkimmjaaKMp
namespace Go.Proofs.Ytjabaenpkimmjaa
set_option linter.unusedSimpArgs false
set_option linter.unusedVariables false
open Go.RowKit

theorem addN_nodup : ∀ {l m : List Nat}, m.Nodup → (addN m l).Nodup
  | [], m, h => h
  | x :: r, m, h => by
    unfold addN
    split
    · exact addN_nodup h
    · rename_i hx
      refine addN_nodup (List.nodup_append.2 ⟨h, by simp, fun a ha b hb => ?_⟩)
      simp at hb
      subst hb
      intro e; subst e
      exact hx (by simpa using ha)

section
variable {P : Program} {σ : AMap} {Goal : List (Nat × AV) → Prop}
theorem Snd.rdBoxes : ∀ {ns : List Nat} {f : List AV → TR}, ((∀ b ∈ ns, 10000 ≤ b ∧ b < 1000000) → Snd P σ (f (ns.map (mget σ))) Goal) → Snd P σ (rdBoxes ns f) Goal
  | [], f, h => h (fun b hb => by simp at hb)
  | b :: r, f, h => .need fun hb => .rd (Snd.rdBoxes (ns := r) fun hr => h fun x hx => by
      rcases List.mem_cons.1 hx with rfl | hx
      · exact hb
      · exact hr x hx)
theorem Snd.gather {tk : Bool} : ∀ {k : Nat} {ns : List Nat} {f : List Nat → List AV → TR}, ns.Nodup → (∀ ns' : List Nat, ns'.Nodup → (∀ b ∈ ns', 10000 ≤ b ∧ b < 1000000) → Snd P σ (f ns' (ns'.map (mget σ))) Goal) → Snd P σ (gather tk k ns f) Goal
  | 0, _, _, _, _ => .fail
  | k + 1, ns, f, hn, h => by
    refine .rdBoxes fun hb => ?_
    split
    · exact h ns hn hb
    · exact Snd.gather (addN_nodup hn) h
end

theorem lookN_zip : ∀ {ns : List Nat} {i b b' : Nat}, lookN (zipFrom i ns) b = some b' → ∃ j, j < ns.length ∧ b' = 20000 + i + j ∧ ns[j]? = some b
  | [], i, b, b', h => by simp [zipFrom, lookN] at h
  | x :: r, i, b, b', h => by
    simp only [zipFrom, lookN] at h
    split at h
    · rename_i e; cases h; subst e; exact ⟨0, by simp, by omega, by simp⟩
    · obtain ⟨j, h1, h2, h3⟩ := lookN_zip h
      exact ⟨j + 1, by simpa using h1, by omega, by simpa using h3⟩
theorem lookN_flip : ∀ {ns : List Nat} {i b b' : Nat}, lookN (flipN (zipFrom i ns)) b = some b' → ∃ j, j < ns.length ∧ b = 20000 + i + j ∧ ns[j]? = some b'
  | [], i, b, b', h => by simp [zipFrom, flipN, lookN] at h
  | x :: r, i, b, b', h => by
    simp only [zipFrom, flipN, List.map_cons, lookN] at h
    split at h
    · rename_i e; cases h; exact ⟨0, by simp, by omega, by simp⟩
    · obtain ⟨j, h1, h2, h3⟩ := lookN_flip (ns := r) (i := i + 1) h
      exact ⟨j + 1, by simpa using h1, by omega, by simpa using h3⟩

/-- Names turned. -/
theorem ren_rel {G G' : Gh} {B B' : Nat → AV} {g : List (Nat × Nat)} (hZ : G'.Z = G.Z)
    (hreal : ∀ k, (∃ cs ty, B k = .bc cs ty) ∨ (∃ n e, B k = .bt n e) → k < 1000000)
    (hg : ∀ b b', lookK g b = some b' → 10000 ≤ b' ∧ (∀ cs ty, B b = .bc cs ty → ∃ cs', B' b' = .bc cs' ty) ∧ (∀ n e, B b = .bt n e → B' b' = .bt n e) ∧ G'.γ b' = G.γ b ∧ G'.κ b' = G.κ b ∧ G'.β b' = G.β b ∧ (∀ cs v e sz, B b = .br cs v e sz → ∃ cs', B' b' = .br cs' v e sz)) :
    ∀ (k : Nat) {x : AV} {v : Value}, VRel G B v x → VRel G' B' v (ren g k x)
  | 0, x, v, _ => .p (.u v)
  | k + 1, x, v, h => by
    have lst : ∀ {cs : List AV} {vs : Array Value}, (∀ j (hj : j < cs.length), VRel G B (vs.getD j undef) cs[j]) → ∀ j (hj : j < (cs.map (ren g k)).length), VRel G' B' (vs.getD j undef) (cs.map (ren g k))[j] := fun {cs vs} hp j hj => by
      rw [List.getElem_map]
      exact ren_rel hZ hreal hg k (hp j (by simpa using hj))
    cases x with
    | c x => rw [inv_c h]; exact .p (.c x)
    | u => exact .p (.u v)
    | sl cs n o =>
      obtain ⟨ad, cap, b, off, f, rfl, ⟨h1, h2, h3, h4, h5⟩, hf, ht⟩ := inv_sl h
      cases o with
      | none => exact .p (.sl ad b off n cap .none cs f (.inl rfl) h1 h2 h3 (by rw [hZ]; exact h4) (by rw [hZ]; exact h5))
      | full => exact .p (.sl ad b off n cap .full cs f (.inr ⟨rfl, hf rfl⟩) h1 h2 h3 (by rw [hZ]; exact h4) (by rw [hZ]; exact h5))
      | tok t =>
        have hp : PRel G'.Z (.slice ad n cap) (.sl cs n .none) := .sl ad b off n cap .none cs f (.inl rfl) h1 h2 h3 (by rw [hZ]; exact h4) (by rw [hZ]; exact h5)
        obtain ⟨h6, tip, e, hB, hn, hk⟩ := ht t rfl
        simp only [ren]
        split
        · rename_i b' hb'
          obtain ⟨q1, _, q3, q4, q5, _⟩ := hg t b' ((if_pos (hreal t (.inr ⟨_, _, hB⟩))).trans hb')
          refine .tok ad n cap cs b' tip e hp q1 (q3 tip e hB) hn fun e' => ?_
          have := hk e'
          unfold TokAt at *
          rw [q4, q5]; exact this
        · exact .p hp
    | rf cs o =>
      obtain ⟨b, off, f, rfl, hz, hp⟩ := inv_rf h
      exact .p (.rf b off o cs f (by rw [hZ]; exact hz) (by rw [hZ]; exact hp))
    | agg cs =>
      obtain ⟨vs, rfl, hs, h1, hp⟩ := inv_agg h
      exact .agg vs _ (by simpa using hs) (fun j hj => h1 j (by simpa using hj)) (lst hp)
    | tup cs =>
      obtain ⟨vs, rfl, hs, hp⟩ := inv_tup h
      exact .tup vs _ (by simpa using hs) (lst hp)
    | ifc t x =>
      obtain ⟨v', rfl, hv⟩ := inv_ifc h
      exact .ifc t v' _ (ren_rel hZ hreal hg k hv)
    | fn f p q =>
      obtain ⟨va, vb, rfl, ha, hb, pa, pb⟩ := inv_fn h
      exact .fn f va vb _ _ (by simpa using ha) (by simpa using hb) (lst pa) (lst pb)
    | loc b off =>
      obtain ⟨g', cs, ty, rfl, hb, hB, hγ, hm⟩ := inv_loc h
      simp only [ren]
      split
      · rename_i b' hb'
        obtain ⟨q1, q2, _, q4, _⟩ := hg b b' ((if_pos (hreal b (.inl ⟨_, _, hB⟩))).trans hb')
        obtain ⟨cs', q2⟩ := q2 cs ty hB
        exact .loc b' off g' cs' ty q1 q2 (q4.trans hγ) hm
      · exact .p (.u _)
    | arr b off n e =>
      obtain ⟨g', cap, cs, ty, rfl, hn, hb, hB, hγ, hm⟩ := inv_arr h
      simp only [ren]
      split
      · rename_i b' hb'
        obtain ⟨q1, q2, _, q4, _⟩ := hg b b' ((if_pos (hreal b (.inl ⟨_, _, hB⟩))).trans hb')
        obtain ⟨cs', q2⟩ := q2 cs ty hB
        exact .arr b' off n e cap g' cs' ty q1 q2 (q4.trans hγ) hn hm
      · exact .p (.u _)
    | mp b =>
      obtain ⟨g', cs, ty, rfl, hb, hB, hγ, hm⟩ := inv_mp h
      simp only [ren]
      split
      · rename_i b' hb'
        obtain ⟨q1, q2, _, q4, _⟩ := hg b b' ((if_pos (hreal b (.inl ⟨_, _, hB⟩))).trans hb')
        obtain ⟨cs', q2⟩ := q2 cs ty hB
        exact .mp b' g' cs' ty q1 q2 (q4.trans hγ) hm
      · exact .p (.u _)
    | ow b off n ver =>
      obtain ⟨ad, cap, cs, v', e, sz, rfl, hn, had, hb, hB, hvv, how⟩ := inv_ow h
      simp only [ren]
      split
      · rename_i b' hb'
        obtain ⟨q1, _, _, q4, q5, q6, q7⟩ := hg b b' hb'
        obtain ⟨cs', q7⟩ := q7 cs v' e sz hB
        refine .ow ad n cap b' off ver cs' v' e sz q1 q7 hn had hvv fun hv => ?_
        have := how hv
        unfold OwAt at *
        rw [q4, q5, q6]; exact this
      · exact .p (.u _)
    | lo b off ver =>
      obtain ⟨g', o, cs, v', e, sz, rfl, hb, hB, hvv, hk⟩ := inv_lo h
      simp only [ren]
      split
      · rename_i b' hb'
        obtain ⟨q1, _, _, q4, q5, q6, q7⟩ := hg b b' hb'
        obtain ⟨cs', q7⟩ := q7 cs v' e sz hB
        refine .lo g' o b' off ver cs' v' e sz q1 q7 hvv fun hv => ?_
        rw [q4, q6]; exact hk hv
      · exact .p (.u _)
    | bc cs ty => exact (inv_bc h).elim
    | bt n e => exact (inv_bt h).elim
    | br cs v e sz => exact (inv_br h).elim
    | fo rows => exact (inv_fo h).elim
theorem ren_box {G G' : Gh} {B B' : Nat → AV} {g : List (Nat × Nat)} (hZ : G'.Z = G.Z)
    (hreal : ∀ k, (∃ cs ty, B k = .bc cs ty) ∨ (∃ n e, B k = .bt n e) → k < 1000000)
    (hg : ∀ b b', lookK g b = some b' → 10000 ≤ b' ∧ (∀ cs ty, B b = .bc cs ty → ∃ cs', B' b' = .bc cs' ty) ∧ (∀ n e, B b = .bt n e → B' b' = .bt n e) ∧ G'.γ b' = G.γ b ∧ G'.κ b' = G.κ b ∧ G'.β b' = G.β b ∧ (∀ cs v e sz, B b = .br cs v e sz → ∃ cs', B' b' = .br cs' v e sz))
    {P : Program} {w : World} {k k' g' : Nat} (h : BoxAt P G B w k g') (hB : B' k' = renBox g (B k)) (hκ : G'.κ k' = G.κ k) (hβ : G'.β k' = G.β k) : BoxAt P G' B' w k' g' := by
  rcases h with ⟨cs, ty, e, h2⟩ | ⟨n, e, h1, c, h2, h3, h4, h5, h6⟩ | ⟨cs, v, e, sz, h1, h2⟩
  · rw [e] at hB
    exact .inl ⟨_, ty, hB, h2.to (ren g 4) (fun _ => rfl) (fun _ _ h => ren_rel hZ hreal hg 4 h) rfl fun o ho => by rw [hZ]; exact ho⟩
  · rw [h1] at hB
    rw [← hκ] at h3 h4 h5
    exact .inr (.inl ⟨n, e, hB, c, h2, h3, h4, h5, by rw [hZ]; exact h6⟩)
  · rw [h1] at hB
    exact .inr (.inr ⟨_, v, e, sz, hB, h2.to (ren g 4) (fun _ _ h => ren_rel hZ hreal hg 4 h) rfl hκ hβ fun o ho => by rw [hZ]; exact ho⟩)

theorem rowOf_ren (g : List (Nat × Nat)) (x : AV) (i : Nat) : rowOf (renBox g x) i = renBox g (rowOf x i) := by
  cases x with
  | fo rows =>
    simp only [renBox, rowOf, rowAt, List.getD_eq_getElem?_getD, List.getElem?_map]
    cases h : rows[i]? with
    | none => rfl
    | some y => cases y <;> rfl
  | _ => rfl
theorem lk_real2 {B : Nat → AV} : ∀ k, (∃ cs ty, lk B k = .bc cs ty) ∨ (∃ n e, lk B k = .bt n e) → k < 1000000 := fun k h => by
  rcases h with ⟨_, _, h⟩ | ⟨_, _, h⟩
  · exact (lk_bc h).1
  · exact (lk_bt h).1

theorem backs_get {g : List (Nat × Nat)} : ∀ {ns : List Nat} {bs : List AV} {σ : AMap}, bs.length = ns.length → ns.Nodup → (∀ (j : Nat) (b : Nat) (x : AV), ns[j]? = some b → bs[j]? = some x → mget (mupd σ (backs g ns bs)) b = renBox g x) ∧ ∀ k, k ∉ ns → mget (mupd σ (backs g ns bs)) k = mget σ k
  | [], [], σ, _, _ => ⟨fun j b x h => by simp at h, fun k _ => rfl⟩
  | n :: ns, x :: bs, σ, hl, hn => by
    obtain ⟨h1, h2⟩ := List.nodup_cons.1 hn
    obtain ⟨h3, h4⟩ := backs_get (g := g) (ns := ns) (bs := bs) (σ := mset σ n (renBox g x)) (by simpa using hl) h2
    refine ⟨fun j b y hb hy => ?_, fun k hk => ?_⟩
    · cases j with
      | zero =>
        simp at hb hy
        subst hb; subst hy
        show mget (mupd (mset σ n (renBox g x)) (backs g ns bs)) n = _
        rw [h4 n h1, mget_mset, if_pos rfl]
      | succ j => exact h3 j b y (by simpa using hb) (by simpa using hy)
    · show mget (mupd (mset σ n (renBox g x)) (backs g ns bs)) k = _
      rw [h4 k (fun h => hk (by simp [h])), mget_mset, if_neg (fun e => hk (by simp [e]))]
theorem mupd_append (σ : AMap) : ∀ (a b : List (Nat × AV)), mupd σ (a ++ b) = mupd (mupd σ a) b
  | [], b => rfl
  | (k, v) :: a, b => mupd_append (mset σ k v) a b
theorem extRaw_of {bs : List AV} {j : Nat} {x : AV} (h : bs[j]? = some x) : extRaw bs (20000 + j) = x := by
  unfold extRaw
  rw [if_pos (by omega), Nat.add_sub_cancel_left, List.getD_eq_getElem?_getD, h]; rfl
/-! ### Names in the call and outside: a row's goes with its family's. -/
structure NB (ns : List Nat) : Prop where
  nd : ns.Nodup
  bd : ∀ b ∈ ns, 10000 ≤ b ∧ b < 1000000
  len : ns.length ≤ 1001
def trC (ns : List Nat) (k : Nat) : Option Nat := if k < 1000000 then (if 20000 ≤ k then ns[k - 20000]? else none) else if 20000 ≤ encB k then (ns[encB k - 20000]?).map fun b => enc b (encI k) else none
def trB (ns : List Nat) (k : Nat) : Option Nat := if k < 1000000 then (if k ∈ ns then some (20000 + ns.idxOf k) else none) else if encB k ∈ ns then some (enc (20000 + ns.idxOf (encB k)) (encI k)) else none
theorem idx_of {ns : List Nat} (hn : ns.Nodup) {j b : Nat} (h : ns[j]? = some b) : ns.idxOf b = j := by
  obtain ⟨h1, h2⟩ := List.getElem?_eq_some_iff.1 h
  subst h2
  exact hn.idxOf_getElem j h1
theorem at_idx {ns : List Nat} {b : Nat} (h : b ∈ ns) : ns[ns.idxOf b]? = some b := by
  have h1 := List.idxOf_lt_length_of_mem h
  rw [List.getElem?_eq_getElem h1]; simp
theorem trC_cases {ns : List Nat} {k b : Nat} (h : trC ns k = some b) : (k < 1000000 ∧ ∃ j, k = 20000 + j ∧ ns[j]? = some b) ∨ (¬ k < 1000000 ∧ ∃ j b0, encB k = 20000 + j ∧ ns[j]? = some b0 ∧ b = enc b0 (encI k)) := by
  unfold trC at h
  split at h
  · rename_i h1
    split at h
    · rename_i h2; exact .inl ⟨h1, k - 20000, by omega, h⟩
    · cases h
  · rename_i h1
    split at h
    · rename_i h2
      obtain ⟨b0, h3, h4⟩ := Option.map_eq_some_iff.1 h
      exact .inr ⟨h1, encB k - 20000, b0, by omega, h3, h4.symm⟩
    · cases h
theorem trC_real {ns : List Nat} {j b : Nat} (h : NB ns) (hj : ns[j]? = some b) : trC ns (20000 + j) = some b := by
  have hl := (List.getElem?_eq_some_iff.1 hj).1
  have hlen := h.len
  unfold trC
  rw [if_pos (by omega), if_pos (by omega), Nat.add_sub_cancel_left, hj]
theorem trC_row {ns : List Nat} {j b i : Nat} (h : NB ns) (hj : ns[j]? = some b) : trC ns (enc (20000 + j) i) = some (enc b i) := by
  have hl := (List.getElem?_eq_some_iff.1 hj).1
  have hlen := h.len
  unfold trC
  rw [if_neg (enc_big _ _), encB_enc _ (by omega), if_pos (by omega), encI_enc _ (by omega), Nat.add_sub_cancel_left, hj]; rfl
theorem tr_cb {ns : List Nat} (h : NB ns) {k b : Nat} (hc : trC ns k = some b) : trB ns b = some k := by
  rcases trC_cases hc with ⟨h1, j, rfl, h2⟩ | ⟨h1, j, b0, h2, h3, rfl⟩
  · obtain ⟨_, hb⟩ := h.bd b (List.mem_of_getElem? h2)
    unfold trB
    rw [if_pos hb, if_pos (List.mem_of_getElem? h2), idx_of h.nd h2]
  · obtain ⟨_, hb⟩ := h.bd b0 (List.mem_of_getElem? h3)
    unfold trB
    rw [if_neg (enc_big _ _), encB_enc _ hb, if_pos (List.mem_of_getElem? h3), idx_of h.nd h3, encI_enc _ hb, ← h2, enc_of h1]
theorem tr_bc {ns : List Nat} (h : NB ns) {k b : Nat} (hb : trB ns b = some k) : trC ns k = some b := by
  unfold trB at hb
  split at hb
  · split at hb
    · rename_i hm
      cases hb
      exact trC_real h (at_idx hm)
    · cases hb
  · rename_i hbig
    split at hb
    · rename_i hm
      cases hb
      rw [trC_row h (at_idx hm), enc_of hbig]
    · cases hb
theorem trC_ge {ns : List Nat} {k b : Nat} (h : trC ns k = some b) : 20000 ≤ k := by
  rcases trC_cases h with ⟨_, j, rfl, _⟩ | ⟨h1, _⟩ <;> omega
theorem trB_ge {ns : List Nat} (h : NB ns) {k b : Nat} (hb : trB ns b = some k) : 10000 ≤ b := by
  rcases trC_cases (tr_bc h hb) with ⟨_, j, _, h2⟩ | ⟨_, j, b0, _, _, rfl⟩
  · exact (h.bd b (List.mem_of_getElem? h2)).1
  · have := enc_big b0 (encI k); omega
theorem trB_sub {ns ns2 : List Nat} (hs : ∀ b, b ∈ ns → b ∈ ns2) {k b : Nat} (hb : trB ns b = some k) : ∃ k', trB ns2 b = some k' := by
  unfold trB at hb ⊢
  split at hb
  · rename_i h1
    split at hb
    · rename_i hm; exact ⟨_, by rw [if_pos h1, if_pos (hs _ hm)]⟩
    · cases hb
  · rename_i h1
    split at hb
    · rename_i hm; exact ⟨_, by rw [if_neg h1, if_pos (hs _ hm)]⟩
    · cases hb
theorem lookK_zip {ns : List Nat} (h : NB ns) {b b' : Nat} (hl : lookK (zipFrom 0 ns) b = some b') : trC ns b' = some b := by
  unfold lookK at hl
  split at hl
  · obtain ⟨j, _, h2, h3⟩ := lookN_zip hl
    rw [Nat.add_zero] at h2
    subst h2
    exact trC_real h h3
  · rename_i hbig
    obtain ⟨b0, h1, rfl⟩ := Option.map_eq_some_iff.1 hl
    obtain ⟨j, _, h2, h3⟩ := lookN_zip h1
    rw [Nat.add_zero] at h2
    subst h2
    rw [trC_row h h3, enc_of hbig]
theorem lookK_flip {ns : List Nat} (h : NB ns) {b b' : Nat} (hl : lookK (flipN (zipFrom 0 ns)) b = some b') : trC ns b = some b' := by
  unfold lookK at hl
  split at hl
  · obtain ⟨j, _, h2, h3⟩ := lookN_flip hl
    rw [Nat.add_zero] at h2
    subst h2
    exact trC_real h h3
  · rename_i hbig
    obtain ⟨b0, h1, rfl⟩ := Option.map_eq_some_iff.1 hl
    obtain ⟨j, _, h2, h3⟩ := lookN_flip h1
    rw [Nat.add_zero] at h2
    have := trC_row (i := encI b) h h3
    rwa [← h2, enc_of hbig] at this
/-- Under a name that was turned lies what was turned. -/
theorem ext_tr {ns : List Nat} (h : NB ns) {bxs : List AV} {F : AV → AV} {σ : AMap} (hF : ∀ x i, rowOf (F x) i = F (rowOf x i)) (hb : ∀ (j b : Nat), ns[j]? = some b → extRaw bxs (20000 + j) = F (mget σ b)) {k b : Nat} (hc : trC ns k = some b) : extGet bxs k = F (lm σ b) := by
  rcases trC_cases hc with ⟨h1, j, rfl, h2⟩ | ⟨h1, j, b0, h2, h3, rfl⟩
  · obtain ⟨_, hbd⟩ := h.bd b (List.mem_of_getElem? h2)
    show lk (extRaw bxs) (20000 + j) = F (lk (mget σ) b)
    rw [lk_real h1, lk_real hbd]; exact hb j b h2
  · obtain ⟨hbd1, hbd2⟩ := h.bd b0 (List.mem_of_getElem? h3)
    show lk (extRaw bxs) k = F (lk (mget σ) (enc b0 (encI k)))
    rw [lk_row _ hbd1 hbd2, ← hF, ← hb j b0 h3]
    unfold lk
    rw [if_neg h1, if_pos (by omega), h2]

section
variable {E : Env} {o : Oper} {σ : AMap} {a : Act} {w : World} {G : Gh}

def GhC (G : Gh) (ns : List Nat) : Gh := ⟨G.Z, fun k => (trC ns k).bind G.γ, fun k => (trC ns k).elim 0 G.κ, fun k => (trC ns k).elim 0 G.β⟩
def GhB (G G' : Gh) (ns : List Nat) : Gh := ⟨G'.Z, fun k => match trB ns k with | some k' => G'.γ k' | none => G.γ k, fun k => match trB ns k with | some k' => G'.κ k' | none => G.κ k, fun k => match trB ns k with | some k' => G'.β k' | none => G.β k⟩
theorem GhC_at (G : Gh) {ns : List Nat} {k b : Nat} (h : trC ns k = some b) : (GhC G ns).γ k = G.γ b ∧ (GhC G ns).κ k = G.κ b ∧ (GhC G ns).β k = G.β b := by
  unfold GhC
  simp [h]
theorem GhC_inv (G : Gh) {ns : List Nat} {k g : Nat} (h : (GhC G ns).γ k = some g) : ∃ b, trC ns k = some b ∧ G.γ b = some g := Option.bind_eq_some_iff.1 h
theorem GhB_at (G G' : Gh) {ns : List Nat} {k b : Nat} (h : trB ns b = some k) : (GhB G G' ns).γ b = G'.γ k ∧ (GhB G G' ns).κ b = G'.κ k ∧ (GhB G G' ns).β b = G'.β k := by
  unfold GhB
  simp [h]
theorem GhB_no (G G' : Gh) {ns : List Nat} {b : Nat} (h : trB ns b = none) : (GhB G G' ns).γ b = G.γ b ∧ (GhB G G' ns).κ b = G.κ b ∧ (GhB G G' ns).β b = G.β b := by
  unfold GhB
  simp [h]

theorem snd_call (h : Sim E σ a w G) {f : FuncId} {tk : Bool} {args : List AV} {vs : Array Value} (hvs : vs.size = args.length) (hargs : ∀ j (hj : j < args.length), VRel G (lm σ) (vs.getD j undef) args[j])
    (hrun : callOk E.P f = true → (execOp a.eval o).run E.P w = .ok (.enter f vs) w) : Snd E.P σ (kCall E.P E.N tk o f args) (Good E o σ a w) := by
  unfold kCall
  refine .need fun ⟨hok, hd⟩ => .gather (addN_nodup (by simp)) fun ns hn hb => .need fun ⟨hbox, hlen0⟩ => .call fun r bs' hfn => ?_
  have hNB : NB ns := ⟨hn, hb, by omega⟩
  -- the names' turnings
  have hext : ∀ k b, trC ns k = some b → extGet ((ns.map (mget σ)).map (renBox (zipFrom 0 ns))) k = renBox (zipFrom 0 ns) (lm σ b) := fun k b hk =>
    ext_tr hNB (rowOf_ren _) (fun j b hj => extRaw_of (by simp [hj])) hk
  have hg : ∀ b b', lookK (zipFrom 0 ns) b = some b' → 10000 ≤ b' ∧ (∀ cs ty, lm σ b = .bc cs ty → ∃ cs', extGet ((ns.map (mget σ)).map (renBox (zipFrom 0 ns))) b' = .bc cs' ty) ∧
      (∀ n e, lm σ b = .bt n e → extGet ((ns.map (mget σ)).map (renBox (zipFrom 0 ns))) b' = .bt n e) ∧ (GhC G ns).γ b' = G.γ b ∧ (GhC G ns).κ b' = G.κ b ∧ (GhC G ns).β b' = G.β b ∧
      (∀ cs v e sz, lm σ b = .br cs v e sz → ∃ cs', extGet ((ns.map (mget σ)).map (renBox (zipFrom 0 ns))) b' = .br cs' v e sz) := fun b b' hl => by
    have h3 := lookK_zip hNB hl
    rw [hext b' b h3]
    have := trC_ge h3
    exact ⟨by omega, fun cs ty e => ⟨_, by rw [e]; rfl⟩, fun n e he => by rw [he]; rfl, (GhC_at G h3).1, (GhC_at G h3).2.1, (GhC_at G h3).2.2, fun cs v e sz he => ⟨_, by rw [he]; rfl⟩⟩
  have hst : BSim E.P (fun b => b < w.heap.size ∧ ∀ k, (GhC G ns).γ k ≠ some b) (GhC G ns) (extGet ((ns.map (mget σ)).map (renBox (zipFrom 0 ns)))) w := by
    refine ⟨h.st.agree, fun k g hk => ?_, fun k cs ty hk hB => ?_, fun k k' g h1 h2 => ?_, h.st.gl⟩
    · obtain ⟨b, h2, h3⟩ := GhC_inv G hk
      obtain ⟨_, _, h4⟩ := h.st.box b g h3
      have := trC_ge h2
      exact ⟨by omega, fun hp => hp.2 _ hk, ren_box (G := G) (G' := GhC G ns) rfl lk_real2 hg h4 (hext k b h2) (GhC_at G h2).2.1 (GhC_at G h2).2.2⟩
    · obtain ⟨hkb, hB⟩ := lk_bc hB
      unfold extRaw at hB
      split at hB
      · rename_i hk'
        rw [List.getD_eq_getElem?_getD] at hB
        cases hj : ns[k - 20000]? with
        | none => simp [hj] at hB
        | some b =>
          simp only [List.getElem?_map, hj, Option.map_some, Option.getD_some] at hB
          have : ∃ cs', mget σ b = .bc cs' ty := by
            cases hm : mget σ b <;> rw [hm] at hB <;> simp [renBox] at hB
            rename_i cs' ty'
            exact ⟨cs', by rw [hB.2]⟩
          obtain ⟨cs', hm⟩ := this
          obtain ⟨hb1, hb2⟩ := hb b (List.mem_of_getElem? hj)
          obtain ⟨g, hγ⟩ := h.st.real b cs' ty hb1 ((lk_real hb2).trans hm)
          refine ⟨g, ?_⟩
          have := (GhC_at G (trC_real hNB hj)).1
          rw [show 20000 + (k - 20000) = k by omega] at this
          exact this.trans hγ
      · cases hB
    · obtain ⟨b, h3, h4⟩ := GhC_inv G h1
      obtain ⟨b', h5, h6⟩ := GhC_inv G h2
      have := h.st.inj b b' g h4 h6
      subst this
      have e1 := tr_cb hNB h3
      have e2 := tr_cb hNB h5
      rw [e1] at e2; exact Option.some.inj e2
  have hargs' : ∀ j (hj : j < (args.map (ren (zipFrom 0 ns) 4)).length), VRel (GhC G ns) (extGet ((ns.map (mget σ)).map (renBox (zipFrom 0 ns)))) (vs.getD j undef) (args.map (ren (zipFrom 0 ns) 4))[j] := fun j hj => by
    rw [List.getElem_map]
    exact ren_rel (G := G) (G' := GhC G ns) rfl lk_real2 hg 4 (hargs j (by simpa using hj))
  have hX : XP w (fun b => b < w.heap.size ∧ ∀ k, (GhC G ns).γ k ≠ some b) := fun g cs hg => by
    obtain ⟨⟨ty, fl, h1⟩, h2⟩ := E.hB0.2 g cs hg
    exact ⟨⟨ty, fl, (h.fr.block g h2).2.trans h1⟩, Nat.lt_of_lt_of_le (h.fr.block g h2).1 h.fr.size, fun k hk => by
      obtain ⟨b', _, h4⟩ := GhC_inv G hk
      exact (h.st.box b' g h4).2.1 h2⟩
  have hcalls := hfn w (GhC G ns) vs hst hX (by simpa using hvs) hargs'
  have back : ∀ ns2 : List Nat, (ns2 = ns ∨ ∃ key, ns2 = ns ++ [key] ∧ 10000 ≤ key ∧ key < 1000000 ∧ mget σ key = .u ∧ key ∉ ns) → bs'.length = ns2.length → Snd E.P σ (kBack o ns2 r bs') (Good E o σ a w) := fun ns2 hns2 hlen' => by
    refine .done fun Q => ?_
    have hn2 : ns2.Nodup := by
      rcases hns2 with rfl | ⟨key, rfl, _, _, _, hk⟩
      · exact hn
      · exact List.nodup_append.2 ⟨hn, by simp, fun x hx y hy => by simp at hy; subst hy; intro e; exact hk (e ▸ hx)⟩
    have hb2' : ∀ b ∈ ns2, 10000 ≤ b ∧ b < 1000000 := fun b hbm => by
      rcases hns2 with rfl | ⟨key, rfl, hk, hk2, _, _⟩
      · exact hb b hbm
      · rcases List.mem_append.1 hbm with hbm | hbm
        · exact hb b hbm
        · simp at hbm; omega
    have hNB2 : NB ns2 := ⟨hn2, hb2', by
      rcases hns2 with rfl | ⟨key, rfl, _⟩
      · omega
      · simp; omega⟩
    have hsub : ∀ b, b ∈ ns → b ∈ ns2 := fun b hbm => by
      rcases hns2 with rfl | ⟨key, rfl, _, _, _⟩
      · exact hbm
      · exact List.mem_append_left _ hbm
    have hold0 : ∀ j b, ns2[j]? = some b → ns[j]? = some b ∨ mget σ b = .u := fun j b hj => by
      rcases hns2 with rfl | ⟨key, rfl, _, _, hu, _⟩
      · exact .inl hj
      · by_cases hlt : j < ns.length
        · rw [List.getElem?_append_left hlt] at hj; exact .inl hj
        · rw [List.getElem?_append_right (by omega)] at hj
          cases h0 : j - ns.length with
          | zero => rw [h0] at hj; simp at hj; subst hj; exact .inr hu
          | succ i => rw [h0] at hj; simp at hj
    have hold : ∀ k b, trC ns2 k = some b → trC ns k = some b ∨ lm σ b = .u := fun k b hk => by
      rcases trC_cases hk with ⟨h1, j, rfl, h2⟩ | ⟨h1, j, b0, h2, h3, rfl⟩
      · rcases hold0 j b h2 with h4 | h4
        · exact .inl (trC_real hNB h4)
        · exact .inr ((lk_real (hb2' b (List.mem_of_getElem? h2)).2).trans h4)
      · rcases hold0 j b0 h3 with h4 | h4
        · left
          have := trC_row (i := encI k) hNB h4
          rwa [← h2, enc_of h1] at this
        · right
          obtain ⟨q1, q2⟩ := hb2' b0 (List.mem_of_getElem? h3)
          unfold lm
          rw [lk_row _ q1 q2, h4]; rfl
    unfold Oper.wp
    rw [hrun hok]
    refine Calls.mono hcalls ?_
    rintro e w' ⟨v, G', rfl, hv, hst', hw, hs', hz'⟩
    -- behind the call
    have hσ : ∀ k, mget (mupd σ (backs (flipN (zipFrom 0 ns2)) ns2 bs' ++ outs o (ren (flipN (zipFrom 0 ns2)) 4 r))) k = if some k = o.dst then ren (flipN (zipFrom 0 ns2)) 4 r else mget (mupd σ (backs (flipN (zipFrom 0 ns2)) ns2 bs')) k := fun k => by
      rw [mupd_append, mget_outs]
    obtain ⟨hb1, hb2⟩ := backs_get (g := flipN (zipFrom 0 ns2)) (ns := ns2) (bs := bs') (σ := σ) hlen' hn2
    have hσb : ∀ k, 10000 ≤ k → mget (mupd σ (backs (flipN (zipFrom 0 ns2)) ns2 bs' ++ outs o (ren (flipN (zipFrom 0 ns2)) 4 r))) k = mget (mupd σ (backs (flipN (zipFrom 0 ns2)) ns2 bs')) k := fun k hk => by
      rw [hσ, if_neg (fun e => by have h2 : k < 10000 := (dst_lt hd k e.symm).2; omega)]
    have hatR : ∀ j b, ns2[j]? = some b → mget (mupd σ (backs (flipN (zipFrom 0 ns2)) ns2 bs' ++ outs o (ren (flipN (zipFrom 0 ns2)) 4 r))) b = renBox (flipN (zipFrom 0 ns2)) (extRaw bs' (20000 + j)) := fun j b hj => by
      rw [hσb b (hb2' b (List.mem_of_getElem? hj)).1]
      obtain ⟨h1, _⟩ := List.getElem?_eq_some_iff.1 hj
      have h2 : bs'[j]? = some bs'[j] := List.getElem?_eq_getElem (by omega)
      rw [hb1 j b _ hj h2, extRaw_of h2]
    have hnotR : ∀ k, 10000 ≤ k → k ∉ ns2 → mget (mupd σ (backs (flipN (zipFrom 0 ns2)) ns2 bs' ++ outs o (ren (flipN (zipFrom 0 ns2)) 4 r))) k = mget σ k := fun k hk hk' => by
      rw [hσb k hk, hb2 k hk']
    have hslot : ∀ t, t < 10000 → mget (mupd σ (backs (flipN (zipFrom 0 ns2)) ns2 bs' ++ outs o (ren (flipN (zipFrom 0 ns2)) 4 r))) t = if some t = o.dst then ren (flipN (zipFrom 0 ns2)) 4 r else mget σ t := fun t ht => by
      rw [hσ]
      split
      · rfl
      · rw [hb2 t (fun hm => by have := (hb2' t hm).1; omega)]
    generalize mupd σ (backs (flipN (zipFrom 0 ns2)) ns2 bs' ++ outs o (ren (flipN (zipFrom 0 ns2)) 4 r)) = σ2 at *
    have hat : ∀ k b, trC ns2 k = some b → lm σ2 b = renBox (flipN (zipFrom 0 ns2)) (extGet bs' k) := fun k b hk => by
      rcases trC_cases hk with ⟨h1, j, rfl, h2⟩ | ⟨h1, j, b0, h2, h3, rfl⟩
      · show lk (mget σ2) b = renBox _ (lk (extRaw bs') (20000 + j))
        rw [lk_real (hb2' b (List.mem_of_getElem? h2)).2, lk_real h1]; exact hatR j b h2
      · obtain ⟨q1, q2⟩ := hb2' b0 (List.mem_of_getElem? h3)
        show lk (mget σ2) (enc b0 (encI k)) = renBox _ (lk (extRaw bs') k)
        have e1 : lk (extRaw bs') k = rowOf (extRaw bs' (20000 + j)) (encI k) := by
          unfold lk
          rw [if_neg h1, if_pos (by omega), h2]
        rw [lk_row _ q1 q2, hatR j b0 h3, rowOf_ren, e1]
    have hnot : ∀ k, 10000 ≤ k → trB ns2 k = none → lm σ2 k = lm σ k := fun k hk hk' => by
      unfold trB at hk'
      show lk (mget σ2) k = lk (mget σ) k
      unfold lk
      split at hk'
      · rename_i h1
        rw [if_pos h1, if_pos h1]
        exact hnotR k hk (fun hm => by rw [if_pos hm] at hk'; cases hk')
      · rename_i h1
        rw [if_neg h1, if_neg h1]
        by_cases h2 : 10000 ≤ encB k
        · rw [if_pos h2, if_pos h2, hnotR _ h2 (fun hm => by rw [if_pos hm] at hk'; cases hk')]
        · rw [if_neg h2, if_neg h2]
    have hgb' : ∀ b b', lookK (flipN (zipFrom 0 ns2)) b = some b' → 10000 ≤ b' ∧ (∀ cs ty, extGet bs' b = .bc cs ty → ∃ cs', lm σ2 b' = .bc cs' ty) ∧
        (∀ n e, extGet bs' b = .bt n e → lm σ2 b' = .bt n e) ∧ (GhB G G' ns2).γ b' = G'.γ b ∧ (GhB G G' ns2).κ b' = G'.κ b ∧ (GhB G G' ns2).β b' = G'.β b ∧
        (∀ cs v e sz, extGet bs' b = .br cs v e sz → ∃ cs', lm σ2 b' = .br cs' v e sz) := fun b b' hl => by
      have h3 := lookK_flip hNB2 hl
      have h4 := tr_cb hNB2 h3
      rw [hat b b' h3]
      exact ⟨trB_ge hNB2 h4, fun cs ty e => ⟨_, by rw [e]; rfl⟩, fun n e he => by rw [he]; rfl, (GhB_at G G' h4).1, (GhB_at G G' h4).2.1, (GhB_at G G' h4).2.2, fun cs v e sz he => ⟨_, by rw [he]; rfl⟩⟩
    have hprc : ∀ b, E.Pr b → b < w.heap.size ∧ ∀ k, (GhC G ns).γ k ≠ some b := fun b hp => by
      refine ⟨Nat.lt_of_lt_of_le (h.fr.block b hp).1 h.fr.size, fun k hk => ?_⟩
      obtain ⟨b', _, h4⟩ := GhC_inv G hk
      exact (h.st.box b' b h4).2.1 hp
    have hfar : ∀ k g, trB ns2 k = none → G.γ k = some g → g < w.heap.size ∧ ∀ i, (GhC G ns).γ i ≠ some g := fun k g hk hγ => by
      refine ⟨box_lt h hγ, fun i hi => ?_⟩
      obtain ⟨b', h3, h4⟩ := GhC_inv G hi
      have := h.st.inj k b' g hγ h4
      subst this
      obtain ⟨k', hk'⟩ := trB_sub hsub (tr_cb hNB h3)
      rw [hk] at hk'; cases hk'
    have hs : BStep G (lm σ) (GhB G G' ns2) (lm σ2) := ⟨hs'.1, fun k hk => by
      cases hkn : trB ns2 k with
      | some k0 =>
        have hkc := tr_bc hNB2 hkn
        have sK := hs'.2 k0 (by have := trC_ge hkc; omega)
        rcases hold k0 k hkc with hj0 | hj0
        rotate_left
        · exact .u hj0
        rw [hext k0 k hj0] at sK
        obtain ⟨s1, s2, s3⟩ := sK
        rw [hat k0 k hkc]
        rw [(GhC_at G hj0).1, (GhC_at G hj0).2.1] at s2
        rw [(GhC_at G hj0).1, (GhC_at G hj0).2.1, (GhC_at G hj0).2.2] at s3
        rw [(GhC_at G hj0).1] at s1
        unfold KStep
        rw [(GhB_at G G' hkn).1, (GhB_at G G' hkn).2.1, (GhB_at G G' hkn).2.2]
        refine ⟨fun cs ty e => ?_, fun n e he => ?_, fun cs v e sz he => ?_⟩
        · rw [e] at s1
          obtain ⟨⟨cs', h1⟩, h2⟩ := s1 _ ty rfl
          exact ⟨⟨_, by rw [h1]; rfl⟩, h2⟩
        · rw [he] at s2
          obtain ⟨n', h1, h2⟩ := s2 n e rfl
          exact ⟨n', by rw [h1]; rfl, h2⟩
        · rw [he] at s3
          obtain ⟨cs', v', h1, h2⟩ := s3 _ v e sz rfl
          exact ⟨_, v', by rw [h1]; rfl, h2⟩
      | none => exact .same (hnot k hk hkn) (GhB_no G G' hkn).1 (GhB_no G G' hkn).2.1 (GhB_no G G' hkn).2.2⟩
    refine ⟨GhB G G' ns2, h.put (x := ren (flipN (zipFrom 0 ns2)) 4 r) (dst_lt hd) hs ⟨hst'.agree, fun k g hk => ?_, fun k cs ty hk hB => ?_, fun k k' g h1 h2 => ?_, hst'.gl⟩ ⟨hw.os, hw.tape, hw.output, hw.size, fun b hp hlt => hw.block b (hprc b hp) hlt⟩
      (fun b o' hp => hz' b o' (hprc b hp).1 (hprc b hp).2) (ren_rel (G := G') (G' := GhB G G' ns2) rfl lk_real2 hgb' 4 hv) hslot⟩
    · cases hkn : trB ns2 k with
      | some k0 =>
        rw [(GhB_at G G' hkn).1] at hk
        obtain ⟨_, h2, h3⟩ := hst'.box _ g hk
        exact ⟨trB_ge hNB2 hkn, fun hp => h2 (hprc g hp), ren_box (G := G') (G' := GhB G G' ns2) rfl lk_real2 hgb' h3 (hat k0 k (tr_bc hNB2 hkn)) (GhB_at G G' hkn).2.1 (GhB_at G G' hkn).2.2⟩
      | none =>
        rw [(GhB_no G G' hkn).1] at hk
        obtain ⟨h1, h2, h3⟩ := h.st.box k g hk
        obtain ⟨h4, h5⟩ := hfar k g hkn hk
        exact ⟨h1, h2, h3.step hs (hnot k h1 hkn) (GhB_no G G' hkn).2.1 (GhB_no G G' hkn).2.2 (hw.block g ⟨h4, h5⟩ h4) fun o' => hz' g o' h4 h5⟩
    · cases hkn : trB ns2 k with
      | some k0 =>
        rw [hat k0 k (tr_bc hNB2 hkn)] at hB
        have : ∃ cs', extGet bs' k0 = .bc cs' ty := by
          cases hm : extGet bs' k0 <;> rw [hm] at hB <;> simp [renBox] at hB
          rename_i cs' ty'
          exact ⟨cs', by rw [hB.2]⟩
        obtain ⟨cs', hm⟩ := this
        obtain ⟨g, hγ⟩ := hst'.real _ cs' ty (by have := trC_ge (tr_bc hNB2 hkn); omega) hm
        exact ⟨g, (GhB_at G G' hkn).1.trans hγ⟩
      | none =>
        rw [hnot k hk hkn] at hB
        obtain ⟨g, hγ⟩ := h.st.real k cs ty hk hB
        exact ⟨g, (GhB_no G G' hkn).1.trans hγ⟩
    · have mixed : ∀ k k' k0 g, trB ns2 k = some k0 → trB ns2 k' = none → (GhB G G' ns2).γ k = some g → (GhB G G' ns2).γ k' = some g → False := fun k k' k0 g hkn hkn' h1 h2 => by
        rw [(GhB_at G G' hkn).1] at h1
        rw [(GhB_no G G' hkn').1] at h2
        exact (hst'.box _ g h1).2.1 (hfar k' g hkn' h2)
      cases hkn : trB ns2 k with
      | some k0 =>
        cases hkn' : trB ns2 k' with
        | some k1 =>
          rw [(GhB_at G G' hkn).1] at h1
          rw [(GhB_at G G' hkn').1] at h2
          have e := hst'.inj _ _ g h1 h2
          subst e
          have e1 := tr_bc hNB2 hkn
          have e2 := tr_bc hNB2 hkn'
          rw [e1] at e2; exact Option.some.inj e2
        | none => exact (mixed k k' k0 g hkn hkn' h1 h2).elim
      | none =>
        cases hkn' : trB ns2 k' with
        | some k1 => exact (mixed k' k k1 g hkn' hkn h2 h1).elim
        | none =>
          rw [(GhB_no G G' hkn).1] at h1
          rw [(GhB_no G G' hkn').1] at h2
          exact h.st.inj k k' g h1 h2
  split
  · rename_i hlen; exact back ns (.inl rfl) hlen
  · unfold kNew
    split
    · rename_i d hdst
      refine .rd ?_
      split
      · rename_i hu
        have hdd : d < 10000 := (dst_lt hd d hdst).2
        refine .need fun ⟨h1, h2⟩ => back _ (.inr ⟨10000 + d, rfl, Nat.le_add_right .., Nat.lt_trans (Nat.add_lt_add_left hdd 10000) (by decide), hu, by simpa using h1⟩) (by simpa using h2)
      · exact .fail
    · exact .fail

theorem run_enter {P : Program} {w : World} {f : FuncId} {vs : Array Value} (h : callOk P f = true) : (callFunc f vs).run P w = .ok (.enter f vs) w := by
  unfold callOk at h
  split at h
  · rename_i fn hf
    simp only [Bool.and_eq_true, Bool.not_eq_true', beq_eq_false_iff_ne, ne_eq] at h
    obtain ⟨h1, h2⟩ := h
    obtain ⟨c, hc⟩ := Option.isSome_iff_exists.1 h1
    simp [callFunc, hf, h2, hc]
  · cases h
theorem vapp {G : Gh} {B : Nat → AV} {va vb : Array Value} {p q : List AV} (ha : va.size = p.length) (pa : ∀ j (h : j < p.length), VRel G B (va.getD j undef) p[j]) (pb : ∀ j (h : j < q.length), VRel G B (vb.getD j undef) q[j]) :
    ∀ j (h : j < (p ++ q).length), VRel G B ((va ++ vb).getD j undef) (p ++ q)[j] := fun j hj => by
  by_cases hlt : j < p.length
  · have := pa j hlt
    rw [List.getElem_append_left hlt]
    simpa [Array.getD_eq_getD_getElem?, Array.getElem?_append_left (show j < va.size by omega)] using this
  · have hj' : j - p.length < q.length := by simp at hj; omega
    have := pb (j - p.length) hj'
    rw [List.getElem_append_right (by omega)]
    simpa [Array.getD_eq_getD_getElem?, Array.getElem?_append_right (show va.size ≤ j by omega), ha] using this
theorem vals_eq {G : Gh} {B : Nat → AV} : ∀ {l : List AV} {xs vs : List Value}, xs.length = l.length → (∀ j (h : j < l.length), VRel G B (xs.getD j undef) l[j]) → l.mapM valOf = some vs → xs = vs
  | [], xs, vs, hl, _, hm => by
    simp at hm; subst hm
    simpa using hl
  | x :: l, xs, vs, hl, hr, hm => by
    cases xs with
    | nil => simp at hl
    | cons y xs =>
      simp only [List.mapM_cons, Option.bind_eq_bind, Option.bind_eq_some_iff, Option.pure_def, Option.some.injEq] at hm
      obtain ⟨u, hu, us, hus, rfl⟩ := hm
      have h0 := inv_val (hr 0 (by simp)) hu
      simp at h0
      subst h0
      rw [vals_eq (l := l) (xs := xs) (by simpa using hl) (fun j hj => hr (j + 1) (Nat.succ_lt_succ hj)) hus]
theorem snd_callV (h : Sim E σ a w G) {tk : FuncId → Bool} {f : Operand} {args : Array Operand} {ts : Array TypeId} (ho : o.op = .call { callee := .value f, args := args, argTypes := ts }) :
    Snd E.P σ (rdo f fun v => rdos args.toList fun vs => kCallV E.P E.N tk o v vs) (Good E o σ a w) :=
  .rdo h fun v hv => .rdos h fun ys hl hys => by
    unfold kCallV
    split
    · rename_i fid p q
      obtain ⟨va, vb, ev, ha, hb, pa, pb⟩ := inv_fn hv
      have hl' : ys.length = args.size := by simpa using hl
      have hrel := vapp (G := G) (B := lm σ) (va := va ++ args.map a.eval) (vb := vb) (p := p ++ ys) (q := q) (by simp [ha, hl']) (vapp ha pa fun j hj => by
        have hj' : j < args.size := by omega
        have := hys j (by simpa using hj') hj
        simpa [Array.getD_eq_getD_getElem?, hj'] using this) pb
      unfold kCallW
      split
      · refine snd_call h (vs := va ++ args.map a.eval ++ vb) (by simp [ha, hb, hl']) hrel fun hok => ?_
        have := run_enter (w := w) (vs := va ++ args.map a.eval ++ vb) hok
        simp only [execOp, ho, Sem.run_bind, resolve, ev, Deferred.ofValue, Sem.run_pure, Result.andThen_ok, invoke, this]
      · unfold kExt
        split
        · rename_i vs hvs
          have e1 := vals_eq (xs := (va ++ args.map a.eval ++ vb).toList) (by simp [ha, hb, hl']) (fun j hj => by
            have := hrel j hj
            generalize va ++ args.map a.eval ++ vb = A at this ⊢
            have e : A.toList.getD j undef = A.getD j undef := by simp [Array.getD_eq_getD_getElem?]
            rw [e]; exact this) hvs
          have e2 : va ++ args.map a.eval ++ vb = vs.toArray := by rw [← e1]
          refine .ex fun r hr => snd_ret h ?_ (.p (.c r))
          have := hr w
          rw [← e2] at this
          simp only [execOp, ho, Sem.run_bind, resolve, ev, Deferred.ofValue, Sem.run_pure, Result.andThen_ok, invoke, this]
        · exact .fail
    · exact .fail

/-- Every operation does what its tree says. -/
theorem aop_sound (h : Sim E σ a w G) (tk : FuncId → Bool) (o : Oper) : Snd E.P σ (aop E.P E.N tk o) (Good E o σ a w) := by
  unfold aop
  split
  next ho => exact snd_move h (.inl ho)
  next ho => exact snd_move h (.inr ho)
  next ho => exact snd_pick h ho
  next ho => exact snd_alloc h ho
  next ho => exact snd_box h ho
  next ho => exact snd_load h ho
  next ho => exact snd_store h ho
  next ho => exact snd_nil h ho
  next ho => exact snd_fieldAddr h ho
  next ho => exact snd_field h ho
  next ho => exact snd_indexAddr h ho
  next ho => exact snd_index h ho
  next ho => exact snd_bin h ho
  next ho => exact snd_un h ho
  next ho => exact snd_convert h ho
  next ho => exact snd_iface h ho
  next ho => exact snd_extract h ho
  next ho => exact snd_build h ho
  next ho => exact snd_buildSlice h ho
  next ho => exact snd_makeSlice h ho
  next ho => exact snd_slice h ho
  next ho => exact snd_makeMap h ho
  next ho => exact snd_lookup h ho
  next ho => exact snd_mapUpd h (.inl ho)
  next ho => exact snd_mapUpd h (.inr ho)
  next ho => exact snd_makeFunc h ho
  next ho =>
    split
    next h1 h2 => exact snd_len (ty := 0) h h1 h2 ho
    next => exact .fail
  next ho =>
    split
    next h1 h2 => exact snd_append (ty := 0) h h1 h2 ho
    next => exact .fail
  next ho => exact snd_callV h ho
  next => exact .fail
end
end Go.Proofs.Ytjabaenpkimmjaa

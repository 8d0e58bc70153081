/- K: calls, sound; and all operations together. No program is in sight. -/
import Derived.Test.YtjgfhblciapkfaaKI
import Derived.Test.YtjgfhblciapkfaaKMp
namespace Go.Proofs.Ytjgfhblciapkfaa
set_option linter.unusedSimpArgs false
set_option linter.unusedVariables false
open Go.RowKit

theorem addN_nodup : ∀ {l m : List Nat}, m.Nodup → (addN m l).Nodup
  | [], m, h => h
  | x :: r, m, h => by
    unfold addN
    split
    · exact addN_nodup h
    · rename_i hx
      refine addN_nodup (List.nodup_append.2 ⟨h, by simp, fun a ha b hb => ?_⟩)
      simp at hb
      subst hb
      intro e; subst e
      exact hx (by simpa using ha)

section
variable {P : Program} {σ : AMap} {Goal : List (Nat × AV) → Prop}
theorem Snd.rdBoxes : ∀ {ns : List Nat} {f : List AV → TR}, ((∀ b ∈ ns, 10000 ≤ b) → Snd P σ (f (ns.map (mget σ))) Goal) → Snd P σ (rdBoxes ns f) Goal
  | [], f, h => h (fun b hb => by simp at hb)
  | b :: r, f, h => .need fun hb => .rd (Snd.rdBoxes (ns := r) fun hr => h fun x hx => by
      rcases List.mem_cons.1 hx with rfl | hx
      · exact hb
      · exact hr x hx)
theorem Snd.gather {tk : Bool} : ∀ {k : Nat} {ns : List Nat} {f : List Nat → List AV → TR}, ns.Nodup → (∀ ns' : List Nat, ns'.Nodup → (∀ b ∈ ns', 10000 ≤ b) → Snd P σ (f ns' (ns'.map (mget σ))) Goal) → Snd P σ (gather tk k ns f) Goal
  | 0, _, _, _, _ => .fail
  | k + 1, ns, f, hn, h => by
    refine .rdBoxes fun hb => ?_
    split
    · exact h ns hn hb
    · exact Snd.gather (addN_nodup hn) h
end

theorem lookN_zip : ∀ {ns : List Nat} {i b b' : Nat}, lookN (zipFrom i ns) b = some b' → ∃ j, j < ns.length ∧ b' = 20000 + i + j ∧ ns[j]? = some b
  | [], i, b, b', h => by simp [zipFrom, lookN] at h
  | x :: r, i, b, b', h => by
    simp only [zipFrom, lookN] at h
    split at h
    · rename_i e; cases h; subst e; exact ⟨0, by simp, by omega, by simp⟩
    · obtain ⟨j, h1, h2, h3⟩ := lookN_zip h
      exact ⟨j + 1, by simpa using h1, by omega, by simpa using h3⟩
theorem lookN_flip : ∀ {ns : List Nat} {i b b' : Nat}, lookN (flipN (zipFrom i ns)) b = some b' → ∃ j, j < ns.length ∧ b = 20000 + i + j ∧ ns[j]? = some b'
  | [], i, b, b', h => by simp [zipFrom, flipN, lookN] at h
  | x :: r, i, b, b', h => by
    simp only [zipFrom, flipN, List.map_cons, lookN] at h
    split at h
    · rename_i e; cases h; exact ⟨0, by simp, by omega, by simp⟩
    · obtain ⟨j, h1, h2, h3⟩ := lookN_flip (ns := r) (i := i + 1) h
      exact ⟨j + 1, by simpa using h1, by omega, by simpa using h3⟩

/-- Names turned. -/
theorem ren_rel {G G' : Gh} {B B' : Nat → AV} {g : List (Nat × Nat)} (hZ : G'.Z = G.Z)
    (hg : ∀ b b', lookN g b = some b' → 10000 ≤ b' ∧ (∀ cs ty, B b = .bc cs ty → ∃ cs', B' b' = .bc cs' ty) ∧ (∀ n e, B b = .bt n e → B' b' = .bt n e) ∧ G'.γ b' = G.γ b ∧ G'.κ b' = G.κ b ∧ G'.β b' = G.β b ∧ (∀ cs v e sz, B b = .br cs v e sz → ∃ cs', B' b' = .br cs' v e sz)) :
    ∀ (k : Nat) {x : AV} {v : Value}, VRel G B v x → VRel G' B' v (ren g k x)
  | 0, x, v, _ => .p (.u v)
  | k + 1, x, v, h => by
    have lst : ∀ {cs : List AV} {vs : Array Value}, (∀ j (hj : j < cs.length), VRel G B (vs.getD j undef) cs[j]) → ∀ j (hj : j < (cs.map (ren g k)).length), VRel G' B' (vs.getD j undef) (cs.map (ren g k))[j] := fun {cs vs} hp j hj => by
      rw [List.getElem_map]
      exact ren_rel hZ hg k (hp j (by simpa using hj))
    cases x with
    | c x => rw [inv_c h]; exact .p (.c x)
    | u => exact .p (.u v)
    | sl cs n o =>
      obtain ⟨ad, cap, b, off, f, rfl, ⟨h1, h2, h3, h4, h5⟩, hf, ht⟩ := inv_sl h
      cases o with
      | none => exact .p (.sl ad b off n cap .none cs f (.inl rfl) h1 h2 h3 (by rw [hZ]; exact h4) (by rw [hZ]; exact h5))
      | full => exact .p (.sl ad b off n cap .full cs f (.inr ⟨rfl, hf rfl⟩) h1 h2 h3 (by rw [hZ]; exact h4) (by rw [hZ]; exact h5))
      | tok t =>
        have hp : PRel G'.Z (.slice ad n cap) (.sl cs n .none) := .sl ad b off n cap .none cs f (.inl rfl) h1 h2 h3 (by rw [hZ]; exact h4) (by rw [hZ]; exact h5)
        obtain ⟨h6, tip, e, hB, hn, hk⟩ := ht t rfl
        simp only [ren]
        split
        · rename_i b' hb'
          obtain ⟨q1, _, q3, q4, q5, _⟩ := hg t b' hb'
          refine .tok ad n cap cs b' tip e hp q1 (q3 tip e hB) hn fun e' => ?_
          have := hk e'
          unfold TokAt at *
          rw [q4, q5]; exact this
        · exact .p hp
    | rf cs o =>
      obtain ⟨b, off, f, rfl, hz, hp⟩ := inv_rf h
      exact .p (.rf b off o cs f (by rw [hZ]; exact hz) (by rw [hZ]; exact hp))
    | agg cs =>
      obtain ⟨vs, rfl, hs, h1, hp⟩ := inv_agg h
      exact .agg vs _ (by simpa using hs) (fun j hj => h1 j (by simpa using hj)) (lst hp)
    | tup cs =>
      obtain ⟨vs, rfl, hs, hp⟩ := inv_tup h
      exact .tup vs _ (by simpa using hs) (lst hp)
    | ifc t x =>
      obtain ⟨v', rfl, hv⟩ := inv_ifc h
      exact .ifc t v' _ (ren_rel hZ hg k hv)
    | fn f p q =>
      obtain ⟨va, vb, rfl, ha, hb, pa, pb⟩ := inv_fn h
      exact .fn f va vb _ _ (by simpa using ha) (by simpa using hb) (lst pa) (lst pb)
    | loc b off =>
      obtain ⟨g', cs, ty, rfl, hb, hB, hγ, hm⟩ := inv_loc h
      simp only [ren]
      split
      · rename_i b' hb'
        obtain ⟨q1, q2, _, q4, _⟩ := hg b b' hb'
        obtain ⟨cs', q2⟩ := q2 cs ty hB
        exact .loc b' off g' cs' ty q1 q2 (q4.trans hγ) hm
      · exact .p (.u _)
    | arr b off n e =>
      obtain ⟨g', cap, cs, ty, rfl, hn, hb, hB, hγ, hm⟩ := inv_arr h
      simp only [ren]
      split
      · rename_i b' hb'
        obtain ⟨q1, q2, _, q4, _⟩ := hg b b' hb'
        obtain ⟨cs', q2⟩ := q2 cs ty hB
        exact .arr b' off n e cap g' cs' ty q1 q2 (q4.trans hγ) hn hm
      · exact .p (.u _)
    | mp b =>
      obtain ⟨g', cs, ty, rfl, hb, hB, hγ, hm⟩ := inv_mp h
      simp only [ren]
      split
      · rename_i b' hb'
        obtain ⟨q1, q2, _, q4, _⟩ := hg b b' hb'
        obtain ⟨cs', q2⟩ := q2 cs ty hB
        exact .mp b' g' cs' ty q1 q2 (q4.trans hγ) hm
      · exact .p (.u _)
    | ow b off n ver =>
      obtain ⟨ad, cap, cs, v', e, sz, rfl, hn, had, hb, hB, hvv, how⟩ := inv_ow h
      simp only [ren]
      split
      · rename_i b' hb'
        obtain ⟨q1, _, _, q4, q5, q6, q7⟩ := hg b b' hb'
        obtain ⟨cs', q7⟩ := q7 cs v' e sz hB
        refine .ow ad n cap b' off ver cs' v' e sz q1 q7 hn had hvv fun hv => ?_
        have := how hv
        unfold OwAt at *
        rw [q4, q5, q6]; exact this
      · exact .p (.u _)
    | lo b off ver =>
      obtain ⟨g', o, cs, v', e, sz, rfl, hb, hB, hvv, hk⟩ := inv_lo h
      simp only [ren]
      split
      · rename_i b' hb'
        obtain ⟨q1, _, _, q4, q5, q6, q7⟩ := hg b b' hb'
        obtain ⟨cs', q7⟩ := q7 cs v' e sz hB
        refine .lo g' o b' off ver cs' v' e sz q1 q7 hvv fun hv => ?_
        rw [q4, q6]; exact hk hv
      · exact .p (.u _)
    | bc cs ty => exact (inv_bc h).elim
    | bt n e => exact (inv_bt h).elim
    | br cs v e sz => exact (inv_br h).elim
theorem ren_box {G G' : Gh} {B B' : Nat → AV} {g : List (Nat × Nat)} (hZ : G'.Z = G.Z)
    (hg : ∀ b b', lookN g b = some b' → 10000 ≤ b' ∧ (∀ cs ty, B b = .bc cs ty → ∃ cs', B' b' = .bc cs' ty) ∧ (∀ n e, B b = .bt n e → B' b' = .bt n e) ∧ G'.γ b' = G.γ b ∧ G'.κ b' = G.κ b ∧ G'.β b' = G.β b ∧ (∀ cs v e sz, B b = .br cs v e sz → ∃ cs', B' b' = .br cs' v e sz))
    {P : Program} {w : World} {k k' g' : Nat} (h : BoxAt P G B w k g') (hB : B' k' = renBox g (B k)) (hκ : G'.κ k' = G.κ k) (hβ : G'.β k' = G.β k) : BoxAt P G' B' w k' g' := by
  rcases h with ⟨cs, ty, e, h2⟩ | ⟨n, e, h1, c, h2, h3, h4, h5, h6⟩ | ⟨cs, v, e, sz, h1, h2⟩
  · rw [e] at hB
    exact .inl ⟨_, ty, hB, h2.to (ren g 4) (fun _ => rfl) (fun _ _ h => ren_rel hZ hg 4 h) rfl fun o ho => by rw [hZ]; exact ho⟩
  · rw [h1] at hB
    rw [← hκ] at h3 h4 h5
    exact .inr (.inl ⟨n, e, hB, c, h2, h3, h4, h5, by rw [hZ]; exact h6⟩)
  · rw [h1] at hB
    exact .inr (.inr ⟨_, v, e, sz, hB, h2.to (ren g 4) (fun _ _ h => ren_rel hZ hg 4 h) rfl hκ hβ fun o ho => by rw [hZ]; exact ho⟩)

theorem backs_get {g : List (Nat × Nat)} : ∀ {ns : List Nat} {bs : List AV} {σ : AMap}, bs.length = ns.length → ns.Nodup → (∀ (j : Nat) (b : Nat) (x : AV), ns[j]? = some b → bs[j]? = some x → mget (mupd σ (backs g ns bs)) b = renBox g x) ∧ ∀ k, k ∉ ns → mget (mupd σ (backs g ns bs)) k = mget σ k
  | [], [], σ, _, _ => ⟨fun j b x h => by simp at h, fun k _ => rfl⟩
  | n :: ns, x :: bs, σ, hl, hn => by
    obtain ⟨h1, h2⟩ := List.nodup_cons.1 hn
    obtain ⟨h3, h4⟩ := backs_get (g := g) (ns := ns) (bs := bs) (σ := mset σ n (renBox g x)) (by simpa using hl) h2
    refine ⟨fun j b y hb hy => ?_, fun k hk => ?_⟩
    · cases j with
      | zero =>
        simp at hb hy
        subst hb; subst hy
        show mget (mupd (mset σ n (renBox g x)) (backs g ns bs)) n = _
        rw [h4 n h1, mget_mset, if_pos rfl]
      | succ j => exact h3 j b y (by simpa using hb) (by simpa using hy)
    · show mget (mupd (mset σ n (renBox g x)) (backs g ns bs)) k = _
      rw [h4 k (fun h => hk (by simp [h])), mget_mset, if_neg (fun e => hk (by simp [e]))]
theorem mupd_append (σ : AMap) : ∀ (a b : List (Nat × AV)), mupd σ (a ++ b) = mupd (mupd σ a) b
  | [], b => rfl
  | (k, v) :: a, b => mupd_append (mset σ k v) a b
theorem extGet_of {bs : List AV} {j : Nat} {x : AV} (h : bs[j]? = some x) : extGet bs (20000 + j) = x := by
  unfold extGet
  rw [if_pos (by omega), Nat.add_sub_cancel_left, List.getD_eq_getElem?_getD, h]; rfl

section
variable {E : Env} {o : Oper} {σ : AMap} {a : Act} {w : World} {G : Gh}

def GhC (G : Gh) (ns : List Nat) : Gh := ⟨G.Z, fun k => if 20000 ≤ k then (ns[k - 20000]?).bind G.γ else none, fun k => (ns[k - 20000]?).elim 0 G.κ, fun k => (ns[k - 20000]?).elim 0 G.β⟩
def GhB (G G' : Gh) (ns : List Nat) : Gh := ⟨G'.Z, fun k => if k ∈ ns then G'.γ (20000 + ns.idxOf k) else G.γ k, fun k => if k ∈ ns then G'.κ (20000 + ns.idxOf k) else G.κ k, fun k => if k ∈ ns then G'.β (20000 + ns.idxOf k) else G.β k⟩
theorem GhC_at (G : Gh) {ns : List Nat} {j b : Nat} (h : ns[j]? = some b) : (GhC G ns).γ (20000 + j) = G.γ b ∧ (GhC G ns).κ (20000 + j) = G.κ b ∧ (GhC G ns).β (20000 + j) = G.β b := by
  unfold GhC
  simp [h]
theorem idx_of {ns : List Nat} (hn : ns.Nodup) {j b : Nat} (h : ns[j]? = some b) : ns.idxOf b = j := by
  obtain ⟨h1, h2⟩ := List.getElem?_eq_some_iff.1 h
  subst h2
  exact hn.idxOf_getElem j h1
theorem GhB_at (G G' : Gh) {ns : List Nat} (hn : ns.Nodup) {j b : Nat} (h : ns[j]? = some b) : (GhB G G' ns).γ b = G'.γ (20000 + j) ∧ (GhB G G' ns).κ b = G'.κ (20000 + j) ∧ (GhB G G' ns).β b = G'.β (20000 + j) := by
  have hm : b ∈ ns := List.mem_of_getElem? h
  unfold GhB
  simp [hm, idx_of hn h]

theorem snd_call (h : Sim E σ a w G) {f : FuncId} {tk : Bool} {args : List AV} {vs : Array Value} (hvs : vs.size = args.length) (hargs : ∀ j (hj : j < args.length), VRel G (mget σ) (vs.getD j undef) args[j])
    (hrun : callOk E.P f = true → (execOp a.eval o).run E.P w = .ok (.enter f vs) w) : Snd E.P σ (kCall E.P E.N tk o f args) (Good E o σ a w) := by
  unfold kCall
  refine .need fun ⟨hok, hd⟩ => .gather (addN_nodup (by simp)) fun ns hn hb => .need fun hbox => .call fun r bs' hfn => ?_
  -- the names' turnings
  have hext : ∀ j b, ns[j]? = some b → extGet ((ns.map (mget σ)).map (renBox (zipFrom 0 ns))) (20000 + j) = renBox (zipFrom 0 ns) (mget σ b) := fun j b hj => extGet_of (by simp [hj])
  have hg : ∀ b b', lookN (zipFrom 0 ns) b = some b' → 10000 ≤ b' ∧ (∀ cs ty, mget σ b = .bc cs ty → ∃ cs', extGet ((ns.map (mget σ)).map (renBox (zipFrom 0 ns))) b' = .bc cs' ty) ∧
      (∀ n e, mget σ b = .bt n e → extGet ((ns.map (mget σ)).map (renBox (zipFrom 0 ns))) b' = .bt n e) ∧ (GhC G ns).γ b' = G.γ b ∧ (GhC G ns).κ b' = G.κ b ∧ (GhC G ns).β b' = G.β b ∧
      (∀ cs v e sz, mget σ b = .br cs v e sz → ∃ cs', extGet ((ns.map (mget σ)).map (renBox (zipFrom 0 ns))) b' = .br cs' v e sz) := fun b b' hl => by
    obtain ⟨j, h1, h2, h3⟩ := lookN_zip hl
    rw [Nat.add_zero] at h2
    subst h2
    rw [hext j b h3]
    exact ⟨by omega, fun cs ty e => ⟨_, by rw [e]; rfl⟩, fun n e he => by rw [he]; rfl, (GhC_at G h3).1, (GhC_at G h3).2.1, (GhC_at G h3).2.2, fun cs v e sz he => ⟨_, by rw [he]; rfl⟩⟩
  have hγc : ∀ k g, (GhC G ns).γ k = some g → ∃ j b, k = 20000 + j ∧ ns[j]? = some b ∧ G.γ b = some g := fun k g hk => by
    have hk' : (if 20000 ≤ k then (ns[k - 20000]?).bind G.γ else none) = some g := hk
    split at hk'
    · rename_i h1
      obtain ⟨b, h2, h3⟩ := Option.bind_eq_some_iff.1 hk'
      exact ⟨k - 20000, b, by omega, h2, h3⟩
    · cases hk'
  have hst : BSim E.P (fun b => b < w.heap.size ∧ ∀ k, (GhC G ns).γ k ≠ some b) (GhC G ns) (extGet ((ns.map (mget σ)).map (renBox (zipFrom 0 ns)))) w := by
    refine ⟨h.st.agree, fun k g hk => ?_, fun k cs ty hk hB => ?_, fun k k' g h1 h2 => ?_, h.st.gl⟩
    · obtain ⟨j, b, rfl, h2, h3⟩ := hγc k g hk
      obtain ⟨_, _, h4⟩ := h.st.box b g h3
      exact ⟨by omega, fun hp => hp.2 _ hk, ren_box (G := G) (G' := GhC G ns) rfl hg h4 (hext j b h2) (GhC_at G h2).2.1 (GhC_at G h2).2.2⟩
    · unfold extGet at hB
      split at hB
      · rename_i hk'
        rw [List.getD_eq_getElem?_getD] at hB
        cases hj : ns[k - 20000]? with
        | none => simp [hj] at hB
        | some b =>
          simp only [List.getElem?_map, hj, Option.map_some, Option.getD_some] at hB
          have : ∃ cs', mget σ b = .bc cs' ty := by
            cases hm : mget σ b <;> rw [hm] at hB <;> simp [renBox] at hB
            rename_i cs' ty'
            exact ⟨cs', by rw [hB.2]⟩
          obtain ⟨cs', hm⟩ := this
          obtain ⟨g, hγ⟩ := h.st.real b cs' ty (hb b (List.mem_of_getElem? hj)) hm
          refine ⟨g, ?_⟩
          have := (GhC_at G hj).1
          rw [show 20000 + (k - 20000) = k by omega] at this
          exact this.trans hγ
      · cases hB
    · obtain ⟨j, b, rfl, h3, h4⟩ := hγc k g h1
      obtain ⟨j', b', rfl, h5, h6⟩ := hγc k' g h2
      have := h.st.inj b b' g h4 h6
      subst this
      rw [← idx_of hn h3, ← idx_of hn h5]
  have hargs' : ∀ j (hj : j < (args.map (ren (zipFrom 0 ns) 4)).length), VRel (GhC G ns) (extGet ((ns.map (mget σ)).map (renBox (zipFrom 0 ns)))) (vs.getD j undef) (args.map (ren (zipFrom 0 ns) 4))[j] := fun j hj => by
    rw [List.getElem_map]
    exact ren_rel (G := G) (G' := GhC G ns) rfl hg 4 (hargs j (by simpa using hj))
  have hX : XP w (fun b => b < w.heap.size ∧ ∀ k, (GhC G ns).γ k ≠ some b) := fun g cs hg => by
    obtain ⟨⟨ty, fl, h1⟩, h2⟩ := E.hB0.2 g cs hg
    exact ⟨⟨ty, fl, (h.fr.block g h2).2.trans h1⟩, Nat.lt_of_lt_of_le (h.fr.block g h2).1 h.fr.size, fun k hk => by
      obtain ⟨j, b', _, _, h4⟩ := hγc k g hk
      exact (h.st.box b' g h4).2.1 h2⟩
  have hcalls := hfn w (GhC G ns) vs hst hX (by simpa using hvs) hargs'
  have back : ∀ ns2 : List Nat, (ns2 = ns ∨ ∃ key, ns2 = ns ++ [key] ∧ 10000 ≤ key ∧ mget σ key = .u ∧ key ∉ ns) → bs'.length = ns2.length → Snd E.P σ (kBack o ns2 r bs') (Good E o σ a w) := fun ns2 hns2 hlen' => by
    refine .done fun Q => ?_
    have hn2 : ns2.Nodup := by
      rcases hns2 with rfl | ⟨key, rfl, _, _, hk⟩
      · exact hn
      · exact List.nodup_append.2 ⟨hn, by simp, fun x hx y hy => by simp at hy; subst hy; intro e; exact hk (e ▸ hx)⟩
    have hb2' : ∀ b ∈ ns2, 10000 ≤ b := fun b hbm => by
      rcases hns2 with rfl | ⟨key, rfl, hk, _, _⟩
      · exact hb b hbm
      · rcases List.mem_append.1 hbm with hbm | hbm
        · exact hb b hbm
        · simp at hbm; omega
    have hsub : ∀ b, b ∈ ns → b ∈ ns2 := fun b hbm => by
      rcases hns2 with rfl | ⟨key, rfl, _, _, _⟩
      · exact hbm
      · exact List.mem_append_left _ hbm
    have hold : ∀ j b, ns2[j]? = some b → ns[j]? = some b ∨ mget σ b = .u := fun j b hj => by
      rcases hns2 with rfl | ⟨key, rfl, _, hu, _⟩
      · exact .inl hj
      · by_cases hlt : j < ns.length
        · rw [List.getElem?_append_left hlt] at hj; exact .inl hj
        · rw [List.getElem?_append_right (by omega)] at hj
          cases h0 : j - ns.length with
          | zero => rw [h0] at hj; simp at hj; subst hj; exact .inr hu
          | succ i => rw [h0] at hj; simp at hj
    unfold Oper.wp
    rw [hrun hok]
    refine Calls.mono hcalls ?_
    rintro e w' ⟨v, G', rfl, hv, hst', hw, hs', hz'⟩
    -- behind the call
    have hgb : ∀ b b', lookN (flipN (zipFrom 0 ns2)) b = some b' → ∃ j, b = 20000 + j ∧ ns2[j]? = some b' := fun b b' hl => by
      obtain ⟨j, h1, h2, h3⟩ := lookN_flip hl
      exact ⟨j, by omega, h3⟩
    have hσ : ∀ k, mget (mupd σ (backs (flipN (zipFrom 0 ns2)) ns2 bs' ++ outs o (ren (flipN (zipFrom 0 ns2)) 4 r))) k = if some k = o.dst then ren (flipN (zipFrom 0 ns2)) 4 r else mget (mupd σ (backs (flipN (zipFrom 0 ns2)) ns2 bs')) k := fun k => by
      rw [mupd_append, mget_outs]
    obtain ⟨hb1, hb2⟩ := backs_get (g := flipN (zipFrom 0 ns2)) (ns := ns2) (bs := bs') (σ := σ) hlen' hn2
    have hσb : ∀ k, 10000 ≤ k → mget (mupd σ (backs (flipN (zipFrom 0 ns2)) ns2 bs' ++ outs o (ren (flipN (zipFrom 0 ns2)) 4 r))) k = mget (mupd σ (backs (flipN (zipFrom 0 ns2)) ns2 bs')) k := fun k hk => by
      rw [hσ, if_neg (fun e => by have h2 : k < 10000 := (dst_lt hd k e.symm).2; omega)]
    have hat : ∀ j b, ns2[j]? = some b → mget (mupd σ (backs (flipN (zipFrom 0 ns2)) ns2 bs' ++ outs o (ren (flipN (zipFrom 0 ns2)) 4 r))) b = renBox (flipN (zipFrom 0 ns2)) (extGet bs' (20000 + j)) := fun j b hj => by
      rw [hσb b (hb2' b (List.mem_of_getElem? hj))]
      obtain ⟨h1, _⟩ := List.getElem?_eq_some_iff.1 hj
      have h2 : bs'[j]? = some bs'[j] := List.getElem?_eq_getElem (by omega)
      rw [hb1 j b _ hj h2, extGet_of h2]
    have hnot : ∀ k, 10000 ≤ k → k ∉ ns2 → mget (mupd σ (backs (flipN (zipFrom 0 ns2)) ns2 bs' ++ outs o (ren (flipN (zipFrom 0 ns2)) 4 r))) k = mget σ k := fun k hk hk' => by
      rw [hσb k hk, hb2 k hk']
    have hgb' : ∀ b b', lookN (flipN (zipFrom 0 ns2)) b = some b' → 10000 ≤ b' ∧ (∀ cs ty, extGet bs' b = .bc cs ty → ∃ cs', mget (mupd σ (backs (flipN (zipFrom 0 ns2)) ns2 bs' ++ outs o (ren (flipN (zipFrom 0 ns2)) 4 r))) b' = .bc cs' ty) ∧
        (∀ n e, extGet bs' b = .bt n e → mget (mupd σ (backs (flipN (zipFrom 0 ns2)) ns2 bs' ++ outs o (ren (flipN (zipFrom 0 ns2)) 4 r))) b' = .bt n e) ∧ (GhB G G' ns2).γ b' = G'.γ b ∧ (GhB G G' ns2).κ b' = G'.κ b ∧ (GhB G G' ns2).β b' = G'.β b ∧
        (∀ cs v e sz, extGet bs' b = .br cs v e sz → ∃ cs', mget (mupd σ (backs (flipN (zipFrom 0 ns2)) ns2 bs' ++ outs o (ren (flipN (zipFrom 0 ns2)) 4 r))) b' = .br cs' v e sz) := fun b b' hl => by
      obtain ⟨j, rfl, h3⟩ := hgb b b' hl
      rw [hat j b' h3]
      exact ⟨hb2' b' (List.mem_of_getElem? h3), fun cs ty e => ⟨_, by rw [e]; rfl⟩, fun n e he => by rw [he]; rfl, (GhB_at G G' hn2 h3).1, (GhB_at G G' hn2 h3).2.1, (GhB_at G G' hn2 h3).2.2, fun cs v e sz he => ⟨_, by rw [he]; rfl⟩⟩
    have hprc : ∀ b, E.Pr b → b < w.heap.size ∧ ∀ k, (GhC G ns).γ k ≠ some b := fun b hp => by
      refine ⟨Nat.lt_of_lt_of_le (h.fr.block b hp).1 h.fr.size, fun k hk => ?_⟩
      obtain ⟨j, b', _, _, h4⟩ := hγc k b hk
      exact (h.st.box b' b h4).2.1 hp
    have hfar : ∀ k g, k ∉ ns2 → G.γ k = some g → g < w.heap.size ∧ ∀ i, (GhC G ns).γ i ≠ some g := fun k g hk hγ => by
      refine ⟨box_lt h hγ, fun i hi => ?_⟩
      obtain ⟨j, b', _, h3, h4⟩ := hγc i g hi
      have := h.st.inj k b' g hγ h4
      subst this
      exact hk (hsub _ (List.mem_of_getElem? h3))
    have hmem : ∀ k, k ∈ ns2 → ∃ j, ns2[j]? = some k := fun k hk => by
      obtain ⟨j, h1, h2⟩ := List.getElem_of_mem hk
      exact ⟨j, by rw [List.getElem?_eq_getElem h1, h2]⟩
    have hγB : ∀ k, k ∉ ns2 → (GhB G G' ns2).γ k = G.γ k ∧ (GhB G G' ns2).κ k = G.κ k ∧ (GhB G G' ns2).β k = G.β k := fun k hk => ⟨if_neg hk, if_neg hk, if_neg hk⟩
    have hs : BStep G (mget σ) (GhB G G' ns2) (mget (mupd σ (backs (flipN (zipFrom 0 ns2)) ns2 bs' ++ outs o (ren (flipN (zipFrom 0 ns2)) 4 r)))) := ⟨hs'.1, fun k hk => by
      by_cases hkn : k ∈ ns2
      · obtain ⟨j, hj⟩ := hmem k hkn
        have sK := hs'.2 (20000 + j) (by omega)
        rcases hold j k hj with hj0 | hj0
        rotate_left
        · exact .u hj0
        rw [hext j k hj0] at sK
        obtain ⟨s1, s2, s3⟩ := sK
        rw [hat j k hj]
        rw [(GhC_at G hj0).1, (GhC_at G hj0).2.1] at s2
        rw [(GhC_at G hj0).1, (GhC_at G hj0).2.1, (GhC_at G hj0).2.2] at s3
        rw [(GhC_at G hj0).1] at s1
        unfold KStep
        rw [(GhB_at G G' hn2 hj).1, (GhB_at G G' hn2 hj).2.1, (GhB_at G G' hn2 hj).2.2]
        refine ⟨fun cs ty e => ?_, fun n e he => ?_, fun cs v e sz he => ?_⟩
        · rw [e] at s1
          obtain ⟨⟨cs', h1⟩, h2⟩ := s1 _ ty rfl
          exact ⟨⟨_, by rw [h1]; rfl⟩, h2⟩
        · rw [he] at s2
          obtain ⟨n', h1, h2⟩ := s2 n e rfl
          exact ⟨n', by rw [h1]; rfl, h2⟩
        · rw [he] at s3
          obtain ⟨cs', v', h1, h2⟩ := s3 _ v e sz rfl
          exact ⟨_, v', by rw [h1]; rfl, h2⟩
      · exact .same (hnot k hk hkn) (hγB k hkn).1 (hγB k hkn).2.1 (hγB k hkn).2.2⟩
    refine ⟨GhB G G' ns2, h.put (x := ren (flipN (zipFrom 0 ns2)) 4 r) (dst_lt hd) hs ⟨hst'.agree, fun k g hk => ?_, fun k cs ty hk hB => ?_, fun k k' g h1 h2 => ?_, hst'.gl⟩ ⟨hw.os, hw.tape, hw.output, hw.size, fun b hp hlt => hw.block b (hprc b hp) hlt⟩
      (fun b o' hp => hz' b o' (hprc b hp).1 (hprc b hp).2) (ren_rel (G := G') (G' := GhB G G' ns2) rfl hgb' 4 hv) fun t ht => ?_⟩
    · by_cases hkn : k ∈ ns2
      · obtain ⟨j, hj⟩ := hmem k hkn
        rw [(GhB_at G G' hn2 hj).1] at hk
        obtain ⟨_, h2, h3⟩ := hst'.box _ g hk
        exact ⟨hb2' k hkn, fun hp => h2 (hprc g hp), ren_box (G := G') (G' := GhB G G' ns2) rfl hgb' h3 (hat j k hj) (GhB_at G G' hn2 hj).2.1 (GhB_at G G' hn2 hj).2.2⟩
      · rw [(hγB k hkn).1] at hk
        obtain ⟨h1, h2, h3⟩ := h.st.box k g hk
        obtain ⟨h4, h5⟩ := hfar k g hkn hk
        exact ⟨h1, h2, h3.step hs (hnot k h1 hkn) (hγB k hkn).2.1 (hγB k hkn).2.2 (hw.block g ⟨h4, h5⟩ h4) fun o' => hz' g o' h4 h5⟩
    · by_cases hkn : k ∈ ns2
      · obtain ⟨j, hj⟩ := hmem k hkn
        rw [hat j k hj] at hB
        have : ∃ cs', extGet bs' (20000 + j) = .bc cs' ty := by
          cases hm : extGet bs' (20000 + j) <;> rw [hm] at hB <;> simp [renBox] at hB
          rename_i cs' ty'
          exact ⟨cs', by rw [hB.2]⟩
        obtain ⟨cs', hm⟩ := this
        obtain ⟨g, hγ⟩ := hst'.real _ cs' ty (by omega) hm
        exact ⟨g, (GhB_at G G' hn2 hj).1.trans hγ⟩
      · rw [hnot k hk hkn] at hB
        obtain ⟨g, hγ⟩ := h.st.real k cs ty hk hB
        exact ⟨g, (hγB k hkn).1.trans hγ⟩
    · have mixed : ∀ k k' g, k ∈ ns2 → k' ∉ ns2 → (GhB G G' ns2).γ k = some g → (GhB G G' ns2).γ k' = some g → False := fun k k' g hkn hkn' h1 h2 => by
        obtain ⟨j, hj⟩ := hmem k hkn
        rw [(GhB_at G G' hn2 hj).1] at h1
        rw [(hγB k' hkn').1] at h2
        exact (hst'.box _ g h1).2.1 (hfar k' g hkn' h2)
      by_cases hkn : k ∈ ns2 <;> by_cases hkn' : k' ∈ ns2
      · obtain ⟨j, hj⟩ := hmem k hkn
        obtain ⟨j', hj'⟩ := hmem k' hkn'
        rw [(GhB_at G G' hn2 hj).1] at h1
        rw [(GhB_at G G' hn2 hj').1] at h2
        have := hst'.inj _ _ g h1 h2
        have e : j = j' := by omega
        subst e
        rw [hj] at hj'; cases hj'; rfl
      · exact (mixed k k' g hkn hkn' h1 h2).elim
      · exact (mixed k' k g hkn' hkn h2 h1).elim
      · rw [(hγB k hkn).1] at h1
        rw [(hγB k' hkn').1] at h2
        exact h.st.inj k k' g h1 h2
    · rw [hσ]
      split
      · rfl
      · rw [hb2 t (fun hm => by have := hb2' t hm; omega)]
  split
  · rename_i hlen; exact back ns (.inl rfl) hlen
  · unfold kNew
    split
    · rename_i d hdst
      refine .rd ?_
      split
      · rename_i hu
        refine .need fun ⟨h1, h2⟩ => back _ (.inr ⟨10000 + d, rfl, by omega, hu, by simpa using h1⟩) (by simpa using h2)
      · exact .fail
    · exact .fail

theorem run_enter {P : Program} {w : World} {f : FuncId} {vs : Array Value} (h : callOk P f = true) : (callFunc f vs).run P w = .ok (.enter f vs) w := by
  unfold callOk at h
  split at h
  · rename_i fn hf
    simp only [Bool.and_eq_true, Bool.not_eq_true', beq_eq_false_iff_ne, ne_eq] at h
    obtain ⟨h1, h2⟩ := h
    obtain ⟨c, hc⟩ := Option.isSome_iff_exists.1 h1
    simp [callFunc, hf, h2, hc]
  · cases h
theorem vapp {G : Gh} {B : Nat → AV} {va vb : Array Value} {p q : List AV} (ha : va.size = p.length) (pa : ∀ j (h : j < p.length), VRel G B (va.getD j undef) p[j]) (pb : ∀ j (h : j < q.length), VRel G B (vb.getD j undef) q[j]) :
    ∀ j (h : j < (p ++ q).length), VRel G B ((va ++ vb).getD j undef) (p ++ q)[j] := fun j hj => by
  by_cases hlt : j < p.length
  · have := pa j hlt
    rw [List.getElem_append_left hlt]
    simpa [Array.getD_eq_getD_getElem?, Array.getElem?_append_left (show j < va.size by omega)] using this
  · have hj' : j - p.length < q.length := by simp at hj; omega
    have := pb (j - p.length) hj'
    rw [List.getElem_append_right (by omega)]
    simpa [Array.getD_eq_getD_getElem?, Array.getElem?_append_right (show va.size ≤ j by omega), ha] using this
theorem vals_eq {G : Gh} {B : Nat → AV} : ∀ {l : List AV} {xs vs : List Value}, xs.length = l.length → (∀ j (h : j < l.length), VRel G B (xs.getD j undef) l[j]) → l.mapM valOf = some vs → xs = vs
  | [], xs, vs, hl, _, hm => by
    simp at hm; subst hm
    simpa using hl
  | x :: l, xs, vs, hl, hr, hm => by
    cases xs with
    | nil => simp at hl
    | cons y xs =>
      simp only [List.mapM_cons, Option.bind_eq_bind, Option.bind_eq_some_iff, Option.pure_def, Option.some.injEq] at hm
      obtain ⟨u, hu, us, hus, rfl⟩ := hm
      have h0 := inv_val (hr 0 (by simp)) hu
      simp at h0
      subst h0
      rw [vals_eq (l := l) (xs := xs) (by simpa using hl) (fun j hj => hr (j + 1) (Nat.succ_lt_succ hj)) hus]
theorem snd_callV (h : Sim E σ a w G) {tk : FuncId → Bool} {f : Operand} {args : Array Operand} {ts : Array TypeId} (ho : o.op = .call { callee := .value f, args := args, argTypes := ts }) :
    Snd E.P σ (rdo f fun v => rdos args.toList fun vs => kCallV E.P E.N tk o v vs) (Good E o σ a w) :=
  .rdo h fun v hv => .rdos h fun ys hl hys => by
    unfold kCallV
    split
    · rename_i fid p q
      obtain ⟨va, vb, ev, ha, hb, pa, pb⟩ := inv_fn hv
      have hl' : ys.length = args.size := by simpa using hl
      have hrel := vapp (G := G) (B := mget σ) (va := va ++ args.map a.eval) (vb := vb) (p := p ++ ys) (q := q) (by simp [ha, hl']) (vapp ha pa fun j hj => by
        have hj' : j < args.size := by omega
        have := hys j (by simpa using hj') hj
        simpa [Array.getD_eq_getD_getElem?, hj'] using this) pb
      unfold kCallW
      split
      · refine snd_call h (vs := va ++ args.map a.eval ++ vb) (by simp [ha, hb, hl']) hrel fun hok => ?_
        have := run_enter (w := w) (vs := va ++ args.map a.eval ++ vb) hok
        simp only [execOp, ho, Sem.run_bind, resolve, ev, Deferred.ofValue, Sem.run_pure, Result.andThen_ok, invoke, this]
      · unfold kExt
        split
        · rename_i vs hvs
          have e1 := vals_eq (xs := (va ++ args.map a.eval ++ vb).toList) (by simp [ha, hb, hl']) (fun j hj => by
            have := hrel j hj
            generalize va ++ args.map a.eval ++ vb = A at this ⊢
            have e : A.toList.getD j undef = A.getD j undef := by simp [Array.getD_eq_getD_getElem?]
            rw [e]; exact this) hvs
          have e2 : va ++ args.map a.eval ++ vb = vs.toArray := by rw [← e1]
          refine .ex fun r hr => snd_ret h ?_ (.p (.c r))
          have := hr w
          rw [← e2] at this
          simp only [execOp, ho, Sem.run_bind, resolve, ev, Deferred.ofValue, Sem.run_pure, Result.andThen_ok, invoke, this]
        · exact .fail
    · exact .fail

/-- Every operation does what its tree says. -/
theorem aop_sound (h : Sim E σ a w G) (tk : FuncId → Bool) (o : Oper) : Snd E.P σ (aop E.P E.N tk o) (Good E o σ a w) := by
  unfold aop
  split
  next ho => exact snd_move h (.inl ho)
  next ho => exact snd_move h (.inr ho)
  next ho => exact snd_pick h ho
  next ho => exact snd_alloc h ho
  next ho => exact snd_box h ho
  next ho => exact snd_load h ho
  next ho => exact snd_store h ho
  next ho => exact snd_nil h ho
  next ho => exact snd_fieldAddr h ho
  next ho => exact snd_field h ho
  next ho => exact snd_indexAddr h ho
  next ho => exact snd_index h ho
  next ho => exact snd_bin h ho
  next ho => exact snd_un h ho
  next ho => exact snd_convert h ho
  next ho => exact snd_iface h ho
  next ho => exact snd_extract h ho
  next ho => exact snd_build h ho
  next ho => exact snd_buildSlice h ho
  next ho => exact snd_makeSlice h ho
  next ho => exact snd_slice h ho
  next ho => exact snd_makeMap h ho
  next ho => exact snd_lookup h ho
  next ho => exact snd_mapUpd h (.inl ho)
  next ho => exact snd_mapUpd h (.inr ho)
  next ho => exact snd_makeFunc h ho
  next ho =>
    split
    next h1 h2 => exact snd_len (ty := 0) h h1 h2 ho
    next => exact .fail
  next ho =>
    split
    next h1 h2 => exact snd_append (ty := 0) h h1 h2 ho
    next => exact .fail
  next ho => exact snd_callV h ho
  next => exact .fail
end
end Go.Proofs.Ytjgfhblciapkfaa

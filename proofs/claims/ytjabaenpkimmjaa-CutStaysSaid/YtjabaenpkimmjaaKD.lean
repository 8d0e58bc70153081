/- K: the operations that compute, sound. No program is in sight. -/
import Derived.Test.YtjabaenpkimmjaaKC
namespace Go.Proofs.Ytjabaenpkimmjaa
set_option linter.unusedSimpArgs false
set_option linter.unusedVariables false
open Go.RowKit

/-- Whatever the tree gives, it is good. -/
def Snd (P : Program) (σ : AMap) (t : TR) (Goal : List (Nat × AV) → Prop) : Prop := ∀ K, t.wp P σ K → ∃ R d, K R d ∧ Goal d
section
variable {P : Program} {σ : AMap} {Goal : List (Nat × AV) → Prop}
theorem Snd.done {d : List (Nat × AV)} (h : Goal d) : Snd P σ (.done d) Goal := fun K hK => ⟨[], d, hK, h⟩
theorem Snd.rd {k : Nat} {f : AV → TR} (h : Snd P σ (f (mget σ k)) Goal) : Snd P σ (.rd k f) Goal := fun K hK => by
  obtain ⟨R, d, h1, h2⟩ := h _ hK
  exact ⟨k :: R, d, h1, h2⟩
theorem Snd.need {p : Prop} {t : TR} (h : p → Snd P σ t Goal) : Snd P σ (.need p t) Goal := fun K hK => h hK.1 K hK.2
theorem Snd.fail : Snd P σ fail Goal := fun K hK => hK.1.elim
theorem Snd.ex {p : Value → Prop} {f : Value → TR} (h : ∀ v, p v → Snd P σ (f v) Goal) : Snd P σ (.ex p f) Goal := fun K ⟨v, h1, h2⟩ => h v h1 K h2
theorem Snd.call {f : FuncId} {args bxs : List AV} {k : AV → List AV → TR} (h : ∀ r bs, AFn P f args bxs r bs → Snd P σ (k r bs) Goal) : Snd P σ (.call f args bxs k) Goal :=
  fun K ⟨r, bs, h1, h3⟩ => h r bs h1 K h3
end

/-- What a good operation does. -/
def Good (E : Env) (o : Oper) (σ : AMap) (a : Act) (w : World) (d : List (Nat × AV)) : Prop := ∀ Q, o.wp E.P a w (fun a' w' => ∃ G', Sim E (mupd σ d) a' w' G') Q

section
variable {E : Env} {o : Oper} {σ : AMap} {a : Act} {w : World} {G : Gh}

theorem getD_big (h : Sim E σ a w G) {t : Nat} (ht : t < 10000) : VRel G (lm σ) (a.eval (.tmp t)) (mget σ t) := h.slots t ht
theorem ofV_rel (Z : Seal) (v : Value) : PRel Z v (ofV v) := by
  unfold ofV
  split
  · exact .sl none 0 0 0 0 .full [] (fun _ => undef) (.inr ⟨rfl, rfl⟩) (Nat.le_refl _) (fun _ => rfl) (.inl ⟨rfl, rfl⟩) (fun j h => by simp at h) (fun j h => by simp at h)
  · exact .c v
theorem Snd.rdo (h : Sim E σ a w G) {x : Operand} {f : AV → TR} {Goal : List (Nat × AV) → Prop} (hf : ∀ y, VRel G (lm σ) (a.eval x) y → Snd E.P σ (f y) Goal) : Snd E.P σ (rdo x f) Goal := by
  cases x with
  | tmp t => exact .need fun ht => .rd (hf _ (h.slots t ht))
  | const v => exact hf _ (.p (ofV_rel _ v))
  | global g =>
    refine hf _ ?_
    unfold globV
    split
    · rename_i cs hg; exact .p (h.st.gl g cs hg)
    · exact .p (.c _)
  | func i => exact hf _ (.p (.fn _ #[] #[] [] [] rfl rfl (fun j h => by simp at h) (fun j h => by simp at h)))
theorem Snd.rdos (h : Sim E σ a w G) {Goal : List (Nat × AV) → Prop} : ∀ {l : List Operand} {f : List AV → TR},
    (∀ ys, ys.length = l.length → (∀ j (h1 : j < l.length) (h2 : j < ys.length), VRel G (lm σ) (a.eval l[j]) ys[j]) → Snd E.P σ (f ys) Goal) → Snd E.P σ (rdos l f) Goal
  | [], f, hf => hf [] rfl (fun j h => by simp at h)
  | x :: r, f, hf => Snd.rdo h fun y hy => Snd.rdos h fun ys hl hys => hf (y :: ys) (by simp [hl]) fun j h1 h2 => by
    cases j with
    | zero => exact hy
    | succ j => exact hys j (by simpa using h1) (by simpa using h2)

theorem mget_outs {d : Oper} {x : AV} (t : Nat) : mget (mupd σ (outs d x)) t = if some t = d.dst then x else mget σ t := by
  cases hd : d.dst with
  | none => simp [outs, hd, mupd]
  | some i =>
    simp only [outs, hd, mupd, mget_mset, Option.some.injEq]
    by_cases h : i = t
    · subst h; simp
    · rw [if_neg h, if_neg (fun e => h e.symm)]
theorem outs_box (hd : dstOk E.N o) (x : AV) : ∀ k, 10000 ≤ k → mget (mupd σ (outs o x)) k = mget σ k := fun k hk => by
  rw [mget_outs]
  split
  · rename_i h
    unfold dstOk at hd
    rw [← h] at hd
    have h2 : k < 10000 := hd.2
    omega
  · rfl
theorem outs_lm (hd : dstOk E.N o) (x : AV) : ∀ k, 10000 ≤ k → lm (mupd σ (outs o x)) k = lm σ k := lk_congr fun k hk _ => outs_box hd x k hk
theorem mupd_congr (t : Nat) : ∀ (D : List (Nat × AV)) (σ σ' : AMap), mget σ' t = mget σ t → mget (mupd σ' D) t = mget (mupd σ D) t
  | [], _, _, h => h
  | (k, v) :: D, σ, σ', h => mupd_congr t D _ _ (by rw [mget_mset, mget_mset, h])
theorem mupd_lo : ∀ (D : List (Nat × AV)) (σ : AMap), (∀ p ∈ D, p.1 < 10000) → ∀ k, 10000 ≤ k → mget (mupd σ D) k = mget σ k
  | [], _, _, _, _ => rfl
  | (i, v) :: D, σ, h, k, hk => by
    show mget (mupd (mset σ i v) D) k = _
    rw [mupd_lo D _ (fun p hp => h p (by simp [hp])) k hk, mget_mset, if_neg (fun e : i = k => by have : i < 10000 := h (i, v) (by simp); omega)]
/-- What a row's turning does to a state. -/
def RowWr (σ : AMap) (k : Nat) (e : TypeId) (sz : Nat) (wr : List AV → Nat → Nat × AV) : Prop := ∀ (cs' : List AV) (v' : Nat) (D : List (Nat × AV)), (∀ p ∈ D, p.1 < 10000) →
  (∀ t, t < 10000 → mget (mupd σ (wr cs' v' :: D)) t = mget (mupd σ D) t) ∧ lm (mupd σ (wr cs' v' :: D)) k = .br cs' v' e sz ∧
  ∀ j, 10000 ≤ j → j ≠ k → lm (mupd σ (wr cs' v' :: D)) j = lm σ j ∨ isFo (lm σ j) = true ∧ isFo (lm (mupd σ (wr cs' v' :: D)) j) = true
theorem rowWr_real {k : Nat} {cs : List AV} {v : Nat} {e sz : Nat} (hk : 10000 ≤ k) (hr : k < 1000000) (hB : mget σ k = .br cs v e sz) : RowWr σ k e sz fun cs' v' => (k, .br cs' v' e sz) := fun cs' v' D hD => by
  have hm : ∀ j, 10000 ≤ j → mget (mupd (mset σ k (.br cs' v' e sz)) D) j = if k = j then .br cs' v' e sz else mget σ j := fun j hj => by rw [mupd_lo D _ hD j hj, mget_mset]
  refine ⟨fun t ht => mupd_congr t D _ _ (by rw [mget_mset, if_neg (by omega)]), ?_, fun j hj hne => .inl ?_⟩
  · show lk _ k = _
    rw [lk_real hr]
    exact (hm k hk).trans (if_pos rfl)
  · have := lk_set (B := mget σ) (B' := mget (mupd (mset σ k (.br cs' v' e sz)) D)) (fun j hj _ => hm j hj) hr (by rw [hB]; rfl) rfl j hj
    rw [if_neg (fun e => hne e.symm)] at this
    exact this
theorem rowWr_fam {k : Nat} {rows : List AV} {e sz : Nat} (h10 : 10000 ≤ encB k) (hr : ¬ k < 1000000) (hB : mget σ (encB k) = .fo rows) (hi : encI k < rows.length) :
    RowWr σ k e sz fun cs' v' => (encB k, .fo (rows.set (encI k) (.br cs' v' e sz))) := fun cs' v' D hD => by
  have hm : ∀ j, 10000 ≤ j → mget (mupd (mset σ (encB k) (.fo (rows.set (encI k) (.br cs' v' e sz)))) D) j = if encB k = j then .fo (rows.set (encI k) (.br cs' v' e sz)) else mget σ j := fun j hj => by rw [mupd_lo D _ hD j hj, mget_mset]
  refine ⟨fun t ht => mupd_congr t D _ _ (by rw [mget_mset, if_neg (by omega)]), ?_, fun j hj hne => ?_⟩
  · show lk _ k = _
    unfold lk
    rw [if_neg hr, if_pos h10]
    have := hm (encB k) h10
    rw [if_pos rfl] at this
    show rowOf (mget (mupd (mset σ (encB k) (.fo (rows.set (encI k) (.br cs' v' e sz)))) D) (encB k)) _ = _
    rw [this]
    simp [rowOf, rowAt, List.getD_eq_getElem?_getD, hi]
  · show lk (mget (mupd (mset σ (encB k) (.fo (rows.set (encI k) (.br cs' v' e sz)))) D)) j = lk (mget σ) j ∨ _ ∧ isFo (lk (mget (mupd (mset σ (encB k) (.fo (rows.set (encI k) (.br cs' v' e sz)))) D)) j) = true
    by_cases hj1 : j < 1000000
    · rw [lk_real hj1, lk_real hj1, hm j hj]
      by_cases e1 : encB k = j
      · right
        rw [if_pos e1]
        refine ⟨?_, rfl⟩
        show isFo (lk (mget σ) j) = true
        rw [lk_real hj1, ← e1, hB]; rfl
      · left; rw [if_neg e1]
    · left
      unfold lk
      rw [if_neg hj1, if_neg hj1]
      by_cases h2 : 10000 ≤ encB j
      · rw [if_pos h2, if_pos h2, hm _ h2]
        by_cases e1 : encB k = encB j
        · rw [if_pos e1, ← e1, hB]
          have hne2 : encI k ≠ encI j := fun e2 => hne (by rw [← enc_of hj1, ← enc_of hr, ← e1, ← e2])
          simp only [rowOf, rowAt, List.getD_eq_getElem?_getD]
          rw [List.getElem?_set_ne hne2]
        · rw [if_neg e1]
      · rw [if_neg h2, if_neg h2]
theorem Snd.rdRow {P : Program} {k : Nat} {f : List AV → Nat → TypeId → Nat → (List AV → Nat → Nat × AV) → TR} {Goal : List (Nat × AV) → Prop} (hk : 10000 ≤ k)
    (h : ∀ cs v e sz wr, lm σ k = .br cs v e sz → RowWr σ k e sz wr → Snd P σ (f cs v e sz wr) Goal) : Snd P σ (Go.Proofs.Ytjabaenpkimmjaa.rdRow k f) Goal := by
  unfold Go.Proofs.Ytjabaenpkimmjaa.rdRow
  split
  · rename_i hr
    refine .rd ?_
    split
    · rename_i cs v e sz hB
      exact h cs v e sz _ ((lk_real hr).trans hB) (rowWr_real hk hr hB)
    · exact .fail
  · rename_i hr
    refine .need fun h10 => .rd ?_
    split
    · rename_i rows hB
      split
      · rename_i cs v e sz hrow
        have hi : encI k < rows.length := by
          rcases rowAt_cases rows (encI k) with e1 | ⟨_, _, _, _, _, e2⟩
          · rw [hrow] at e1; cases e1
          · exact (List.getElem?_eq_some_iff.1 e2).1
        refine h cs v e sz _ ?_ (rowWr_fam h10 hr hB hi)
        show lk (mget σ) k = _
        unfold lk
        rw [if_neg hr, if_pos h10, hB]; exact hrow
      · exact .fail
    · exact .fail
theorem dst_lt (hd : dstOk E.N o) : ∀ d, o.dst = some d → d < E.N ∧ d < 10000 := fun d h => by unfold dstOk at hd; rw [h] at hd; exact hd

/-- A value, the world standing. -/
theorem good_val (h : Sim E σ a w G) (hd : dstOk E.N o) {v : Value} {x : AV} (hr : (execOp a.eval o).run E.P w = .ok (.value v) w) (hx : VRel G (lm σ) v x) : Good E o σ a w (outs o x) := fun Q => by
  unfold Oper.wp
  rw [hr]
  exact ⟨G, h.put (dst_lt hd) (.congr (outs_lm hd x)) (h.st.congr (outs_lm hd x)) (.refl _ _) (fun _ _ _ => rfl) (hx.step (.congr (outs_lm hd x))) fun t _ => mget_outs t⟩
theorem snd_ret (h : Sim E σ a w G) {v : Value} {x : AV} (hr : (execOp a.eval o).run E.P w = .ok (.value v) w) (hx : VRel G (lm σ) v x) : Snd E.P σ (ret E.N o x) (Good E o σ a w) :=
  .need fun hd => .done (good_val h hd hr hx)
end

/-! What a tree says of its value. -/
section
variable {G : Gh} {B : Nat → AV} {v : Value}
theorem inv_c {x : Value} (h : VRel G B v (.c x)) : v = x := by
  cases h with
  | p h => cases h; rfl
def SlAt (G : Gh) (cs : List AV) (n : Nat) (a : Option Addr) (cap b off : Nat) (f : Nat → Value) : Prop :=
  n ≤ cap ∧ (a = none → cap = 0) ∧ ((n = 0 ∧ cs = []) ∨ a = some ⟨b, off, none⟩) ∧ (∀ j, j < cs.length → G.Z b (off + j) = some (f j)) ∧ ∀ j (h : j < cs.length), PRel G.Z (f j) cs[j]
theorem inv_sl {cs : List AV} {n : Nat} {o : Own} (h : VRel G B v (.sl cs n o)) : ∃ a cap b off f, v = .slice a n cap ∧ SlAt G cs n a cap b off f ∧ (o = .full → cap = n) ∧
    ∀ t, o = .tok t → 10000 ≤ t ∧ ∃ tip e, B t = .bt tip e ∧ n ≤ tip ∧ (n = tip → TokAt G t a n cap) := by
  cases h with
  | p h =>
    cases h with
    | sl a b off n cap o cs f ho hn ha hc hz hp => exact ⟨a, cap, b, off, f, rfl, ⟨hn, ha, hc, hz, hp⟩, fun e => by subst e; simpa using ho, fun t e => by subst e; simp at ho⟩
  | tok a n cap cs b tip e h hb hB hn hk =>
    cases h with
    | sl a b' off n cap o cs f ho hn' ha hc hz hp => exact ⟨a, cap, b', off, f, rfl, ⟨hn', ha, hc, hz, hp⟩, (fun h => by cases h), (fun t h => by cases h; exact ⟨hb, tip, e, hB, hn, hk⟩)⟩
theorem SlAt.rel {cs : List AV} {n : Nat} {a : Option Addr} {cap b off : Nat} {f : Nat → Value} (h : SlAt G cs n a cap b off f) : VRel G B (.slice a n cap) (.sl cs n .none) :=
  .p (.sl a b off n cap .none cs f (.inl rfl) h.1 h.2.1 h.2.2.1 h.2.2.2.1 h.2.2.2.2)
theorem SlAt.full {cs : List AV} {n : Nat} {a : Option Addr} {cap b off : Nat} {f : Nat → Value} (h : SlAt G cs n a cap b off f) (hc : cap = n) : VRel G B (.slice a n cap) (.sl cs n .full) :=
  .p (.sl a b off n cap .full cs f (.inr ⟨rfl, hc⟩) h.1 h.2.1 h.2.2.1 h.2.2.2.1 h.2.2.2.2)
def RfAt (G : Gh) (cs : List AV) (b off : Nat) (f : Nat → Value) : Prop := (∀ j, j < cs.length → G.Z b (off + j) = some (f j)) ∧ ∀ j (h : j < cs.length), PRel G.Z (f j) cs[j]
theorem inv_rf {cs : List AV} {o : Nat} (h : VRel G B v (.rf cs o)) : ∃ b off f, v = .pointer (some ⟨b, off + o, none⟩) ∧ RfAt G cs b off f := by
  cases h with
  | p h =>
    cases h with
    | rf b off o cs f hz hp => exact ⟨b, off, f, rfl, hz, hp⟩
theorem RfAt.rel {cs : List AV} {b off : Nat} {f : Nat → Value} (h : RfAt G cs b off f) (o : Nat) : VRel G B (.pointer (some ⟨b, off + o, none⟩)) (.rf cs o) := .p (.rf b off o cs f h.1 h.2)
theorem inv_loc {b off : Nat} (h : VRel G B v (.loc b off)) : ∃ g cs ty, v = .pointer (some ⟨g, off, none⟩) ∧ 10000 ≤ b ∧ B b = .bc cs ty ∧ G.γ b = some g ∧ isM ty = false := by
  cases h with
  | p h => cases h
  | loc b off g cs ty hb hB hg hm => exact ⟨g, cs, ty, rfl, hb, hB, hg, hm⟩
theorem inv_arr {b off n e : Nat} (h : VRel G B v (.arr b off n e)) : ∃ g cap cs ty, v = .slice (some ⟨g, off, none⟩) n cap ∧ n ≤ cap ∧ 10000 ≤ b ∧ B b = .bc cs ty ∧ G.γ b = some g ∧ isM ty = false := by
  cases h with
  | p h => cases h
  | arr b off n e cap g cs ty hb hB hg hn hm => exact ⟨g, cap, cs, ty, rfl, hn, hb, hB, hg, hm⟩
theorem inv_mp {b : Nat} (h : VRel G B v (.mp b)) : ∃ g cs ty, v = .map (some g) ∧ 10000 ≤ b ∧ B b = .bc cs ty ∧ G.γ b = some g ∧ isM ty = true := by
  cases h with
  | p h => cases h
  | mp b g cs ty hb hB hg hm => exact ⟨g, cs, ty, rfl, hb, hB, hg, hm⟩
theorem inv_ow {b off n ver : Nat} (h : VRel G B v (.ow b off n ver)) : ∃ a cap cs v' e sz, v = .slice a n cap ∧ n ≤ cap ∧ (a = none → cap = 0) ∧ 10000 ≤ b ∧ B b = .br cs v' e sz ∧ ver ≤ v' ∧ (ver = v' → OwAt G b off sz a cap) := by
  cases h with
  | p h => cases h
  | ow a n cap b off ver cs v' e sz hb hB hn ha hv hk => exact ⟨a, cap, cs, v', e, sz, rfl, hn, ha, hb, hB, hv, hk⟩
theorem inv_lo {b off ver : Nat} (h : VRel G B v (.lo b off ver)) : ∃ g o cs v' e sz, v = .pointer (some ⟨g, o, none⟩) ∧ 10000 ≤ b ∧ B b = .br cs v' e sz ∧ ver ≤ v' ∧ (ver = v' → G.γ b = some g ∧ o = G.β b + off) := by
  cases h with
  | p h => cases h
  | lo g o b off ver cs v' e sz hb hB hv hk => exact ⟨g, o, cs, v', e, sz, rfl, hb, hB, hv, hk⟩
theorem inv_br {cs : List AV} {ver : Nat} {e : TypeId} {sz : Nat} (h : VRel G B v (.br cs ver e sz)) : False := by
  cases h with
  | p h => cases h
theorem inv_fo {rows : List AV} (h : VRel G B v (.fo rows)) : False := by
  cases h with
  | p h => cases h
theorem inv_agg {cs : List AV} (h : VRel G B v (.agg cs)) : ∃ vs : Array Value, v = .agg vs ∧ vs.size = cs.length ∧ (∀ j, j < cs.length → (vs.getD j undef).oneCell' = true) ∧ ∀ j (h : j < cs.length), VRel G B (vs.getD j undef) cs[j] := by
  cases h with
  | p h =>
    cases h with
    | agg vs cs hs h1 hp => exact ⟨vs, rfl, hs, h1, fun j hj => .p (hp j hj)⟩
  | agg vs cs hs h1 hp => exact ⟨vs, rfl, hs, h1, hp⟩
theorem inv_tup {cs : List AV} (h : VRel G B v (.tup cs)) : ∃ vs : Array Value, v = .tuple vs ∧ vs.size = cs.length ∧ ∀ j (h : j < cs.length), VRel G B (vs.getD j undef) cs[j] := by
  cases h with
  | p h =>
    cases h with
    | tup vs cs hs hp => exact ⟨vs, rfl, hs, fun j hj => .p (hp j hj)⟩
  | tup vs cs hs hp => exact ⟨vs, rfl, hs, hp⟩
theorem inv_ifc {t : TypeId} {x : AV} (h : VRel G B v (.ifc t x)) : ∃ v', v = .iface t v' ∧ VRel G B v' x := by
  cases h with
  | p h =>
    cases h with
    | ifc t v x h => exact ⟨v, rfl, .p h⟩
  | ifc t v x h => exact ⟨v, rfl, h⟩
theorem inv_fn {f : Fn} {a b : List AV} (h : VRel G B v (.fn f a b)) : ∃ va vb : Array Value, v = .func f va vb ∧ va.size = a.length ∧ vb.size = b.length ∧ (∀ j (h : j < a.length), VRel G B (va.getD j undef) a[j]) ∧
    ∀ j (h : j < b.length), VRel G B (vb.getD j undef) b[j] := by
  cases h with
  | p h =>
    cases h with
    | fn f va vb a b ha hb pa pb => exact ⟨va, vb, rfl, ha, hb, fun j hj => .p (pa j hj), fun j hj => .p (pb j hj)⟩
  | fn f va vb a b ha hb pa pb => exact ⟨va, vb, rfl, ha, hb, pa, pb⟩
theorem inv_bc {cs : List AV} {ty : TypeId} (h : VRel G B v (.bc cs ty)) : False := by
  cases h with
  | p h => cases h
theorem inv_bt {n : Nat} {e : TypeId} (h : VRel G B v (.bt n e)) : False := by
  cases h with
  | p h => cases h
theorem mapM_valC : ∀ {l : List AV} {xs : List Value}, l.mapM valC = some xs → l = xs.map AV.c
  | [], xs, h => by simp at h; subst h; rfl
  | x :: l, xs, h => by
    simp only [List.mapM_cons, Option.bind_eq_bind, Option.bind_eq_some_iff, Option.pure_def, Option.some.injEq] at h
    obtain ⟨u, hu, us, hus, rfl⟩ := h
    cases x <;> simp [valC] at hu
    subst hu
    rw [mapM_valC hus]; rfl
theorem inv_val : ∀ {x : AV} {y v : Value}, VRel G B v x → valOf x = some y → v = y
  | .agg l, y, v, h, hv => by
    obtain ⟨vs, rfl, hs, _, hp⟩ := inv_agg h
    simp only [valOf, Option.map_eq_some_iff] at hv
    obtain ⟨xs, hx, rfl⟩ := hv
    have hl := mapM_valC hx
    subst hl
    congr 1
    apply Array.ext
    · simpa using hs
    · intro j h1 h2
      have h2' : j < xs.length := by simpa using h2
      have := hp j (by simpa using h2')
      rw [List.getElem_map] at this
      have := inv_c this
      rw [Array.getD_eq_getD_getElem?, Array.getElem?_eq_getElem h1] at this
      simpa using this
  | .c x, y, v, h, hv => by simp [valOf] at hv; subst hv; exact inv_c h
  | .ifc t x, y, v, h, hv => by
    obtain ⟨v', rfl, h'⟩ := inv_ifc h
    simp only [valOf, Option.map_eq_some_iff] at hv
    obtain ⟨z, hz, rfl⟩ := hv
    rw [inv_val h' hz]
  | .u, _, _, _, hv | .sl .., _, _, _, hv | .rf .., _, _, _, hv | .tup _, _, _, _, hv | .fn .., _, _, _, hv | .loc .., _, _, _, hv | .arr .., _, _, _, hv | .bc .., _, _, _, hv | .bt .., _, _, _, hv | .mp .., _, _, _, hv | .ow .., _, _, _, hv | .lo .., _, _, _, hv | .br .., _, _, _, hv | .fo .., _, _, _, hv => by simp [valOf] at hv
end

/-! What is asked of types, as the model asks it. -/
section
variable {P : Program} {w : World}
theorem run_szOf {t n : Nat} (h : szOf P t = some n) : (sizeOf t).run P w = .ok n w := by
  unfold szOf at h
  cases hi : P.info? t with
  | none => simp [hi] at h
  | some i => simp [hi] at h; simp [sizeOf, typeInfo, hi, h]
theorem und_elem {t e : Nat} (h : elemOf P t = some e) : P.underlying t = some (.slice e) := by
  unfold elemOf at h
  cases hu : P.underlying t with
  | none => simp [hu] at h
  | some d => cases d <;> simp [hu] at h; rw [h]
theorem und_int {t : Nat} {k : IntKind} (h : intOfT P t = some k) : P.underlying t = some (.int k) := by
  unfold intOfT at h
  cases hu : P.underlying t with
  | none => simp [hu] at h
  | some d => cases d <;> simp [hu] at h; rw [h]
theorem und_str {t : Nat} (h : strOfT P t = true) : P.underlying t = some .string := by
  unfold strOfT at h
  cases hu : P.underlying t with
  | none => simp [hu] at h
  | some d => cases d <;> simp [hu] at h; rfl
theorem und_field {t i off ft : Nat} (h : fieldOf P t i = some (off, ft)) : ∃ fs : Array Field, P.underlying t = some (.struct fs) ∧ ∃ f, fs[i]? = some f ∧ f.offset = off ∧ f.type = ft := by
  unfold fieldOf at h
  cases hu : P.underlying t with
  | none => simp [hu] at h
  | some d =>
    cases d <;> simp [hu] at h
    rename_i fs
    obtain ⟨f, h1, h2, h3⟩ := h
    exact ⟨fs, rfl, f, h1, h2, h3⟩
end

section
variable {E : Env} {o : Oper} {σ : AMap} {a : Act} {w : World} {G : Gh}
theorem snd_move (h : Sim E σ a w G) {x : Operand} (ho : o.op = .move x ∨ o.op = .assign x) : Snd E.P σ (rdo x fun v => ret E.N o v) (Good E o σ a w) :=
  .rdo h fun y hy => snd_ret h (by rcases ho with ho | ho <;> simp [execOp, ho]) hy
theorem snd_pick (h : Sim E σ a w G) {c x y : Operand} (ho : o.op = .pick c x y) : Snd E.P σ (rdo c fun vc => rdo x fun vx => rdo y fun vy => kPick E.N o vc vx vy) (Good E o σ a w) :=
  .rdo h fun vc hc => .rdo h fun vx hx => .rdo h fun vy hy => by
    unfold kPick
    split
    · rename_i b
      have e := inv_c hc
      refine snd_ret h (v := if b then a.eval x else a.eval y) (by simp [execOp, ho, e, asBool]) ?_
      cases b
      · exact hy
      · exact hx
    · exact .fail
theorem snd_nil (h : Sim E σ a w G) {x : Operand} (ho : o.op = .nilCheck x) : Snd E.P σ (rdo x fun v => kNil E.N o v) (Good E o σ a w) :=
  .rdo h fun v hv => by
    unfold kNil
    split
    · obtain ⟨g, cs, ty, e, _⟩ := inv_loc hv
      exact snd_ret h (by simp [execOp, ho, e]) hv
    · obtain ⟨g, o, cs, v', e', sz, e, _⟩ := inv_lo hv
      exact snd_ret h (by simp [execOp, ho, e]) hv
    · obtain ⟨b, off, f, e, _⟩ := inv_rf hv
      exact snd_ret h (by simp [execOp, ho, e]) hv
    · obtain ⟨va, vb, e, _⟩ := inv_fn hv
      exact snd_ret h (by simp [execOp, ho, e]) hv
    · obtain ⟨v', e, _⟩ := inv_ifc hv
      exact snd_ret h (by simp [execOp, ho, e]) hv
    · exact .fail
theorem snd_fieldAddr (h : Sim E σ a w G) {s : TypeId} {x : Operand} {i : Nat} (ho : o.op = .fieldAddr s x i) : Snd E.P σ (rdo x fun v => kFieldAddr E.P E.N o s v i) (Good E o σ a w) :=
  .rdo h fun v hv => by
    unfold kFieldAddr
    split
    · rename_i off ft hf
      refine .need fun hnz => ?_
      obtain ⟨n, hn⟩ : ∃ n, szOf E.P ft = some (n + 1) := by
        unfold nzOf at hnz
        split at hnz
        · rename_i n hn; exact ⟨n, hn⟩
        · cases hnz
      obtain ⟨fs, hu, fl, h1, h2, h3⟩ := und_field hf
      have hs := run_szOf (P := E.P) (w := w) hn
      rw [← h3] at hs
      have hrun : ∀ b o', a.eval x = .pointer (some ⟨b, o', none⟩) → (execOp a.eval o).run E.P w = .ok (.value (.pointer (some ⟨b, o' + off, none⟩))) w := fun b o' e => by
        simp [execOp, ho, e, Instr.fieldAt, run_underlying hu, h1, Instr.sureAddr, fieldPlace, hs, h2, Addr.add_mid]
      split
      · obtain ⟨g, cs, ty, e, h4, h5, h6, h7⟩ := inv_loc hv
        exact snd_ret h (hrun _ _ e) (.loc _ _ g cs ty h4 h5 h6 h7)
      · obtain ⟨g, o', cs, v', e', sz, e, h4, h5, h6, h7⟩ := inv_lo hv
        exact snd_ret h (hrun _ _ e) (.lo g _ _ _ _ cs v' e' sz h4 h5 h6 fun hvv => ⟨(h7 hvv).1, by rw [(h7 hvv).2, Nat.add_assoc]⟩)
      · obtain ⟨b, off', f, e, hr⟩ := inv_rf hv
        have := hrun _ _ e
        rw [Nat.add_assoc] at this
        exact snd_ret h this (hr.rel _)
      · exact .fail
    · exact .fail
theorem snd_indexAddr (h : Sim E σ a w G) {t : TypeId} {x i : Operand} (ho : o.op = .indexAddr t x i) : Snd E.P σ (rdo x fun v => rdo i fun j => kIndexAddr E.P E.N o t v j) (Good E o σ a w) :=
  .rdo h fun v hv => .rdo h fun j hj => by
    unfold kIndexAddr
    split
    · rename_i sz cs n own k z hsz
      refine .need fun ⟨h0, h1⟩ => ?_
      obtain ⟨e, he, hsz⟩ := Option.bind_eq_some_iff.1 hsz
      obtain ⟨ad, cap, b, off, f, ev, ⟨hn, ha, hc, hz, hp⟩, _⟩ := inv_sl hv
      have ej := inv_c hj
      rcases hc with ⟨hc, _⟩ | hc
      · omega
      subst hc
      have hs := run_szOf (P := E.P) (w := w) hsz
      refine snd_ret h (v := .pointer (some ⟨b, off + z.toNat * sz, none⟩)) ?_ (RfAt.rel ⟨hz, hp⟩ _)
      simp [execOp, ho, ev, ej, Instr.indexAt, asIntOf, run_underlying (und_elem he), h0, h1, hs, Addr.add_mid]
    · rename_i sz b off n e' k z hsz
      refine .need fun ⟨h0, h1⟩ => ?_
      obtain ⟨e, he, hsz⟩ := Option.bind_eq_some_iff.1 hsz
      obtain ⟨g, cap, cs, ty, ev, hn, hb, hB, hg, hm⟩ := inv_arr hv
      have ej := inv_c hj
      have hs := run_szOf (P := E.P) (w := w) hsz
      refine snd_ret h (v := .pointer (some ⟨g, off + z.toNat * sz, none⟩)) ?_ (.loc _ _ g cs ty hb hB hg hm)
      simp [execOp, ho, ev, ej, Instr.indexAt, asIntOf, run_underlying (und_elem he), h0, h1, hs, Addr.add_mid]
    · rename_i sz b off n ver k z hsz
      obtain ⟨ad, cap, cs, v', e', sz', ev, hn, ha, hb, hB, hvv, hk⟩ := inv_ow hv
      refine .rdRow hb fun cs2 v2 e2 sz2 wr hB2 _ => .need fun ⟨h2, h0, h1⟩ => ?_
      rw [hB] at hB2; cases hB2
      obtain ⟨e, he, hsz⟩ := Option.bind_eq_some_iff.1 hsz
      have ej := inv_c hj
      have hs := run_szOf (P := E.P) (w := w) hsz
      have hko := hk h2
      cases hγ : G.γ b with
      | none => have := hko.1 hγ; omega
      | some g =>
        obtain ⟨_, h3⟩ := hko.2 g hγ
        have h3 : ad = some ⟨g, G.β b + off, none⟩ := h3.resolve_left (by omega)
        subst h3
        refine snd_ret h (v := .pointer (some ⟨g, G.β b + off + z.toNat * sz, none⟩)) ?_ (.lo g _ b _ ver cs v' e' sz' hb hB hvv fun _ => ⟨hγ, Nat.add_assoc ..⟩)
        simp [execOp, ho, ev, ej, Instr.indexAt, asIntOf, run_underlying (und_elem he), h0, h1, hs, Addr.add_mid]
    · exact .fail
theorem snd_index (h : Sim E σ a w G) {t : TypeId} {x i : Operand} (ho : o.op = .index t x i) : Snd E.P σ (rdo x fun v => rdo i fun j => kIndex E.P E.N o t v j) (Good E o σ a w) :=
  .rdo h fun v hv => .rdo h fun j hj => by
    unfold kIndex
    split
    · rename_i s k z hs
      refine .need fun ⟨h0, h1⟩ => ?_
      have ev := inv_c hv
      have ej := inv_c hj
      have hlt : z.toNat < s.size := by omega
      have hget : s[z.toNat]? = some (s.data.toList.getD z.toNat 0) := by
        have h2 : z.toNat < s.data.toList.length := by simpa using hlt
        rw [List.getD_eq_getElem?_getD, List.getElem?_eq_getElem h2]
        simp [getElem?_pos, hlt]; rfl
      refine snd_ret h (v := .int .u8 (s.data.toList.getD z.toNat 0).toNat) ?_ (.p (.c _))
      simp [execOp, ho, ev, ej, Instr.index, asIntOf, run_underlying (und_str hs), h0, hget]
    · exact .fail
theorem run_intBin {P : Program} {w : World} {op : BinOp} {t : TypeId} {k k' : IntKind} {x y : Int} {v : Value} (hk : k = k' ∨ isShift op = true) (hv : intBin op k x y = some v) : (binOp op t (.int k x) (.int k' y)).run P w = .ok v w := by
  cases op <;> simp [intBin, isShift] at hk hv
  case shl | shr => simp [binOp, Op.shift, show ¬ y < 0 by omega, hv.2]
  case quo | rem => subst hk; simp [binOp, Op.intDiv, hv.1, hv.2]
  all_goals (subst hk; subst hv; simp [binOp, Op.intArith, Op.intBits, Op.intCmp])
  all_goals rfl
theorem run_eq_nil {P : Program} {w : World} (t u : TypeId) (v : Value) {ms : Array (String × TypeId)} (hd : P.underlying t = some (.interface ms)) :
    (Op.equal t (.iface u v) .nilIface).run P w = .ok false w ∧ (Op.equal t .nilIface (.iface u v)).run P w = .ok false w := by
  have h1 : ∀ d : Nat, (Op.equalIn (d + 1) t (.iface u v) .nilIface).run P w = .ok false w := fun d => by simp [Op.equalIn, run_underlying hd]
  have h2 : ∀ d : Nat, (Op.equalIn (d + 1) t .nilIface (.iface u v)).run P w = .ok false w := fun d => by simp [Op.equalIn, run_underlying hd]
  exact ⟨h1 9999, h2 9999⟩
theorem snd_bin (h : Sim E σ a w G) {op : BinOp} {t t' : TypeId} {x y : Operand} (ho : o.op = .binOp op t x y t') : Snd E.P σ (rdo x fun vx => rdo y fun vy => kBin E.P E.N o op t x y vx vy) (Good E o σ a w) :=
  .rdo h fun vx hx => .rdo h fun vy hy => by
    unfold kBin
    split
    · rename_i k z k' z'
      refine .need fun hk => ?_
      have ex := inv_c hx
      have ey := inv_c hy
      split
      · rename_i v hv
        refine snd_ret h (v := v) ?_ (.p (.c _))
        have hg : ∀ w, (eqGuard op t x y (.int k z) (.int k' z')).run E.P w = .ok () w := fun w => by cases op <;> simp [eqGuard]
        simp [execOp, ho, ex, ey, hg, run_intBin hk hv]
      · exact .fail
    · obtain ⟨v', ex, _⟩ := inv_ifc hx
      have ey := inv_c hy
      split
      · rename_i r hr
        refine .need fun ⟨hc, hs⟩ => ?_
        obtain ⟨d, hd⟩ := Option.isSome_iff_exists.1 hs
        obtain ⟨ms, rfl⟩ : ∃ ms, d = .interface ms := by cases d <;> simp [concreteT, hd] at hc; exact ⟨_, rfl⟩
        refine snd_ret h (v := .bool (!r)) ?_ (.p (.c _))
        have hq := fun z => run_eq_nil (w := w) t z v' hd
        cases op <;> simp [eqIface] at hr <;> subst hr <;> simp only [execOp, ho, ex, ey, eqGuard, binOp] <;> simp [(hq _).1, (hq _).2]
      · exact .fail
    · obtain ⟨v', ey, _⟩ := inv_ifc hy
      have ex := inv_c hx
      split
      · rename_i r hr
        refine .need fun ⟨hc, hs⟩ => ?_
        obtain ⟨d, hd⟩ := Option.isSome_iff_exists.1 hs
        obtain ⟨ms, rfl⟩ : ∃ ms, d = .interface ms := by cases d <;> simp [concreteT, hd] at hc; exact ⟨_, rfl⟩
        refine snd_ret h (v := .bool (!r)) ?_ (.p (.c _))
        have hq := fun z => run_eq_nil (w := w) t z v' hd
        cases op <;> simp [eqIface] at hr <;> subst hr <;> simp only [execOp, ho, ex, ey, eqGuard, binOp] <;> simp [(hq _).1, (hq _).2]
      · exact .fail
    · split
      · rename_i v1 v2 h1 h2
        refine .ex fun v hv => snd_ret h (v := v) ?_ (.p (.c _))
        rw [← inv_val hx h1, ← inv_val hy h2] at hv
        have := hv w
        simp only [execOp, ho, Sem.run_bind] at this ⊢
        rw [this]
        rfl
      · exact .fail
end
end Go.Proofs.Ytjabaenpkimmjaa

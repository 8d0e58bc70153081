/- K: boxes made and written, structs and slices built, sound. No program is in sight. -/
import Derived.Test.YtjabaenpkimmjaaKF
namespace Go.Proofs.Ytjabaenpkimmjaa
set_option linter.unusedSimpArgs false
set_option linter.unusedVariables false
open Go.RowKit

section
variable {E : Env} {o : Oper} {σ : AMap} {a : Act} {w : World} {G : Gh}

theorem seal_lt (h : Sim E σ a w G) {b o : Nat} {v : Value} (hz : G.Z b o = some v) : b < w.heap.size := World.block_lt_of_cell? w ⟨b, o, none⟩ (h.st.agree _ _ _ hz).1
theorem seal_new (h : Sim E σ a w G) (o : Nat) : G.Z w.heap.size o = none := by
  cases hz : G.Z w.heap.size o with
  | none => rfl
  | some v => exact absurd (seal_lt h hz) (Nat.lt_irrefl _)
theorem box_lt (h : Sim E σ a w G) {k g : Nat} (hg : G.γ k = some g) : g < w.heap.size := by
  exact (h.st.box k g hg).2.2.lt
theorem pr_new (h : Sim E σ a w G) {b : Nat} (hb : w.heap.size ≤ b) : ¬ E.Pr b := fun hp => by
  have := (h.fr.block b hp).1
  have := h.fr.size
  omega

/-- A new world in which a block has been made; nothing else. -/
theorem wstep_alloc (Pr : Nat → Prop) (w : World) (ob : Obj) : WStep Pr w (w.alloc ob) := ⟨rfl, rfl, rfl, by simp, fun b _ hb => heap_alloc_old w ob hb⟩
theorem wstep_drew (Pr : Nat → Prop) (w : World) : WStep Pr w w.drew := ⟨rfl, rfl, rfl, Nat.le_refl _, fun b _ hb => rfl⟩

/-- A new box of cells. -/
theorem FitsC.of_rel {B : Nat → AV} {c : Array Value} {cs : List AV} (hc : CRel G B c.toList cs) : CRel G B (c.toList.take cs.length) cs ∧ FitsC c cs := by
  have hl : c.size = cs.length := by have := hc.1; simpa using this
  exact ⟨by rw [List.take_of_length_le (by simp; omega)]; exact hc, by unfold FitsC; omega⟩
theorem Sim.newBoxV (h : Sim E σ a w G) {d : Nat} (hd : d < E.N ∧ d < 10000) (hk : mget σ (10000 + d) = .u) {c : Array Value} {cs : List AV} (ty : TypeId) (hc : CRel G (lm σ) (c.toList.take cs.length) cs) (hfc : FitsC c cs) (hty : isM ty = false) (x : AV) (v : Value)
    (hxv : ∀ (G' : Gh) (B' : Nat → AV), B' (10000 + d) = .bc cs ty → G'.γ (10000 + d) = some w.heap.size → VRel G' B' v x) :
    ∃ G', Sim E (mupd σ [(10000 + d, .bc cs ty), (d, x)]) (a.put (some d) v) (w.alloc (.cells c ty)) G' := by
  let G' : Gh := { Z := G.Z, γ := fun k => if k = 10000 + d then some w.heap.size else G.γ k, κ := G.κ, β := G.β }
  have hm : ∀ k, mget (mupd σ [(10000 + d, .bc cs ty), (d, x)]) k = if d = k then x else if 10000 + d = k then .bc cs ty else mget σ k := fun k => by
    simp only [mupd, mget_mset]
  have hbox : ∀ k, 10000 ≤ k → lm (mupd σ [(10000 + d, .bc cs ty), (d, x)]) k = if 10000 + d = k then .bc cs ty else lm σ k := lk_set (fun k hk _ => by rw [hm, if_neg (by omega)]) (by omega) (by rw [hk]; rfl) rfl
  have hk : lm σ (10000 + d) = .u := (lk_real (by omega)).trans hk
  have hs : BStep G (lm σ) G' (lm (mupd σ [(10000 + d, .bc cs ty), (d, x)])) := ⟨.refl _, fun k hk' => by
    by_cases e : k = 10000 + d
    · subst e; exact .u hk
    · have e1 : G'.γ k = G.γ k := if_neg e
      exact .same (by rw [hbox k hk', if_neg (fun h => e h.symm)]) e1 rfl rfl⟩
  refine ⟨G', h.put (dst := some d) (x := x) (fun _ e => by cases e; exact hd) hs ⟨fun b o v' hz => ?_, fun k g hg => ?_, fun k cs' ty' hk' hB => ?_, fun k k' g h1 h2 => ?_, h.st.gl⟩ (wstep_alloc _ _ _) (fun _ _ _ => rfl) ?_ fun t ht => ?_⟩
  · have := h.st.agree b o v' hz
    exact ⟨(World.cell?_alloc_lt w _ ⟨b, o, none⟩ (seal_lt h hz)).trans this.1, this.2⟩
  · by_cases e : k = 10000 + d
    · subst e
      have e2 : some w.heap.size = some g := (if_pos rfl).symm.trans hg
      cases e2
      refine ⟨by omega, pr_new h (Nat.le_refl _), .inl ⟨cs, ty, by rw [hbox _ (by omega), if_pos rfl], .inl ⟨hty, c, heap_alloc_new w _, hfc, fun o => seal_new h o, fun j hj => ?_⟩⟩⟩
      have := box_cell hc hj
      exact ⟨this.1.step hs, this.2⟩
    · have hg' : G.γ k = some g := (if_neg e).symm.trans hg
      obtain ⟨h1, h2, h3⟩ := h.st.box k g hg'
      exact ⟨h1, h2, h3.step hs (by rw [hbox k h1, if_neg (fun h => e h.symm)]) rfl rfl (heap_alloc_old w _ (box_lt h hg')) fun _ => rfl⟩
  · by_cases e : k = 10000 + d
    · exact ⟨w.heap.size, if_pos e⟩
    · rw [hbox k hk', if_neg (fun h => e h.symm)] at hB
      obtain ⟨g, hg⟩ := h.st.real k cs' ty' hk' hB
      exact ⟨g, (if_neg e).trans hg⟩
  · by_cases e : k = 10000 + d <;> by_cases e' : k' = 10000 + d
    · omega
    · have e1 : some w.heap.size = some g := (if_pos e).symm.trans h1
      have e2 : G.γ k' = some g := (if_neg e').symm.trans h2
      cases e1; exact absurd (box_lt h e2) (Nat.lt_irrefl _)
    · have e1 : some w.heap.size = some g := (if_pos e').symm.trans h2
      have e2 : G.γ k = some g := (if_neg e).symm.trans h1
      cases e1; exact absurd (box_lt h e2) (Nat.lt_irrefl _)
    · exact h.st.inj k k' g ((if_neg e).symm.trans h1) ((if_neg e').symm.trans h2)
  · exact hxv _ _ (by rw [hbox _ (by omega), if_pos rfl]) (if_pos rfl)
  · rw [hm]
    by_cases e : d = t
    · subst e; simp
    · rw [if_neg e, if_neg (by omega), if_neg (by simpa using fun e' => e e'.symm)]

/-- A new row of one's own, of these cells. -/
theorem Sim.newBlockRow (h : Sim E σ a w G) {d : Nat} (hd : d < E.N ∧ d < 10000) (hk : mget σ (10000 + d) = .u) {c : Array Value} {cs : List AV} {e sz n : Nat} (hc : CRel G (lm σ) c.toList cs) (hsz : sz = E.P.cellsOf e) (hl : cs.length = n * sz) :
    ∃ G', Sim E (mupd σ [(10000 + d, .br cs 0 e sz), (d, .ow (10000 + d) 0 n 0)]) (a.put (some d) (.slice (some ⟨w.heap.size, 0, none⟩) n n)) (w.alloc (.cells c e)) G' := by
  let G' : Gh := { Z := G.Z, γ := fun k => if k = 10000 + d then some w.heap.size else G.γ k, κ := fun k => if k = 10000 + d then cs.length else G.κ k, β := fun k => if k = 10000 + d then 0 else G.β k }
  have hcl : c.size = cs.length := by have := hc.1; simpa using this
  have hm : ∀ k, mget (mupd σ [(10000 + d, .br cs 0 e sz), (d, .ow (10000 + d) 0 n 0)]) k = if d = k then .ow (10000 + d) 0 n 0 else if 10000 + d = k then .br cs 0 e sz else mget σ k := fun k => by
    simp only [mupd, mget_mset]
  have hbox : ∀ k, 10000 ≤ k → lm (mupd σ [(10000 + d, .br cs 0 e sz), (d, .ow (10000 + d) 0 n 0)]) k = if 10000 + d = k then .br cs 0 e sz else lm σ k := lk_set (fun k hk _ => by rw [hm, if_neg (by omega)]) (by omega) (by rw [hk]; rfl) rfl
  have hk : lm σ (10000 + d) = .u := (lk_real (by omega)).trans hk
  have hs : BStep G (lm σ) G' (lm (mupd σ [(10000 + d, .br cs 0 e sz), (d, .ow (10000 + d) 0 n 0)])) := ⟨.refl _, fun k hk' => by
    by_cases e1 : k = 10000 + d
    · subst e1; exact .u hk
    · exact .same (by rw [hbox k hk', if_neg (fun h => e1 h.symm)]) (if_neg e1) (if_neg e1) (if_neg e1)⟩
  refine ⟨G', h.put (dst := some d) (x := .ow (10000 + d) 0 n 0) (fun _ e => by cases e; exact hd) hs ⟨fun b o v' hz => ?_, fun k g hg => ?_, fun k cs' ty' hk' hB => ?_, fun k k' g h1 h2 => ?_, h.st.gl⟩ (wstep_alloc _ _ _) (fun _ _ _ => rfl) ?_ fun t ht => ?_⟩
  · have := h.st.agree b o v' hz
    exact ⟨(World.cell?_alloc_lt w _ ⟨b, o, none⟩ (seal_lt h hz)).trans this.1, this.2⟩
  · by_cases e1 : k = 10000 + d
    · subst e1
      have e2 : some w.heap.size = some g := (if_pos rfl).symm.trans hg
      cases e2
      have hκ : G'.κ (10000 + d) = cs.length := if_pos rfl
      have hβ : G'.β (10000 + d) = 0 := if_pos rfl
      refine ⟨by omega, pr_new h (Nat.le_refl _), .inr (.inr ⟨cs, 0, e, sz, by rw [hbox _ (by omega), if_pos rfl], c, heap_alloc_new w _, by rw [hκ, hβ]; omega, hsz, by rw [hκ]; exact Nat.le_refl _, fun o => seal_new h o, fun j hj => ?_⟩)⟩
      rw [hβ, Nat.zero_add]
      have := hc.2 j hj
      have e3 : c.toList.getD j undef = c.getD j undef := by simp [Array.getD_eq_getD_getElem?]
      rw [e3] at this
      exact ⟨this.1.step hs, this.2⟩
    · have hg' : G.γ k = some g := (if_neg e1).symm.trans hg
      obtain ⟨h1, h2, h3⟩ := h.st.box k g hg'
      exact ⟨h1, h2, h3.step hs (by rw [hbox k h1, if_neg (fun h => e1 h.symm)]) (if_neg e1) (if_neg e1) (heap_alloc_old w _ (box_lt h hg')) fun _ => rfl⟩
  · rw [hbox k hk'] at hB
    by_cases e1 : 10000 + d = k
    · rw [if_pos e1] at hB; cases hB
    · rw [if_neg e1] at hB
      obtain ⟨g, hg⟩ := h.st.real k cs' ty' hk' hB
      exact ⟨g, (if_neg (fun h => e1 h.symm)).trans hg⟩
  · by_cases e1 : k = 10000 + d <;> by_cases e1' : k' = 10000 + d
    · omega
    · have q1 : some w.heap.size = some g := (if_pos e1).symm.trans h1
      have q2 : G.γ k' = some g := (if_neg e1').symm.trans h2
      cases q1; exact absurd (box_lt h q2) (Nat.lt_irrefl _)
    · have q1 : some w.heap.size = some g := (if_pos e1').symm.trans h2
      have q2 : G.γ k = some g := (if_neg e1).symm.trans h1
      cases q1; exact absurd (box_lt h q2) (Nat.lt_irrefl _)
    · exact h.st.inj k k' g ((if_neg e1).symm.trans h1) ((if_neg e1').symm.trans h2)
  · refine .ow _ n n (10000 + d) 0 0 cs 0 e sz (by omega) (by rw [hbox _ (by omega), if_pos rfl]) (Nat.le_refl _) (fun e => by cases e) (Nat.le_refl _) fun _ => ⟨fun hh => ?_, fun g hg => ?_⟩
    · have q : some w.heap.size = none := (if_pos rfl).symm.trans hh
      cases q
    · have q : some w.heap.size = some g := (if_pos rfl).symm.trans hg
      cases q
      have hκ : G'.κ (10000 + d) = cs.length := if_pos rfl
      have hβ : G'.β (10000 + d) = 0 := if_pos rfl
      exact ⟨by rw [hκ, Nat.zero_add, hl], .inr (by rw [hβ])⟩
  · rw [hm]
    by_cases e1 : d = t
    · subst e1; simp
    · rw [if_neg e1, if_neg (by omega), if_neg (by simpa using fun e' => e1 e'.symm)]
theorem Sim.newBox (h : Sim E σ a w G) {d : Nat} (hd : d < E.N ∧ d < 10000) (hk : mget σ (10000 + d) = .u) {c : Array Value} {cs : List AV} (ty : TypeId) (hc : CRel G (lm σ) c.toList cs) (hty : isM ty = false) :
    ∃ G', Sim E (mupd σ [(10000 + d, .bc cs ty), (d, .loc (10000 + d) 0)]) (a.put (some d) (.pointer (some ⟨w.heap.size, 0, none⟩))) (w.alloc (.cells c ty)) G' :=
  h.newBoxV hd hk ty (FitsC.of_rel hc).1 (FitsC.of_rel hc).2 hty _ _ fun G' B' hB hg => .loc (10000 + d) 0 w.heap.size cs ty (by omega) hB hg hty

theorem zero_of {P : Program} {t : TypeId} {z : List Value} (h : zeroOf P t = some z) : ∃ i v, P.info? t = some i ∧ i.zero = some v ∧ v.cells.toList = z := by
  unfold zeroOf at h
  cases hi : P.info? t with
  | none => simp [hi] at h
  | some i =>
    simp only [hi, Option.bind_some, Option.map_eq_some_iff] at h
    obtain ⟨v, h1, h2⟩ := h
    exact ⟨i, v, rfl, h1, h2⟩
theorem zero_rel {G : Gh} {B : Nat → AV} {z : List Value} (h1 : allOne (z.map ofV) = true) : CRel G B z (z.map ofV) := by
  refine ⟨by simp, fun j hj => ?_⟩
  have hj' : j < z.length := by simpa using hj
  have hr : VRel G B z[j] (ofV z[j]) := .p (ofV_rel _ _)
  have := allOne_mem h1 (ofV z[j]) (List.mem_map.2 ⟨z[j], by simp, rfl⟩)
  simpa [List.getD_eq_getElem?_getD, hj'] using And.intro hr (one_val hr this)
theorem snd_alloc (h : Sim E σ a w G) {t : TypeId} (ho : o.op = .alloc t) : Snd E.P σ (kAlloc E.P E.N o t) (Good E o σ a w) := by
  unfold kAlloc
  split
  · rename_i d z hd hz
    refine .need fun hdd => .rd ?_
    split
    · rename_i hk
      refine .need fun ⟨h1, hty⟩ => .done fun Q => ?_
      obtain ⟨i, v, hi, hiz, hv⟩ := zero_of hz
      have hdd' : d < E.N ∧ d < 10000 := by unfold dstOk at hdd; rw [hd] at hdd; exact hdd
      obtain ⟨G', hG⟩ := h.newBox hdd' hk (c := v.cells) t (by rw [hv]; exact zero_rel h1) hty
      unfold Oper.wp
      have : (execOp a.eval o).run E.P w = .ok (.value (.pointer (some ⟨w.heap.size, 0, none⟩))) (w.alloc (.cells v.cells t)) := by
        simp [execOp, ho, Instr.alloc, zeroValue, typeInfo, hi, hiz, newVar, newRow]
      rw [this, Oper.upon, hd]
      exact ⟨G', hG⟩
    · exact .fail
  · exact .fail
theorem snd_box (h : Sim E σ a w G) {t : TypeId} {x : Operand} (ho : o.op = .box t x) : Snd E.P σ (rdo x fun v => kBox E.N o t v) (Good E o σ a w) :=
  .rdo h fun v hv => by
    unfold kBox
    split
    · rename_i d hd
      refine .need fun hdd => .rd ?_
      split
      · rename_i hk
        refine .need fun ⟨h1, hty⟩ => .done fun Q => ?_
        have hdd' : d < E.N ∧ d < 10000 := by unfold dstOk at hdd; rw [hd] at hdd; exact hdd
        obtain ⟨G', hG⟩ := h.newBox hdd' hk (c := (a.eval x).cells) t (cells_rel hv h1) hty
        unfold Oper.wp
        have : (execOp a.eval o).run E.P w = .ok (.value (.pointer (some ⟨w.heap.size, 0, none⟩))) (w.alloc (.cells (a.eval x).cells t)) := by
          simp [execOp, ho, Instr.box, newVar, newRow]
        rw [this, Oper.upon, hd]
        exact ⟨G', hG⟩
      · exact .fail
    · exact .fail

/-- Cells of a box written. -/
theorem Sim.writeBox (h : Sim E σ a w G) {b g : Nat} {cs : List AV} {ty : TypeId} (hb : 10000 ≤ b) (hB : lm σ b = .bc cs ty) (hg : G.γ b = some g) {c : Array Value} {cs' : List AV} (hc : CRel G (lm σ) (c.toList.take cs'.length) cs') (hfc : FitsC c cs') (hty : isM ty = false)
    (hd : dstOk E.N o) : ∃ G', Sim E (mupd σ ((b, .bc cs' ty) :: outs o .u)) (a.put o.dst undef) (w.setRow g c) G' := by
  obtain ⟨c0, hc0, _, hz0, hpr, _⟩ := box_cells h hb hB hg hty
  have hm : ∀ k, mget (mupd σ ((b, .bc cs' ty) :: outs o .u)) k = if some k = o.dst then .u else if b = k then .bc cs' ty else mget σ k := fun k => by
    show mget (mupd (mset σ b _) (outs o .u)) k = _
    rw [mget_outs, mget_mset]
  have hbox : ∀ k, 10000 ≤ k → lm (mupd σ ((b, .bc cs' ty) :: outs o .u)) k = if b = k then .bc cs' ty else lm σ k := lk_set (fun k hk _ => by
    rw [hm, if_neg (fun e => by have h2 : k < 10000 := (dst_lt hd k e.symm).2; omega)]) (lk_bc hB).1 (by rw [(lk_bc hB).2]; rfl) rfl
  have hs : BStep G (lm σ) G (lm (mupd σ ((b, .bc cs' ty) :: outs o .u))) := ⟨.refl _, fun k hk => by
    rw [hbox k hk]
    by_cases e : b = k
    · subst e; rw [if_pos rfl]; exact .bc hB rfl rfl
    · rw [if_neg e]; exact .same rfl rfl rfl rfl⟩
  refine ⟨G, h.put (x := .u) (dst_lt hd) hs ⟨fun b' o' v hz => ?_, fun k g' hg' => ?_, fun k cs'' ty' hk hB' => ?_, h.st.inj, h.st.gl⟩ ⟨rfl, rfl, rfl, by simp [World.setRow], fun b' hb' _ => setRow_other w g b' _ (fun e => hpr (e ▸ hb'))⟩ (fun _ _ _ => rfl) (.p (.u _)) fun t ht => ?_⟩
  · have := h.st.agree b' o' v hz
    refine ⟨(World.cell?_of_block (a := ⟨b', o', none⟩) (setRow_other w g b' _ fun e => ?_)).trans this.1, this.2⟩
    subst e; rw [hz0] at hz; cases hz
  · obtain ⟨h1, h2, h3⟩ := h.st.box k g' hg'
    by_cases e : b = k
    · subst e
      rw [hg] at hg'; cases hg'
      refine ⟨h1, h2, .inl ⟨cs', ty, by rw [hbox _ h1, if_pos rfl], .inl ⟨hty, c, setRow_heap w g c0 _ ty _ hc0, hfc, hz0, fun j hj => ?_⟩⟩⟩
      have := box_cell hc hj
      exact ⟨this.1.step hs, this.2⟩
    · exact ⟨h1, h2, h3.step hs (by rw [hbox k h1, if_neg e]) rfl rfl (setRow_other w g g' _ fun e' => e (h.st.inj b k g hg (e' ▸ hg'))) fun _ => rfl⟩
  · rw [hbox k hk] at hB'
    by_cases e : b = k
    · subst e; exact ⟨g, hg⟩
    · rw [if_neg e] at hB'; exact h.st.real k cs'' ty' hk hB'
  · rw [hm]
    by_cases e : some t = o.dst
    · rw [if_pos e, if_pos e]
    · rw [if_neg e, if_neg e, if_neg (by omega)]
/-- Cells of a row of one's own written: it keeps its version. -/
theorem Sim.writeRow (h : Sim E σ a w G) {b g : Nat} {cs : List AV} {v : Nat} {e : TypeId} {sz : Nat} {wr : List AV → Nat → Nat × AV} (hb : 10000 ≤ b) (hB : lm σ b = .br cs v e sz) (hwr : RowWr σ b e sz wr) (hg : G.γ b = some g) {c : Array Value} {cs' : List AV} (hsz : c.size = G.β b + G.κ b) (hl : cs'.length ≤ G.κ b)
    (hc : ∀ j (h : j < cs'.length), VRel G (lm σ) (c.getD (G.β b + j) undef) cs'[j] ∧ (c.getD (G.β b + j) undef).oneCell' = true)
    (hd : dstOk E.N o) : ∃ G', Sim E (mupd σ (wr cs' v :: outs o .u)) (a.put o.dst undef) (w.setRow g c) G' := by
  obtain ⟨⟨c0, hc0, _, hce, _, hz0, _⟩, hpr⟩ := row_cells h hB hg
  obtain ⟨hm, hnew, hoth⟩ := hwr cs' v (outs o .u) (fun p hp => by
    unfold outs at hp
    cases hdst : o.dst with
    | none => rw [hdst] at hp; simp at hp
    | some d => rw [hdst] at hp; simp at hp; subst hp; exact (dst_lt hd d hdst).2)
  generalize mupd σ (wr cs' v :: outs o .u) = σ' at *
  have hs : BStep G (lm σ) G (lm σ') := ⟨.refl _, fun k hk => by
    by_cases e1 : k = b
    · subst e1; exact .br hB hnew (.inr ⟨rfl, rfl, rfl, rfl⟩)
    · rcases hoth k hk e1 with e2 | ⟨e2, _⟩
      · exact .same e2 rfl rfl rfl
      · exact .fo e2⟩
  refine ⟨G, h.put (x := .u) (dst_lt hd) hs ⟨fun b' o' v' hz => ?_, fun k g' hg' => ?_, fun k cs'' ty' hk hB' => ?_, h.st.inj, h.st.gl⟩ ⟨rfl, rfl, rfl, by simp [World.setRow], fun b' hb' _ => setRow_other w g b' _ (fun e => hpr (e ▸ hb'))⟩ (fun _ _ _ => rfl) (.p (.u _)) fun t ht => ?_⟩
  · have := h.st.agree b' o' v' hz
    refine ⟨(World.cell?_of_block (a := ⟨b', o', none⟩) (setRow_other w g b' _ fun e => ?_)).trans this.1, this.2⟩
    subst e; rw [hz0] at hz; cases hz
  · obtain ⟨h1, h2, h3⟩ := h.st.box k g' hg'
    by_cases e1 : k = b
    · subst e1
      rw [hg] at hg'; cases hg'
      refine ⟨h1, h2, .inr (.inr ⟨cs', v, e, sz, hnew, c, setRow_heap w g c0 _ e _ hc0, hsz, hce, hl, hz0, fun j hj => ⟨(hc j hj).1.step hs, (hc j hj).2⟩⟩)⟩
    · rcases hoth k h1 e1 with e2 | ⟨e2, _⟩
      · exact ⟨h1, h2, h3.step hs e2 rfl rfl (setRow_other w g g' _ fun e' => e1 (h.st.inj k b g (e' ▸ hg') hg)) fun _ => rfl⟩
      · exact (h3.not_fo e2).elim
  · by_cases e1 : k = b
    · subst e1; rw [hnew] at hB'; cases hB'
    · rcases hoth k hk e1 with e2 | ⟨_, e2⟩
      · rw [e2] at hB'; exact h.st.real k cs'' ty' hk hB'
      · rw [hB'] at e2; cases e2
  · rw [hm t ht, mget_outs]
theorem take_put {α : Type} (L V : List α) {off n : Nat} (h : off + V.length ≤ n) (hn : n ≤ L.length) : (L.take off ++ V ++ L.drop (off + V.length)).take n = (L.take n).take off ++ V ++ (L.take n).drop (off + V.length) := by
  apply List.ext_getElem?
  intro i
  simp only [List.getElem?_take, List.getElem?_append, List.length_append, List.length_take, List.getElem?_drop]
  by_cases h1 : i < off
  · simp [h1, show i < n by omega, show i < min off L.length by omega, show i < min off L.length + V.length by omega, show min off (min n L.length) = off by omega, show i < off + V.length by omega]
  · by_cases h2 : i < off + V.length
    · simp [show i < n by omega, show ¬ i < min off L.length by omega, show i < min off L.length + V.length by omega, show min off (min n L.length) = off by omega, h2, show min off L.length = off by omega, h1]
    · by_cases h3 : i < n
      · simp [h3, show ¬ i < min off L.length + V.length by omega, show min off (min n L.length) = off by omega, h2, show min off L.length = off by omega, show off + V.length + (i - (off + V.length)) < n by omega]
      · simp [h3, show min off (min n L.length) = off by omega, h2, show ¬ (off + V.length + (i - (off + V.length)) < n) by omega]
theorem FitsC.put {c : Array Value} {cs xs : List AV} (h : FitsC c cs) {G : Gh} {B : Nat → AV} {us : List Value} (hu : CRel G B us xs) {off : Nat} (hle : off + us.length ≤ cs.length) : FitsC (c.toList.take off ++ us ++ c.toList.drop (off + us.length)).toArray (putAt cs off xs) := by
  have h0 : cs.length ≤ c.size := h
  have hux := hu.1
  unfold FitsC
  rw [putAt_length (by omega)]; simp; omega
theorem snd_store (h : Sim E σ a w G) {t : TypeId} {p x : Operand} (ho : o.op = .store t p x) : Snd E.P σ (rdo p fun b => rdo x fun v => kStore E.P E.N o t b v) (Good E o σ a w) :=
  .rdo h fun pv hp => .rdo h fun v hv => by
    unfold kStore
    split
    · rename_i b off
      refine .rd ?_
      split
      · rename_i cs ty hB
        refine .need fun ⟨h1, h2, h3, hd⟩ => .done fun Q => ?_
        obtain ⟨g, _, ty2, e, hb, hB2, hg, hm⟩ := inv_loc hp
        have hB3 := (lk_bc hB2).2
        rw [hB] at hB3; cases hB3
        have hB := hB2
        obtain ⟨c0, hc0, hr0, _, _, hf0⟩ := box_cells h hb hB hg hm
        have hr := cells_rel hv h3
        have hlen := hr.1
        have hlen0 : cs.length ≤ c0.size := hf0
        have hst := run_storeCells_at E.P g off ty (a.eval x).cells.toList 0 c0 w hc0 (by simp at hlen hlen0 ⊢; omega) (fun u hu => by
          obtain ⟨j, hj, rfl⟩ := List.getElem_of_mem hu
          have := (hr.2 j (by omega)).2
          rw [List.getD_eq_getElem?_getD, List.getElem?_eq_getElem hj] at this
          exact this)
        obtain ⟨G', hG⟩ := h.writeBox (o := o) (c := (c0.toList.take off ++ (a.eval x).cells.toList ++ c0.toList.drop (off + (a.eval x).cells.toList.length)).toArray) hb hB hg (by
          have hp := hr0.putAt hr off
          rw [putAt_length h2]
          rw [← take_put _ _ (by omega) (by simpa using hlen0)] at hp
          exact hp) (hf0.put hr (by omega)) hm hd
        unfold Oper.wp
        have hs := run_szOf (P := E.P) (w := w) h1
        have : (execOp a.eval o).run E.P w = .ok .skip (w.setRow g (c0.toList.take off ++ (a.eval x).cells.toList ++ c0.toList.drop (off + (a.eval x).cells.toList.length)).toArray) := by
          simp only [Nat.add_zero] at hst
          have hsz : (a.eval x).cells.size = (cellsOfA v).length := by simpa using hlen
          simp [execOp, ho, e, Instr.storeAt, Instr.sureAddr, storeVar, hs, hsz, hst]
        rw [this]
        exact ⟨G', hG⟩
      · exact .fail
    · rename_i b off vn
      obtain ⟨g, o', cs, v', e', sz, e, hb, hB, hvv, hk⟩ := inv_lo hp
      refine .rdRow hb fun cs2 v2 e2 sz2 wr hB2 hwr => ?_
      · rw [hB] at hB2; cases hB2
        refine .need fun ⟨h0, h1, h2, h3, hd⟩ => .done fun Q => ?_
        obtain ⟨hg, rfl⟩ := hk h0
        obtain ⟨⟨c0, hc0, hsz0, hce, hle0, hz0, hr0⟩, _⟩ := row_cells h hB hg
        have hr := cells_rel hv h3
        have hlen := hr.1
        have hone : ∀ u ∈ (a.eval x).cells.toList, u.oneCell' = true := fun u hu => by
          obtain ⟨j, hj, rfl⟩ := List.getElem_of_mem hu
          have := (hr.2 j (by omega)).2
          rw [List.getD_eq_getElem?_getD, List.getElem?_eq_getElem hj] at this
          exact this
        have hst := run_storeCells_at E.P g (G.β b + off) e' (a.eval x).cells.toList 0 c0 w hc0 (by simp at hlen ⊢; omega) hone
        obtain ⟨G', hG⟩ := h.writeRow (o := o) (c := (c0.toList.take (G.β b + off) ++ (a.eval x).cells.toList ++ c0.toList.drop (G.β b + off + (a.eval x).cells.toList.length)).toArray) (cs' := putAt cs off (cellsOfA v)) hb hB hwr hg (by
            have e1 : c0.toList.length = c0.size := Array.length_toList ..
            simp only [List.size_toArray, List.length_append, List.length_take, List.length_drop]; omega) (by rw [putAt_length h2]; exact hle0) (fun j hj => by
          rw [putAt_length h2] at hj
          have e1 : c0.toList.length = c0.size := Array.length_toList ..
          have key : (c0.toList.take (G.β b + off) ++ (a.eval x).cells.toList ++ c0.toList.drop (G.β b + off + (a.eval x).cells.toList.length)).toArray.getD (G.β b + j) undef =
              if j < off then c0.getD (G.β b + j) undef else if j < off + (cellsOfA v).length then (a.eval x).cells.toList.getD (j - off) undef else c0.getD (G.β b + j) undef := by
            simp only [Array.getD_eq_getD_getElem?, List.getElem?_toArray, List.getElem?_append, List.length_append, List.length_take, List.getElem?_take, List.getElem?_drop, List.getD_eq_getElem?_getD]
            by_cases q1 : j < off
            · simp only [q1, if_true, show G.β b + j < min (G.β b + off) c0.toList.length + (a.eval x).cells.toList.length by omega, show G.β b + j < min (G.β b + off) c0.toList.length by omega, show G.β b + j < G.β b + off by omega]
              simp
            · by_cases q2 : j < off + (cellsOfA v).length
              · simp only [q1, q2, if_true, if_false, show G.β b + j < min (G.β b + off) c0.toList.length + (a.eval x).cells.toList.length by omega, show ¬ G.β b + j < min (G.β b + off) c0.toList.length by omega, show G.β b + j - min (G.β b + off) c0.toList.length = j - off by omega]
              · simp only [q1, q2, if_false, show ¬ G.β b + j < min (G.β b + off) c0.toList.length + (a.eval x).cells.toList.length by omega, show G.β b + off + (a.eval x).cells.toList.length + (G.β b + j - (min (G.β b + off) c0.toList.length + (a.eval x).cells.toList.length)) = G.β b + j by omega]
                simp
          rw [key]
          have hj2 : j < (putAt cs off (cellsOfA v)).length := by rw [putAt_length h2]; exact hj
          have key2 : (putAt cs off (cellsOfA v))[j] = if q1 : j < off then cs[j] else if q2 : j < off + (cellsOfA v).length then (cellsOfA v)[j - off]'(by omega) else cs[j] := by
            have e3 : (putAt cs off (cellsOfA v))[j]? = some (putAt cs off (cellsOfA v))[j] := List.getElem?_eq_getElem hj2
            have e4 : (putAt cs off (cellsOfA v))[j]? = some (if q1 : j < off then cs[j] else if q2 : j < off + (cellsOfA v).length then (cellsOfA v)[j - off]'(by omega) else cs[j]) := by
              unfold putAt
              simp only [List.getElem?_append, List.length_append, List.length_take, List.getElem?_take, List.getElem?_drop]
              by_cases q1 : j < off
              · simp [q1, show j < min off cs.length + (cellsOfA v).length by omega, show j < min off cs.length by omega, hj]
              · by_cases q2 : j < off + (cellsOfA v).length
                · have q3 : j - off < (cellsOfA v).length := by omega
                  simp only [q1, q2, dif_pos, dif_neg, if_true, if_false, not_false_iff, show j < min off cs.length + (cellsOfA v).length by omega, show ¬ j < min off cs.length by omega, show j - min off cs.length = j - off by omega]
                  simp [q3]
                · simp only [q1, q2, dif_neg, if_false, not_false_iff, show ¬ j < min off cs.length + (cellsOfA v).length by omega, show off + (cellsOfA v).length + (j - (min off cs.length + (cellsOfA v).length)) = j by omega]
                  simp [hj]
            rw [e3] at e4; exact Option.some.inj e4
          rw [key2]
          by_cases q1 : j < off
          · rw [if_pos q1, dif_pos q1]; exact hr0 j hj
          · rw [if_neg q1, dif_neg q1]
            by_cases q2 : j < off + (cellsOfA v).length
            · rw [if_pos q2, dif_pos q2]; exact hr.2 (j - off) (by omega)
            · rw [if_neg q2, dif_neg q2]; exact hr0 j hj) hd
        unfold Oper.wp
        have hs := run_szOf (P := E.P) (w := w) h1
        have : (execOp a.eval o).run E.P w = .ok .skip (w.setRow g (c0.toList.take (G.β b + off) ++ (a.eval x).cells.toList ++ c0.toList.drop (G.β b + off + (a.eval x).cells.toList.length)).toArray) := by
          simp only [Nat.add_zero] at hst
          have hsz : (a.eval x).cells.size = (cellsOfA v).length := by simpa using hlen
          simp [execOp, ho, e, Instr.storeAt, Instr.sureAddr, storeVar, hs, hsz, hst]
        rw [this]
        exact ⟨G', hG⟩
    · exact .fail
end
end Go.Proofs.Ytjabaenpkimmjaa

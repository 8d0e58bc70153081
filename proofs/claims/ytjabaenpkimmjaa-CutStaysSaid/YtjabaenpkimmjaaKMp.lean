/- K: maps of the call's own, sound. No program is in sight. -/
import Derived.Test.YtjabaenpkimmjaaKG
namespace Go.Proofs.Ytjabaenpkimmjaa
set_option linter.unusedSimpArgs false
set_option linter.unusedVariables false
open Go.RowKit Go.MapKept
theorem map_mapOfT {P : Program} {t e : TypeId} {q : IntKind} (h : mapOfT P t = some (q, e)) : ∃ k, P.underlying t = some (.map k e) ∧ P.underlying k = some (.int q) := by
  unfold mapOfT at h
  cases hu : P.underlying t with
  | none => simp [hu] at h
  | some d =>
    cases d <;> simp [hu] at h
    rename_i k e'
    obtain ⟨q0, h1, rfl, rfl⟩ := h
    exact ⟨k, rfl, und_int h1⟩
theorem keys_of {q : IntKind} : ∀ {l : List MapEntry}, keysOk q (l.flatMap fun e => [.c e.key, .c e.val]) = true → ∀ x ∈ l, ∃ n, x.key = .int q n
  | [], _ => by simp
  | e :: r, h => by
    simp only [List.flatMap_cons, List.cons_append, List.nil_append] at h
    cases hk : e.key with
    | int q' n =>
      simp only [hk, keysOk, Bool.and_eq_true, decide_eq_true_eq] at h
      intro x hx
      rcases List.mem_cons.1 hx with rfl | hx
      · exact ⟨n, by rw [hk, h.1]⟩
      · exact keys_of h.2 x hx
    | _ => simp [hk, keysOk] at h
theorem look_spec {q : IntKind} {n : Int} : ∀ {l : List MapEntry}, (∀ x ∈ l, ∃ n, x.key = .int q n) →
    (mlook n (l.flatMap fun e => [.c e.key, .c e.val]) = none ∧ (∀ v, mputC q n (.c v) (l.flatMap fun e => [.c e.key, .c e.val]) = (l.flatMap fun e => [.c e.key, .c e.val]) ++ [.c (.int q n), .c v]) ∧ ∀ x ∈ l, x.key ≠ .int q n) ∨
    ∃ j e, l[j]? = some e ∧ e.key = .int q n ∧ mlook n (l.flatMap fun e => [.c e.key, .c e.val]) = some (.c e.val) ∧
      ∀ v, mputC q n (.c v) (l.flatMap fun e => [.c e.key, .c e.val]) = (l.set j { e with key := .int q n, val := v }).flatMap fun e => [.c e.key, .c e.val]
  | [], _ => .inl ⟨rfl, fun _ => rfl, by simp⟩
  | e :: r, h => by
    obtain ⟨k, hk⟩ := h e (by simp)
    simp only [List.flatMap_cons, List.cons_append, List.nil_append, hk, mlook, mputC]
    by_cases hkn : k = n
    · subst hkn
      refine .inr ⟨0, e, rfl, hk, by simp, fun v => ?_⟩
      simp
    · rcases look_spec (n := n) (l := r) (fun x hx => h x (by simp [hx])) with ⟨h1, h2, h3⟩ | ⟨j, e', h1, h2, h3, h4⟩
      · refine .inl ⟨by simp [hkn, h1], fun v => by simp [hkn, h2], fun x hx => ?_⟩
        rcases List.mem_cons.1 hx with rfl | hx
        · rw [hk]; simp [hkn]
        · exact h3 x hx
      · refine .inr ⟨j + 1, e', by simpa using h1, h2, by simp [hkn, h3], fun v => ?_⟩
        simp [hkn, h4, hk]
section
variable {E : Env} {o : Oper} {σ : AMap} {a : Act} {w : World} {G : Gh}
theorem box_map (h : Sim E σ a w G) {b : Nat} {cs : List AV} {ty : TypeId} (hb : 10000 ≤ b) (hB : lm σ b = .bc cs ty) {g : Nat} (hg : G.γ b = some g) (hm : isM ty = true) : MapAt G w g cs ∧ ¬ E.Pr g := by
  obtain ⟨_, hpr, h1⟩ := h.st.box b g hg
  rcases h1 with ⟨cs', ty', e, ⟨hm', _⟩ | ⟨_, h2⟩⟩ | ⟨n, e, h2, _⟩ | ⟨_, _, _, _, h2, _⟩
  · rw [hB] at e; cases e; rw [hm] at hm'; cases hm'
  · rw [hB] at e; cases e; exact ⟨h2, hpr⟩
  · rw [hB] at h2; cases h2
  · rw [hB] at h2; cases h2
theorem found_look (h : Sim E σ a w G) {P : Program} {t e : TypeId} {q : IntKind} {n : Int} {cs : List AV} {g : Nat} (hP : E.P = P) (hma : MapAt G w g cs) (hk : keysOk q cs = true) (ht : mapOfT P t = some (q, e)) {z : Value} (hz : zeroVal P e = some z) (ok : Bool) :
    ∃ v, (Instr.lookup t (.map (some g)) (.int q n) ok).run P w = .ok v w ∧ VRel G (lm σ) v (foundA ok z (mlook n cs)) := by
  obtain ⟨k, h1, h2⟩ := map_mapOfT ht
  obtain ⟨es, clock, h3, h4, rfl, h5⟩ := hma
  have hks := keys_of hk
  have hck : ∀ em, (Instr.checkKey em 10000 k (.int q n)).run P w = .ok () w := fun em => run_checkKey h2 (by simp [IsKey]) em 9999
  have hzv : (zeroValue e).run P w = .ok z w := by
    unfold zeroVal at hz
    obtain ⟨i, hi, hiz⟩ := Option.bind_eq_some_iff.1 hz
    simp [zeroValue, typeInfo, hi, hiz]
  have hf := findNow_spec (d := .int q) (k := .int q n) (by simp [IsKey]) es.toList 0 fun x hx => by obtain ⟨m, hm⟩ := hks x hx; rw [hm]; simp [IsKey]
  rcases look_spec (n := n) hks with ⟨l1, _, l3⟩ | ⟨j, e0, l1, l2, l3, _⟩
  · rcases hf with ⟨f1, f2⟩ | ⟨j, e1, f1, f2, f3⟩
    · have hr := run_findKey (w := w) h2 f1
      refine ⟨if ok then .tuple #[z, .bool false] else z, ?_, ?_⟩
      · simp [Instr.lookup, run_underlying h1, MapKept.run_getObj_map h3, hck, hr, hzv]
      · unfold mapCells; rw [l1]
        cases ok
        · exact .p (.c _)
        · refine .tup #[z, .bool false] _ rfl fun j hj => ?_
          match j, hj with
          | 0, _ => exact .p (.c _)
          | 1, _ => exact .p (.c _)
    · exact absurd f3 (l3 e1 (List.mem_of_getElem? f2))
  · rcases hf with ⟨f1, f2⟩ | ⟨j', e1, f1, f2, f3⟩
    · exact absurd l2 (f2 e0 (List.mem_of_getElem? l1))
    · have hr := run_findKey (w := w) h2 f1
      have hjj : e1 = e0 := by
        have hnd := h5.2.2
        obtain ⟨a1, a2⟩ := List.getElem?_eq_some_iff.1 l1
        obtain ⟨b1, b2⟩ := List.getElem?_eq_some_iff.1 f2
        have hj : j' = j := by
          have := (List.nodup_iff_pairwise_ne.1 hnd)
          rw [List.pairwise_iff_getElem] at this
          rcases Nat.lt_trichotomy j' j with hlt | he | hlt
          · exact (this j' j (by rw [List.length_map]; exact b1) (by rw [List.length_map]; exact a1) hlt (by rw [List.getElem_map, List.getElem_map, a2, b2, l2, f3])).elim
          · exact he
          · exact (this j j' (by rw [List.length_map]; exact a1) (by rw [List.length_map]; exact b1) hlt (by rw [List.getElem_map, List.getElem_map, a2, b2, l2, f3])).elim
        subst hj
        rw [a2] at b2; exact b2.symm
      subst hjj
      refine ⟨if ok then .tuple #[e1.val, .bool true] else e1.val, ?_, ?_⟩
      · simp [Instr.lookup, run_underlying h1, MapKept.run_getObj_map h3, hck, hr]
      · unfold mapCells; rw [l3]
        cases ok
        · exact .p (.c _)
        · refine .tup #[e1.val, .bool true] _ rfl fun j hj => ?_
          match j, hj with
          | 0, _ => exact .p (.c _)
          | 1, _ => exact .p (.c _)
theorem snd_lookup (h : Sim E σ a w G) {t : TypeId} {m k : Operand} {ok : Bool} (ho : o.op = .lookup t m k ok) : Snd E.P σ (rdo m fun a => rdo k fun b => kLookup E.P E.N o t a b ok) (Good E o σ a w) :=
  .rdo h fun vm hm => .rdo h fun vk hk => by
    unfold kLookup
    split
    · rename_i b q n q' e ht
      split
      · rename_i z hz
        refine .rd ?_
        split
        · rename_i cs ty hB
          refine .need fun ⟨hq, hko⟩ => ?_
          subst hq
          obtain ⟨g, cs', ty', ev, hb, hB', hg, hmt⟩ := inv_mp hm
          have hB3 := (lk_bc hB').2
          rw [hB] at hB3; cases hB3
          have hB := hB'
          have ek := inv_c hk
          obtain ⟨v, hr, hv⟩ := found_look (n := n) h rfl (box_map h hb hB hg hmt).1 hko ht hz ok
          exact snd_ret h (v := v) (by simp only [execOp, ho, ev, ek, Sem.run_bind, hr]; rfl) hv
        · exact .fail
      · exact .fail
    · exact .fail
/-- A map's block written. -/
theorem Sim.writeMap (h : Sim E σ a w G) {b g : Nat} {cs : List AV} {ty : TypeId} (hb : 10000 ≤ b) (hB : lm σ b = .bc cs ty) (hg : G.γ b = some g) (hty : isM ty = true) {es : Array MapEntry} {clock : Nat} {cs' : List AV} (hcs : cs' = mapCells es) (hst : Stamped es clock)
    (hd : dstOk E.N o) : ∃ G', Sim E (mupd σ ((b, .bc cs' ty) :: outs o .u)) (a.put o.dst undef) { w with heap := w.heap.setIfInBounds g (.map es clock) } G' := by
  obtain ⟨⟨es0, clk0, hc0, hz0, _, _⟩, hpr⟩ := box_map h hb hB hg hty
  have hgl : g < w.heap.size := (Array.getElem?_eq_some_iff.1 hc0).1
  have hsame : ({ w with heap := w.heap.setIfInBounds g (.map es clock) } : World).heap[g]? = some (.map es clock) := by simp [Array.getElem?_setIfInBounds, hgl]
  have hoth : ∀ i, i ≠ g → ({ w with heap := w.heap.setIfInBounds g (.map es clock) } : World).heap[i]? = w.heap[i]? := fun i hi => by simp [Array.getElem?_setIfInBounds, Ne.symm hi]
  have hsz : ({ w with heap := w.heap.setIfInBounds g (.map es clock) } : World).heap.size = w.heap.size := by simp
  have hos : ({ w with heap := w.heap.setIfInBounds g (.map es clock) } : World).os = w.os ∧ ({ w with heap := w.heap.setIfInBounds g (.map es clock) } : World).tape = w.tape ∧ ({ w with heap := w.heap.setIfInBounds g (.map es clock) } : World).output = w.output := ⟨rfl, rfl, rfl⟩
  generalize ({ w with heap := w.heap.setIfInBounds g (.map es clock) } : World) = w' at *
  have hm : ∀ k, mget (mupd σ ((b, .bc cs' ty) :: outs o .u)) k = if some k = o.dst then .u else if b = k then .bc cs' ty else mget σ k := fun k => by
    show mget (mupd (mset σ b _) (outs o .u)) k = _
    rw [mget_outs, mget_mset]
  have hbox : ∀ k, 10000 ≤ k → lm (mupd σ ((b, .bc cs' ty) :: outs o .u)) k = if b = k then .bc cs' ty else lm σ k := lk_set (fun k hk _ => by
    rw [hm, if_neg (fun e => by have h2 : k < 10000 := (dst_lt hd k e.symm).2; omega)]) (lk_bc hB).1 (by rw [(lk_bc hB).2]; rfl) rfl
  have hs : BStep G (lm σ) G (lm (mupd σ ((b, .bc cs' ty) :: outs o .u))) := ⟨.refl _, fun k hk => by
    rw [hbox k hk]
    by_cases e : b = k
    · subst e; rw [if_pos rfl]; exact .bc hB rfl rfl
    · rw [if_neg e]; exact .same rfl rfl rfl rfl⟩
  refine ⟨G, h.put (x := .u) (dst_lt hd) hs ⟨fun b' o' v hz => ?_, fun k g' hg' => ?_, fun k cs'' ty' hk hB' => ?_, h.st.inj, h.st.gl⟩ ⟨hos.1, hos.2.1, hos.2.2, by omega, fun b' hb' _ => hoth b' (fun e => hpr (e ▸ hb'))⟩ (fun _ _ _ => rfl) (.p (.u _)) fun t ht => ?_⟩
  · have := h.st.agree b' o' v hz
    refine ⟨(World.cell?_of_block (a := ⟨b', o', none⟩) (hoth b' fun e => ?_)).trans this.1, this.2⟩
    subst e; rw [hz0] at hz; cases hz
  · obtain ⟨h1, h2, h3⟩ := h.st.box k g' hg'
    by_cases e : b = k
    · subst e
      rw [hg] at hg'; cases hg'
      exact ⟨h1, h2, .inl ⟨cs', ty, by rw [hbox _ h1, if_pos rfl], .inr ⟨hty, es, clock, hsame, hz0, hcs, hst⟩⟩⟩
    · exact ⟨h1, h2, h3.step hs (by rw [hbox k h1, if_neg e]) rfl rfl (hoth g' fun e' => e (h.st.inj b k g hg (e' ▸ hg'))) fun _ => rfl⟩
  · rw [hbox k hk] at hB'
    by_cases e : b = k
    · subst e; exact ⟨g, hg⟩
    · rw [if_neg e] at hB'; exact h.st.real k cs'' ty' hk hB'
  · rw [hm]
    by_cases e : some t = o.dst
    · rw [if_pos e, if_pos e]
    · rw [if_neg e, if_neg e, if_neg (by omega)]
theorem snd_mapUpd (h : Sim E σ a w G) {t : TypeId} {m k x : Operand} (ho : o.op = .mapUpdate t m k x ∨ o.op = .insert t m k x) : Snd E.P σ (rdo m fun a => rdo k fun b => rdo x fun c => kMapUpd E.P E.N o t a b c) (Good E o σ a w) :=
  .rdo h fun vm hm => .rdo h fun vk hk => .rdo h fun vx hx => by
    unfold kMapUpd
    split
    · rename_i b q n v q' e ht
      refine .rd ?_
      split
      · rename_i cs ty hB
        refine .need fun ⟨hq, hko, hd⟩ => .done fun Q => ?_
        subst hq
        obtain ⟨g, cs', ty', ev, hb, hB', hg, hmt⟩ := inv_mp hm
        have hB3 := (lk_bc hB').2
        rw [hB] at hB3; cases hB3
        have hB := hB'
        have ek := inv_c hk
        have ex := inv_c hx
        obtain ⟨kt, h1, h2⟩ := map_mapOfT ht
        obtain ⟨⟨es, clock, h3, h4, hcs, h5⟩, hpr⟩ := box_map h hb hB hg hmt
        subst hcs
        have hks := keys_of hko
        have hck : ∀ em, (Instr.checkKey em 10000 kt (.int q n)).run E.P w = .ok () w := fun em => run_checkKey h2 (by simp [IsKey]) em 9999
        have hf := findNow_spec (d := .int q) (k := .int q n) (by simp [IsKey]) es.toList 0 fun x hx => by obtain ⟨m, hm⟩ := hks x hx; rw [hm]; simp [IsKey]
        rcases look_spec (n := n) hks with ⟨l1, l2, l3⟩ | ⟨j, e0, l1, l2, l3, l4⟩
        · rcases hf with ⟨f1, f2⟩ | ⟨j, e1, f1, f2, f3⟩
          · have hr := run_findKey (w := w) h2 f1
            obtain ⟨G', hG⟩ := h.writeMap (o := o) (es := es.push { key := .int q n, val := v, born := clock }) (clock := clock + 1) (cs' := mputC q n (.c v) (mapCells es)) hb hB hg hmt (by unfold mapCells; rw [l2]; simp) (stamped_push h5 l3) hd
            unfold Oper.wp
            have : (execOp a.eval o).run E.P w = .ok .skip { w with heap := w.heap.setIfInBounds g (.map (es.push { key := .int q n, val := v, born := clock }) (clock + 1)) } := by
              rcases ho with ho | ho <;> simp [execOp, ho, ev, ek, ex, Instr.mapUpdate, run_underlying h1, MapKept.run_getObj_map h3, hck, hr, MapKept.run_setObj_map _ h3]
            rw [this]
            exact ⟨G', hG⟩
          · exact absurd f3 (l3 e1 (List.mem_of_getElem? f2))
        · rcases hf with ⟨f1, f2⟩ | ⟨j', e1, f1, f2, f3⟩
          · exact absurd l2 (f2 e0 (List.mem_of_getElem? l1))
          · have hr := run_findKey (w := w) h2 f1
            obtain ⟨a1, a2⟩ := List.getElem?_eq_some_iff.1 l1
            obtain ⟨b1, b2⟩ := List.getElem?_eq_some_iff.1 f2
            have hj : j' = j := by
              have := (List.nodup_iff_pairwise_ne.1 h5.2.2)
              rw [List.pairwise_iff_getElem] at this
              rcases Nat.lt_trichotomy j' j with hlt | he | hlt
              · exact (this j' j (by rw [List.length_map]; exact b1) (by rw [List.length_map]; exact a1) hlt (by rw [List.getElem_map, List.getElem_map, a2, b2, l2, f3])).elim
              · exact he
              · exact (this j j' (by rw [List.length_map]; exact a1) (by rw [List.length_map]; exact b1) hlt (by rw [List.getElem_map, List.getElem_map, a2, b2, l2, f3])).elim
            subst hj
            have hjj : e1 = e0 := by rw [a2] at b2; exact b2.symm
            subst hjj
            have hje : es[j']? = some e1 := by simpa using f2
            have hsk := run_keyThatStays (P := E.P) (w := w) (d := .int q) (k := .int q n) (by simp [IsKey])
            have hlist : (es.modify j' (fun e' => { e' with key := .int q n, val := v })).toList = es.toList.set j' { e1 with key := .int q n, val := v } := by
              rw [Array.toList_modify]
              apply List.ext_getElem?
              intro i
              rw [List.getElem?_modify, List.getElem?_set]
              by_cases hi : j' = i
              · subst hi; rw [f2, if_pos rfl, if_pos b1]; simp
              · rw [if_neg hi]; simp [hi]
            obtain ⟨G', hG⟩ := h.writeMap (o := o) (es := es.modify j' fun e' => { e' with key := .int q n, val := v }) (clock := clock) (cs' := mputC q n (.c v) (mapCells es)) hb hB hg hmt (by unfold mapCells; rw [l4, hlist]) (stamped_modify h5 _ _ (fun _ _ => rfl) (fun e' _ he' => by rw [hje] at he'; cases he'; exact f3.symm)) hd
            unfold Oper.wp
            have : (execOp a.eval o).run E.P w = .ok .skip { w with heap := w.heap.setIfInBounds g (.map (es.modify j' fun e' => { e' with key := .int q n, val := v }) clock) } := by
              rcases ho with ho | ho <;> simp [execOp, ho, ev, ek, ex, Instr.mapUpdate, run_underlying h1, MapKept.run_getObj_map h3, hck, hr, MapKept.run_setObj_map _ h3, hje, f3, hsk]
            rw [this]
            exact ⟨G', hG⟩
      · exact .fail
    · exact .fail
theorem Sim.newMap (h : Sim E σ a w G) {d t : Nat} (hdd' : d < E.N ∧ d < 10000) (hk : mget σ (10000 + d) = .u) :
    ∃ G', Sim E (mupd σ [(10000 + d, .bc [] (1000000000 + t)), (d, .mp (10000 + d))]) (a.put (some d) (.map (some w.heap.size))) (w.alloc (.map #[] 0)) G' := by
  have hx : isM (1000000000 + t) = true := by simp [isM]
  -- a new block
  let G' : Gh := { Z := G.Z, γ := fun k => if k = 10000 + d then some w.heap.size else G.γ k, κ := G.κ, β := G.β }
  have hm : ∀ k, mget (mupd σ [(10000 + d, .bc [] (1000000000 + t)), (d, .mp (10000 + d))]) k = if d = k then .mp (10000 + d) else if 10000 + d = k then .bc [] (1000000000 + t) else mget σ k := fun k => by
    simp only [mupd, mget_mset]
  have hbox : ∀ k, 10000 ≤ k → lm (mupd σ [(10000 + d, .bc [] (1000000000 + t)), (d, .mp (10000 + d))]) k = if 10000 + d = k then .bc [] (1000000000 + t) else lm σ k := lk_set (fun k hk _ => by
    have hd2 := hdd'.2
    rw [hm, if_neg (by omega)]) (by have hd2 := hdd'.2; omega) (by rw [hk]; rfl) rfl
  have hk : lm σ (10000 + d) = .u := (lk_real (by have hd2 := hdd'.2; omega)).trans hk
  have hs : BStep G (lm σ) G' (lm (mupd σ [(10000 + d, .bc [] (1000000000 + t)), (d, .mp (10000 + d))])) := ⟨.refl _, fun k hk' => by
    by_cases e : k = 10000 + d
    · subst e; exact .u hk
    · have e1 : G'.γ k = G.γ k := if_neg e
      exact .same (by rw [hbox k hk', if_neg (fun h => e h.symm)]) e1 rfl rfl⟩
  refine ⟨G', h.put (dst := some d) (x := .mp (10000 + d)) (fun _ e => by cases e; exact hdd') hs ⟨fun b o v' hz => ?_, fun k g hg => ?_, fun k cs' ty' hk' hB => ?_, fun k k' g h1 h2 => ?_, h.st.gl⟩ (wstep_alloc _ _ _) (fun _ _ _ => rfl) ?_ fun t ht => ?_⟩
  · have := h.st.agree b o v' hz
    exact ⟨(World.cell?_alloc_lt w _ ⟨b, o, none⟩ (seal_lt h hz)).trans this.1, this.2⟩
  · by_cases e : k = 10000 + d
    · subst e
      have e2 : some w.heap.size = some g := (if_pos rfl).symm.trans hg
      cases e2
      exact ⟨by omega, pr_new h (Nat.le_refl _), .inl ⟨[], 1000000000 + t, by rw [hbox _ (by omega), if_pos rfl], .inr ⟨hx, #[], 0, heap_alloc_new w _, fun o => seal_new h o, rfl, stamped_empty 0⟩⟩⟩
    · have hg' : G.γ k = some g := (if_neg e).symm.trans hg
      obtain ⟨h1, h2, h3⟩ := h.st.box k g hg'
      exact ⟨h1, h2, h3.step hs (by rw [hbox k h1, if_neg (fun h => e h.symm)]) rfl rfl (heap_alloc_old w _ (box_lt h hg')) fun _ => rfl⟩
  · by_cases e : k = 10000 + d
    · exact ⟨w.heap.size, if_pos e⟩
    · rw [hbox k hk', if_neg (fun h => e h.symm)] at hB
      obtain ⟨g, hg⟩ := h.st.real k cs' ty' hk' hB
      exact ⟨g, (if_neg e).trans hg⟩
  · by_cases e : k = 10000 + d <;> by_cases e' : k' = 10000 + d
    · omega
    · have e1 : some w.heap.size = some g := (if_pos e).symm.trans h1
      have e2 : G.γ k' = some g := (if_neg e').symm.trans h2
      cases e1; exact absurd (box_lt h e2) (Nat.lt_irrefl _)
    · have e1 : some w.heap.size = some g := (if_pos e').symm.trans h2
      have e2 : G.γ k = some g := (if_neg e).symm.trans h1
      cases e1; exact absurd (box_lt h e2) (Nat.lt_irrefl _)
    · exact h.st.inj k k' g ((if_neg e).symm.trans h1) ((if_neg e').symm.trans h2)
  · exact .mp (10000 + d) w.heap.size [] (1000000000 + t) (by omega) (by rw [hbox _ (by omega), if_pos rfl]) (if_pos rfl) hx
  · rw [hm]
    by_cases e : d = t
    · subst e; simp
    · have hd2 := hdd'.2
      rw [if_neg e, if_neg (by omega), if_neg (by simpa using fun e' => e e'.symm)]
theorem snd_makeMap (h : Sim E σ a w G) {t : TypeId} (ho : o.op = .makeMap t none) : Snd E.P σ (kMakeMap E.P E.N o t) (Good E o σ a w) := by
  unfold kMakeMap
  split
  · rename_i d hd
    refine .need fun hdd => .rd ?_
    split
    · rename_i hk
      refine .done fun Q => ?_
      have hdd' : d < E.N ∧ d < 10000 := by unfold dstOk at hdd; rw [hd] at hdd; exact hdd
      unfold Oper.wp
      have : (execOp a.eval o).run E.P w = .ok (.value (.map (some w.heap.size))) (w.alloc (.map #[] 0)) := by
        simp [execOp, ho, Instr.makeMap]
      rw [this, Oper.upon, hd]
      exact h.newMap hdd' hk
    · exact .fail
  · exact .fail
end
end Go.Proofs.Ytjabaenpkimmjaa

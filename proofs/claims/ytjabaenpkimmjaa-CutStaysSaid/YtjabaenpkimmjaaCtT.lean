/- Cut in K: maps.Keys and slices.Sorted of it: the keys of a map, sorted. -/
import Derived.Test.YtjabaenpkimmjaaCtS
namespace Go.Proofs.Ytjabaenpkimmjaa
set_option linter.unusedSimpArgs false
set_option linter.unusedVariables false
open Go.RowKit Go.Maps Go.Sort Go.Shelf
theorem extGet_of {bs : List AV} {j : Nat} {x : AV} (h : bs[j]? = some x) (hj : j < 1000 := by decide) : extGet bs (20000 + j) = x := (lk_real (B := extRaw bs) (by omega)).trans (extRaw_of h)
def lv_maps_Keys_map_int_int_int_int : Nat → List Nat
  | 0 => [0]
  | 1 => [1]
  | _ => []
set_option maxRecDepth 100000 in
theorem keysM_k (M : List Tm) : AFn Try.prog 22 [.mp 20000] [.bc (cellsM M) (1000000000 + 54)] (.fn (.func 26) [] [.loc 20001 0]) [.bc (cellsM M) (1000000000 + 54), .bc [.mp 20000] 54] := by
  refine afn_of [10001] Try.func22 rfl Try.ntmps22 (Nat.le_of_ble_eq_true rfl) (Nat.le_of_ble_eq_true rfl) fun w0 G0 B0 Pr hB0 => ?_
  simp only [start, argMap, List.cons_append, List.nil_append]
  repeat' (first
    | (with_reducible refine hY _ ?_; clear hY Y)
    | ((with_reducible first | refine run_n rfl (runN fun K' hK' => todo ?_) | refine hK' _ (eqTo2 fun Y hY => todo ?_) | refine run_g rfl (eqTo2 fun Y hY => todo ?_) | refine eqTo2 fun Y hY => todo ?_ | refine runN fun K' hK' => todo ?_ | refine aw_regionB tk0 lv_maps_Keys_map_int_int_int_int (eqTo2 fun Y hY => todo ?_) | refine todo ?_ | refine qretT_r ?_ | refine draw_n rfl (drawN fun K' hK' => todo ?_) | refine hK' _ _ (eqTo2 fun Y hY => todo ?_) | refine draw_g rfl (eqTo2 fun Y hY => todo ?_) | refine drawN fun K' hK' => todo ?_ | refine qretT_n ?_); (try clear hK' K'); (try dsimp only [aop]); try simp only [go_sem, ↓reduceIte, Nat.reduceEqDiff, Nat.reduceLT, Nat.reduceLeDiff, Nat.reduceAdd, Nat.reduceSub, Nat.reduceMul, Nat.reduceBEq, Nat.reduceBNe, Nat.reducePow, Int.reduceToNat, Int.reduceLE, Int.reduceLT, Int.reduceMul, Int.reduceEq, Int.reducePow, Int.reduceAdd, Int.reduceSub, Int.reduceNeg, reduceCtorEq, lv_maps_Keys_map_int_int_int_int, Try.results22])
    | (with_reducible first | refine run_nil ?_ | refine guardG_n rfl ?_ | refine guardG_y ?_ | refine guardG_u ?_ | refine andD ?_ ?_ | refine then_n ?_ | refine aw_seq ?_ | refine regN fun K hK => ?_ | refine condV_t ?_ | refine condV_f ?_ | refine then_e ?_ | refine then_r ?_ | refine block_n ?_ | refine block_r ?_ | refine block_e ?_ | refine aw_block ?_ | refine aw_skip ?_ | refine aw_ret ?_ | refine aw_exit ?_ | refine aw_loop ?_ | refine aw_condc_t ?_ | refine aw_condc_f ?_ | refine draw_nil ?_ | refine regD fun K hK => ?_)
    | (with_reducible refine hK _ ?_; clear hK K)
    | (with_reducible refine hK _ _ ?_ ?_; (· kernel_rfl); clear hK K)
    | ((with_reducible first | refine gO_some ?_ ?_ | refine aw_condE ?_ ?_ | refine block_o ?_ ?_); (· decide))
    | (with_reducible refine aw_drawB tk0 lv_maps_Keys_map_int_int_int_int ?_ ?_; (· kernel_rfl))
    | ((with_reducible first | refine guardG_b (fun hc => ?_) (fun hc => ?_) | refine condV_b (fun hc => ?_) (fun hc => ?_)) <;> (try simp only [decide_eq_true_eq, decide_eq_false_iff_not, Bool.not_true, Bool.not_false, Bool.not_eq_true', Bool.not_eq_false'] at hc) <;> (try (exfalso; omega)))
    | (with_reducible refine and_i ?_ ?_; (· first | omega | assumption | (refine ⟨?_, ?_⟩ <;> (first | omega | assumption | (simp only [List.length_append, List.length_map, List.length_cons, List.length_nil] <;> omega))) | (refine ⟨?_, ?_, ?_⟩ <;> (first | omega | assumption | (simp only [List.length_append, List.length_map, List.length_cons, List.length_nil] <;> omega))) | (simp only [List.length_append, List.length_map, List.length_cons, List.length_nil] <;> omega)))
    | (with_reducible refine ex_seal ?_)
    | fail)
theorem entries_M : ∀ (es : List MapEntry) (M : List Tm), cellsM M = (es.flatMap fun e => [AV.c e.key, AV.c e.val]) → es.map (·.key) = M.map fun m => Value.int .i64 m.1
  | [], [], _ => rfl
  | [], m :: r, h => by simp [cellsM] at h
  | e :: es, [], h => by simp [cellsM] at h
  | e :: es, m :: r, h => by
    rw [cellsM, List.flatMap_cons] at h
    simp only [List.cons_append, List.nil_append, List.cons.injEq, AV.c.injEq] at h
    rw [List.map_cons, List.map_cons, entries_M es r h.2.2, h.1]
def valZ : Value → Int
  | .int _ a => a
  | _ => 0
abbrev RNil : Value → Option (DataW Unit × List MemPlace) := fun _ => some (.nil, [])
theorem owns_M {w : World} {g : Nat} {es : Array MapEntry} {clock : Nat} {M : List Tm} (hb : w.heap[g]? = some (.map es clock)) (hs : MapKept.Stamped es clock) (hc : cellsM M = mapCells es) (hM : ∀ m ∈ M, 0 ≤ m.1 ∧ m.1 < 1048576) (hl : M.length ≤ 4096) :
    ∃ D : DataW Unit, w.ownsMap Try.prog 3 RNil g M.length D ∧ (intKeys D).Perm (M.map (·.1)) ∧ Maps.size D = M.length := by
  have hk := entries_M es.toList M hc
  have hlen : es.size = M.length := by have := congrArg List.length hk; simpa using this
  have hrd : ∀ x ∈ es.toList, ∃ z : Int, x.key = .int .i64 z ∧ WideElems.rd Try.prog 3 RNil x = some (.int .i64 z, .nil) := fun x hx => by
    have : x.key ∈ M.map fun m => Value.int .i64 m.1 := hk ▸ List.mem_map.2 ⟨x, hx, rfl⟩
    obtain ⟨m, hm, he⟩ := List.mem_map.1 this
    refine ⟨m.1, he.symm, ?_⟩
    have hw : (Lit.int .i64 m.1).wf = true := by
      have := hM m hm
      simp [Lit.wf, IntKind.min, IntKind.max, IntKind.signed, IntKind.bits]; omega
    unfold WideElems.rd
    rw [← he, Maps.keyOf_int_mk Try.underlying3 hw]; rfl
  refine ⟨_, ⟨es, clock, hb, ⟨by unfold maxLen; omega, hs, fun x hx => ?_⟩, by omega, rfl⟩, ?_, ?_⟩
  · obtain ⟨z, _, h⟩ := hrd x hx; exact ⟨_, h⟩
  · have h1 : (es.toList.map (WideElems.rg Try.prog 3 RNil)).map (fun p => Go.intOf p.1) = M.map (·.1) := by
      have h2 : (es.toList.map (WideElems.rg Try.prog 3 RNil)).map (fun p => Go.intOf p.1) = (es.toList.map (·.key)).map valZ := by
        rw [List.map_map, List.map_map]
        refine List.map_congr_left fun x hx => ?_
        obtain ⟨z, hz, h⟩ := hrd x hx
        simp only [Function.comp, WideElems.rg_of h, hz, Go.intOf, valZ]
      rw [h2, hk, List.map_map]; rfl
    rw [← h1]
    exact (WideShapes.sorted_perm _).map _
  · show (List.foldr DataW.insert [] _).length = _
    rw [(WideShapes.sorted_perm _).length_eq, List.length_map]
    simpa using hlen
theorem sortsI_wide (m : Nat) : AnyZI.SortsIn Try.prog Try.zSortedI_ren Fence.wide m :=
  ⟨fun blk off cap ss W hH hblk hsz => callsIn_wide.2 (Any.slices_Sort_int Try.zSortI blk off cap ss W hH hblk hsz),
   fun p cap W => callsIn_wide.2 (Any.slices_Sort_int_none Try.zSortI p cap W)⟩
set_option maxRecDepth 100000 in
theorem sortedI_k (M : List Tm) (hM : ∀ m ∈ M, 0 ≤ m.1 ∧ m.1 < 1048576) (hl : M.length ≤ 4096) :
    AFn Try.prog 21 [.fn (.func 26) [] [.loc 20000 0]] [.bc [.mp 20001] 54, .bc (cellsM M) (1000000000 + 54)]
      (.sl ((srtI (M.map (·.1))).map inA) (srtI (M.map (·.1))).length .none) [.bc [.mp 20001] 54, .bc (cellsM M) (1000000000 + 54)] := by
  have e1 : (srtI (M.map (·.1))).map inA = ((srtI (M.map (·.1))).map encZ).map AV.c := by rw [List.map_map]; rfl
  rw [e1]
  refine afn_belowS (e := 3) (sz := 1) (by simp) (fun x hx => by obtain ⟨z, _, rfl⟩ := List.mem_map.1 hx; rfl) fun w G vs hst hvs hargs => ?_
  have x0 : extGet [.bc [.mp 20001] 54, .bc (cellsM M) (1000000000 + 54)] 20000 = .bc [.mp 20001] 54 := extGet_of (j := 0) rfl
  have x1 : extGet [.bc [.mp 20001] 54, .bc (cellsM M) (1000000000 + 54)] 20001 = .bc (cellsM M) (1000000000 + 54) := extGet_of (j := 1) rfl
  generalize extGet [.bc [.mp 20001] 54, .bc (cellsM M) (1000000000 + 54)] = B at *
  have h0 := hargs 0 (by simp)
  simp only [List.getElem_cons_zero] at h0
  obtain ⟨va, vb, e0, ha, hb, pa, pb⟩ := inv_fn h0
  have h1 := pb 0 (by simp)
  simp only [List.getElem_cons_zero] at h1
  obtain ⟨g0, _, _, e2, _, _, hg0, _⟩ := inv_loc h1
  obtain ⟨_, _, hbx⟩ := hst.box 20000 g0 hg0
  have hc0 : ∃ g1, w.cell? ⟨g0, 0, none⟩ = some (.map (some g1)) ∧ G.γ 20001 = some g1 := by
    rcases hbx with ⟨cs, ty, q1, ⟨_, c, q2, q3, _, q5⟩ | ⟨q2, _⟩⟩ | ⟨n, e, q1, _⟩ | ⟨_, _, _, _, q1, _⟩
    · rw [x0] at q1; cases q1
      have h2 := (q5 0 (by simp)).1
      simp only [List.getElem_cons_zero] at h2
      obtain ⟨g1, _, _, e3, _, _, hg1, _⟩ := inv_mp h2
      refine ⟨g1, ?_, hg1⟩
      have hsz : 0 < c.size := q3
      rw [Array.getD_eq_getD_getElem?, Array.getElem?_eq_getElem hsz] at e3
      simp only [Option.getD_some] at e3
      simp [World.cell?, q2, hsz, e3]
    · rw [x0] at q1; cases q1; exact absurd q2 (by decide)
    · rw [x0] at q1; cases q1
    · rw [x0] at q1; cases q1
  obtain ⟨g1, hcell, hg1⟩ := hc0
  have hmap : ∃ es clock, w.heap[g1]? = some (.map es clock) ∧ cellsM M = mapCells es ∧ MapKept.Stamped es clock := by
    obtain ⟨_, _, hbx1⟩ := hst.box 20001 g1 hg1
    rcases hbx1 with ⟨cs, ty, q1, ⟨q2, _⟩ | ⟨_, es, clock, q2, _, q3, q4⟩⟩ | ⟨n, e, q1, _⟩ | ⟨_, _, _, _, q1, _⟩
    · rw [x1] at q1; cases q1; exact absurd q2 (by decide)
    · rw [x1] at q1; cases q1; exact ⟨es, clock, q2, q3, q4⟩
    · rw [x1] at q1; cases q1
    · rw [x1] at q1; cases q1
  obtain ⟨es, clock, hh, hcs, hst2⟩ := hmap
  obtain ⟨D, hown, hperm, hsize⟩ := owns_M hh hst2 hcs hM hl
  have hvs2 : vs = #[.func (.func 26) #[] #[.pointer (some ⟨g0, 0, none⟩)]] := by
    have ea : va = #[] := Array.eq_empty_of_size_eq_zero (by simpa using ha)
    have eb : vb = #[.pointer (some ⟨g0, 0, none⟩)] := by
      cases vb with
      | mk l =>
        match l, hb with
        | [p0], _ => simp at e2; subst e2; rfl
    subst ea eb
    cases vs with
    | mk l =>
      match l, hvs with
      | [v0], _ => simp at e0; subst e0; rfl
  subst hvs2
  have hgl : g0 < w.heap.size := World.block_lt_of_cell? w ⟨g0, 0, none⟩ hcell
  have hseq : SeqGives Fence.wide (4 - 1 - 1 - 1) Try.prog 26 #[.pointer (some ⟨g0, 0, none⟩)] encZ (fun ss => ss.Perm (intKeys D)) (Maps.size D) w :=
    AnyZI.keys_gives Try.zKeysI Fence.wide 1 trivial rfl (Nat.le_refl _) g0 g1 M.length D w hgl hcell hown
  have hent : ∀ f (hf : callOk Try.prog f = true) (args : Array Value) (w : World), (callFunc f args).run Try.prog w = .ok (.enter f args) w := fun f hf args w => run_enter hf
  have h := AnyZI.sorted_in Try.zSortedI Fence.wide 4 trivial trivial trivial trivial rfl (Nat.le_refl _) (sortsI_wide _) (hent _ (by kernel_rfl)) 26 #[.pointer (some ⟨g0, 0, none⟩)] trivial (hent _ (by kernel_rfl)) (fun ss => ss.Perm (intKeys D)) (Maps.size D) (by rw [hsize]; unfold maxLen; omega) (by rw [hsize]; omega) w hseq
  refine (callsIn_wide.1 h).mono ?_
  rintro e w' ⟨v, ss, rfl, hp, hrow, _, hbl⟩
  have he : (ss.mergeSort fun x y => decide (x ≤ y)) = srtI (M.map (·.1)) := mergeSort_of_perm_i (hp.trans hperm)
  have hn : ss.length = (srtI (M.map (·.1))).length := by rw [← he]; exact (List.length_mergeSort _).symm
  rw [he, hn] at hrow
  exact ⟨v, rfl, hrow, hbl⟩
end Go.Proofs.Ytjabaenpkimmjaa

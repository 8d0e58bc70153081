/- formula.Vars in K: the row that gather makes is sorted and made single in place. -/
import Derived.Test.YtbcakdhgbjgkgaaFvH
import Derived.Test.YtbcakdhgbjgkgaaFvK
import Derived.Test.YtbcakdhgbjgkgaaKRw
import Derived.Test.YtbcakdhgbjgkgaaLayI
namespace Go.Proofs.Ytbcakdhgbjgkgaa
set_option linter.unusedSimpArgs false
set_option linter.unusedVariables false
open Go.RowKit Go.Sort Go.Shelf Go.Proofs
/-- Whole numbers in a row, from any cell on. -/
theorem holds_int {w : World} {g o : Nat} {cur : Array Value} {e : TypeId} {l : List Int} (hg : w.heap[g]? = some (.cells cur e (0, 0))) (hle : o + l.length ≤ cur.size) (h : ∀ j (hj : j < (l.map (Value.int .i64)).length), cur.getD (o + j) undef = (l.map (Value.int .i64))[j]) :
    Holds (Value.int .i64) w g o l.toArray := fun j hj => by
  have hj' : j < l.length := by simpa using hj
  have h1 := h j (by simpa using hj')
  have h2 : o + j < cur.size := by omega
  rw [Array.getD_eq_getD_getElem?, Array.getElem?_eq_getElem h2] at h1
  simp only [Option.getD_some, List.getElem_map] at h1
  refine ⟨?_, by simp [World.frozen?, hg]⟩
  simp [World.cell?, hg, h2, h1, hj']
theorem turned_int {w : World} {g o q : Nat} {os : Array Obj} {cur : Array Value} {e : TypeId} {l : List Int} (hg : w.heap[g]? = some (.cells cur e (0, 0))) (hle : o + l.length ≤ cur.size) :
    w.grownBy (grow (putRow (Value.int .i64) (Sort.ahead w q) g o l.toArray) os) (some g) ∧ ∃ cur', (grow (putRow (Value.int .i64) (Sort.ahead w q) g o l.toArray) os).heap[g]? = some (.cells cur' e (0, 0)) ∧ cur'.size = cur.size ∧
      ∀ j (hj : j < (l.map (Value.int .i64)).length), cur'.getD (o + j) undef = (l.map (Value.int .i64))[j] := by
  have hlt : g < w.heap.size := (Array.getElem?_eq_some_iff.1 hg).1
  refine ⟨⟨rfl, rfl, rfl, by simp, fun k hk hne => ?_⟩, putCells (Value.int .i64) o l.toArray cur, ?_, by simp [putCells], fun j hj => ?_⟩
  · rw [heap_grow_old _ _ (by simpa using hk)]
    have : g ≠ k := fun e => hne (by rw [e])
    simp [putRow, mapBlock, Sort.ahead, Array.getElem?_modify, this]
  · rw [heap_grow_old _ _ (by simpa using hlt)]
    simp [putRow, mapBlock, Sort.ahead, Array.getElem?_modify, hg, onCells]
  · have hj' : j < l.length := by simpa using hj
    have h2 : o + j < cur.size := by omega
    simp [putCells, Array.getD_eq_getD_getElem?, h2, hj']
theorem int_one (l : List Int) : ∀ x ∈ l.map (Value.int .i64), x.oneCell' = true := fun x hx => by
  obtain ⟨y, _, rfl⟩ := List.mem_map.1 hx; rfl
theorem inA_map (l : List Int) : (l.map (Value.int .i64)).map AV.c = l.map inA := by simp [List.map_map]
set_option maxRecDepth 100000 in
theorem sort_own (l : List Int) (ver : Nat) (hl : l.length < 4611686018427387904) : AFn Try.prog 16 [.ow 20000 0 l.length ver] [.br (l.map inA) ver 3 1] (.tup []) [.br ((srtI l).map inA) ver 3 1] := by
  have hs : (srtI l).length = l.length := List.length_mergeSort ..
  rw [← inA_map l, ← inA_map (srtI l)]
  refine afn_turnown (fun _ _ => .tuple #[]) (int_one _) (by simp) (by simp [hs]) (fun G ad cap _ _ _ => .tup #[] [] rfl fun j hj => absurd hj (Nat.not_lt_zero _)) (fun h0 w ad cap => ?_) fun w g o cap cur hg hn ho hx => ?_
  · exact Any.slices_Sort_int_none Try.zSortI ad cap w
  · refine (Any.slices_Sort_int Try.zSortI g o cap l w (holds_int hg (by omega) hx) (Array.getElem?_eq_some_iff.1 hg).1 hl).mono ?_
    rintro e w' ⟨rfl, n, os, rfl⟩
    exact ⟨rfl, turned_int (l := srtI l) hg (by omega)⟩
abbrev cmpI (l : List Int) : List Int := Lib.compact l ++ List.replicate (l.length - (Lib.compact l).length) 0
theorem compI_len (l : List Int) : (Lib.compact l).length ≤ l.length := by
  unfold Lib.compact Lib.compactUpTo
  rw [List.length_map]
  exact Nat.le_trans (List.length_filter_le _ _) (by simp)
set_option maxRecDepth 100000 in
theorem compact_own (l : List Int) (ver : Nat) (hl : l.length ≤ 9223372036854775807) : AFn Try.prog 17 [.ow 20000 0 l.length ver] [.br (l.map inA) ver 3 1] (.ow 20000 0 (Lib.compact l).length ver) [.br ((cmpI l).map inA) ver 3 1] := by
  have hk : (cmpI l).length = l.length := by rw [List.length_append, List.length_replicate]; have := compI_len l; omega
  rw [← inA_map l, ← inA_map (cmpI l)]
  refine afn_turnown (fun ad cap => .slice ad (Lib.compact l).length cap) (int_one _) (by simp) (by simp only [List.length_map, hk, Nat.mul_one]) (fun G ad cap hn ha how => ?_) (fun h0 w ad cap => ?_) fun w g o cap cur hg hn ho hx => ?_
  · have := compI_len l
    exact .ow ad _ cap 20000 0 ver ((cmpI l).map fun x => .c (.int .i64 x)) ver 3 1 (by decide) (by rw [ext_one, if_pos rfl, List.map_map]; rfl) (by omega) ha (Nat.le_refl _) fun _ => how
  · have e : (Lib.compact l).length = 0 := by have := compI_len l; omega
    rw [e]
    exact Any.slices_Compact_int_empty Try.zCompactI ad cap w
  · refine (Any.slices_Compact_int Try.zCompactI g o cap l w (holds_int hg (by omega) hx) hl hn).mono ?_
    rintro e w' ⟨rfl, q, rfl⟩
    have e1 : putRow (Value.int .i64) (Sort.ahead w q) g o (cmpI l).toArray = grow (putRow (Value.int .i64) (Sort.ahead w q) g o (cmpI l).toArray) #[] := (grow_empty _).symm
    refine ⟨rfl, ?_⟩
    rw [e1]
    exact turned_int (l := cmpI l) hg (by omega)
theorem mapI_exp (ex : List Nat) (σ : AMap) (k : Nat) : ∀ xs : List Int, (xs.map inA).map (expA ex σ (k + 1)) = xs.map inA
  | [] => rfl
  | x :: r => by rw [List.map_cons, List.map_cons, mapI_exp ex σ k r]; rfl
theorem mapI_exp4 (ex : List Nat) (σ : AMap) (xs : List Int) : (xs.map inA).map (expA ex σ 4) = xs.map inA := mapI_exp ex σ 3 xs
theorem mapI_ren (g : List (Nat × Nat)) (k : Nat) : ∀ xs : List Int, (xs.map inA).map (ren g (k + 1)) = xs.map inA
  | [] => rfl
  | x :: r => by rw [List.map_cons, List.map_cons, mapI_ren g k r]; rfl
theorem mapI_ref (b k : Nat) : ∀ xs : List Int, (xs.map inA).any (hasRef b (k + 1)) = false
  | [] => rfl
  | x :: r => by rw [List.map_cons, List.any_cons, mapI_ref b k r]; rfl
theorem mapI_nm (t : Bool) (k : Nat) : ∀ xs : List Int, (xs.map inA).flatMap (names t (k + 1)) = []
  | [] => rfl
  | x :: r => by rw [List.map_cons, List.flatMap_cons, mapI_nm t k r]; rfl
theorem mapI_ren3 (g : List (Nat × Nat)) (xs : List Int) : (xs.map inA).map (ren g 3) = xs.map inA := mapI_ren g 2 xs
theorem mapI_ren4 (g : List (Nat × Nat)) (xs : List Int) : (xs.map inA).map (ren g 4) = xs.map inA := mapI_ren g 3 xs
theorem mapI_ref3 (b : Nat) (xs : List Int) : (xs.map inA).any (hasRef b 3) = false := mapI_ref b 2 xs
theorem mapI_ref4 (b : Nat) (xs : List Int) : (xs.map inA).any (hasRef b 4) = false := mapI_ref b 3 xs
theorem mapI_nm3 (t : Bool) (xs : List Int) : (xs.map inA).flatMap (names t 3) = [] := mapI_nm t 2 xs
attribute [go_sem] mapI_exp mapI_exp4 mapI_ren mapI_ref mapI_nm mapI_ren3 mapI_ren4 mapI_ref3 mapI_ref4 mapI_nm3
attribute [local go_sem] List.any_append
set_option maxRecDepth 100000 in
set_option maxHeartbeats 8000000 in
/-- The variables as they stand, in a row of one's own. -/
theorem gather_own (f : Fo) (hok : OkF f) (hbd : (varsF f).length ≤ 1099511627776) : AFn Try.prog 15 [.agg (foA f)] [] (.ow 20000 0 (varsF f).length (varsF f).length) [.br ((varsF f).map inA) (varsF f).length 3 1] := by
  obtain ⟨k, l, ks⟩ := f
  obtain ⟨hlt0, hlk, hoks⟩ := hok
  unfold Lg at hlt0 hlk
  obtain ⟨c, t⟩ := l
  rw [varsF] at hbd ⊢
  simp only at hlt0 hbd ⊢
  have hVl : (t.map (·.1)).length = t.length := List.length_map ..
  rw [List.length_append, hVl] at hbd
  rw [foA]
  refine afn_of [10020] Try.func15 rfl Try.ntmps15 (Nat.le_of_ble_eq_true rfl) (Nat.le_of_ble_eq_true rfl) fun w0 G0 B0 Pr hB0 => ?_
  simp only [start, argMap, List.cons_append, List.nil_append]
  repeat' (first
    | (with_reducible refine hY _ ?_; clear hY Y)
    | ((with_reducible first | refine run_n rfl (runN fun K' hK' => todo ?_) | refine hK' _ (eqTo2 fun Y hY => todo ?_) | refine run_g rfl (eqTo2 fun Y hY => todo ?_) | refine eqTo2 fun Y hY => todo ?_ | refine runN fun K' hK' => todo ?_ | refine aw_regionB tk0 lv_trammel_formula_gather (eqTo2 fun Y hY => todo ?_) | refine todo ?_ | refine qretT_r ?_ | refine draw_n rfl (drawN fun K' hK' => todo ?_) | refine hK' _ _ (eqTo2 fun Y hY => todo ?_) | refine draw_g rfl (eqTo2 fun Y hY => todo ?_) | refine drawN fun K' hK' => todo ?_ | refine qretT_n ?_); (try clear hK' K'); (try dsimp only [aop]); try simp only [go_sem, ↓reduceIte, Nat.reduceEqDiff, Nat.reduceLT, Nat.reduceLeDiff, Nat.reduceAdd, Nat.reduceSub, Nat.reduceMul, Nat.reduceBEq, Nat.reduceBNe, Nat.reducePow, Int.reduceToNat, Int.reduceLE, Int.reduceLT, Int.reduceMul, Int.reduceEq, Int.reducePow, Int.reduceAdd, Int.reduceSub, Int.reduceNeg, reduceCtorEq, lv_trammel_formula_gather, Try.results15])
    | (with_reducible first | refine run_nil ?_ | refine guardG_n rfl ?_ | refine guardG_y ?_ | refine guardG_u ?_ | refine andD ?_ ?_ | refine then_n ?_ | refine aw_seq ?_ | refine regN fun K hK => ?_ | refine condV_t ?_ | refine condV_f ?_ | refine then_e ?_ | refine then_r ?_ | refine block_n ?_ | refine block_r ?_ | refine block_e ?_ | refine aw_block ?_ | refine aw_skip ?_ | refine aw_ret ?_ | refine aw_exit ?_ | refine aw_loop ?_ | refine aw_condc_t ?_ | refine aw_condc_f ?_ | refine draw_nil ?_ | refine regD fun K hK => ?_)
    | (with_reducible refine hK _ ?_; clear hK K)
    | (with_reducible refine hK _ _ ?_ ?_; (· kernel_rfl); clear hK K)
    | ((with_reducible first | refine gO_some ?_ ?_ | refine aw_condE ?_ ?_ | refine block_o ?_ ?_); (· decide))
    | (with_reducible refine aw_drawB tk0 lv_trammel_formula_gather ?_ ?_; (· kernel_rfl))
    | ((with_reducible first | refine guardG_b (fun hc => ?_) (fun hc => ?_) | refine condV_b (fun hc => ?_) (fun hc => ?_)) <;> (try simp only [decide_eq_true_eq, decide_eq_false_iff_not, Bool.not_true, Bool.not_false, Bool.not_eq_true', Bool.not_eq_false'] at hc) <;> (try (exfalso; omega)))
    | (with_reducible refine and_i ?_ ?_; (· first | omega | assumption | (refine ⟨?_, ?_⟩ <;> (first | omega | assumption | (simp only [List.length_append, List.length_map, List.length_cons, List.length_nil] <;> omega))) | (refine ⟨?_, ?_, ?_⟩ <;> (first | omega | assumption | (simp only [List.length_append, List.length_map, List.length_cons, List.length_nil] <;> omega))) | (simp only [List.length_append, List.length_map, List.length_cons, List.length_nil] <;> omega)))
    | (with_reducible refine ex_seal ?_)
    | fail)
  refine awl_le (ale_ow (b := 10020) (t := 3) 3 1 (by decide) (by decide) rfl rfl) ?_
  refine awl_ind (α := Nat) (fun j => [(1, .loc 10001 0), (3, .ow 10020 0 j j), (10, .sl (cellsM t) t.length .none), (11, inA (t.length : Int)), (12, inA (j : Int)), (10001, .bc [inA k, inA c, .sl (cellsM t) t.length .none, .sl (fosA ks) ks.length .none] 27), (10020, .br (((t.map (·.1)).take j).map inA) j 3 1)])
    (fun j => j ≤ t.length) (fun j => t.length - j) 0 [1, 3, 10, 11, 12] ?_ (Nat.zero_le _) ?_
  · simp only [go_sem, ↓reduceIte, Nat.reduceEqDiff, Nat.reduceLT, Nat.reduceLeDiff, Nat.reduceAdd, Nat.reduceSub, Nat.reduceMul, Nat.reduceBEq, Nat.reduceBNe, Nat.reducePow, Int.reduceToNat, Int.reduceLE, Int.reduceLT, Int.reduceMul, Int.reduceEq, Int.reducePow, Int.reduceAdd, Int.reduceSub, Int.reduceNeg, reduceCtorEq] <;> rfl
  intro j hj ihj
  by_cases hlt : j < t.length
  · have hlt' : ((j : Int) < (t.length : Int)) = True := eq_true (by omega)
    have hkw := wrap_1 (n := j) (by omega)
    have hg0 := cM_at hlt
    have hfl := cellsM_len t
    have hcl : (((t.map (·.1)).take j).map inA).length = j := by rw [List.length_map, List.length_take, hVl]; omega
    have ihj' := ihj (j + 1) (by omega) (by omega)
    have he : ((t.map (·.1)).take (j + 1)).map inA = ((t.map (·.1)).take j).map inA ++ [inA t[j].1] := by
      rw [List.take_succ_eq_append_getElem (by omega), List.map_append, List.map_cons, List.map_nil, List.getElem_map]
    rw [he] at ihj'
    clear ihj hoks he
    generalize t[j] = m at *
    obtain ⟨v, x⟩ := m
    simp only at hg0 ihj'
    generalize (t.map (·.1)).take j = TV at *
    generalize fosA ks = KS at *
    repeat' (first
      | (with_reducible refine hY _ ?_; clear hY Y)
      | ((with_reducible first | refine run_n rfl (runN fun K' hK' => todo ?_) | refine hK' _ (eqTo2 fun Y hY => todo ?_) | refine run_g rfl (eqTo2 fun Y hY => todo ?_) | refine eqTo2 fun Y hY => todo ?_ | refine runN fun K' hK' => todo ?_ | refine aw_regionB tk0 lv_trammel_formula_gather (eqTo2 fun Y hY => todo ?_) | refine todo ?_ | refine qretT_r ?_ | refine draw_n rfl (drawN fun K' hK' => todo ?_) | refine hK' _ _ (eqTo2 fun Y hY => todo ?_) | refine draw_g rfl (eqTo2 fun Y hY => todo ?_) | refine drawN fun K' hK' => todo ?_ | refine qretT_n ?_); (try clear hK' K'); (try dsimp only [aop]); try simp only [go_sem, ↓reduceIte, Nat.reduceEqDiff, Nat.reduceLT, Nat.reduceLeDiff, Nat.reduceAdd, Nat.reduceSub, Nat.reduceMul, Nat.reduceBEq, Nat.reduceBNe, Nat.reducePow, Int.reduceToNat, Int.reduceLE, Int.reduceLT, Int.reduceMul, Int.reduceEq, Int.reducePow, Int.reduceAdd, Int.reduceSub, Int.reduceNeg, reduceCtorEq, lv_trammel_formula_gather, Try.results15, hlt', hkw, hg0, hfl, hcl])
      | (with_reducible first | refine run_nil ?_ | refine guardG_n rfl ?_ | refine guardG_y ?_ | refine guardG_u ?_ | refine andD ?_ ?_ | refine then_n ?_ | refine aw_seq ?_ | refine regN fun K hK => ?_ | refine condV_t ?_ | refine condV_f ?_ | refine then_e ?_ | refine then_r ?_ | refine block_n ?_ | refine block_r ?_ | refine block_e ?_ | refine aw_block ?_ | refine aw_skip ?_ | refine aw_ret ?_ | refine aw_exit ?_ | refine aw_loop ?_ | refine aw_condc_t ?_ | refine aw_condc_f ?_ | refine draw_nil ?_ | refine regD fun K hK => ?_)
      | (with_reducible refine hK _ ?_; clear hK K)
      | (with_reducible refine hK _ _ ?_ ?_; (· kernel_rfl); clear hK K)
      | ((with_reducible first | refine gO_some ?_ ?_ | refine aw_condE ?_ ?_ | refine block_o ?_ ?_); (· decide))
      | (with_reducible refine aw_drawB tk0 lv_trammel_formula_gather ?_ ?_; (· kernel_rfl))
      | ((with_reducible first | refine guardG_b (fun hc => ?_) (fun hc => ?_) | refine condV_b (fun hc => ?_) (fun hc => ?_)) <;> (try simp only [decide_eq_true_eq, decide_eq_false_iff_not, Bool.not_true, Bool.not_false, Bool.not_eq_true', Bool.not_eq_false'] at hc) <;> (try (exfalso; omega)))
      | (with_reducible refine and_i ?_ ?_; (· first | omega | assumption | (refine ⟨?_, ?_⟩ <;> (first | omega | assumption | (simp only [List.length_append, List.length_map, List.length_cons, List.length_nil] <;> omega))) | (refine ⟨?_, ?_, ?_⟩ <;> (first | omega | assumption | (simp only [List.length_append, List.length_map, List.length_cons, List.length_nil] <;> omega))) | (simp only [List.length_append, List.length_map, List.length_cons, List.length_nil] <;> omega)))
      | (with_reducible refine ex_seal ?_)
      | fail)
    refine awl_keep [1, 3, 10, 11, 12] (by simp only [go_sem, ↓reduceIte, Nat.reduceEqDiff, Nat.reduceLT, Nat.reduceLeDiff, Nat.reduceAdd, Nat.reduceSub, Nat.reduceMul, Nat.reduceBEq, Nat.reduceBNe, Nat.reducePow, Int.reduceToNat, Int.reduceLE, Int.reduceLT, Int.reduceMul, Int.reduceEq, Int.reducePow, Int.reduceAdd, Int.reduceSub, Int.reduceNeg, reduceCtorEq]; exact rfl) ?_
    exact ihj'
  have hlt' : ((j : Int) < (t.length : Int)) = False := eq_false (by omega)
  obtain rfl : j = t.length := by omega
  rw [List.take_of_length_le (by omega)]
  clear ihj
  repeat' (first
    | (with_reducible refine hY _ ?_; clear hY Y)
    | ((with_reducible first | refine run_n rfl (runN fun K' hK' => todo ?_) | refine hK' _ (eqTo2 fun Y hY => todo ?_) | refine run_g rfl (eqTo2 fun Y hY => todo ?_) | refine eqTo2 fun Y hY => todo ?_ | refine runN fun K' hK' => todo ?_ | refine aw_regionB tk0 lv_trammel_formula_gather (eqTo2 fun Y hY => todo ?_) | refine todo ?_ | refine qretT_r ?_ | refine draw_n rfl (drawN fun K' hK' => todo ?_) | refine hK' _ _ (eqTo2 fun Y hY => todo ?_) | refine draw_g rfl (eqTo2 fun Y hY => todo ?_) | refine drawN fun K' hK' => todo ?_ | refine qretT_n ?_); (try clear hK' K'); (try dsimp only [aop]); try simp only [go_sem, ↓reduceIte, Nat.reduceEqDiff, Nat.reduceLT, Nat.reduceLeDiff, Nat.reduceAdd, Nat.reduceSub, Nat.reduceMul, Nat.reduceBEq, Nat.reduceBNe, Nat.reducePow, Int.reduceToNat, Int.reduceLE, Int.reduceLT, Int.reduceMul, Int.reduceEq, Int.reducePow, Int.reduceAdd, Int.reduceSub, Int.reduceNeg, reduceCtorEq, lv_trammel_formula_gather, Try.results15, hlt'])
    | (with_reducible first | refine run_nil ?_ | refine guardG_n rfl ?_ | refine guardG_y ?_ | refine guardG_u ?_ | refine andD ?_ ?_ | refine then_n ?_ | refine aw_seq ?_ | refine regN fun K hK => ?_ | refine condV_t ?_ | refine condV_f ?_ | refine then_e ?_ | refine then_r ?_ | refine block_n ?_ | refine block_r ?_ | refine block_e ?_ | refine aw_block ?_ | refine aw_skip ?_ | refine aw_ret ?_ | refine aw_exit ?_ | refine aw_loop ?_ | refine aw_condc_t ?_ | refine aw_condc_f ?_ | refine draw_nil ?_ | refine regD fun K hK => ?_)
    | (with_reducible refine hK _ ?_; clear hK K)
    | (with_reducible refine hK _ _ ?_ ?_; (· kernel_rfl); clear hK K)
    | ((with_reducible first | refine gO_some ?_ ?_ | refine aw_condE ?_ ?_ | refine block_o ?_ ?_); (· decide))
    | (with_reducible refine aw_drawB tk0 lv_trammel_formula_gather ?_ ?_; (· kernel_rfl))
    | ((with_reducible first | refine guardG_b (fun hc => ?_) (fun hc => ?_) | refine condV_b (fun hc => ?_) (fun hc => ?_)) <;> (try simp only [decide_eq_true_eq, decide_eq_false_iff_not, Bool.not_true, Bool.not_false, Bool.not_eq_true', Bool.not_eq_false'] at hc) <;> (try (exfalso; omega)))
    | (with_reducible refine and_i ?_ ?_; (· first | omega | assumption | (refine ⟨?_, ?_⟩ <;> (first | omega | assumption | (simp only [List.length_append, List.length_map, List.length_cons, List.length_nil] <;> omega))) | (refine ⟨?_, ?_, ?_⟩ <;> (first | omega | assumption | (simp only [List.length_append, List.length_map, List.length_cons, List.length_nil] <;> omega))) | (simp only [List.length_append, List.length_map, List.length_cons, List.length_nil] <;> omega)))
    | (with_reducible refine ex_seal ?_)
    | fail)
  generalize hV : t.map (·.1) = V at *
  generalize hRA : (V ++ varsFs ks).map inA = RA
  generalize hRL : (V ++ varsFs ks).length = RL
  refine awl_ind (α := Nat) (fun j => [(3, .ow 10020 0 (t.length + (varsFs (ks.take j)).length) (t.length + (varsFs (ks.take j)).length)), (23, .sl (fosA ks) ks.length .none), (24, inA (ks.length : Int)), (25, inA (j : Int)), (10020, .br ((V ++ varsFs (ks.take j)).map inA) (t.length + (varsFs (ks.take j)).length) 3 1)])
    (fun j => j ≤ ks.length) (fun j => ks.length - j) 0 [3, 23, 24, 25] ?_ (Nat.zero_le _) ?_
  · simp only [go_sem, ↓reduceIte, Nat.reduceEqDiff, Nat.reduceLT, Nat.reduceLeDiff, Nat.reduceAdd, Nat.reduceSub, Nat.reduceMul, Nat.reduceBEq, Nat.reduceBNe, Nat.reducePow, Int.reduceToNat, Int.reduceLE, Int.reduceLT, Int.reduceMul, Int.reduceEq, Int.reducePow, Int.reduceAdd, Int.reduceSub, Int.reduceNeg, reduceCtorEq, List.take_zero, varsFs, List.append_nil, List.length_nil, Nat.add_zero] <;> rfl
  intro j hj2 ihj
  by_cases hlt : j < ks.length
  · have hlt2 : ((j : Int) < (ks.length : Int)) = True := eq_true (by omega)
    have hkw := wrap_1 (n := j) (by omega)
    have hg0 := fos_at hlt
    have hfl := fosA_len ks
    have hst := varsFs_take hlt
    have hle := varsFs_le ks (j + 1)
    rw [hst, List.length_append] at hle
    have h1 := gather_k ks[j] (okFs_all hoks _ (List.getElem_mem hlt)) (by omega)
    have ihj' := ihj (j + 1) (by omega) (by omega)
    rw [hst, ← List.append_assoc, List.map_append, List.length_append, ← Nat.add_assoc] at ihj'
    have hcl : ((V ++ varsFs (ks.take j)).map inA).length = t.length + (varsFs (ks.take j)).length := by rw [List.length_map, List.length_append, hVl]
    have hcl2 : ((varsF ks[j]).map inA).length = (varsF ks[j]).length := List.length_map ..
    clear ihj hoks hst hRA hRL
    generalize ks[j] = y at *
    generalize V ++ varsFs (ks.take j) = A at *
    generalize (varsFs (ks.take j)).length = a at *
    generalize varsF y = B at *
    generalize hB : B.length = b at *
    obtain ⟨yk, yl, ys⟩ := y
    simp only [foA] at hg0 h1
    generalize fosA ks = KS at *
    have hb1 : (t.length + a + b) * 8 ≤ 140737488355328 := by omega
    repeat' (first
      | (with_reducible refine hY _ ?_; clear hY Y)
      | ((with_reducible first | refine run_n rfl (runN fun K' hK' => todo ?_) | refine hK' _ (eqTo2 fun Y hY => todo ?_) | refine run_g rfl (eqTo2 fun Y hY => todo ?_) | refine eqTo2 fun Y hY => todo ?_ | refine runN fun K' hK' => todo ?_ | refine aw_regionB tk0 lv_trammel_formula_gather (eqTo2 fun Y hY => todo ?_) | refine todo ?_ | refine qretT_r ?_ | refine draw_n rfl (drawN fun K' hK' => todo ?_) | refine hK' _ _ (eqTo2 fun Y hY => todo ?_) | refine draw_g rfl (eqTo2 fun Y hY => todo ?_) | refine drawN fun K' hK' => todo ?_ | refine qretT_n ?_); (try clear hK' K'); (try dsimp only [aop]); try simp only [go_sem, ↓reduceIte, Nat.reduceEqDiff, Nat.reduceLT, Nat.reduceLeDiff, Nat.reduceAdd, Nat.reduceSub, Nat.reduceMul, Nat.reduceBEq, Nat.reduceBNe, Nat.reducePow, Int.reduceToNat, Int.reduceLE, Int.reduceLT, Int.reduceMul, Int.reduceEq, Int.reducePow, Int.reduceAdd, Int.reduceSub, Int.reduceNeg, reduceCtorEq, lv_trammel_formula_gather, Try.results15, hlt2, hkw, hg0, hfl, hcl, hcl2])
      | (with_reducible first | refine run_nil ?_ | refine guardG_n rfl ?_ | refine guardG_y ?_ | refine guardG_u ?_ | refine andD ?_ ?_ | refine then_n ?_ | refine aw_seq ?_ | refine regN fun K hK => ?_ | refine condV_t ?_ | refine condV_f ?_ | refine then_e ?_ | refine then_r ?_ | refine block_n ?_ | refine block_r ?_ | refine block_e ?_ | refine aw_block ?_ | refine aw_skip ?_ | refine aw_ret ?_ | refine aw_exit ?_ | refine aw_loop ?_ | refine aw_condc_t ?_ | refine aw_condc_f ?_ | refine draw_nil ?_ | refine regD fun K hK => ?_)
      | (with_reducible refine hK _ ?_; clear hK K)
      | (with_reducible refine hK _ _ ?_ ?_; (· kernel_rfl); clear hK K)
      | ((with_reducible first | refine gO_some ?_ ?_ | refine aw_condE ?_ ?_ | refine block_o ?_ ?_); (· decide))
      | (with_reducible refine aw_drawB tk0 lv_trammel_formula_gather ?_ ?_; (· kernel_rfl))
      | ((with_reducible first | refine guardG_b (fun hc => ?_) (fun hc => ?_) | refine condV_b (fun hc => ?_) (fun hc => ?_)) <;> (try simp only [decide_eq_true_eq, decide_eq_false_iff_not, Bool.not_true, Bool.not_false, Bool.not_eq_true', Bool.not_eq_false'] at hc) <;> (try (exfalso; omega)))
      | (with_reducible refine and_i ?_ ?_; (· first | omega | assumption | (refine ⟨?_, ?_⟩ <;> (first | omega | assumption | (simp only [List.length_append, List.length_map, List.length_cons, List.length_nil] <;> omega))) | (refine ⟨?_, ?_, ?_⟩ <;> (first | omega | assumption | (simp only [List.length_append, List.length_map, List.length_cons, List.length_nil] <;> omega))) | (simp only [List.length_append, List.length_map, List.length_cons, List.length_nil] <;> omega)))
      | (with_reducible refine ex_callT (h1) ?_)
      | (with_reducible refine ex_seal ?_)
      | fail)
    refine awl_keep [3, 23, 24, 25] (by simp only [go_sem, ↓reduceIte, Nat.reduceEqDiff, Nat.reduceLT, Nat.reduceLeDiff, Nat.reduceAdd, Nat.reduceSub, Nat.reduceMul, Nat.reduceBEq, Nat.reduceBNe, Nat.reducePow, Int.reduceToNat, Int.reduceLE, Int.reduceLT, Int.reduceMul, Int.reduceEq, Int.reducePow, Int.reduceAdd, Int.reduceSub, Int.reduceNeg, reduceCtorEq]; exact rfl) ?_
    exact ihj'
  · have hlt2 : ((j : Int) < (ks.length : Int)) = False := eq_false (by omega)
    rw [List.take_of_length_le (by omega), ← hRA, ← hRL, List.length_append, hVl]
    clear ihj hoks hRA hRL
    generalize V ++ varsFs ks = A at *
    generalize (varsFs ks).length = a at *
    generalize fosA ks = KS at *
    repeat' (first
      | (with_reducible refine hY _ ?_; clear hY Y)
      | ((with_reducible first | refine run_n rfl (runN fun K' hK' => todo ?_) | refine hK' _ (eqTo2 fun Y hY => todo ?_) | refine run_g rfl (eqTo2 fun Y hY => todo ?_) | refine eqTo2 fun Y hY => todo ?_ | refine runN fun K' hK' => todo ?_ | refine aw_regionB tk0 lv_trammel_formula_gather (eqTo2 fun Y hY => todo ?_) | refine todo ?_ | refine qretT_r ?_ | refine draw_n rfl (drawN fun K' hK' => todo ?_) | refine hK' _ _ (eqTo2 fun Y hY => todo ?_) | refine draw_g rfl (eqTo2 fun Y hY => todo ?_) | refine drawN fun K' hK' => todo ?_ | refine qretT_n ?_); (try clear hK' K'); (try dsimp only [aop]); try simp only [go_sem, ↓reduceIte, Nat.reduceEqDiff, Nat.reduceLT, Nat.reduceLeDiff, Nat.reduceAdd, Nat.reduceSub, Nat.reduceMul, Nat.reduceBEq, Nat.reduceBNe, Nat.reducePow, Int.reduceToNat, Int.reduceLE, Int.reduceLT, Int.reduceMul, Int.reduceEq, Int.reducePow, Int.reduceAdd, Int.reduceSub, Int.reduceNeg, reduceCtorEq, lv_trammel_formula_gather, Try.results15, hlt2])
      | (with_reducible first | refine run_nil ?_ | refine guardG_n rfl ?_ | refine guardG_y ?_ | refine guardG_u ?_ | refine andD ?_ ?_ | refine then_n ?_ | refine aw_seq ?_ | refine regN fun K hK => ?_ | refine condV_t ?_ | refine condV_f ?_ | refine then_e ?_ | refine then_r ?_ | refine block_n ?_ | refine block_r ?_ | refine block_e ?_ | refine aw_block ?_ | refine aw_skip ?_ | refine aw_ret ?_ | refine aw_exit ?_ | refine aw_loop ?_ | refine aw_condc_t ?_ | refine aw_condc_f ?_ | refine draw_nil ?_ | refine regD fun K hK => ?_)
      | (with_reducible refine hK _ ?_; clear hK K)
      | (with_reducible refine hK _ _ ?_ ?_; (· kernel_rfl); clear hK K)
      | ((with_reducible first | refine gO_some ?_ ?_ | refine aw_condE ?_ ?_ | refine block_o ?_ ?_); (· decide))
      | (with_reducible refine aw_drawB tk0 lv_trammel_formula_gather ?_ ?_; (· kernel_rfl))
      | ((with_reducible first | refine guardG_b (fun hc => ?_) (fun hc => ?_) | refine condV_b (fun hc => ?_) (fun hc => ?_)) <;> (try simp only [decide_eq_true_eq, decide_eq_false_iff_not, Bool.not_true, Bool.not_false, Bool.not_eq_true', Bool.not_eq_false'] at hc) <;> (try (exfalso; omega)))
      | (with_reducible refine and_i ?_ ?_; (· first | omega | assumption | (refine ⟨?_, ?_⟩ <;> (first | omega | assumption | (simp only [List.length_append, List.length_map, List.length_cons, List.length_nil] <;> omega))) | (refine ⟨?_, ?_, ?_⟩ <;> (first | omega | assumption | (simp only [List.length_append, List.length_map, List.length_cons, List.length_nil] <;> omega))) | (simp only [List.length_append, List.length_map, List.length_cons, List.length_nil] <;> omega)))
      | (with_reducible refine ex_seal ?_)
      | fail)
/-- What the code's Vars hands back: nothing, or a row of its own that may be written. -/
structure VarsC (f : Fo) : Prop where
  no : checkF f ≠ 0 → AFn Try.prog 7 [.agg (foA f)] [] (.sl [] 0 .full) []
  row : checkF f = 0 → ∃ (rest : List Int) (ver : Nat), AFn Try.prog 7 [.agg (foA f)] [] (.ow 20000 0 (vsF f).length ver) [.br ((vsF f ++ rest).map inA) ver 3 1]
def lv_trammel_formula_Vars : Nat → List Nat
  | 0 => [0]
  | 1 => [1]
  | 2 => []
  | 3 => [1]
  | 4 => [3]
  | 5 => [3]
  | _ => []
set_option maxRecDepth 100000 in
theorem vars_c (f : Fo) (hok : OkF f) : VarsC f := by
  have hck := check_k f hok
  refine ⟨fun hc => ?_, fun hc => ?_⟩
  · rw [codeA_pos hc] at hck
    clear hok hc
    generalize checkF f = e at *
    obtain ⟨k, l, ks⟩ := f
    simp only [foA] at hck ⊢
    generalize fosA ks = KS at *
    refine afn_of [] Try.func7 rfl Try.ntmps7 (Nat.le_of_ble_eq_true rfl) (Nat.le_of_ble_eq_true rfl) fun w0 G0 B0 Pr hB0 => ?_
    simp only [start, argMap, List.cons_append, List.nil_append]
    repeat' (first
      | (with_reducible refine hY _ ?_; clear hY Y)
      | ((with_reducible first | refine run_n rfl (runN fun K' hK' => todo ?_) | refine hK' _ (eqTo2 fun Y hY => todo ?_) | refine run_g rfl (eqTo2 fun Y hY => todo ?_) | refine eqTo2 fun Y hY => todo ?_ | refine runN fun K' hK' => todo ?_ | refine aw_regionB tk0 lv_trammel_formula_Vars (eqTo2 fun Y hY => todo ?_) | refine todo ?_ | refine qretT_r ?_ | refine draw_n rfl (drawN fun K' hK' => todo ?_) | refine hK' _ _ (eqTo2 fun Y hY => todo ?_) | refine draw_g rfl (eqTo2 fun Y hY => todo ?_) | refine drawN fun K' hK' => todo ?_ | refine qretT_n ?_); (try clear hK' K'); (try dsimp only [aop]); try simp only [go_sem, ↓reduceIte, Nat.reduceEqDiff, Nat.reduceLT, Nat.reduceLeDiff, Nat.reduceAdd, Nat.reduceSub, Nat.reduceMul, Nat.reduceBEq, Nat.reduceBNe, Nat.reducePow, Int.reduceToNat, Int.reduceLE, Int.reduceLT, Int.reduceMul, Int.reduceEq, Int.reducePow, Int.reduceAdd, Int.reduceSub, Int.reduceNeg, reduceCtorEq, lv_trammel_formula_Vars, Try.results7])
      | (with_reducible first | refine run_nil ?_ | refine guardG_n rfl ?_ | refine guardG_y ?_ | refine guardG_u ?_ | refine andD ?_ ?_ | refine then_n ?_ | refine aw_seq ?_ | refine regN fun K hK => ?_ | refine condV_t ?_ | refine condV_f ?_ | refine then_e ?_ | refine then_r ?_ | refine block_n ?_ | refine block_r ?_ | refine block_e ?_ | refine aw_block ?_ | refine aw_skip ?_ | refine aw_ret ?_ | refine aw_exit ?_ | refine aw_loop ?_ | refine aw_condc_t ?_ | refine aw_condc_f ?_ | refine draw_nil ?_ | refine regD fun K hK => ?_)
      | (with_reducible refine hK _ ?_; clear hK K)
      | (with_reducible refine hK _ _ ?_ ?_; (· kernel_rfl); clear hK K)
      | ((with_reducible first | refine gO_some ?_ ?_ | refine aw_condE ?_ ?_ | refine block_o ?_ ?_); (· decide))
      | (with_reducible refine aw_drawB tk0 lv_trammel_formula_Vars ?_ ?_; (· kernel_rfl))
      | ((with_reducible first | refine guardG_b (fun hc => ?_) (fun hc => ?_) | refine condV_b (fun hc => ?_) (fun hc => ?_)) <;> (try simp only [decide_eq_true_eq, decide_eq_false_iff_not, Bool.not_true, Bool.not_false, Bool.not_eq_true', Bool.not_eq_false'] at hc) <;> (try (exfalso; omega)))
      | (with_reducible refine and_i ?_ ?_; (· first | omega | assumption | (refine ⟨?_, ?_⟩ <;> (first | omega | assumption | (simp only [List.length_append, List.length_map, List.length_cons, List.length_nil] <;> omega))) | (refine ⟨?_, ?_, ?_⟩ <;> (first | omega | assumption | (simp only [List.length_append, List.length_map, List.length_cons, List.length_nil] <;> omega))) | (simp only [List.length_append, List.length_map, List.length_cons, List.length_nil] <;> omega)))
      | (with_reducible refine ex_callT (hck) ?_)
      | (with_reducible refine ex_seal ?_)
      | fail)
  · have hlen := (check_vars hc).1
    have hg := gather_own f hok (by omega)
    have hs := sort_own (varsF f) (varsF f).length (by omega)
    have hsl : (srtI (varsF f)).length = (varsF f).length := List.length_mergeSort ..
    have hp := compact_own (srtI (varsF f)) (varsF f).length (by omega)
    rw [hsl, comp_vs] at hp
    refine ⟨List.replicate ((srtI (varsF f)).length - (Lib.compact (srtI (varsF f))).length) 0, (varsF f).length, ?_⟩
    have he : cmpI (srtI (varsF f)) = vsF f ++ List.replicate ((srtI (varsF f)).length - (Lib.compact (srtI (varsF f))).length) 0 := by
      show Lib.compact (srtI (varsF f)) ++ _ = _
      rw [comp_vs]; rfl
    rw [he] at hp
    rw [hc, codeA_0] at hck
    have hv : varsT (tsF (varsF f)) = vsF f := rfl
    rw [hv] at hp
    clear hok hc he hv
    generalize vsF f ++ List.replicate ((srtI (varsF f)).length - (Lib.compact (srtI (varsF f))).length) 0 = R at *
    generalize vsF f = V at *
    generalize srtI (varsF f) = S at *
    generalize varsF f = A at *
    obtain ⟨k, l, ks⟩ := f
    simp only [foA] at hck hg ⊢
    generalize fosA ks = KS at *
    refine afn_of [10008] Try.func7 rfl Try.ntmps7 (Nat.le_of_ble_eq_true rfl) (Nat.le_of_ble_eq_true rfl) fun w0 G0 B0 Pr hB0 => ?_
    simp only [start, argMap, List.cons_append, List.nil_append]
    repeat' (first
      | (with_reducible refine hY _ ?_; clear hY Y)
      | ((with_reducible first | refine run_n rfl (runN fun K' hK' => todo ?_) | refine hK' _ (eqTo2 fun Y hY => todo ?_) | refine run_g rfl (eqTo2 fun Y hY => todo ?_) | refine eqTo2 fun Y hY => todo ?_ | refine runN fun K' hK' => todo ?_ | refine aw_regionB tk0 lv_trammel_formula_Vars (eqTo2 fun Y hY => todo ?_) | refine todo ?_ | refine qretT_r ?_ | refine draw_n rfl (drawN fun K' hK' => todo ?_) | refine hK' _ _ (eqTo2 fun Y hY => todo ?_) | refine draw_g rfl (eqTo2 fun Y hY => todo ?_) | refine drawN fun K' hK' => todo ?_ | refine qretT_n ?_); (try clear hK' K'); (try dsimp only [aop]); try simp only [go_sem, ↓reduceIte, Nat.reduceEqDiff, Nat.reduceLT, Nat.reduceLeDiff, Nat.reduceAdd, Nat.reduceSub, Nat.reduceMul, Nat.reduceBEq, Nat.reduceBNe, Nat.reducePow, Int.reduceToNat, Int.reduceLE, Int.reduceLT, Int.reduceMul, Int.reduceEq, Int.reducePow, Int.reduceAdd, Int.reduceSub, Int.reduceNeg, reduceCtorEq, lv_trammel_formula_Vars, Try.results7])
      | (with_reducible first | refine run_nil ?_ | refine guardG_n rfl ?_ | refine guardG_y ?_ | refine guardG_u ?_ | refine andD ?_ ?_ | refine then_n ?_ | refine aw_seq ?_ | refine regN fun K hK => ?_ | refine condV_t ?_ | refine condV_f ?_ | refine then_e ?_ | refine then_r ?_ | refine block_n ?_ | refine block_r ?_ | refine block_e ?_ | refine aw_block ?_ | refine aw_skip ?_ | refine aw_ret ?_ | refine aw_exit ?_ | refine aw_loop ?_ | refine aw_condc_t ?_ | refine aw_condc_f ?_ | refine draw_nil ?_ | refine regD fun K hK => ?_)
      | (with_reducible refine hK _ ?_; clear hK K)
      | (with_reducible refine hK _ _ ?_ ?_; (· kernel_rfl); clear hK K)
      | ((with_reducible first | refine gO_some ?_ ?_ | refine aw_condE ?_ ?_ | refine block_o ?_ ?_); (· decide))
      | (with_reducible refine aw_drawB tk0 lv_trammel_formula_Vars ?_ ?_; (· kernel_rfl))
      | ((with_reducible first | refine guardG_b (fun hc => ?_) (fun hc => ?_) | refine condV_b (fun hc => ?_) (fun hc => ?_)) <;> (try simp only [decide_eq_true_eq, decide_eq_false_iff_not, Bool.not_true, Bool.not_false, Bool.not_eq_true', Bool.not_eq_false'] at hc) <;> (try (exfalso; omega)))
      | (with_reducible refine and_i ?_ ?_; (· first | omega | assumption | (refine ⟨?_, ?_⟩ <;> (first | omega | assumption | (simp only [List.length_append, List.length_map, List.length_cons, List.length_nil] <;> omega))) | (refine ⟨?_, ?_, ?_⟩ <;> (first | omega | assumption | (simp only [List.length_append, List.length_map, List.length_cons, List.length_nil] <;> omega))) | (simp only [List.length_append, List.length_map, List.length_cons, List.length_nil] <;> omega)))
      | (with_reducible refine ex_callT (hck) ?_)
      | (with_reducible refine ex_callT (hg) ?_)
      | (with_reducible refine ex_callT (hs) ?_)
      | (with_reducible refine ex_callT (hp) ?_)
      | (with_reducible refine ex_okT (neq_nil) ?_)
      | (with_reducible refine ex_seal ?_)
      | fail)
end Go.Proofs.Ytbcakdhgbjgkgaa

/- PackStays, in K. -/
import Derived.Test.YtjgfhblciapkfaaPLawB
import Derived.Test.YtjgfhblciapkfaaPO
import Derived.Test.YtjgfhblciapkfaaKAp
namespace Go.Proofs.Ytjgfhblciapkfaa
set_option linter.unusedSimpArgs false
set_option linter.unusedVariables false
open Go.RowKit
/-! ### What is read is apart from bytes. -/
section
variable {cs : List AV}
def U8s (cs : List AV) : Prop := ∀ y ∈ cs, kindOf y = 9
theorem clash_of (hc : U8s cs) {x : AV} (h0 : kindOf x ≠ 0) (h9 : kindOf x ≠ 9) : clash cs x := ⟨h0, fun y hy => ⟨by rw [hc y hy]; decide, by rw [hc y hy]; exact fun e => h9 e.symm⟩⟩
theorem u8s_bytes (b : List Nat) : U8s (b.map byteN) := fun y hy => by
  obtain ⟨z, _, rfl⟩ := List.mem_map.1 hy; rfl
theorem ap_c {n : Nat} {v : Value} : apart cs (n + 1) (.c v) := trivial
theorem headOk_map (hc : U8s cs) {α : Type} {f : α → AV} (hf : ∀ x, kindOf (f x) ≠ 0 ∧ kindOf (f x) ≠ 9) : ∀ l : List α, headOk cs (l.map f)
  | [] => trivial
  | x :: _ => clash_of hc (hf x).1 (hf x).2
theorem headOk_fm (hc : U8s cs) {α : Type} {f : α → List AV} (hf : ∀ x, ∃ y r, f x = y :: r ∧ kindOf y ≠ 0 ∧ kindOf y ≠ 9) : ∀ l : List α, headOk cs (l.flatMap f)
  | [] => trivial
  | x :: l => by
    obtain ⟨y, r, h1, h2, h3⟩ := hf x
    rw [List.flatMap_cons, h1]
    exact clash_of hc h2 h3
theorem ap_fm {α : Type} {f : α → List AV} {n : Nat} {l : List α} (h : ∀ x ∈ l, ∀ y ∈ f x, apart cs n y) : ∀ y ∈ l.flatMap f, apart cs n y := fun y hy => by
  obtain ⟨x, hx, hy⟩ := List.mem_flatMap.1 hy
  exact h x hx y hy
theorem ap_ints (hc : U8s cs) (c : List Int) (n : Nat) : apart cs (n + 2) (intsA c) :=
  ⟨headOk_map hc (fun x => ⟨by show (8 : Nat) ≠ 0; decide, by show (8 : Nat) ≠ 9; decide⟩) c, fun x hx => by obtain ⟨z, _, rfl⟩ := List.mem_map.1 hx; trivial⟩
theorem ap_steps (hc : U8s cs) (l : List StepD) (n : Nat) : apart cs (n + 4) (stepsA l) :=
  ⟨headOk_fm hc (fun s => ⟨_, _, rfl, by show (3 : Nat) ≠ 0; decide, by show (3 : Nat) ≠ 9; decide⟩) l, ap_fm fun s _ y hy => by
    simp only [stepA, List.mem_cons, List.not_mem_nil, or_false] at hy
    rcases hy with rfl | rfl
    · exact ⟨headOk_fm hc (fun p => ⟨_, _, rfl, by show (8 : Nat) ≠ 0; decide, by show (8 : Nat) ≠ 9; decide⟩) s.P, ap_fm fun p _ y hy => by
        simp only [partA, List.mem_cons, List.not_mem_nil, or_false] at hy
        rcases hy with rfl | rfl <;> trivial⟩
    · trivial⟩
theorem ap_reply (hc : U8s cs) (r : ReplyD) (n : Nat) : ∀ y ∈ replyA r, apart cs (n + 6) y := fun y hy => by
  simp only [replyA, List.mem_cons, List.not_mem_nil, or_false] at hy
  rcases hy with rfl | rfl | rfl
  · trivial
  · exact ⟨headOk_fm hc (fun m => ⟨_, _, rfl, by show (3 : Nat) ≠ 0; decide, by show (3 : Nat) ≠ 9; decide⟩) r.M, ap_fm fun m _ y hy => by
      simp only [lemmaA, List.mem_cons, List.not_mem_nil, or_false] at hy
      rcases hy with rfl | rfl
      · exact ap_ints hc m.L (n + 3)
      · exact ap_steps hc m.S (n + 1)⟩
  · exact ⟨headOk_map hc (fun c => ⟨by show (3 : Nat) ≠ 0; decide, by show (3 : Nat) ≠ 9; decide⟩) r.R, fun x hx => by
      obtain ⟨c, _, rfl⟩ := List.mem_map.1 hx
      exact ap_ints hc c (n + 3)⟩
theorem ap_records (hc : U8s cs) (w : List RecordD) (n : Nat) : apart cs (n + 8) (recordsA w) :=
  ⟨headOk_fm hc (fun r => ⟨_, _, rfl, by show (1 : Nat) ≠ 0; decide, by show (1 : Nat) ≠ 9; decide⟩) w, ap_fm fun r _ y hy => by
    simp only [recordA, List.mem_cons, List.not_mem_nil, or_false] at hy
    rcases hy with rfl | rfl
    · trivial
    · exact ⟨headOk_fm hc (fun x => ⟨_, _, rfl, by show (2 : Nat) ≠ 0; decide, by show (2 : Nat) ≠ 9; decide⟩) r.A, ap_fm fun x _ => ap_reply hc x n⟩⟩
theorem ap_code (e n : Nat) : apart cs (n + 2) (codeA e) := by
  unfold codeA; split <;> trivial
theorem ap_read (hc : U8s cs) (p : List RecordD × Nat) : apart cs 12 (readA p) := fun x hx => by
  simp only [List.mem_cons, List.not_mem_nil, or_false] at hx
  rcases hx with rfl | rfl
  · intro y hy
    simp only [List.mem_cons, List.not_mem_nil, or_false] at hy
    subst hy
    exact ap_records hc p.1 2
  · exact ap_code p.2 9
end
theorem mapM_id {α : Type} {f : α → Option α} : ∀ {l : List α}, (∀ x ∈ l, f x = some x) → l.mapM f = some l
  | [], _ => rfl
  | x :: l, h => by
    rw [List.mapM_cons, h x (by simp), mapM_id fun y hy => h y (by simp [hy])]; rfl
/-- Bytes that are one's own are read. -/
theorem read_o (b : List Nat) (h8 : Is8 b) (hbl : b.length ≤ 140737488355328) (ver : Nat) : AFn Try.prog 6 [.ow 20000 0 b.length ver] [.br (b.map byteN) ver 5 1] (readA (readR b)) [.br (b.map byteN) ver 5 1] := by
  refine afn_lend (read_k b h8 hbl) ?_ (mapM_id fun x hx => ?_) 12 (ap_read (u8s_bytes b) _)
  · have e1 : rowCut (b.map byteN) 0 (b.length * 1) = b.map byteN := by simp [rowCut]
    have e2 : lendA (b.map byteN) ver 1 (.ow 20000 0 b.length ver) = some (.sl (b.map byteN) b.length .none) := by
      simp only [lendA]
      rw [if_pos ⟨trivial, trivial, by simp⟩, e1]
    rw [List.mapM_cons, e2]; rfl
  · obtain ⟨z, _, rfl⟩ := List.mem_map.1 hx; rfl
/-! ### Bytes turned. -/
abbrev u8A (z : Int) : AV := .c (.int .u8 z)
theorem mapU_ren (g : List (Nat × Nat)) (k : Nat) : ∀ xs : List Int, (xs.map u8A).map (ren g (k + 1)) = xs.map u8A
  | [] => rfl
  | x :: r => by rw [List.map_cons, List.map_cons, mapU_ren g k r]; rfl
theorem mapU_ref (b k : Nat) : ∀ xs : List Int, (xs.map u8A).any (hasRef b (k + 1)) = false
  | [] => rfl
  | x :: r => by rw [List.map_cons, List.any_cons, mapU_ref b k r]; rfl
theorem mapU_nm (t : Bool) (k : Nat) : ∀ xs : List Int, (xs.map u8A).flatMap (names t (k + 1)) = []
  | [] => rfl
  | x :: r => by rw [List.map_cons, List.flatMap_cons, mapU_nm t k r]; rfl
theorem mapU_ren4 (g : List (Nat × Nat)) (xs : List Int) : (xs.map u8A).map (ren g 4) = xs.map u8A := mapU_ren g 3 xs
theorem mapU_ref4 (b : Nat) (xs : List Int) : (xs.map u8A).any (hasRef b 4) = false := mapU_ref b 3 xs
theorem mapU_nm3 (t : Bool) (xs : List Int) : (xs.map u8A).flatMap (names t 3) = [] := mapU_nm t 2 xs
attribute [go_sem] mapU_ren mapU_ref mapU_nm mapU_ren4 mapU_ref4 mapU_nm3
theorem put_u8 (xs : List Int) {j : Nat} (h : j < xs.length) (y : Int) : putAt (xs.map u8A) j [u8A y] = (xs.set j y).map u8A := by
  unfold putAt
  rw [List.set_eq_take_append_cons_drop, if_pos h, List.map_append, List.map_cons, List.map_take, List.map_drop, List.append_assoc]; rfl
theorem rWrite_n (w : List RecordD) (hw : OkLen w ∧ ∀ r ∈ w, OkRecord r) (hl : (witnessB w).length + 20 ≤ 140737488355328) :
    ∃ (L : List Nat) (c : Int), Is8 L ∧ AFn Try.prog 7 [.agg [recordsA w]] [] (.tup [.sl (L.map byteN) L.length .none, .c (.int .i64 c)]) [] := by
  have h3 := rWrite_k w hw hl
  obtain ⟨L, c, ow, hL8, how, hLe⟩ := rWriteR_e w
  rw [hLe] at h3
  refine ⟨L, c, hL8, ?_⟩
  rcases how with rfl | rfl
  · exact h3
  · exact afn_wk h3 3 rfl
def lv_trammel_trammellaw12_PackStays : Nat → List Nat
  | 0 => [0, 1]
  | 1 => [0, 3]
  | 2 => [0, 3, 5]
  | 3 => [0, 3, 5, 6]
  | 4 => [5]
  | 5 => [0, 3, 5]
  | 6 => [0, 3, 5, 7]
  | 7 => [0, 3, 5, 7, 8, 9]
  | 8 => [0, 3, 5, 7, 8, 9, 10]
  | 9 => [0, 3, 5, 7, 8, 9, 10, 11]
  | 10 => [0, 3, 5, 7, 8, 9, 10, 11]
  | 11 => [0, 3, 5, 7, 8, 9, 10, 11]
  | 12 => [0, 3, 5, 8, 9, 10]
  | 13 => [3, 5, 8, 9, 10, 12, 13]
  | 14 => [3, 5, 9, 10, 12, 13, 14]
  | 15 => [3, 5, 9, 10, 13, 14, 16]
  | 16 => [3, 5, 9, 10, 13, 14, 16, 18]
  | 17 => [3, 5, 9, 10, 13, 14, 16, 18, 20]
  | 18 => [3, 5, 9, 10, 13, 14, 16, 18, 20, 22]
  | 19 => [3, 5, 9, 10, 13, 14, 16, 18, 20, 22]
  | 20 => [3, 5, 9, 10, 13, 14, 16, 18, 20, 22]
  | 21 => [3, 5, 9, 10, 13, 14, 16, 18]
  | 22 => [5, 9, 10, 13, 14, 16, 18, 23]
  | _ => []
set_option maxRecDepth 100000 in
set_option maxHeartbeats 16000000 in
theorem packStays_k (b : List Nat) (w : List RecordD) (h8 : Is8 b) (hbl : b.length ≤ 140737488351232) (hw : OkWitness w) : AFn Try.prog 3 [.sl (b.map byteN) b.length .none, .agg [recordsA w]] [] (.c (.bool true)) [] := by
  have hlk := light_k w
  cases hl : lightW w
  · rw [hl] at hlk
    refine afn_of [] Try.func3 rfl Try.ntmps3 (Nat.le_of_ble_eq_true rfl) (Nat.le_of_ble_eq_true rfl) fun w0 G0 B0 Pr hB0 => ?_
    simp only [start, argMap, List.cons_append, List.nil_append]
    repeat' (first
      | (with_reducible refine hY _ ?_; clear hY Y)
      | ((with_reducible first | refine run_n rfl (runN fun K' hK' => todo ?_) | refine hK' _ (eqTo2 fun Y hY => todo ?_) | refine run_g rfl (eqTo2 fun Y hY => todo ?_) | refine eqTo2 fun Y hY => todo ?_ | refine runN fun K' hK' => todo ?_ | refine aw_regionB tk0 lv_trammel_trammellaw12_PackStays (eqTo2 fun Y hY => todo ?_) | refine todo ?_ | refine qretT_r ?_ | refine draw_n rfl (drawN fun K' hK' => todo ?_) | refine hK' _ _ (eqTo2 fun Y hY => todo ?_) | refine draw_g rfl (eqTo2 fun Y hY => todo ?_) | refine drawN fun K' hK' => todo ?_ | refine qretT_n ?_); (try clear hK' K'); (try dsimp only [aop]); try simp only [go_sem, ↓reduceIte, Nat.reduceEqDiff, Nat.reduceLT, Nat.reduceLeDiff, Nat.reduceAdd, Nat.reduceSub, Nat.reduceMul, Nat.reduceBEq, Nat.reduceBNe, Nat.reducePow, Int.reduceToNat, Int.reduceLE, Int.reduceLT, Int.reduceMul, Int.reduceEq, Int.reducePow, Int.reduceAdd, Int.reduceSub, Int.reduceNeg, reduceCtorEq, lv_trammel_trammellaw12_PackStays, Try.results3])
      | (with_reducible first | refine run_nil ?_ | refine guardG_n rfl ?_ | refine guardG_y ?_ | refine guardG_u ?_ | refine andD ?_ ?_ | refine then_n ?_ | refine aw_seq ?_ | refine regN fun K hK => ?_ | refine condV_t ?_ | refine condV_f ?_ | refine then_e ?_ | refine then_r ?_ | refine block_n ?_ | refine block_r ?_ | refine block_e ?_ | refine aw_block ?_ | refine aw_skip ?_ | refine aw_ret ?_ | refine aw_exit ?_ | refine aw_loop ?_ | refine aw_condc_t ?_ | refine aw_condc_f ?_ | refine draw_nil ?_ | refine regD fun K hK => ?_)
      | (with_reducible refine hK _ ?_; clear hK K)
      | (with_reducible refine hK _ _ ?_ ?_; (· kernel_rfl); clear hK K)
      | ((with_reducible first | refine gO_some ?_ ?_ | refine aw_condE ?_ ?_ | refine block_o ?_ ?_); (· decide))
      | (with_reducible refine aw_drawB tk0 lv_trammel_trammellaw12_PackStays ?_ ?_; (· kernel_rfl))
      | ((with_reducible first | refine guardG_b (fun hc => ?_) (fun hc => ?_) | refine condV_b (fun hc => ?_) (fun hc => ?_)) <;> (try simp only [decide_eq_true_eq, decide_eq_false_iff_not, Bool.not_true, Bool.not_false, Bool.not_eq_true', Bool.not_eq_false'] at hc) <;> (try (exfalso; omega)))
      | (with_reducible refine and_i ?_ ?_; (· first | omega | assumption | (refine ⟨?_, ?_⟩ <;> (first | omega | assumption | (simp only [List.length_append, List.length_map, List.length_cons, List.length_nil] <;> omega))) | (refine ⟨?_, ?_, ?_⟩ <;> (first | omega | assumption | (simp only [List.length_append, List.length_map, List.length_cons, List.length_nil] <;> omega))) | (simp only [List.length_append, List.length_map, List.length_cons, List.length_nil] <;> omega)))
      | (with_reducible refine ex_callT (up_k) ?_)
      | (with_reducible refine ex_callT (hlk) ?_)
      | (with_reducible refine ex_seal ?_)
      | fail)
  rw [hl] at hlk
  by_cases hl5 : 5000 < b.length
  · have hl1 : (5000 : Int) < (b.length : Int) := by omega
    refine afn_of [] Try.func3 rfl Try.ntmps3 (Nat.le_of_ble_eq_true rfl) (Nat.le_of_ble_eq_true rfl) fun w0 G0 B0 Pr hB0 => ?_
    simp only [start, argMap, List.cons_append, List.nil_append]
    repeat' (first
      | (with_reducible refine hY _ ?_; clear hY Y)
      | ((with_reducible first | refine run_n rfl (runN fun K' hK' => todo ?_) | refine hK' _ (eqTo2 fun Y hY => todo ?_) | refine run_g rfl (eqTo2 fun Y hY => todo ?_) | refine eqTo2 fun Y hY => todo ?_ | refine runN fun K' hK' => todo ?_ | refine aw_regionB tk0 lv_trammel_trammellaw12_PackStays (eqTo2 fun Y hY => todo ?_) | refine todo ?_ | refine qretT_r ?_ | refine draw_n rfl (drawN fun K' hK' => todo ?_) | refine hK' _ _ (eqTo2 fun Y hY => todo ?_) | refine draw_g rfl (eqTo2 fun Y hY => todo ?_) | refine drawN fun K' hK' => todo ?_ | refine qretT_n ?_); (try clear hK' K'); (try dsimp only [aop]); try simp only [go_sem, ↓reduceIte, Nat.reduceEqDiff, Nat.reduceLT, Nat.reduceLeDiff, Nat.reduceAdd, Nat.reduceSub, Nat.reduceMul, Nat.reduceBEq, Nat.reduceBNe, Nat.reducePow, Int.reduceToNat, Int.reduceLE, Int.reduceLT, Int.reduceMul, Int.reduceEq, Int.reducePow, Int.reduceAdd, Int.reduceSub, Int.reduceNeg, reduceCtorEq, lv_trammel_trammellaw12_PackStays, Try.results3, hl1])
      | (with_reducible first | refine run_nil ?_ | refine guardG_n rfl ?_ | refine guardG_y ?_ | refine guardG_u ?_ | refine andD ?_ ?_ | refine then_n ?_ | refine aw_seq ?_ | refine regN fun K hK => ?_ | refine condV_t ?_ | refine condV_f ?_ | refine then_e ?_ | refine then_r ?_ | refine block_n ?_ | refine block_r ?_ | refine block_e ?_ | refine aw_block ?_ | refine aw_skip ?_ | refine aw_ret ?_ | refine aw_exit ?_ | refine aw_loop ?_ | refine aw_condc_t ?_ | refine aw_condc_f ?_ | refine draw_nil ?_ | refine regD fun K hK => ?_)
      | (with_reducible refine hK _ ?_; clear hK K)
      | (with_reducible refine hK _ _ ?_ ?_; (· kernel_rfl); clear hK K)
      | ((with_reducible first | refine gO_some ?_ ?_ | refine aw_condE ?_ ?_ | refine block_o ?_ ?_); (· decide))
      | (with_reducible refine aw_drawB tk0 lv_trammel_trammellaw12_PackStays ?_ ?_; (· kernel_rfl))
      | ((with_reducible first | refine guardG_b (fun hc => ?_) (fun hc => ?_) | refine condV_b (fun hc => ?_) (fun hc => ?_)) <;> (try simp only [decide_eq_true_eq, decide_eq_false_iff_not, Bool.not_true, Bool.not_false, Bool.not_eq_true', Bool.not_eq_false'] at hc) <;> (try (exfalso; omega)))
      | (with_reducible refine and_i ?_ ?_; (· first | omega | assumption | (refine ⟨?_, ?_⟩ <;> (first | omega | assumption | (simp only [List.length_append, List.length_map, List.length_cons, List.length_nil] <;> omega))) | (refine ⟨?_, ?_, ?_⟩ <;> (first | omega | assumption | (simp only [List.length_append, List.length_map, List.length_cons, List.length_nil] <;> omega))) | (simp only [List.length_append, List.length_map, List.length_cons, List.length_nil] <;> omega)))
      | (with_reducible refine ex_callT (up_k) ?_)
      | (with_reducible refine ex_callT (hlk) ?_)
      | (with_reducible refine ex_seal ?_)
      | fail)
  have hl1 : ¬ (5000 : Int) < (b.length : Int) := by omega
  have hb := light_bound hw hl
  have hRo := read_o b h8 (by omega) b.length
  have hR := read_k b h8 (by omega)
  obtain ⟨hok, hbd⟩ := read_ok h8
  obtain ⟨L, cL, hL8, hRX⟩ := rWrite_n (readR b).1 hok hbd
  obtain ⟨M, cM, hM8, hRW⟩ := rWrite_n w hw hb
  have hbk := back_k h8
  have hLk := back_k hL8
  have hMk := back_k hM8
  have hblen : b.length = (b.map byteN).length := by simp
  have hLlen : L.length = (L.map byteN).length := by simp
  have hMlen : M.length = (M.map byteN).length := by simp
  have he16 : (readR b).2 ≤ 16 := by
    unfold readR
    repeat' split
    all_goals simp
  have hck := code_k (readR b).2 he16
  have hWn := fun h : ¬ (witnessB w).length ≤ 4194304 => write_k w hw hb
  have hWo := fun h : (witnessB w).length ≤ 4194304 => write_o w hw h
  clear he16 hok hbd hb
  generalize readR b = q at *
  obtain ⟨X, e⟩ := q
  unfold readA at hR hRo
  simp only at hR hRo hRX hck
  refine afn_of [] Try.func3 rfl Try.ntmps3 (Nat.le_of_ble_eq_true rfl) (Nat.le_of_ble_eq_true rfl) fun w0 G0 B0 Pr hB0 => ?_
  simp only [start, argMap, List.cons_append, List.nil_append]
  repeat' (first
    | (with_reducible refine hY _ ?_; clear hY Y)
    | ((with_reducible first | refine run_n rfl (runN fun K' hK' => todo ?_) | refine hK' _ (eqTo2 fun Y hY => todo ?_) | refine run_g rfl (eqTo2 fun Y hY => todo ?_) | refine eqTo2 fun Y hY => todo ?_ | refine runN fun K' hK' => todo ?_ | refine aw_regionB tk0 lv_trammel_trammellaw12_PackStays (eqTo2 fun Y hY => todo ?_) | refine todo ?_ | refine qretT_r ?_ | refine draw_n rfl (drawN fun K' hK' => todo ?_) | refine hK' _ _ (eqTo2 fun Y hY => todo ?_) | refine draw_g rfl (eqTo2 fun Y hY => todo ?_) | refine drawN fun K' hK' => todo ?_ | refine qretT_n ?_); (try clear hK' K'); (try dsimp only [aop]); try simp only [go_sem, ↓reduceIte, Nat.reduceEqDiff, Nat.reduceLT, Nat.reduceLeDiff, Nat.reduceAdd, Nat.reduceSub, Nat.reduceMul, Nat.reduceBEq, Nat.reduceBNe, Nat.reducePow, Int.reduceToNat, Int.reduceLE, Int.reduceLT, Int.reduceMul, Int.reduceEq, Int.reducePow, Int.reduceAdd, Int.reduceSub, Int.reduceNeg, reduceCtorEq, lv_trammel_trammellaw12_PackStays, Try.results3, hl1, toBytes_byteN])
    | (with_reducible first | refine run_nil ?_ | refine guardG_n rfl ?_ | refine guardG_y ?_ | refine guardG_u ?_ | refine andD ?_ ?_ | refine then_n ?_ | refine aw_seq ?_ | refine regN fun K hK => ?_ | refine condV_t ?_ | refine condV_f ?_ | refine then_e ?_ | refine then_r ?_ | refine block_n ?_ | refine block_r ?_ | refine block_e ?_ | refine aw_block ?_ | refine aw_skip ?_ | refine aw_ret ?_ | refine aw_exit ?_ | refine aw_loop ?_ | refine aw_condc_t ?_ | refine aw_condc_f ?_ | refine draw_nil ?_ | refine regD fun K hK => ?_)
    | (with_reducible refine hK _ ?_; clear hK K)
    | (with_reducible refine hK _ _ ?_ ?_; (· kernel_rfl); clear hK K)
    | ((with_reducible first | refine gO_some ?_ ?_ | refine aw_condE ?_ ?_ | refine block_o ?_ ?_); (· decide))
    | (with_reducible refine aw_drawB tk0 lv_trammel_trammellaw12_PackStays ?_ ?_; (· kernel_rfl))
    | ((with_reducible first | refine guardG_b (fun hc => ?_) (fun hc => ?_) | refine condV_b (fun hc => ?_) (fun hc => ?_)) <;> (try simp only [decide_eq_true_eq, decide_eq_false_iff_not, Bool.not_true, Bool.not_false, Bool.not_eq_true', Bool.not_eq_false'] at hc) <;> (try (exfalso; omega)))
    | (with_reducible refine and_i ?_ ?_; (· first | omega | assumption | (refine ⟨?_, ?_⟩ <;> (first | omega | assumption | (simp only [List.length_append, List.length_map, List.length_cons, List.length_nil] <;> omega))) | (refine ⟨?_, ?_, ?_⟩ <;> (first | omega | assumption | (simp only [List.length_append, List.length_map, List.length_cons, List.length_nil] <;> omega))) | (simp only [List.length_append, List.length_map, List.length_cons, List.length_nil] <;> omega)))
    | (with_reducible refine ex_mut ?_)
    | (with_reducible refine ex_callT (up_k) ?_)
    | (with_reducible refine ex_callT (hlk) ?_)
    | (with_reducible refine ex_callT (hRo) ?_)
    | (with_reducible refine ex_okT (eql_pure _) ?_)
    | (with_reducible refine ex_okT (eql_same _) ?_)
    | (with_reducible refine ex_seal ?_)
    | fail)
  refine awl_ind (α := Nat × List Int) (fun a => [(0, .sl (b.map byteN) b.length .none), (3, .loc 10003 0), (5, .c (.bool true)), (7, .ow 10038 0 b.length b.length), (8, .loc 10008 0), (9, codeA e), (10, .c (.bool true)), (11, intA (a.1 : Int)), (10003, .bc [recordsA w] 25), (10008, .bc [recordsA X] 25), (10038, .br (a.2.map u8A) b.length 5 1)])
    (fun a => a.1 ≤ b.length ∧ a.2.length = b.length) (fun a => b.length - a.1) (0, b.map fun x : Nat => (x : Int)) [0, 3, 5, 7, 8, 9, 10, 11] ?_ ⟨Nat.zero_le _, by simp⟩ ?_
  · simp only [go_sem, ↓reduceIte, Nat.reduceEqDiff, Nat.reduceLT, Nat.reduceLeDiff, Nat.reduceAdd, Nat.reduceSub, Nat.reduceMul, Nat.reduceBEq, Nat.reduceBNe, Nat.reducePow, Int.reduceToNat, Int.reduceLE, Int.reduceLT, Int.reduceMul, Int.reduceEq, Int.reducePow, Int.reduceAdd, Int.reduceSub, Int.reduceNeg, reduceCtorEq, List.map_map]; rfl
  rintro ⟨i, zs⟩ ⟨hi, hzl⟩ ih
  simp only at hi hzl ih ⊢
  by_cases hlt : i < b.length
  · have hlt' : ((i : Int) < (b.length : Int)) = True := eq_true (by omega)
    have hkw : IntKind.i64.wrap ((i : Int) + 1) = ((i + 1 : Nat) : Int) := by rw [wrap_i64 (by omega) (by omega)]; rfl
    have hl2 : (zs.map u8A).length = b.length := by rw [List.length_map]; exact hzl
    have hg : (zs.map u8A).getD i .u = u8A (zs[i]'(by omega)) := map_at (by omega)
    have hpt := put_u8 zs (j := i) (by omega) (IntKind.u8.wrap (zs[i]'(by omega) + 1))
    unfold putAt at hpt
    have ih' := ih (i + 1, zs.set i (IntKind.u8.wrap (zs[i]'(by omega) + 1))) ⟨by simp only; omega, by simp only [List.length_set]; omega⟩ (by simp only; omega)
    simp only at ih'
    rw [← hpt] at ih'
    clear ih hpt hRo hR hRX hRW hck hWn hWo
    generalize zs[i]'(by omega) = z at *
    repeat' (first
      | (with_reducible refine hY _ ?_; clear hY Y)
      | ((with_reducible first | refine run_n rfl (runN fun K' hK' => todo ?_) | refine hK' _ (eqTo2 fun Y hY => todo ?_) | refine run_g rfl (eqTo2 fun Y hY => todo ?_) | refine eqTo2 fun Y hY => todo ?_ | refine runN fun K' hK' => todo ?_ | refine aw_regionB tk0 lv_trammel_trammellaw12_PackStays (eqTo2 fun Y hY => todo ?_) | refine todo ?_ | refine qretT_r ?_ | refine draw_n rfl (drawN fun K' hK' => todo ?_) | refine hK' _ _ (eqTo2 fun Y hY => todo ?_) | refine draw_g rfl (eqTo2 fun Y hY => todo ?_) | refine drawN fun K' hK' => todo ?_ | refine qretT_n ?_); (try clear hK' K'); (try dsimp only [aop]); try simp only [go_sem, ↓reduceIte, Nat.reduceEqDiff, Nat.reduceLT, Nat.reduceLeDiff, Nat.reduceAdd, Nat.reduceSub, Nat.reduceMul, Nat.reduceBEq, Nat.reduceBNe, Nat.reducePow, Int.reduceToNat, Int.reduceLE, Int.reduceLT, Int.reduceMul, Int.reduceEq, Int.reducePow, Int.reduceAdd, Int.reduceSub, Int.reduceNeg, reduceCtorEq, lv_trammel_trammellaw12_PackStays, Try.results3, hlt', hkw, hl2, hg])
      | (with_reducible first | refine run_nil ?_ | refine guardG_n rfl ?_ | refine guardG_y ?_ | refine guardG_u ?_ | refine andD ?_ ?_ | refine then_n ?_ | refine aw_seq ?_ | refine regN fun K hK => ?_ | refine condV_t ?_ | refine condV_f ?_ | refine then_e ?_ | refine then_r ?_ | refine block_n ?_ | refine block_r ?_ | refine block_e ?_ | refine aw_block ?_ | refine aw_skip ?_ | refine aw_ret ?_ | refine aw_exit ?_ | refine aw_loop ?_ | refine aw_condc_t ?_ | refine aw_condc_f ?_ | refine draw_nil ?_ | refine regD fun K hK => ?_)
      | (with_reducible refine hK _ ?_; clear hK K)
      | (with_reducible refine hK _ _ ?_ ?_; (· kernel_rfl); clear hK K)
      | ((with_reducible first | refine gO_some ?_ ?_ | refine aw_condE ?_ ?_ | refine block_o ?_ ?_); (· decide))
      | (with_reducible refine aw_drawB tk0 lv_trammel_trammellaw12_PackStays ?_ ?_; (· kernel_rfl))
      | ((with_reducible first | refine guardG_b (fun hc => ?_) (fun hc => ?_) | refine condV_b (fun hc => ?_) (fun hc => ?_)) <;> (try simp only [decide_eq_true_eq, decide_eq_false_iff_not, Bool.not_true, Bool.not_false, Bool.not_eq_true', Bool.not_eq_false'] at hc) <;> (try (exfalso; omega)))
      | (with_reducible refine and_i ?_ ?_; (· first | omega | assumption | (refine ⟨?_, ?_⟩ <;> (first | omega | assumption | (simp only [List.length_append, List.length_map, List.length_cons, List.length_nil] <;> omega))) | (refine ⟨?_, ?_, ?_⟩ <;> (first | omega | assumption | (simp only [List.length_append, List.length_map, List.length_cons, List.length_nil] <;> omega))) | (simp only [List.length_append, List.length_map, List.length_cons, List.length_nil] <;> omega)))
      | (with_reducible refine ex_seal ?_)
      | fail)
    refine awl_keep [0, 3, 5, 7, 8, 9, 10, 11] (by simp only [go_sem, ↓reduceIte, Nat.reduceEqDiff, Nat.reduceLT, Nat.reduceLeDiff, Nat.reduceAdd, Nat.reduceSub, Nat.reduceMul, Nat.reduceBEq, Nat.reduceBNe, Nat.reducePow, Int.reduceToNat, Int.reduceLE, Int.reduceLT, Int.reduceMul, Int.reduceEq, Int.reducePow, Int.reduceAdd, Int.reduceSub, Int.reduceNeg, reduceCtorEq, mapU_ref4]; exact rfl) ?_
    refine awl_eq ih' ?_
    simp
  have hlt' : ((i : Int) < (b.length : Int)) = False := eq_false (by omega)
  clear ih
  by_cases hfit : (witnessB w).length ≤ 4194304
  · have hW := hWo hfit
    simp only [rowA] at hW
    generalize witnessB w = O at *
    repeat' (first
      | (with_reducible refine hY _ ?_; clear hY Y)
      | ((with_reducible first | refine run_n rfl (runN fun K' hK' => todo ?_) | refine hK' _ (eqTo2 fun Y hY => todo ?_) | refine run_g rfl (eqTo2 fun Y hY => todo ?_) | refine eqTo2 fun Y hY => todo ?_ | refine runN fun K' hK' => todo ?_ | refine aw_regionB tk0 lv_trammel_trammellaw12_PackStays (eqTo2 fun Y hY => todo ?_) | refine todo ?_ | refine qretT_r ?_ | refine draw_n rfl (drawN fun K' hK' => todo ?_) | refine hK' _ _ (eqTo2 fun Y hY => todo ?_) | refine draw_g rfl (eqTo2 fun Y hY => todo ?_) | refine drawN fun K' hK' => todo ?_ | refine qretT_n ?_); (try clear hK' K'); (try dsimp only [aop]); try simp only [go_sem, ↓reduceIte, Nat.reduceEqDiff, Nat.reduceLT, Nat.reduceLeDiff, Nat.reduceAdd, Nat.reduceSub, Nat.reduceMul, Nat.reduceBEq, Nat.reduceBNe, Nat.reducePow, Int.reduceToNat, Int.reduceLE, Int.reduceLT, Int.reduceMul, Int.reduceEq, Int.reducePow, Int.reduceAdd, Int.reduceSub, Int.reduceNeg, reduceCtorEq, lv_trammel_trammellaw12_PackStays, Try.results3, hlt'])
      | (with_reducible first | refine run_nil ?_ | refine guardG_n rfl ?_ | refine guardG_y ?_ | refine guardG_u ?_ | refine andD ?_ ?_ | refine then_n ?_ | refine aw_seq ?_ | refine regN fun K hK => ?_ | refine condV_t ?_ | refine condV_f ?_ | refine then_e ?_ | refine then_r ?_ | refine block_n ?_ | refine block_r ?_ | refine block_e ?_ | refine aw_block ?_ | refine aw_skip ?_ | refine aw_ret ?_ | refine aw_exit ?_ | refine aw_loop ?_ | refine aw_condc_t ?_ | refine aw_condc_f ?_ | refine draw_nil ?_ | refine regD fun K hK => ?_)
      | (with_reducible refine hK _ ?_; clear hK K)
      | (with_reducible refine hK _ _ ?_ ?_; (· kernel_rfl); clear hK K)
      | ((with_reducible first | refine gO_some ?_ ?_ | refine aw_condE ?_ ?_ | refine block_o ?_ ?_); (· decide))
      | (with_reducible refine aw_drawB tk0 lv_trammel_trammellaw12_PackStays ?_ ?_; (· kernel_rfl))
      | ((with_reducible first | refine guardG_b (fun hc => ?_) (fun hc => ?_) | refine condV_b (fun hc => ?_) (fun hc => ?_)) <;> (try simp only [decide_eq_true_eq, decide_eq_false_iff_not, Bool.not_true, Bool.not_false, Bool.not_eq_true', Bool.not_eq_false'] at hc) <;> (try (exfalso; omega)))
      | (with_reducible refine and_i ?_ ?_; (· first | omega | assumption | (refine ⟨?_, ?_⟩ <;> (first | omega | assumption | (simp only [List.length_append, List.length_map, List.length_cons, List.length_nil] <;> omega))) | (refine ⟨?_, ?_, ?_⟩ <;> (first | omega | assumption | (simp only [List.length_append, List.length_map, List.length_cons, List.length_nil] <;> omega))) | (simp only [List.length_append, List.length_map, List.length_cons, List.length_nil] <;> omega)))
      | (with_reducible refine ex_callT (hR) ?_)
      | (with_reducible refine ex_callT (hRX) ?_)
      | (with_reducible refine ex_callT (hRW) ?_)
      | (with_reducible refine ex_callT (hW) ?_)
      | (with_reducible refine ex_seal ?_)
      | fail)
    refine awl_ind (α := Nat × List Int) (fun a => [(3, .loc 10003 0), (5, .c (.bool true)), (9, codeA e), (10, .c (.bool true)), (13, codeA e), (14, .sl (L.map byteN) L.length .none), (16, .sl (L.map byteN) L.length .none), (18, .sl (M.map byteN) M.length .none), (20, .ow 10085 0 O.length O.length), (22, intA (a.1 : Int)), (10003, .bc [recordsA w] 25), (10085, .br (a.2.map u8A) O.length 5 1)])
      (fun a => a.1 ≤ O.length ∧ a.2.length = O.length) (fun a => O.length - a.1) (0, O.map fun x : Nat => (x : Int)) [3, 5, 9, 10, 13, 14, 16, 18, 20, 22] ?_ ⟨Nat.zero_le _, by simp⟩ ?_
    · simp only [go_sem, ↓reduceIte, Nat.reduceEqDiff, Nat.reduceLT, Nat.reduceLeDiff, Nat.reduceAdd, Nat.reduceSub, Nat.reduceMul, Nat.reduceBEq, Nat.reduceBNe, Nat.reducePow, Int.reduceToNat, Int.reduceLE, Int.reduceLT, Int.reduceMul, Int.reduceEq, Int.reducePow, Int.reduceAdd, Int.reduceSub, Int.reduceNeg, reduceCtorEq, List.map_map]; rfl
    rintro ⟨j, ys⟩ ⟨hj, hyl⟩ ih
    simp only at hj hyl ih ⊢
    by_cases hltj : j < O.length
    · have hlt2 : ((j : Int) < (O.length : Int)) = True := eq_true (by omega)
      have hkw : IntKind.i64.wrap ((j : Int) + 1) = ((j + 1 : Nat) : Int) := by rw [wrap_i64 (by omega) (by omega)]; rfl
      have hl2 : (ys.map u8A).length = O.length := by rw [List.length_map]; exact hyl
      have hg : (ys.map u8A).getD j .u = u8A (ys[j]'(by omega)) := map_at (by omega)
      have hpt := put_u8 ys (j := j) (by omega) (IntKind.u8.wrap (ys[j]'(by omega) + 1))
      unfold putAt at hpt
      have ih' := ih (j + 1, ys.set j (IntKind.u8.wrap (ys[j]'(by omega) + 1))) ⟨by simp only; omega, by simp only [List.length_set]; omega⟩ (by simp only; omega)
      simp only at ih'
      rw [← hpt] at ih'
      clear ih hpt hRo hR hRX hRW hck hWn hWo hW
      generalize ys[j]'(by omega) = z at *
      repeat' (first
        | (with_reducible refine hY _ ?_; clear hY Y)
        | ((with_reducible first | refine run_n rfl (runN fun K' hK' => todo ?_) | refine hK' _ (eqTo2 fun Y hY => todo ?_) | refine run_g rfl (eqTo2 fun Y hY => todo ?_) | refine eqTo2 fun Y hY => todo ?_ | refine runN fun K' hK' => todo ?_ | refine aw_regionB tk0 lv_trammel_trammellaw12_PackStays (eqTo2 fun Y hY => todo ?_) | refine todo ?_ | refine qretT_r ?_ | refine draw_n rfl (drawN fun K' hK' => todo ?_) | refine hK' _ _ (eqTo2 fun Y hY => todo ?_) | refine draw_g rfl (eqTo2 fun Y hY => todo ?_) | refine drawN fun K' hK' => todo ?_ | refine qretT_n ?_); (try clear hK' K'); (try dsimp only [aop]); try simp only [go_sem, ↓reduceIte, Nat.reduceEqDiff, Nat.reduceLT, Nat.reduceLeDiff, Nat.reduceAdd, Nat.reduceSub, Nat.reduceMul, Nat.reduceBEq, Nat.reduceBNe, Nat.reducePow, Int.reduceToNat, Int.reduceLE, Int.reduceLT, Int.reduceMul, Int.reduceEq, Int.reducePow, Int.reduceAdd, Int.reduceSub, Int.reduceNeg, reduceCtorEq, lv_trammel_trammellaw12_PackStays, Try.results3, hlt2, hkw, hl2, hg])
        | (with_reducible first | refine run_nil ?_ | refine guardG_n rfl ?_ | refine guardG_y ?_ | refine guardG_u ?_ | refine andD ?_ ?_ | refine then_n ?_ | refine aw_seq ?_ | refine regN fun K hK => ?_ | refine condV_t ?_ | refine condV_f ?_ | refine then_e ?_ | refine then_r ?_ | refine block_n ?_ | refine block_r ?_ | refine block_e ?_ | refine aw_block ?_ | refine aw_skip ?_ | refine aw_ret ?_ | refine aw_exit ?_ | refine aw_loop ?_ | refine aw_condc_t ?_ | refine aw_condc_f ?_ | refine draw_nil ?_ | refine regD fun K hK => ?_)
        | (with_reducible refine hK _ ?_; clear hK K)
        | (with_reducible refine hK _ _ ?_ ?_; (· kernel_rfl); clear hK K)
        | ((with_reducible first | refine gO_some ?_ ?_ | refine aw_condE ?_ ?_ | refine block_o ?_ ?_); (· decide))
        | (with_reducible refine aw_drawB tk0 lv_trammel_trammellaw12_PackStays ?_ ?_; (· kernel_rfl))
        | ((with_reducible first | refine guardG_b (fun hc => ?_) (fun hc => ?_) | refine condV_b (fun hc => ?_) (fun hc => ?_)) <;> (try simp only [decide_eq_true_eq, decide_eq_false_iff_not, Bool.not_true, Bool.not_false, Bool.not_eq_true', Bool.not_eq_false'] at hc) <;> (try (exfalso; omega)))
        | (with_reducible refine and_i ?_ ?_; (· first | omega | assumption | (refine ⟨?_, ?_⟩ <;> (first | omega | assumption | (simp only [List.length_append, List.length_map, List.length_cons, List.length_nil] <;> omega))) | (refine ⟨?_, ?_, ?_⟩ <;> (first | omega | assumption | (simp only [List.length_append, List.length_map, List.length_cons, List.length_nil] <;> omega))) | (simp only [List.length_append, List.length_map, List.length_cons, List.length_nil] <;> omega)))
        | (with_reducible refine ex_seal ?_)
        | fail)
      refine awl_keep [3, 5, 9, 10, 13, 14, 16, 18, 20, 22] (by simp only [go_sem, ↓reduceIte, Nat.reduceEqDiff, Nat.reduceLT, Nat.reduceLeDiff, Nat.reduceAdd, Nat.reduceSub, Nat.reduceMul, Nat.reduceBEq, Nat.reduceBNe, Nat.reducePow, Int.reduceToNat, Int.reduceLE, Int.reduceLT, Int.reduceMul, Int.reduceEq, Int.reducePow, Int.reduceAdd, Int.reduceSub, Int.reduceNeg, reduceCtorEq, mapU_ref4]; exact rfl) ?_
      refine awl_eq ih' ?_
      simp
    have hlt2 : ((j : Int) < (O.length : Int)) = False := eq_false (by omega)
    clear ih
    repeat' (first
      | (with_reducible refine hY _ ?_; clear hY Y)
      | ((with_reducible first | refine run_n rfl (runN fun K' hK' => todo ?_) | refine hK' _ (eqTo2 fun Y hY => todo ?_) | refine run_g rfl (eqTo2 fun Y hY => todo ?_) | refine eqTo2 fun Y hY => todo ?_ | refine runN fun K' hK' => todo ?_ | refine aw_regionB tk0 lv_trammel_trammellaw12_PackStays (eqTo2 fun Y hY => todo ?_) | refine todo ?_ | refine qretT_r ?_ | refine draw_n rfl (drawN fun K' hK' => todo ?_) | refine hK' _ _ (eqTo2 fun Y hY => todo ?_) | refine draw_g rfl (eqTo2 fun Y hY => todo ?_) | refine drawN fun K' hK' => todo ?_ | refine qretT_n ?_); (try clear hK' K'); (try dsimp only [aop]); try simp only [go_sem, ↓reduceIte, Nat.reduceEqDiff, Nat.reduceLT, Nat.reduceLeDiff, Nat.reduceAdd, Nat.reduceSub, Nat.reduceMul, Nat.reduceBEq, Nat.reduceBNe, Nat.reducePow, Int.reduceToNat, Int.reduceLE, Int.reduceLT, Int.reduceMul, Int.reduceEq, Int.reducePow, Int.reduceAdd, Int.reduceSub, Int.reduceNeg, reduceCtorEq, lv_trammel_trammellaw12_PackStays, Try.results3, hlt2, toBytes_byteN])
      | (with_reducible first | refine run_nil ?_ | refine guardG_n rfl ?_ | refine guardG_y ?_ | refine guardG_u ?_ | refine andD ?_ ?_ | refine then_n ?_ | refine aw_seq ?_ | refine regN fun K hK => ?_ | refine condV_t ?_ | refine condV_f ?_ | refine then_e ?_ | refine then_r ?_ | refine block_n ?_ | refine block_r ?_ | refine block_e ?_ | refine aw_block ?_ | refine aw_skip ?_ | refine aw_ret ?_ | refine aw_exit ?_ | refine aw_loop ?_ | refine aw_condc_t ?_ | refine aw_condc_f ?_ | refine draw_nil ?_ | refine regD fun K hK => ?_)
      | (with_reducible refine hK _ ?_; clear hK K)
      | (with_reducible refine hK _ _ ?_ ?_; (· kernel_rfl); clear hK K)
      | ((with_reducible first | refine gO_some ?_ ?_ | refine aw_condE ?_ ?_ | refine block_o ?_ ?_); (· decide))
      | (with_reducible refine aw_drawB tk0 lv_trammel_trammellaw12_PackStays ?_ ?_; (· kernel_rfl))
      | ((with_reducible first | refine guardG_b (fun hc => ?_) (fun hc => ?_) | refine condV_b (fun hc => ?_) (fun hc => ?_)) <;> (try simp only [decide_eq_true_eq, decide_eq_false_iff_not, Bool.not_true, Bool.not_false, Bool.not_eq_true', Bool.not_eq_false'] at hc) <;> (try (exfalso; omega)))
      | (with_reducible refine and_i ?_ ?_; (· first | omega | assumption | (refine ⟨?_, ?_⟩ <;> (first | omega | assumption | (simp only [List.length_append, List.length_map, List.length_cons, List.length_nil] <;> omega))) | (refine ⟨?_, ?_, ?_⟩ <;> (first | omega | assumption | (simp only [List.length_append, List.length_map, List.length_cons, List.length_nil] <;> omega))) | (simp only [List.length_append, List.length_map, List.length_cons, List.length_nil] <;> omega)))
      | (with_reducible refine ex_callT (hck) ?_)
      | (with_reducible refine ex_callT (hRW) ?_)
      | (with_reducible refine ex_okT (eql_pure _) ?_)
      | (with_reducible refine ex_okT (eql_same _) ?_)
      | (with_reducible refine ex_seal ?_)
      | fail)
  · have hW := hWn hfit
    rw [writeR_e, if_neg hfit] at hW
    repeat' (first
      | (with_reducible refine hY _ ?_; clear hY Y)
      | ((with_reducible first | refine run_n rfl (runN fun K' hK' => todo ?_) | refine hK' _ (eqTo2 fun Y hY => todo ?_) | refine run_g rfl (eqTo2 fun Y hY => todo ?_) | refine eqTo2 fun Y hY => todo ?_ | refine runN fun K' hK' => todo ?_ | refine aw_regionB tk0 lv_trammel_trammellaw12_PackStays (eqTo2 fun Y hY => todo ?_) | refine todo ?_ | refine qretT_r ?_ | refine draw_n rfl (drawN fun K' hK' => todo ?_) | refine hK' _ _ (eqTo2 fun Y hY => todo ?_) | refine draw_g rfl (eqTo2 fun Y hY => todo ?_) | refine drawN fun K' hK' => todo ?_ | refine qretT_n ?_); (try clear hK' K'); (try dsimp only [aop]); try simp only [go_sem, ↓reduceIte, Nat.reduceEqDiff, Nat.reduceLT, Nat.reduceLeDiff, Nat.reduceAdd, Nat.reduceSub, Nat.reduceMul, Nat.reduceBEq, Nat.reduceBNe, Nat.reducePow, Int.reduceToNat, Int.reduceLE, Int.reduceLT, Int.reduceMul, Int.reduceEq, Int.reducePow, Int.reduceAdd, Int.reduceSub, Int.reduceNeg, reduceCtorEq, lv_trammel_trammellaw12_PackStays, Try.results3, hlt'])
      | (with_reducible first | refine run_nil ?_ | refine guardG_n rfl ?_ | refine guardG_y ?_ | refine guardG_u ?_ | refine andD ?_ ?_ | refine then_n ?_ | refine aw_seq ?_ | refine regN fun K hK => ?_ | refine condV_t ?_ | refine condV_f ?_ | refine then_e ?_ | refine then_r ?_ | refine block_n ?_ | refine block_r ?_ | refine block_e ?_ | refine aw_block ?_ | refine aw_skip ?_ | refine aw_ret ?_ | refine aw_exit ?_ | refine aw_loop ?_ | refine aw_condc_t ?_ | refine aw_condc_f ?_ | refine draw_nil ?_ | refine regD fun K hK => ?_)
      | (with_reducible refine hK _ ?_; clear hK K)
      | (with_reducible refine hK _ _ ?_ ?_; (· kernel_rfl); clear hK K)
      | ((with_reducible first | refine gO_some ?_ ?_ | refine aw_condE ?_ ?_ | refine block_o ?_ ?_); (· decide))
      | (with_reducible refine aw_drawB tk0 lv_trammel_trammellaw12_PackStays ?_ ?_; (· kernel_rfl))
      | ((with_reducible first | refine guardG_b (fun hc => ?_) (fun hc => ?_) | refine condV_b (fun hc => ?_) (fun hc => ?_)) <;> (try simp only [decide_eq_true_eq, decide_eq_false_iff_not, Bool.not_true, Bool.not_false, Bool.not_eq_true', Bool.not_eq_false'] at hc) <;> (try (exfalso; omega)))
      | (with_reducible refine and_i ?_ ?_; (· first | omega | assumption | (refine ⟨?_, ?_⟩ <;> (first | omega | assumption | (simp only [List.length_append, List.length_map, List.length_cons, List.length_nil] <;> omega))) | (refine ⟨?_, ?_, ?_⟩ <;> (first | omega | assumption | (simp only [List.length_append, List.length_map, List.length_cons, List.length_nil] <;> omega))) | (simp only [List.length_append, List.length_map, List.length_cons, List.length_nil] <;> omega)))
      | (with_reducible refine ex_callT (hR) ?_)
      | (with_reducible refine ex_callT (hRX) ?_)
      | (with_reducible refine ex_callT (hRW) ?_)
      | (with_reducible refine ex_callT (hW) ?_)
      | (with_reducible refine ex_seal ?_)
      | fail)
    refine awl_ind (α := Unit) (fun a => [(3, .loc 10003 0), (5, .c (.bool true)), (9, codeA e), (10, .c (.bool true)), (13, codeA e), (14, .sl (L.map byteN) L.length .none), (16, .sl (L.map byteN) L.length .none), (18, .sl (M.map byteN) M.length .none), (20, .sl [] 0 .full), (22, intA 0), (10003, .bc [recordsA w] 25)])
      (fun a => True) (fun a => 0) () [3, 5, 9, 10, 13, 14, 16, 18, 20, 22] ?_ trivial ?_
    · simp only [go_sem, ↓reduceIte, Nat.reduceEqDiff, Nat.reduceLT, Nat.reduceLeDiff, Nat.reduceAdd, Nat.reduceSub, Nat.reduceMul, Nat.reduceBEq, Nat.reduceBNe, Nat.reducePow, Int.reduceToNat, Int.reduceLE, Int.reduceLT, Int.reduceMul, Int.reduceEq, Int.reducePow, Int.reduceAdd, Int.reduceSub, Int.reduceNeg, reduceCtorEq] <;> rfl
    intro _ _ ih
    clear ih
    repeat' (first
      | (with_reducible refine hY _ ?_; clear hY Y)
      | ((with_reducible first | refine run_n rfl (runN fun K' hK' => todo ?_) | refine hK' _ (eqTo2 fun Y hY => todo ?_) | refine run_g rfl (eqTo2 fun Y hY => todo ?_) | refine eqTo2 fun Y hY => todo ?_ | refine runN fun K' hK' => todo ?_ | refine aw_regionB tk0 lv_trammel_trammellaw12_PackStays (eqTo2 fun Y hY => todo ?_) | refine todo ?_ | refine qretT_r ?_ | refine draw_n rfl (drawN fun K' hK' => todo ?_) | refine hK' _ _ (eqTo2 fun Y hY => todo ?_) | refine draw_g rfl (eqTo2 fun Y hY => todo ?_) | refine drawN fun K' hK' => todo ?_ | refine qretT_n ?_); (try clear hK' K'); (try dsimp only [aop]); try simp only [go_sem, ↓reduceIte, Nat.reduceEqDiff, Nat.reduceLT, Nat.reduceLeDiff, Nat.reduceAdd, Nat.reduceSub, Nat.reduceMul, Nat.reduceBEq, Nat.reduceBNe, Nat.reducePow, Int.reduceToNat, Int.reduceLE, Int.reduceLT, Int.reduceMul, Int.reduceEq, Int.reducePow, Int.reduceAdd, Int.reduceSub, Int.reduceNeg, reduceCtorEq, lv_trammel_trammellaw12_PackStays, Try.results3, toBytes_byteN])
      | (with_reducible first | refine run_nil ?_ | refine guardG_n rfl ?_ | refine guardG_y ?_ | refine guardG_u ?_ | refine andD ?_ ?_ | refine then_n ?_ | refine aw_seq ?_ | refine regN fun K hK => ?_ | refine condV_t ?_ | refine condV_f ?_ | refine then_e ?_ | refine then_r ?_ | refine block_n ?_ | refine block_r ?_ | refine block_e ?_ | refine aw_block ?_ | refine aw_skip ?_ | refine aw_ret ?_ | refine aw_exit ?_ | refine aw_loop ?_ | refine aw_condc_t ?_ | refine aw_condc_f ?_ | refine draw_nil ?_ | refine regD fun K hK => ?_)
      | (with_reducible refine hK _ ?_; clear hK K)
      | (with_reducible refine hK _ _ ?_ ?_; (· kernel_rfl); clear hK K)
      | ((with_reducible first | refine gO_some ?_ ?_ | refine aw_condE ?_ ?_ | refine block_o ?_ ?_); (· decide))
      | (with_reducible refine aw_drawB tk0 lv_trammel_trammellaw12_PackStays ?_ ?_; (· kernel_rfl))
      | ((with_reducible first | refine guardG_b (fun hc => ?_) (fun hc => ?_) | refine condV_b (fun hc => ?_) (fun hc => ?_)) <;> (try simp only [decide_eq_true_eq, decide_eq_false_iff_not, Bool.not_true, Bool.not_false, Bool.not_eq_true', Bool.not_eq_false'] at hc) <;> (try (exfalso; omega)))
      | (with_reducible refine and_i ?_ ?_; (· first | omega | assumption | (refine ⟨?_, ?_⟩ <;> (first | omega | assumption | (simp only [List.length_append, List.length_map, List.length_cons, List.length_nil] <;> omega))) | (refine ⟨?_, ?_, ?_⟩ <;> (first | omega | assumption | (simp only [List.length_append, List.length_map, List.length_cons, List.length_nil] <;> omega))) | (simp only [List.length_append, List.length_map, List.length_cons, List.length_nil] <;> omega)))
      | (with_reducible refine ex_callT (hck) ?_)
      | (with_reducible refine ex_callT (hRW) ?_)
      | (with_reducible refine ex_okT (eql_pure _) ?_)
      | (with_reducible refine ex_okT (eql_same _) ?_)
      | (with_reducible refine ex_seal ?_)
      | fail)
end Go.Proofs.Ytjgfhblciapkfaa

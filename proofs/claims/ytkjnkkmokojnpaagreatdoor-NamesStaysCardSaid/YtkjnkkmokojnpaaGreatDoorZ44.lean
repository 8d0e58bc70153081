/- The document's texts in K: statements. The document's texts in K: statements joined; the text of a program. -/
import Derived.Test.YtkjnkkmokojnpaaGreatDoorZ43
namespace Go.Proofs.YtkjnkkmokojnpaaGreatDoor
set_option linter.unusedSimpArgs false
set_option linter.unusedVariables false
open Go.RowKit
theorem Bo : nmT [] = [] := rfl
theorem Bn {x : Wd} (h : ¬ x = []) : nmT x = x ++ [32,58,61,32] := if_neg h
def ar : Nat → List Nat
 | 0 => [0]
 | 1 => [1]
 | 2 => [1,3]
 | 3 => [1]
 | 4 => [1,3]
 | 5 => [1,3,4]
 | 6 => [1,3,4,19]
 | 7 => []
 | 8 => [1,3,4,19]
 | 9 => [1,3]
 | 10 => [1,3,4,19]
 | 11 => [3,4]
 | 12 => [1,3,4,19]
 | 13 => [1,4]
 | 14 => [1,3,4,19]
 | 15 => [1,3]
 | 16 => [1,3,4,19]
 | 17 => [4]
 | 18 => [1,3,19]
 | 19 => [1]
 | 20 => [1,3,19]
 | 21 => [1]
 | 22 => [1,3,19]
 | 23 => [1]
 | 24 => [1,3]
 | _ => []
set_option maxRecDepth 100000 in
set_option maxHeartbeats 8000000 in
theorem BV (x f y : Wd) (e v : PE) (c : PC) (a : PA) (rs gs : List PE) (fs : List Wd) (b l : List PS') (he : TxE e) (hx : x.length ≤ 1000000000000) (hf : f.length ≤ 1000000000000)  : AFn Tryz.prog 90 [.agg (psA (.mk 0 x f y e v c a rs gs fs b l))] [] (bs (bb (tkS (.mk 0 x f y e v c a rs gs fs b l)))) [] := by
 rw [EL]
 obtain ⟨one,pure,len,g0,g1,g2,g3,s4,s8,s12,s15,g30,g31,g32,g33,g34⟩ := jG 0 x f y e v c a rs gs fs b l
 obtain ⟨le,ce⟩ := he
 have ne := (dF e).nm3
 have re := (dF e).rn3
 generalize psA (.mk 0 x f y e v c a rs gs fs b l) = SC at *
 generalize peA e = EC at *
 generalize bb (tkE e) = TE at *
 by_cases hn : x = []
 ·subst hn
  refine aM [] Tryz.func90 rfl Tryz.ntmps90 (Nat.le_of_ble_eq_true rfl) (Nat.le_of_ble_eq_true rfl) fun w0 G0 B0 Pr hB0 => ?_
  simp only [aW,aL,List.cons_append,List.nil_append]
  repeat' (first | (with_reducible refine hY _ ?_; clear hY Y) | ((with_reducible first | refine au rfl (ay fun K' hK' => aa ?_) | refine hK' _ (ab fun Y hY => aa ?_) | refine ab fun Y hY => aa ?_ | refine ac tk0 ar (ab fun Y hY => aa ?_) | refine aa ?_ | refine ax ?_ | refine cG rfl (cQ fun K' hK' => aa ?_) | refine hK' _ _ (ab fun Y hY => aa ?_)); (try clear hK' K'); (try dsimp only [aop]); try simp only [go_sem,seval,ar,Tryz.results90,one,len,g0,g1,g2,s4,ne,re]) | (with_reducible first | refine ag ?_ | refine am ?_ | refine aq ?_ | refine aG fun K hK => ?_ | refine az ?_ | refine aA ?_ | refine bh ?_ | refine bp ?_ | refine av ?_ | refine aH ?_ | refine aB ?_ | refine bK ?_ | refine ef fun K hK => ?_) | (with_reducible refine hK _ ?_; clear hK K) | (with_reducible refine hK _ _ ?_ ?_; (· kernel_rfl); clear hK K) | ((with_reducible refine ai ?_ ?_); (· decide)) | (with_reducible refine bV tk0 ar ?_ ?_; (· kernel_rfl)) | (with_reducible refine ae (ce) ?_) | (with_reducible refine bv (cD _ _ ?_) ?_; (· (try simp only [List.length_append,List.length_cons,List.length_nil]); omega)) | (with_reducible refine bv (bW _) ?_))
 ·have hb : (x == []) = false := by simpa using hn
  refine aM [] Tryz.func90 rfl Tryz.ntmps90 (Nat.le_of_ble_eq_true rfl) (Nat.le_of_ble_eq_true rfl) fun w0 G0 B0 Pr hB0 => ?_
  simp only [aW,aL,List.cons_append,List.nil_append]
  repeat' (first | (with_reducible refine hY _ ?_; clear hY Y) | ((with_reducible first | refine au rfl (ay fun K' hK' => aa ?_) | refine hK' _ (ab fun Y hY => aa ?_) | refine ab fun Y hY => aa ?_ | refine ac tk0 ar (ab fun Y hY => aa ?_) | refine aa ?_ | refine ax ?_ | refine cG rfl (cQ fun K' hK' => aa ?_) | refine hK' _ _ (ab fun Y hY => aa ?_)); (try clear hK' K'); (try dsimp only [aop]); try simp only [go_sem,seval,ar,Tryz.results90,one,len,g0,g1,g2,s4,ne,re,hb]) | (with_reducible first | refine ag ?_ | refine am ?_ | refine aq ?_ | refine aG fun K hK => ?_ | refine az ?_ | refine bh ?_ | refine bp ?_ | refine av ?_ | refine aB ?_ | refine bK ?_ | refine ef fun K hK => ?_) | (with_reducible refine hK _ ?_; clear hK K) | (with_reducible refine hK _ _ ?_ ?_; (· kernel_rfl); clear hK K) | ((with_reducible refine ai ?_ ?_); (· decide)) | (with_reducible refine bV tk0 ar ?_ ?_; (· kernel_rfl)) | (with_reducible refine ae (ce) ?_) | (with_reducible refine bv (cD _ _ ?_) ?_; (· (try simp only [List.length_append,List.length_cons,List.length_nil]); omega)) | (with_reducible refine bv (bW _) ?_))
set_option maxRecDepth 100000 in
set_option maxHeartbeats 8000000 in
theorem BW (x f y : Wd) (e v : PE) (c : PC) (a : PA) (rs gs : List PE) (fs : List Wd) (b l : List PS') (he : TxE e) (hx : x.length ≤ 1000000000000) (hf : f.length ≤ 1000000000000)  : AFn Tryz.prog 90 [.agg (psA (.mk 1 x f y e v c a rs gs fs b l))] [] (bs (bb (tkS (.mk 1 x f y e v c a rs gs fs b l)))) [] := by
 rw [EM]
 obtain ⟨one,pure,len,g0,g1,g2,g3,s4,s8,s12,s15,g30,g31,g32,g33,g34⟩ := jG 1 x f y e v c a rs gs fs b l
 obtain ⟨le,ce⟩ := he
 have ne := (dF e).nm3
 have re := (dF e).rn3
 generalize psA (.mk 1 x f y e v c a rs gs fs b l) = SC at *
 generalize peA e = EC at *
 generalize bb (tkE e) = TE at *
 by_cases hn : x = []
 ·subst hn
  rw [Bo]
  refine aM [] Tryz.func90 rfl Tryz.ntmps90 (Nat.le_of_ble_eq_true rfl) (Nat.le_of_ble_eq_true rfl) fun w0 G0 B0 Pr hB0 => ?_
  simp only [aW,aL,List.cons_append,List.nil_append]
  repeat' (first | (with_reducible refine hY _ ?_; clear hY Y) | ((with_reducible first | refine au rfl (ay fun K' hK' => aa ?_) | refine hK' _ (ab fun Y hY => aa ?_) | refine ab fun Y hY => aa ?_ | refine ac tk0 ar (ab fun Y hY => aa ?_) | refine aa ?_ | refine ax ?_ | refine cG rfl (cQ fun K' hK' => aa ?_) | refine hK' _ _ (ab fun Y hY => aa ?_)); (try clear hK' K'); (try dsimp only [aop]); try simp only [go_sem,seval,ar,Tryz.results90,one,len,g0,g1,g2,s4,ne,re]) | (with_reducible first | refine ag ?_ | refine am ?_ | refine aq ?_ | refine aG fun K hK => ?_ | refine az ?_ | refine aA ?_ | refine bh ?_ | refine bp ?_ | refine av ?_ | refine aH ?_ | refine aB ?_ | refine bK ?_ | refine ef fun K hK => ?_) | (with_reducible refine hK _ ?_; clear hK K) | (with_reducible refine hK _ _ ?_ ?_; (· kernel_rfl); clear hK K) | ((with_reducible refine ai ?_ ?_); (· decide)) | (with_reducible refine bV tk0 ar ?_ ?_; (· kernel_rfl)) | (with_reducible refine ae (ce) ?_) | (with_reducible refine bv (cD _ _ ?_) ?_; (· (try simp only [List.length_append,List.length_cons,List.length_nil]); omega)) | (with_reducible refine bv (bW _) ?_))
 ·have hb : (x == []) = false := by simpa using hn
  rw [Bn hn]
  refine aM [] Tryz.func90 rfl Tryz.ntmps90 (Nat.le_of_ble_eq_true rfl) (Nat.le_of_ble_eq_true rfl) fun w0 G0 B0 Pr hB0 => ?_
  simp only [aW,aL,List.cons_append,List.nil_append]
  repeat' (first | (with_reducible refine hY _ ?_; clear hY Y) | ((with_reducible first | refine au rfl (ay fun K' hK' => aa ?_) | refine hK' _ (ab fun Y hY => aa ?_) | refine ab fun Y hY => aa ?_ | refine ac tk0 ar (ab fun Y hY => aa ?_) | refine aa ?_ | refine ax ?_ | refine cG rfl (cQ fun K' hK' => aa ?_) | refine hK' _ _ (ab fun Y hY => aa ?_)); (try clear hK' K'); (try dsimp only [aop]); try simp only [go_sem,seval,ar,Tryz.results90,one,len,g0,g1,g2,s4,ne,re,hb]) | (with_reducible first | refine ag ?_ | refine am ?_ | refine aq ?_ | refine aG fun K hK => ?_ | refine az ?_ | refine aA ?_ | refine bh ?_ | refine bp ?_ | refine av ?_ | refine aB ?_ | refine bK ?_ | refine ef fun K hK => ?_) | (with_reducible refine hK _ ?_; clear hK K) | (with_reducible refine hK _ _ ?_ ?_; (· kernel_rfl); clear hK K) | ((with_reducible refine ai ?_ ?_); (· decide)) | (with_reducible refine bV tk0 ar ?_ ?_; (· kernel_rfl)) | (with_reducible refine ae (ce) ?_) | (with_reducible refine bv (cD _ _ ?_) ?_; (· (try simp only [List.length_append,List.length_cons,List.length_nil]); omega)) | (with_reducible refine bv (bW _) ?_))
set_option maxRecDepth 100000 in
set_option maxHeartbeats 8000000 in
theorem BX (x f y : Wd) (e v : PE) (c : PC) (a : PA) (rs gs : List PE) (fs : List Wd) (b l : List PS') (he : TxE e) (hx : x.length ≤ 1000000000000) (hf : f.length ≤ 1000000000000)  : AFn Tryz.prog 90 [.agg (psA (.mk 2 x f y e v c a rs gs fs b l))] [] (bs (bb (tkS (.mk 2 x f y e v c a rs gs fs b l)))) [] := by
 rw [EN]
 obtain ⟨one,pure,len,g0,g1,g2,g3,s4,s8,s12,s15,g30,g31,g32,g33,g34⟩ := jG 2 x f y e v c a rs gs fs b l
 obtain ⟨le,ce⟩ := he
 have ne := (dF e).nm3
 have re := (dF e).rn3
 unfold plT
 generalize psA (.mk 2 x f y e v c a rs gs fs b l) = SC at *
 generalize peA e = EC at *
 generalize bb (tkE e) = TE at *
 by_cases hn : x = []
 ·subst hn
  rw [Bo]
  refine aM [] Tryz.func90 rfl Tryz.ntmps90 (Nat.le_of_ble_eq_true rfl) (Nat.le_of_ble_eq_true rfl) fun w0 G0 B0 Pr hB0 => ?_
  simp only [aW,aL,List.cons_append,List.nil_append]
  repeat' (first | (with_reducible refine hY _ ?_; clear hY Y) | ((with_reducible first | refine au rfl (ay fun K' hK' => aa ?_) | refine hK' _ (ab fun Y hY => aa ?_) | refine ab fun Y hY => aa ?_ | refine ac tk0 ar (ab fun Y hY => aa ?_) | refine aa ?_ | refine ax ?_ | refine cG rfl (cQ fun K' hK' => aa ?_) | refine hK' _ _ (ab fun Y hY => aa ?_)); (try clear hK' K'); (try dsimp only [aop]); try simp only [go_sem,seval,ar,Tryz.results90,one,len,g0,g1,g2,s4,ne,re]) | (with_reducible first | refine ag ?_ | refine am ?_ | refine aq ?_ | refine aG fun K hK => ?_ | refine az ?_ | refine aA ?_ | refine bh ?_ | refine bp ?_ | refine av ?_ | refine aH ?_ | refine aB ?_ | refine bK ?_ | refine ef fun K hK => ?_) | (with_reducible refine hK _ ?_; clear hK K) | (with_reducible refine hK _ _ ?_ ?_; (· kernel_rfl); clear hK K) | ((with_reducible refine ai ?_ ?_); (· decide)) | (with_reducible refine bV tk0 ar ?_ ?_; (· kernel_rfl)) | (with_reducible refine ae (ce) ?_) | (with_reducible refine bv (cD _ _ ?_) ?_; (· (try simp only [List.length_append,List.length_cons,List.length_nil]); omega)) | (with_reducible refine bv (bW _) ?_))
 ·have hb : (x == []) = false := by simpa using hn
  rw [Bn hn]
  refine aM [] Tryz.func90 rfl Tryz.ntmps90 (Nat.le_of_ble_eq_true rfl) (Nat.le_of_ble_eq_true rfl) fun w0 G0 B0 Pr hB0 => ?_
  simp only [aW,aL,List.cons_append,List.nil_append]
  repeat' (first | (with_reducible refine hY _ ?_; clear hY Y) | ((with_reducible first | refine au rfl (ay fun K' hK' => aa ?_) | refine hK' _ (ab fun Y hY => aa ?_) | refine ab fun Y hY => aa ?_ | refine ac tk0 ar (ab fun Y hY => aa ?_) | refine aa ?_ | refine ax ?_ | refine cG rfl (cQ fun K' hK' => aa ?_) | refine hK' _ _ (ab fun Y hY => aa ?_)); (try clear hK' K'); (try dsimp only [aop]); try simp only [go_sem,seval,ar,Tryz.results90,one,len,g0,g1,g2,s4,ne,re,hb]) | (with_reducible first | refine ag ?_ | refine am ?_ | refine aq ?_ | refine aG fun K hK => ?_ | refine az ?_ | refine aA ?_ | refine bh ?_ | refine bp ?_ | refine av ?_ | refine aB ?_ | refine bK ?_ | refine ef fun K hK => ?_) | (with_reducible refine hK _ ?_; clear hK K) | (with_reducible refine hK _ _ ?_ ?_; (· kernel_rfl); clear hK K) | ((with_reducible refine ai ?_ ?_); (· decide)) | (with_reducible refine bV tk0 ar ?_ ?_; (· kernel_rfl)) | (with_reducible refine ae (ce) ?_) | (with_reducible refine bv (cD _ _ ?_) ?_; (· (try simp only [List.length_append,List.length_cons,List.length_nil]); omega)) | (with_reducible refine bv (bW _) ?_))
set_option maxRecDepth 100000 in
set_option maxHeartbeats 8000000 in
theorem BY (x f y : Wd) (e v : PE) (c : PC) (a : PA) (rs gs : List PE) (fs : List Wd) (b l : List PS') (he : TxE e) (hx : x.length ≤ 1000000000000) (hf : f.length ≤ 1000000000000) (hv : TxE v) : AFn Tryz.prog 90 [.agg (psA (.mk 3 x f y e v c a rs gs fs b l))] [] (bs (bb (tkS (.mk 3 x f y e v c a rs gs fs b l)))) [] := by
 rw [EO]
 obtain ⟨one,pure,len,g0,g1,g2,g3,s4,s8,s12,s15,g30,g31,g32,g33,g34⟩ := jG 3 x f y e v c a rs gs fs b l
 obtain ⟨le,ce⟩ := he
 have ne := (dF e).nm3
 have re := (dF e).rn3
 obtain ⟨lv,cv⟩ := hv
 have nv := (dF v).nm3
 have rv := (dF v).rn3
 unfold plT
 generalize psA (.mk 3 x f y e v c a rs gs fs b l) = SC at *
 generalize peA e = EC at *
 generalize bb (tkE e) = TE at *
 generalize peA v = VC at *
 generalize bb (tkE v) = TV at *
 by_cases hn : x = []
 ·subst hn
  refine aM [] Tryz.func90 rfl Tryz.ntmps90 (Nat.le_of_ble_eq_true rfl) (Nat.le_of_ble_eq_true rfl) fun w0 G0 B0 Pr hB0 => ?_
  simp only [aW,aL,List.cons_append,List.nil_append]
  repeat' (first | (with_reducible refine hY _ ?_; clear hY Y) | ((with_reducible first | refine au rfl (ay fun K' hK' => aa ?_) | refine hK' _ (ab fun Y hY => aa ?_) | refine ab fun Y hY => aa ?_ | refine ac tk0 ar (ab fun Y hY => aa ?_) | refine aa ?_ | refine ax ?_ | refine cG rfl (cQ fun K' hK' => aa ?_) | refine hK' _ _ (ab fun Y hY => aa ?_)); (try clear hK' K'); (try dsimp only [aop]); try simp only [go_sem,seval,ar,Tryz.results90,one,len,g0,g1,g2,s4,ne,re,s8,nv,rv]) | (with_reducible first | refine ag ?_ | refine am ?_ | refine aq ?_ | refine aG fun K hK => ?_ | refine az ?_ | refine aA ?_ | refine bh ?_ | refine bp ?_ | refine av ?_ | refine aH ?_ | refine aB ?_ | refine bK ?_ | refine ef fun K hK => ?_) | (with_reducible refine hK _ ?_; clear hK K) | (with_reducible refine hK _ _ ?_ ?_; (· kernel_rfl); clear hK K) | ((with_reducible refine ai ?_ ?_); (· decide)) | (with_reducible refine bV tk0 ar ?_ ?_; (· kernel_rfl)) | (with_reducible refine ae (ce) ?_) | (with_reducible refine ae (cv) ?_) | (with_reducible refine bv (cD _ _ ?_) ?_; (· (try simp only [List.length_append,List.length_cons,List.length_nil]); omega)) | (with_reducible refine bv (bW _) ?_))
 ·have hb : (x == []) = false := by simpa using hn
  refine aM [] Tryz.func90 rfl Tryz.ntmps90 (Nat.le_of_ble_eq_true rfl) (Nat.le_of_ble_eq_true rfl) fun w0 G0 B0 Pr hB0 => ?_
  simp only [aW,aL,List.cons_append,List.nil_append]
  repeat' (first | (with_reducible refine hY _ ?_; clear hY Y) | ((with_reducible first | refine au rfl (ay fun K' hK' => aa ?_) | refine hK' _ (ab fun Y hY => aa ?_) | refine ab fun Y hY => aa ?_ | refine ac tk0 ar (ab fun Y hY => aa ?_) | refine aa ?_ | refine ax ?_ | refine cG rfl (cQ fun K' hK' => aa ?_) | refine hK' _ _ (ab fun Y hY => aa ?_)); (try clear hK' K'); (try dsimp only [aop]); try simp only [go_sem,seval,ar,Tryz.results90,one,len,g0,g1,g2,s4,ne,re,s8,nv,rv,hb]) | (with_reducible first | refine ag ?_ | refine am ?_ | refine aq ?_ | refine aG fun K hK => ?_ | refine az ?_ | refine aA ?_ | refine bh ?_ | refine bp ?_ | refine av ?_ | refine aB ?_ | refine bK ?_ | refine ef fun K hK => ?_) | (with_reducible refine hK _ ?_; clear hK K) | (with_reducible refine hK _ _ ?_ ?_; (· kernel_rfl); clear hK K) | ((with_reducible refine ai ?_ ?_); (· decide)) | (with_reducible refine bV tk0 ar ?_ ?_; (· kernel_rfl)) | (with_reducible refine ae (ce) ?_) | (with_reducible refine ae (cv) ?_) | (with_reducible refine bv (cD _ _ ?_) ?_; (· (try simp only [List.length_append,List.length_cons,List.length_nil]); omega)) | (with_reducible refine bv (bW _) ?_))
set_option maxRecDepth 100000 in
set_option maxHeartbeats 8000000 in
theorem BZ (x f y : Wd) (e v : PE) (c : PC) (a : PA) (rs gs : List PE) (fs : List Wd) (b l : List PS') (he : TxE e) (hx : x.length ≤ 1000000000000) (hf : f.length ≤ 1000000000000) (hr : AFn Tryz.prog 31 [.sl (fs.map bs) fs.length .none] [] (bs (gR (fs.map fun x => [x]))) []) (lr : (gR (fs.map fun x => [x])).length ≤ 1000000000000) : AFn Tryz.prog 90 [.agg (psA (.mk 4 x f y e v c a rs gs fs b l))] [] (bs (bb (tkS (.mk 4 x f y e v c a rs gs fs b l)))) [] := by
 rw [EP]
 obtain ⟨one,pure,len,g0,g1,g2,g3,s4,s8,s12,s15,g30,g31,g32,g33,g34⟩ := jG 4 x f y e v c a rs gs fs b l
 obtain ⟨le,ce⟩ := he
 have ne := (dF e).nm3
 have re := (dF e).rn3
 generalize psA (.mk 4 x f y e v c a rs gs fs b l) = SC at *
 generalize peA e = EC at *
 generalize bb (tkE e) = TE at *
 generalize gR (fs.map fun x => [x]) = R at *
 generalize fs.map bs = FC at *
 by_cases hn : x = []
 ·subst hn
  rw [Bo]
  refine aM [] Tryz.func90 rfl Tryz.ntmps90 (Nat.le_of_ble_eq_true rfl) (Nat.le_of_ble_eq_true rfl) fun w0 G0 B0 Pr hB0 => ?_
  simp only [aW,aL,List.cons_append,List.nil_append]
  repeat' (first | (with_reducible refine hY _ ?_; clear hY Y) | ((with_reducible first | refine au rfl (ay fun K' hK' => aa ?_) | refine hK' _ (ab fun Y hY => aa ?_) | refine ab fun Y hY => aa ?_ | refine ac tk0 ar (ab fun Y hY => aa ?_) | refine aa ?_ | refine ax ?_ | refine cG rfl (cQ fun K' hK' => aa ?_) | refine hK' _ _ (ab fun Y hY => aa ?_)); (try clear hK' K'); (try dsimp only [aop]); try simp only [go_sem,seval,ar,Tryz.results90,one,len,g0,g1,g2,s4,ne,re,g32]) | (with_reducible first | refine ag ?_ | refine am ?_ | refine aq ?_ | refine aG fun K hK => ?_ | refine az ?_ | refine aA ?_ | refine bh ?_ | refine bp ?_ | refine av ?_ | refine aH ?_ | refine aB ?_ | refine bK ?_ | refine ef fun K hK => ?_) | (with_reducible refine hK _ ?_; clear hK K) | (with_reducible refine hK _ _ ?_ ?_; (· kernel_rfl); clear hK K) | ((with_reducible refine ai ?_ ?_); (· decide)) | (with_reducible refine bV tk0 ar ?_ ?_; (· kernel_rfl)) | (with_reducible refine ae (ce) ?_) | (with_reducible refine ae (hr) ?_) | (with_reducible refine bv (cD _ _ ?_) ?_; (· (try simp only [List.length_append,List.length_cons,List.length_nil]); omega)) | (with_reducible refine bv (bW _) ?_))
 ·have hb : (x == []) = false := by simpa using hn
  rw [Bn hn]
  refine aM [] Tryz.func90 rfl Tryz.ntmps90 (Nat.le_of_ble_eq_true rfl) (Nat.le_of_ble_eq_true rfl) fun w0 G0 B0 Pr hB0 => ?_
  simp only [aW,aL,List.cons_append,List.nil_append]
  repeat' (first | (with_reducible refine hY _ ?_; clear hY Y) | ((with_reducible first | refine au rfl (ay fun K' hK' => aa ?_) | refine hK' _ (ab fun Y hY => aa ?_) | refine ab fun Y hY => aa ?_ | refine ac tk0 ar (ab fun Y hY => aa ?_) | refine aa ?_ | refine ax ?_ | refine cG rfl (cQ fun K' hK' => aa ?_) | refine hK' _ _ (ab fun Y hY => aa ?_)); (try clear hK' K'); (try dsimp only [aop]); try simp only [go_sem,seval,ar,Tryz.results90,one,len,g0,g1,g2,s4,ne,re,g32,hb]) | (with_reducible first | refine ag ?_ | refine am ?_ | refine aq ?_ | refine aG fun K hK => ?_ | refine az ?_ | refine aA ?_ | refine bh ?_ | refine bp ?_ | refine av ?_ | refine aB ?_ | refine bK ?_ | refine ef fun K hK => ?_) | (with_reducible refine hK _ ?_; clear hK K) | (with_reducible refine hK _ _ ?_ ?_; (· kernel_rfl); clear hK K) | ((with_reducible refine ai ?_ ?_); (· decide)) | (with_reducible refine bV tk0 ar ?_ ?_; (· kernel_rfl)) | (with_reducible refine ae (ce) ?_) | (with_reducible refine ae (hr) ?_) | (with_reducible refine bv (cD _ _ ?_) ?_; (· (try simp only [List.length_append,List.length_cons,List.length_nil]); omega)) | (with_reducible refine bv (bW _) ?_))
set_option maxRecDepth 100000 in
set_option maxHeartbeats 8000000 in
theorem B1 (x f y : Wd) (e v : PE) (c : PC) (a : PA) (rs gs : List PE) (fs : List Wd) (b l : List PS') (he : TxE e) (hx : x.length ≤ 1000000000000) (hf : f.length ≤ 1000000000000)  : AFn Tryz.prog 90 [.agg (psA (.mk 5 x f y e v c a rs gs fs b l))] [] (bs (bb (tkS (.mk 5 x f y e v c a rs gs fs b l)))) [] := by
 rw [EQ]
 obtain ⟨one,pure,len,g0,g1,g2,g3,s4,s8,s12,s15,g30,g31,g32,g33,g34⟩ := jG 5 x f y e v c a rs gs fs b l
 obtain ⟨le,ce⟩ := he
 have ne := (dF e).nm3
 have re := (dF e).rn3
 unfold plT
 generalize psA (.mk 5 x f y e v c a rs gs fs b l) = SC at *
 generalize peA e = EC at *
 generalize bb (tkE e) = TE at *
 by_cases hn : x = []
 ·subst hn
  refine aM [] Tryz.func90 rfl Tryz.ntmps90 (Nat.le_of_ble_eq_true rfl) (Nat.le_of_ble_eq_true rfl) fun w0 G0 B0 Pr hB0 => ?_
  simp only [aW,aL,List.cons_append,List.nil_append]
  repeat' (first | (with_reducible refine hY _ ?_; clear hY Y) | ((with_reducible first | refine au rfl (ay fun K' hK' => aa ?_) | refine hK' _ (ab fun Y hY => aa ?_) | refine ab fun Y hY => aa ?_ | refine ac tk0 ar (ab fun Y hY => aa ?_) | refine aa ?_ | refine ax ?_ | refine cG rfl (cQ fun K' hK' => aa ?_) | refine hK' _ _ (ab fun Y hY => aa ?_)); (try clear hK' K'); (try dsimp only [aop]); try simp only [go_sem,seval,ar,Tryz.results90,one,len,g0,g1,g2,s4,ne,re]) | (with_reducible first | refine ag ?_ | refine am ?_ | refine aq ?_ | refine aG fun K hK => ?_ | refine az ?_ | refine aA ?_ | refine bh ?_ | refine bp ?_ | refine av ?_ | refine aH ?_ | refine aB ?_ | refine bK ?_ | refine ef fun K hK => ?_) | (with_reducible refine hK _ ?_; clear hK K) | (with_reducible refine hK _ _ ?_ ?_; (· kernel_rfl); clear hK K) | ((with_reducible refine ai ?_ ?_); (· decide)) | (with_reducible refine bV tk0 ar ?_ ?_; (· kernel_rfl)) | (with_reducible refine ae (ce) ?_) | (with_reducible refine bv (cD _ _ ?_) ?_; (· (try simp only [List.length_append,List.length_cons,List.length_nil]); omega)) | (with_reducible refine bv (bW _) ?_))
 ·have hb : (x == []) = false := by simpa using hn
  refine aM [] Tryz.func90 rfl Tryz.ntmps90 (Nat.le_of_ble_eq_true rfl) (Nat.le_of_ble_eq_true rfl) fun w0 G0 B0 Pr hB0 => ?_
  simp only [aW,aL,List.cons_append,List.nil_append]
  repeat' (first | (with_reducible refine hY _ ?_; clear hY Y) | ((with_reducible first | refine au rfl (ay fun K' hK' => aa ?_) | refine hK' _ (ab fun Y hY => aa ?_) | refine ab fun Y hY => aa ?_ | refine ac tk0 ar (ab fun Y hY => aa ?_) | refine aa ?_ | refine ax ?_ | refine cG rfl (cQ fun K' hK' => aa ?_) | refine hK' _ _ (ab fun Y hY => aa ?_)); (try clear hK' K'); (try dsimp only [aop]); try simp only [go_sem,seval,ar,Tryz.results90,one,len,g0,g1,g2,s4,ne,re,hb]) | (with_reducible first | refine ag ?_ | refine am ?_ | refine aq ?_ | refine aG fun K hK => ?_ | refine az ?_ | refine aA ?_ | refine bh ?_ | refine bp ?_ | refine av ?_ | refine aB ?_ | refine bK ?_ | refine ef fun K hK => ?_) | (with_reducible refine hK _ ?_; clear hK K) | (with_reducible refine hK _ _ ?_ ?_; (· kernel_rfl); clear hK K) | ((with_reducible refine ai ?_ ?_); (· decide)) | (with_reducible refine bV tk0 ar ?_ ?_; (· kernel_rfl)) | (with_reducible refine ae (ce) ?_) | (with_reducible refine bv (cD _ _ ?_) ?_; (· (try simp only [List.length_append,List.length_cons,List.length_nil]); omega)) | (with_reducible refine bv (bW _) ?_))
set_option maxRecDepth 100000 in
set_option maxHeartbeats 8000000 in
theorem B2 (x f y : Wd) (e v : PE) (c : PC) (a : PA) (rs gs : List PE) (fs : List Wd) (b l : List PS') (he : TxE e) (hx : x.length ≤ 1000000000000) (hf : f.length ≤ 1000000000000) (hc : TxC c) (hb : uK b) (hd : uK l) : AFn Tryz.prog 90 [.agg (psA (.mk 6 x f y e v c a rs gs fs b l))] [] (bs (bb (tkS (.mk 6 x f y e v c a rs gs fs b l)))) [] := by
 rw [ER]
 obtain ⟨one,pure,len,g0,g1,g2,g3,s4,s8,s12,s15,g30,g31,g32,g33,g34⟩ := jG 6 x f y e v c a rs gs fs b l
 obtain ⟨le,ce⟩ := he
 have ne := (dF e).nm3
 have re := (dF e).rn3
 obtain ⟨lc,cc⟩ := hc
 have nc := (eE c).nm3
 have rc := (eE c).rn3
 obtain ⟨lb,cb⟩ := hb
 obtain ⟨ld,cd⟩ := hd
 generalize psA (.mk 6 x f y e v c a rs gs fs b l) = SC at *
 generalize peA e = EC at *
 generalize bb (tkE e) = TE at *
 generalize ci c = CC at *
 generalize bb (tkC c) = TC at *
 generalize kP b = TB at *
 generalize du b = BC at *
 generalize kP l = TD at *
 generalize du l = DC at *
 by_cases hn : x = []
 ·subst hn
  refine aM [] Tryz.func90 rfl Tryz.ntmps90 (Nat.le_of_ble_eq_true rfl) (Nat.le_of_ble_eq_true rfl) fun w0 G0 B0 Pr hB0 => ?_
  simp only [aW,aL,List.cons_append,List.nil_append]
  repeat' (first | (with_reducible refine hY _ ?_; clear hY Y) | ((with_reducible first | refine au rfl (ay fun K' hK' => aa ?_) | refine hK' _ (ab fun Y hY => aa ?_) | refine ab fun Y hY => aa ?_ | refine ac tk0 ar (ab fun Y hY => aa ?_) | refine aa ?_ | refine ax ?_ | refine cG rfl (cQ fun K' hK' => aa ?_) | refine hK' _ _ (ab fun Y hY => aa ?_)); (try clear hK' K'); (try dsimp only [aop]); try simp only [go_sem,seval,ar,Tryz.results90,one,len,g0,g1,g2,s4,ne,re,s12,nc,rc,g33,g34]) | (with_reducible first | refine ag ?_ | refine am ?_ | refine aq ?_ | refine aG fun K hK => ?_ | refine az ?_ | refine aA ?_ | refine bh ?_ | refine bp ?_ | refine av ?_ | refine aH ?_ | refine aB ?_ | refine bK ?_ | refine ef fun K hK => ?_) | (with_reducible refine hK _ ?_; clear hK K) | (with_reducible refine hK _ _ ?_ ?_; (· kernel_rfl); clear hK K) | ((with_reducible refine ai ?_ ?_); (· decide)) | (with_reducible refine bV tk0 ar ?_ ?_; (· kernel_rfl)) | (with_reducible refine ae (ce) ?_) | (with_reducible refine ae (cc) ?_) | (with_reducible refine ae (cd) ?_) | (with_reducible refine ae (cb) ?_) | (with_reducible refine bv (cD _ _ ?_) ?_; (· (try simp only [List.length_append,List.length_cons,List.length_nil]); omega)) | (with_reducible refine bv (bW _) ?_))
 ·have hb : (x == []) = false := by simpa using hn
  refine aM [] Tryz.func90 rfl Tryz.ntmps90 (Nat.le_of_ble_eq_true rfl) (Nat.le_of_ble_eq_true rfl) fun w0 G0 B0 Pr hB0 => ?_
  simp only [aW,aL,List.cons_append,List.nil_append]
  repeat' (first | (with_reducible refine hY _ ?_; clear hY Y) | ((with_reducible first | refine au rfl (ay fun K' hK' => aa ?_) | refine hK' _ (ab fun Y hY => aa ?_) | refine ab fun Y hY => aa ?_ | refine ac tk0 ar (ab fun Y hY => aa ?_) | refine aa ?_ | refine ax ?_ | refine cG rfl (cQ fun K' hK' => aa ?_) | refine hK' _ _ (ab fun Y hY => aa ?_)); (try clear hK' K'); (try dsimp only [aop]); try simp only [go_sem,seval,ar,Tryz.results90,one,len,g0,g1,g2,s4,ne,re,s12,nc,rc,g33,g34,hb]) | (with_reducible first | refine ag ?_ | refine am ?_ | refine aq ?_ | refine aG fun K hK => ?_ | refine az ?_ | refine aA ?_ | refine bh ?_ | refine bp ?_ | refine av ?_ | refine aB ?_ | refine bK ?_ | refine ef fun K hK => ?_) | (with_reducible refine hK _ ?_; clear hK K) | (with_reducible refine hK _ _ ?_ ?_; (· kernel_rfl); clear hK K) | ((with_reducible refine ai ?_ ?_); (· decide)) | (with_reducible refine bV tk0 ar ?_ ?_; (· kernel_rfl)) | (with_reducible refine ae (ce) ?_) | (with_reducible refine ae (cc) ?_) | (with_reducible refine ae (cd) ?_) | (with_reducible refine ae (cb) ?_) | (with_reducible refine bv (cD _ _ ?_) ?_; (· (try simp only [List.length_append,List.length_cons,List.length_nil]); omega)) | (with_reducible refine bv (bW _) ?_))
set_option maxRecDepth 100000 in
set_option maxHeartbeats 8000000 in
theorem B3 (x f y : Wd) (e v : PE) (c : PC) (a : PA) (rs gs : List PE) (fs : List Wd) (b l : List PS') (he : TxE e) (hx : x.length ≤ 1000000000000) (hf : f.length ≤ 1000000000000) (hc : TxC c) (ha : TxA a) (hb : uK b) : AFn Tryz.prog 90 [.agg (psA (.mk 7 x f y e v c a rs gs fs b l))] [] (bs (bb (tkS (.mk 7 x f y e v c a rs gs fs b l)))) [] := by
 rw [ET]
 obtain ⟨one,pure,len,g0,g1,g2,g3,s4,s8,s12,s15,g30,g31,g32,g33,g34⟩ := jG 7 x f y e v c a rs gs fs b l
 obtain ⟨le,ce⟩ := he
 have ne := (dF e).nm3
 have re := (dF e).rn3
 obtain ⟨lc,cc⟩ := hc
 have nc := (eE c).nm3
 have rc := (eE c).rn3
 obtain ⟨lb,cb⟩ := hb
 obtain ⟨la,ca⟩ := ha
 have na := (dP a).nm3
 have ra := (dP a).rn3
 generalize psA (.mk 7 x f y e v c a rs gs fs b l) = SC at *
 generalize peA e = EC at *
 generalize bb (tkE e) = TE at *
 generalize ci c = CC at *
 generalize bb (tkC c) = TC at *
 generalize kP b = TB at *
 generalize du b = BC at *
 generalize paA a = AC at *
 generalize bb (tkA a) = TA at *
 by_cases hn : x = []
 ·subst hn
  refine aM [] Tryz.func90 rfl Tryz.ntmps90 (Nat.le_of_ble_eq_true rfl) (Nat.le_of_ble_eq_true rfl) fun w0 G0 B0 Pr hB0 => ?_
  simp only [aW,aL,List.cons_append,List.nil_append]
  repeat' (first | (with_reducible refine hY _ ?_; clear hY Y) | ((with_reducible first | refine au rfl (ay fun K' hK' => aa ?_) | refine hK' _ (ab fun Y hY => aa ?_) | refine ab fun Y hY => aa ?_ | refine ac tk0 ar (ab fun Y hY => aa ?_) | refine aa ?_ | refine ax ?_ | refine cG rfl (cQ fun K' hK' => aa ?_) | refine hK' _ _ (ab fun Y hY => aa ?_)); (try clear hK' K'); (try dsimp only [aop]); try simp only [go_sem,seval,ar,Tryz.results90,one,len,g0,g1,g2,s4,ne,re,s12,nc,rc,g33,s15,na,ra]) | (with_reducible first | refine ag ?_ | refine am ?_ | refine aq ?_ | refine aG fun K hK => ?_ | refine az ?_ | refine aA ?_ | refine bh ?_ | refine bp ?_ | refine av ?_ | refine aH ?_ | refine aB ?_ | refine bK ?_ | refine ef fun K hK => ?_) | (with_reducible refine hK _ ?_; clear hK K) | (with_reducible refine hK _ _ ?_ ?_; (· kernel_rfl); clear hK K) | ((with_reducible refine ai ?_ ?_); (· decide)) | (with_reducible refine bV tk0 ar ?_ ?_; (· kernel_rfl)) | (with_reducible refine ae (ce) ?_) | (with_reducible refine ae (cc) ?_) | (with_reducible refine ae (ca) ?_) | (with_reducible refine ae (cb) ?_) | (with_reducible refine bv (cD _ _ ?_) ?_; (· (try simp only [List.length_append,List.length_cons,List.length_nil]); omega)) | (with_reducible refine bv (bW _) ?_))
 ·have hb : (x == []) = false := by simpa using hn
  refine aM [] Tryz.func90 rfl Tryz.ntmps90 (Nat.le_of_ble_eq_true rfl) (Nat.le_of_ble_eq_true rfl) fun w0 G0 B0 Pr hB0 => ?_
  simp only [aW,aL,List.cons_append,List.nil_append]
  repeat' (first | (with_reducible refine hY _ ?_; clear hY Y) | ((with_reducible first | refine au rfl (ay fun K' hK' => aa ?_) | refine hK' _ (ab fun Y hY => aa ?_) | refine ab fun Y hY => aa ?_ | refine ac tk0 ar (ab fun Y hY => aa ?_) | refine aa ?_ | refine ax ?_ | refine cG rfl (cQ fun K' hK' => aa ?_) | refine hK' _ _ (ab fun Y hY => aa ?_)); (try clear hK' K'); (try dsimp only [aop]); try simp only [go_sem,seval,ar,Tryz.results90,one,len,g0,g1,g2,s4,ne,re,s12,nc,rc,g33,s15,na,ra,hb]) | (with_reducible first | refine ag ?_ | refine am ?_ | refine aq ?_ | refine aG fun K hK => ?_ | refine az ?_ | refine aA ?_ | refine bh ?_ | refine bp ?_ | refine av ?_ | refine aB ?_ | refine bK ?_ | refine ef fun K hK => ?_) | (with_reducible refine hK _ ?_; clear hK K) | (with_reducible refine hK _ _ ?_ ?_; (· kernel_rfl); clear hK K) | ((with_reducible refine ai ?_ ?_); (· decide)) | (with_reducible refine bV tk0 ar ?_ ?_; (· kernel_rfl)) | (with_reducible refine ae (ce) ?_) | (with_reducible refine ae (cc) ?_) | (with_reducible refine ae (ca) ?_) | (with_reducible refine ae (cb) ?_) | (with_reducible refine bv (cD _ _ ?_) ?_; (· (try simp only [List.length_append,List.length_cons,List.length_nil]); omega)) | (with_reducible refine bv (bW _) ?_))
set_option maxRecDepth 100000 in
set_option maxHeartbeats 8000000 in
theorem B4 (x f y : Wd) (e v : PE) (c : PC) (a : PA) (rs gs : List PE) (fs : List Wd) (b l : List PS') (he : TxE e) (hx : x.length ≤ 1000000000000) (hf : f.length ≤ 1000000000000) (hc : TxC c) : AFn Tryz.prog 90 [.agg (psA (.mk 8 x f y e v c a rs gs fs b l))] [] (bs (bb (tkS (.mk 8 x f y e v c a rs gs fs b l)))) [] := by
 rw [EU]
 obtain ⟨one,pure,len,g0,g1,g2,g3,s4,s8,s12,s15,g30,g31,g32,g33,g34⟩ := jG 8 x f y e v c a rs gs fs b l
 obtain ⟨le,ce⟩ := he
 have ne := (dF e).nm3
 have re := (dF e).rn3
 obtain ⟨lc,cc⟩ := hc
 have nc := (eE c).nm3
 have rc := (eE c).rn3
 generalize psA (.mk 8 x f y e v c a rs gs fs b l) = SC at *
 generalize peA e = EC at *
 generalize bb (tkE e) = TE at *
 generalize ci c = CC at *
 generalize bb (tkC c) = TC at *
 by_cases hn : x = []
 ·subst hn
  refine aM [] Tryz.func90 rfl Tryz.ntmps90 (Nat.le_of_ble_eq_true rfl) (Nat.le_of_ble_eq_true rfl) fun w0 G0 B0 Pr hB0 => ?_
  simp only [aW,aL,List.cons_append,List.nil_append]
  repeat' (first | (with_reducible refine hY _ ?_; clear hY Y) | ((with_reducible first | refine au rfl (ay fun K' hK' => aa ?_) | refine hK' _ (ab fun Y hY => aa ?_) | refine ab fun Y hY => aa ?_ | refine ac tk0 ar (ab fun Y hY => aa ?_) | refine aa ?_ | refine ax ?_ | refine cG rfl (cQ fun K' hK' => aa ?_) | refine hK' _ _ (ab fun Y hY => aa ?_)); (try clear hK' K'); (try dsimp only [aop]); try simp only [go_sem,seval,ar,Tryz.results90,one,len,g0,g1,g2,s4,ne,re,s12,nc,rc]) | (with_reducible first | refine ag ?_ | refine am ?_ | refine aq ?_ | refine aG fun K hK => ?_ | refine az ?_ | refine aA ?_ | refine bh ?_ | refine bp ?_ | refine av ?_ | refine aH ?_ | refine aB ?_ | refine bK ?_ | refine ef fun K hK => ?_) | (with_reducible refine hK _ ?_; clear hK K) | (with_reducible refine hK _ _ ?_ ?_; (· kernel_rfl); clear hK K) | ((with_reducible refine ai ?_ ?_); (· decide)) | (with_reducible refine bV tk0 ar ?_ ?_; (· kernel_rfl)) | (with_reducible refine ae (ce) ?_) | (with_reducible refine ae (cc) ?_) | (with_reducible refine bv (cD _ _ ?_) ?_; (· (try simp only [List.length_append,List.length_cons,List.length_nil]); omega)) | (with_reducible refine bv (bW _) ?_))
 ·have hb : (x == []) = false := by simpa using hn
  refine aM [] Tryz.func90 rfl Tryz.ntmps90 (Nat.le_of_ble_eq_true rfl) (Nat.le_of_ble_eq_true rfl) fun w0 G0 B0 Pr hB0 => ?_
  simp only [aW,aL,List.cons_append,List.nil_append]
  repeat' (first | (with_reducible refine hY _ ?_; clear hY Y) | ((with_reducible first | refine au rfl (ay fun K' hK' => aa ?_) | refine hK' _ (ab fun Y hY => aa ?_) | refine ab fun Y hY => aa ?_ | refine ac tk0 ar (ab fun Y hY => aa ?_) | refine aa ?_ | refine ax ?_ | refine cG rfl (cQ fun K' hK' => aa ?_) | refine hK' _ _ (ab fun Y hY => aa ?_)); (try clear hK' K'); (try dsimp only [aop]); try simp only [go_sem,seval,ar,Tryz.results90,one,len,g0,g1,g2,s4,ne,re,s12,nc,rc,hb]) | (with_reducible first | refine ag ?_ | refine am ?_ | refine aq ?_ | refine aG fun K hK => ?_ | refine az ?_ | refine aA ?_ | refine bh ?_ | refine bp ?_ | refine av ?_ | refine aB ?_ | refine bK ?_ | refine ef fun K hK => ?_) | (with_reducible refine hK _ ?_; clear hK K) | (with_reducible refine hK _ _ ?_ ?_; (· kernel_rfl); clear hK K) | ((with_reducible refine ai ?_ ?_); (· decide)) | (with_reducible refine bV tk0 ar ?_ ?_; (· kernel_rfl)) | (with_reducible refine ae (ce) ?_) | (with_reducible refine ae (cc) ?_) | (with_reducible refine bv (cD _ _ ?_) ?_; (· (try simp only [List.length_append,List.length_cons,List.length_nil]); omega)) | (with_reducible refine bv (bW _) ?_))
set_option maxRecDepth 100000 in
set_option maxHeartbeats 8000000 in
theorem B5 (x f y : Wd) (e v : PE) (c : PC) (a : PA) (rs gs : List PE) (fs : List Wd) (b l : List PS') (he : TxE e) (hx : x.length ≤ 1000000000000) (hf : f.length ≤ 1000000000000) (hy : y.length ≤ 1000000000000) (cr : AFn Tryz.prog 169 [.sl (cl rs) rs.length .none] [] (bs (gR (rs.map tkE))) []) (lr : (gR (rs.map tkE)).length ≤ 1000000000000) (cg : AFn Tryz.prog 169 [.sl (cl gs) gs.length .none] [] (bs (gR (gs.map tkE))) []) (lg : (gR (gs.map tkE)).length ≤ 1000000000000) : AFn Tryz.prog 90 [.agg (psA (.mk 9 x f y e v c a rs gs fs b l))] [] (bs (bb (tkS (.mk 9 x f y e v c a rs gs fs b l)))) [] := by
 rw [EV]
 obtain ⟨one,pure,len,g0,g1,g2,g3,s4,s8,s12,s15,g30,g31,g32,g33,g34⟩ := jG 9 x f y e v c a rs gs fs b l
 obtain ⟨le,ce⟩ := he
 have ne := (dF e).nm3
 have re := (dF e).rn3
 generalize psA (.mk 9 x f y e v c a rs gs fs b l) = SC at *
 generalize peA e = EC at *
 generalize bb (tkE e) = TE at *
 generalize gR (rs.map tkE) = RR at *
 generalize gR (gs.map tkE) = RG at *
 generalize cl rs = RC at *
 generalize cl gs = GC at *
 by_cases hn : x = []
 ·subst hn
  rw [Bo]
  refine aM [] Tryz.func90 rfl Tryz.ntmps90 (Nat.le_of_ble_eq_true rfl) (Nat.le_of_ble_eq_true rfl) fun w0 G0 B0 Pr hB0 => ?_
  simp only [aW,aL,List.cons_append,List.nil_append]
  repeat' (first | (with_reducible refine hY _ ?_; clear hY Y) | ((with_reducible first | refine au rfl (ay fun K' hK' => aa ?_) | refine hK' _ (ab fun Y hY => aa ?_) | refine ab fun Y hY => aa ?_ | refine ac tk0 ar (ab fun Y hY => aa ?_) | refine aa ?_ | refine ax ?_ | refine cG rfl (cQ fun K' hK' => aa ?_) | refine hK' _ _ (ab fun Y hY => aa ?_)); (try clear hK' K'); (try dsimp only [aop]); try simp only [go_sem,seval,ar,Tryz.results90,one,len,g0,g1,g2,s4,ne,re,g3,g30,g31]) | (with_reducible first | refine ag ?_ | refine am ?_ | refine aq ?_ | refine aG fun K hK => ?_ | refine aA ?_ | refine ba ?_ | refine av ?_ | refine aH ?_ | refine aB ?_ | refine bK ?_ | refine ef fun K hK => ?_) | (with_reducible refine hK _ ?_; clear hK K) | (with_reducible refine hK _ _ ?_ ?_; (· kernel_rfl); clear hK K) | ((with_reducible refine ai ?_ ?_); (· decide)) | (with_reducible refine bV tk0 ar ?_ ?_; (· kernel_rfl)) | (with_reducible refine ae (ce) ?_) | (with_reducible refine ae (cr) ?_) | (with_reducible refine ae (cg) ?_) | (with_reducible refine bv (cD _ _ ?_) ?_; (· (try simp only [List.length_append,List.length_cons,List.length_nil]); omega)) | (with_reducible refine bv (bW _) ?_))
 ·have hb : (x == []) = false := by simpa using hn
  rw [Bn hn]
  refine aM [] Tryz.func90 rfl Tryz.ntmps90 (Nat.le_of_ble_eq_true rfl) (Nat.le_of_ble_eq_true rfl) fun w0 G0 B0 Pr hB0 => ?_
  simp only [aW,aL,List.cons_append,List.nil_append]
  repeat' (first | (with_reducible refine hY _ ?_; clear hY Y) | ((with_reducible first | refine au rfl (ay fun K' hK' => aa ?_) | refine hK' _ (ab fun Y hY => aa ?_) | refine ab fun Y hY => aa ?_ | refine ac tk0 ar (ab fun Y hY => aa ?_) | refine aa ?_ | refine ax ?_ | refine cG rfl (cQ fun K' hK' => aa ?_) | refine hK' _ _ (ab fun Y hY => aa ?_)); (try clear hK' K'); (try dsimp only [aop]); try simp only [go_sem,seval,ar,Tryz.results90,one,len,g0,g1,g2,s4,ne,re,g3,g30,g31,hb]) | (with_reducible first | refine ag ?_ | refine am ?_ | refine aq ?_ | refine aG fun K hK => ?_ | refine az ?_ | refine aA ?_ | refine ba ?_ | refine av ?_ | refine aH ?_ | refine aB ?_ | refine bK ?_ | refine ef fun K hK => ?_) | (with_reducible refine hK _ ?_; clear hK K) | (with_reducible refine hK _ _ ?_ ?_; (· kernel_rfl); clear hK K) | ((with_reducible refine ai ?_ ?_); (· decide)) | (with_reducible refine bV tk0 ar ?_ ?_; (· kernel_rfl)) | (with_reducible refine ae (ce) ?_) | (with_reducible refine ae (cr) ?_) | (with_reducible refine ae (cg) ?_) | (with_reducible refine bv (cD _ _ ?_) ?_; (· (try simp only [List.length_append,List.length_cons,List.length_nil]); omega)) | (with_reducible refine bv (bW _) ?_))
end Go.Proofs.YtkjnkkmokojnpaaGreatDoor
namespace Go.Proofs.YtkjnkkmokojnpaaGreatDoor
set_option linter.unusedSimpArgs false
set_option linter.unusedVariables false
open Go.RowKit
theorem pP {e : PE} (h : seE e = true) (hn : nE e ≤ 1000000000) : TxE e := (nH e h hn).1
theorem rD {e : PE} (h : (!dx e) = true) : TxE e := by
 have := tE0 (e := e) (by simpa using h)
 subst this
 exact BT
theorem jB {x : Wd} (h : x.isEmpty = true) : x.length ≤ 1000000000000 := by
 cases x with
 | nil => exact Nat.zero_le _
 | cons a r => cases h
theorem uf {x : Wd} (h : dM x = true) : x.length ≤ 1000000000000 := by have := eU h; omega
theorem Ei {x : Wd} (h : (x.isEmpty || dM x) = true) : x.length ≤ 1000000000000 := by
 rw [Bool.or_eq_true] at h
 exact h.elim jB uf
theorem sj (l : List PS') : (kP l).length ≤ tl (gq l) + 4 := by
 have h := fY (tkB l)
 rw [qK] at h
 have e : tl (tkB l) = tl (gq l) + 4 := by unfold tkB; simp only [ep,tl,List.length_cons,List.length_nil]; omega
 omega
theorem B7 (k : Int) (x f y : Wd) (e v : PE) (c : PC) (a : PA) (rs gs : List PE) (fs : List Wd) (b l : List PS') (hs : seS (.mk k x f y e v c a rs gs fs b l) = true) (hf : fs.length ≤ 50)
  (he : nE e ≤ 1000000000) (hv : nE v ≤ 1000000000) (hc : nC c ≤ 1000000000) (ha : nA a ≤ 1000000000) (hr : nEs rs ≤ 1000000000) (hg : nEs gs ≤ 1000000000) (lr : Lg rs) (lg : Lg gs)
  (hb : ig b = true → uK b) (hd : ig l = true → uK l) : AFn Tryz.prog 90 [.agg (psA (.mk k x f y e v c a rs gs fs b l))] [] (bs (bb (tkS (.mk k x f y e v c a rs gs fs b l)))) [] := by
 rw [seS] at hs
 by_cases k0 : k = 0
 ·subst k0
  simp only [if_true,Bool.and_eq_true] at hs
  exact BV x f y e v c a rs gs fs b l (rD hs.2.2.2.1) (jB hs.1) (jB hs.2.1)
 rw [if_neg k0] at hs
 by_cases k1 : k = 1
 ·subst k1
  simp only [if_true,Bool.and_eq_true] at hs
  exact BW x f y e v c a rs gs fs b l (pP hs.2.2.2.1 he) (uf hs.1) (jB hs.2.1)
 rw [if_neg k1] at hs
 by_cases k2 : k = 2
 ·subst k2
  simp only [if_true,Bool.and_eq_true] at hs
  exact BX x f y e v c a rs gs fs b l (pP hs.2.2.2.1 he) (uf hs.1) (uf hs.2.1)
 rw [if_neg k2] at hs
 by_cases k3 : k = 3
 ·subst k3
  simp only [if_true,Bool.and_eq_true] at hs
  exact BY x f y e v c a rs gs fs b l (pP hs.2.2.2.1 he) (jB hs.1) (uf hs.2.1) (pP hs.2.2.2.2.1 hv)
 rw [if_neg k3] at hs
 by_cases k4 : k = 4
 ·subst k4
  simp only [if_true,Bool.and_eq_true] at hs
  have h1 := my fs hs.2.2.2.2.2.2.2.2.2.1.2
  have h2 := j0 (fs.map fun x => [x])
  exact BZ x f y e v c a rs gs fs b l (rD hs.2.2.2.1) (uf hs.1) (jB hs.2.1) (vt fs false (by unfold Lg; omega) (by omega)) (by omega)
 rw [if_neg k4] at hs
 by_cases k5 : k = 5
 ·subst k5
  simp only [if_true,Bool.and_eq_true] at hs
  exact B1 x f y e v c a rs gs fs b l (pP hs.2.2.2.1 he) (jB hs.1) (uf hs.2.1)
 rw [if_neg k5] at hs
 by_cases k6 : k = 6
 ·subst k6
  simp only [if_true,Bool.and_eq_true] at hs
  exact B2 x f y e v c a rs gs fs b l (rD hs.2.2.2.1) (jB hs.1) (jB hs.2.1) (nG c hs.2.2.2.2.2.1 hc).1 (hb hs.2.2.2.2.2.2.2.2.2.2.1) (hd hs.2.2.2.2.2.2.2.2.2.2.2)
 rw [if_neg k6] at hs
 by_cases k7 : k = 7
 ·subst k7
  simp only [if_true,Bool.and_eq_true] at hs
  exact B3 x f y e v c a rs gs fs b l (rD hs.2.2.2.1) (jB hs.1) (jB hs.2.1) (nG c hs.2.2.2.2.2.1 hc).1 (ph a hs.2.2.2.2.2.2.1 ha) (hb hs.2.2.2.2.2.2.2.2.2.2.1)
 rw [if_neg k7] at hs
 by_cases k8 : k = 8
 ·subst k8
  simp only [if_true,Bool.and_eq_true] at hs
  exact B4 x f y e v c a rs gs fs b l (rD hs.2.2.2.1) (jB hs.1) (jB hs.2.1) (nG c hs.2.2.2.2.2.1 hc).1
 rw [if_neg k8] at hs
 by_cases k9 : k = 9
 ·subst k9
  simp only [if_true,Bool.and_eq_true] at hs
  have h1 := qI rs hs.2.2.2.2.2.2.2.1
  have h2 := j0 (rs.map tkE)
  have h3 := qI gs hs.2.2.2.2.2.2.2.2.1
  have h4 := j0 (gs.map tkE)
  exact B5 x f y e v c a rs gs fs b l (rD hs.2.2.2.1) (Ei hs.1) (jB hs.2.1) (uf hs.2.2.1)
   (uA rs lr (by omega) fun z hz => (kd rs hs.2.2.2.2.2.2.2.1 hr z hz).1) (by omega) (uA gs lg (by omega) fun z hz => (kd gs hs.2.2.2.2.2.2.2.2.1 hg z hz).1) (by omega)
 ·rw [if_neg k9] at hs; cases hs
mutual
theorem B6 : ∀ e,OkS e → seS e = true → lD e = true → nS e ≤ 1000000 → TxS e
 | .mk k x f y e v c a rs gs fs b l,ho,hs,hf,hn => by
  have hl := zF (.mk k x f y e v c a rs gs fs b l) hs hf
  have h1 := fY (tkS (.mk k x f y e v c a rs gs fs b l))
  obtain ⟨_,_,_,_,_,_,_,_,⟨l1,_⟩,⟨l2,_⟩,_,⟨l3,o3⟩,l4,o4⟩ := ho
  have hf2 := hf
  rw [lD] at hf2
  simp only [Bool.and_eq_true,decide_eq_true_eq] at hf2
  have hn2 := hn
  rw [nS] at hn2
  exact ⟨by omega,B7 k x f y e v c a rs gs fs b l hs hf2.1 (by omega) (by omega) (by omega) (by omega) (by omega) (by omega) l1 l2
   (fun h => pH b l3 (by have := sj b; have := jH b h hf2.2.1; omega) (lV b o3 h hf2.2.1 (by omega)))
   (fun h => pH l l4 (by have := sj l; have := jH l h hf2.2.2; omega) (lV l o4 h hf2.2.2 (by omega)))⟩
theorem lV : ∀ l,gr l → ig l = true → gt l = true → nSs l ≤ 1000000 → ∀ a ∈ l,TxS a
 | [],_,_,_,_ => fun e he => absurd he List.not_mem_nil
 | e :: r,ho,hs,hf,hn => fun a ha => by
  rw [ig,Bool.and_eq_true] at hs
  rw [gt,Bool.and_eq_true] at hf
  rw [nSs] at hn
  exact (List.mem_cons.1 ha).elim (fun q => q ▸ B6 e ho.1 hs.1 hf.1 (by omega)) (lV r ho.2 hs.2 hf.2 (by omega) a)
end
theorem x8 (l : List PS') (hl : Lg l) (ho : gr l) (hs : ig l = true) (hf : gt l = true) (hn : nSs l ≤ 1000000) : uK l :=
 pH l hl (by have := sj l; have := jH l hs hf; omega) (lV l ho hs hf hn)
abbrev oS (ps : List PP) : Prop := AFn Tryz.prog 13 [.agg [dN ps]] [] (.tup [bs (ll ps).1,inA ((ll ps).2 : Int)]) []
theorem xr {ps : List PP} (h : ¬ eL ps = 0) : ll ps = ([],eL ps) := by unfold ll; rw [if_neg h]
theorem vB {ps : List PP} (h : eL ps = 0) (h2 : ¬ (bb (gp ps)).length ≤ 65536) : ll ps = ([],2) := by unfold ll; rw [if_pos h,if_neg h2]
theorem zo {ps : List PP} (h : eL ps = 0) (h2 : (bb (gp ps)).length ≤ 65536) : ll ps = (bb (gp ps),0) := by unfold ll; rw [if_pos h,if_pos h2]
theorem zn {ps : List PP} (h : eL ps = 0) : ∀ x ∈ ps,fz x = true := by
 unfold eL at h
 split at h
 ·cases h
 ·split at h
  ·rename_i h2; exact fun x hx => List.all_eq_true.1 h2 x hx
  ·cases h
theorem B8 (l : List PP) (k : Nat) : tl (gp (l.take k)) ≤ tl (gp l) := by
 have h : gp l = gp (l.take k) ++ gp (l.drop k) := by
  unfold gp
  rw [← List.flatMap_append,List.take_append_drop]
 rw [h,ep]; omega
def bx : Nat → List Nat
 | 0 => [0]
 | 1 => [1]
 | 2 => [1,4]
 | 3 => [4]
 | 4 => [1]
 | 5 => [1,5]
 | 6 => [1,5,6]
 | 7 => [1,5,6]
 | 8 => [1,5,6]
 | 9 => [1,5,6,7]
 | 10 => [1,5,6,7]
 | 11 => [1,5,6,7]
 | 12 => [5]
 | 13 => []
 | 14 => [5]
 | _ => []
set_option maxRecDepth 100000 in
set_option maxHeartbeats 16000000 in
theorem vz (ps : List PP) (hps : kL ps) (hlt : ∀ x ∈ ps,LtT x 600) (hn50 : ps.length ≤ 50) (hck : AFn Tryz.prog 19 [.agg [dN ps]] [] (inA (eL ps : Int)) []) : oS ps := by
 obtain ⟨hpl,hpo⟩ := hps
 unfold Lg at hpl
 have hfl := gw ps
 unfold oS
 by_cases hE : eL ps = 0
 ·have hok := zn hE
  have htl := wG ps fun x hx => ⟨hok x hx,hlt x hx⟩
  obtain ⟨R,hR⟩ : ∃ R,R = ll ps := ⟨_,rfl⟩
  have hR1 : ¬ (bb (gp ps)).length ≤ 65536 → R = ([],2) := fun h => hR.trans (vB hE h)
  have hR2 : (bb (gp ps)).length ≤ 65536 → R = (bb (gp ps),0) := fun h => hR.trans (zo hE h)
  rw [← hR]
  rw [hE] at hck
  clear hR hE
  refine aM [] Tryz.func13 rfl Tryz.ntmps13 (Nat.le_of_ble_eq_true rfl) (Nat.le_of_ble_eq_true rfl) fun w0 G0 B0 Pr hB0 => ?_
  simp only [aW,aL,List.cons_append,List.nil_append]
  repeat' (first | (with_reducible refine hY _ ?_; clear hY Y) | ((with_reducible first | refine au rfl (ay fun K' hK' => aa ?_) | refine hK' _ (ab fun Y hY => aa ?_)); (try clear hK' K'); (try dsimp only [aop]); try simp only [go_sem,↓reduceIte,Nat.reduceEqDiff,Nat.reduceLT,Nat.reduceLeDiff,Nat.reduceAdd,Nat.reduceSub,Nat.reduceMul,Nat.reduceBEq,Nat.reduceBNe,Nat.reducePow,Int.reduceToNat,Int.reduceLE,Int.reduceLT,Int.reduceMul,Int.reduceEq,Int.reducePow,Int.reduceAdd,Int.reduceSub,Int.reduceNeg,reduceCtorEq,bx,Tryz.results13]) | (with_reducible first | refine ag ?_ | refine am ?_ | refine aG fun K hK => ?_) | ((with_reducible refine bC 1 ?_ ?_); (· rfl)) | ((with_reducible refine aS 1 tk0 bx ?_ (ab fun Y hY => aa ?_)); (· rfl); (try dsimp only [aop]); try simp only [go_sem,↓reduceIte,Nat.reduceEqDiff,Nat.reduceLT,Nat.reduceLeDiff,Nat.reduceAdd,Nat.reduceSub,Nat.reduceMul,Nat.reduceBEq,Nat.reduceBNe,Nat.reducePow,Int.reduceToNat,Int.reduceLE,Int.reduceLT,Int.reduceMul,Int.reduceEq,Int.reducePow,Int.reduceAdd,Int.reduceSub,Int.reduceNeg,reduceCtorEq,bx,Tryz.results13]) | (with_reducible refine hK _ ?_; clear hK K))
  refine dj 10001 ⟨by decide,by decide⟩ rfl rfl (by simp only [go_sem,↓reduceIte,Nat.reduceEqDiff,Nat.reduceLT,Nat.reduceLeDiff,Nat.reduceAdd,Nat.reduceSub,Nat.reduceMul,Nat.reduceBEq,Nat.reduceBNe,Nat.reducePow,Int.reduceToNat,Int.reduceLE,Int.reduceLT,Int.reduceMul,Int.reduceEq,Int.reducePow,Int.reduceAdd,Int.reduceSub,Int.reduceNeg,reduceCtorEq]; exact rfl) (by simp only [go_sem,↓reduceIte,Nat.reduceEqDiff,Nat.reduceLT,Nat.reduceLeDiff,Nat.reduceAdd,Nat.reduceSub,Nat.reduceMul,Nat.reduceBEq,Nat.reduceBNe,Nat.reducePow,Int.reduceToNat,Int.reduceLE,Int.reduceLT,Int.reduceMul,Int.reduceEq,Int.reducePow,Int.reduceAdd,Int.reduceSub,Int.reduceNeg,reduceCtorEq]; exact rfl) ?_
  repeat' (first | (with_reducible refine hY _ ?_; clear hY Y) | ((with_reducible first | refine au rfl (ay fun K' hK' => aa ?_) | refine hK' _ (ab fun Y hY => aa ?_) | refine ab fun Y hY => aa ?_ | refine ac tk0 bx (ab fun Y hY => aa ?_) | refine aa ?_); (try clear hK' K'); (try dsimp only [aop]); try simp only [go_sem,↓reduceIte,Nat.reduceEqDiff,Nat.reduceLT,Nat.reduceLeDiff,Nat.reduceAdd,Nat.reduceSub,Nat.reduceMul,Nat.reduceBEq,Nat.reduceBNe,Nat.reducePow,Int.reduceToNat,Int.reduceLE,Int.reduceLT,Int.reduceMul,Int.reduceEq,Int.reducePow,Int.reduceAdd,Int.reduceSub,Int.reduceNeg,reduceCtorEq,bx,Tryz.results13]) | (with_reducible first | refine ag ?_ | refine am ?_ | refine aq ?_ | refine aG fun K hK => ?_ | refine av ?_ | refine aH ?_ | refine bR ?_) | (with_reducible refine hK _ ?_; clear hK K) | ((with_reducible refine ai ?_ ?_); (· decide)) | ((with_reducible refine fi (fun hc => ?_) (fun hc => ?_)) <;> (try simp only [decide_eq_true_eq,decide_eq_false_iff_not,Bool.not_true,Bool.not_false,Bool.not_eq_true',Bool.not_eq_false'] at hc) <;> (try (exfalso; omega))) | (with_reducible refine ae (hck) ?_))
  clear hck
  refine bX (α := Nat) (fun k => [(1,.rf [dN ps] 0),(5,bs (bb (gp (ps.take k)))),(6,inA (k : Int))])
   (fun k => k ≤ ps.length) (fun k => ps.length - k) 0 [1,5,6] ?_ (Nat.zero_le _) ?_
  ·simp only [go_sem,↓reduceIte,Nat.reduceEqDiff,Nat.reduceLT,Nat.reduceLeDiff,Nat.reduceAdd,Nat.reduceSub,Nat.reduceMul,Nat.reduceBEq,Nat.reduceBNe,Nat.reducePow,Int.reduceToNat,Int.reduceLE,Int.reduceLT,Int.reduceMul,Int.reduceEq,Int.reducePow,Int.reduceAdd,Int.reduceSub,Int.reduceNeg,reduceCtorEq] <;> rfl
  intro k hk ih
  by_cases hlt2 : k < ps.length
  ·have hlt' : ((k : Int) < (ps.length : Int)) = True := eq_true (by omega)
   have hkw := dp (n := k) (by omega)
   have hg0 := jN hlt2
   have hox := hpo ps[k] (List.getElem_mem hlt2)
   have hsx := hok ps[k] (List.getElem_mem hlt2)
   have hlx := hlt ps[k] (List.getElem_mem hlt2)
   have hst := xG hlt2
   have hle := B8 ps k
   have hj1 := fY (gp (ps.take k))
   have ihk := ih (k + 1) (by omega) (by omega)
   rw [hst] at ihk
   have hk0 : k = 0 → bb (gp (ps.take k)) = [] := fun e => by rw [e]; rfl
   clear hst ih
   generalize ps[k] = x at *
   rw [E9] at ihk
   obtain ⟨_,⟨lp,_⟩,⟨lgh,_⟩,hpre,hpost,hbl,hbo⟩ := hox
   obtain ⟨b1,b2,b3,b4,b5,b6⟩ := hlx
   unfold fz at hsx
   simp only [Bool.and_eq_true] at hsx
   obtain ⟨s1,s2,s3,s4,s5,s6⟩ := hsx
   have hnm := eU s1
   have w1 := my x.params s2
   have w2 := my x.ghosts s3
   have w3 := j0 (x.params.map fun x => [x])
   have w4 := j0 (x.ghosts.map fun x => [x])
   have c1 := vt x.params false lp (by omega)
   have c2 := vt x.ghosts false lgh (by omega)
   obtain ⟨l3,c3⟩ := ph x.pre s4 (by omega)
   obtain ⟨l4,c4⟩ := ph x.post s5 (by omega)
   obtain ⟨l5,c5⟩ := x8 x.body hbl hbo s6 b6 (by omega)
   have nP := (dP x.pre).nm3
   have nQ := (dP x.post).nm3
   have rP := (dP x.pre).rn3
   have rQ := (dP x.post).rn3
   obtain ⟨hx1,hxp,hxl,f0,f1,f2,f3,f18,f33⟩ := nl x
   simp only [ofB] at c1 c2
   generalize ppA x = XC at *
   generalize paA x.pre = PA at *
   generalize paA x.post = QA at *
   generalize du x.body = BA at *
   generalize x.body.length = bl at *
   generalize gR (x.params.map fun x => [x]) = T1 at *
   generalize gR (x.ghosts.map fun x => [x]) = T2 at *
   generalize bb (tkA x.pre) = T3 at *
   generalize bb (tkA x.post) = T4 at *
   generalize kP x.body = T5 at *
   generalize x.params.map bs = MA at *
   generalize x.params.length = ml at *
   generalize x.ghosts.map bs = GA at *
   generalize x.ghosts.length = gl at *
   generalize x.name = xn at *
   generalize bb (gp (ps.take k)) = T at *
   clear hpo hok hlt hR1 hR2
   by_cases hk1 : k = 0
   ·have hT := hk0 hk1
    subst hT
    have hk0' : ((0 : Int) < (k : Int)) = False := eq_false (by omega)
    rw [if_pos hk1] at ihk
    repeat' (first | (with_reducible refine hY _ ?_; clear hY Y) | ((with_reducible first | refine au rfl (ay fun K' hK' => aa ?_) | refine hK' _ (ab fun Y hY => aa ?_) | refine ab fun Y hY => aa ?_ | refine ac tk0 bx (ab fun Y hY => aa ?_) | refine aa ?_ | refine cG rfl (cQ fun K' hK' => aa ?_) | refine hK' _ _ (ab fun Y hY => aa ?_)); (try clear hK' K'); (try dsimp only [aop]); try simp only [go_sem,↓reduceIte,Nat.reduceEqDiff,Nat.reduceLT,Nat.reduceLeDiff,Nat.reduceAdd,Nat.reduceSub,Nat.reduceMul,Nat.reduceBEq,Nat.reduceBNe,Nat.reducePow,Int.reduceToNat,Int.reduceLE,Int.reduceLT,Int.reduceMul,Int.reduceEq,Int.reducePow,Int.reduceAdd,Int.reduceSub,Int.reduceNeg,reduceCtorEq,bx,Tryz.results13,hlt',hg0,hfl,hkw,hx1,hxl,f0,f1,f2,f3,f18,f33,nP,nQ,rP,rQ,hk0']) | (with_reducible first | refine ag ?_ | refine am ?_ | refine aq ?_ | refine aG fun K hK => ?_ | refine az ?_ | refine aA ?_ | refine ba ?_ | refine av ?_ | refine aH ?_ | refine bK ?_ | refine ef fun K hK => ?_) | (with_reducible refine hK _ ?_; clear hK K) | (with_reducible refine hK _ _ ?_ ?_; (· kernel_rfl); clear hK K) | ((with_reducible refine ai ?_ ?_); (· decide)) | (with_reducible refine bV tk0 bx ?_ ?_; (· kernel_rfl)) | (with_reducible refine bm ?_ ?_; (· (try and_intros) <;> first | omega | assumption | (simp only [List.length_append,List.length_map,List.length_cons,List.length_nil] <;> omega))) | (with_reducible refine ae (c1) ?_) | (with_reducible refine ae (c2) ?_) | (with_reducible refine ae (c3) ?_) | (with_reducible refine ae (c4) ?_) | (with_reducible refine ae (c5) ?_) | (with_reducible refine bv (cD _ _ ?_) ?_; (· (try simp only [List.length_append,List.length_cons,List.length_nil]); omega)))
    refine bg [1,5,6] (by simp only [go_sem,↓reduceIte,Nat.reduceEqDiff,Nat.reduceLT,Nat.reduceLeDiff,Nat.reduceAdd,Nat.reduceSub,Nat.reduceMul,Nat.reduceBEq,Nat.reduceBNe,Nat.reducePow,Int.reduceToNat,Int.reduceLE,Int.reduceLT,Int.reduceMul,Int.reduceEq,Int.reducePow,Int.reduceAdd,Int.reduceSub,Int.reduceNeg,reduceCtorEq]; exact rfl) ?_
    exact db ihk (by simp)
   ·have hk0' : ((0 : Int) < (k : Int)) = True := eq_true (by omega)
    rw [if_neg hk1] at ihk
    repeat' (first | (with_reducible refine hY _ ?_; clear hY Y) | ((with_reducible first | refine au rfl (ay fun K' hK' => aa ?_) | refine hK' _ (ab fun Y hY => aa ?_) | refine ab fun Y hY => aa ?_ | refine ac tk0 bx (ab fun Y hY => aa ?_) | refine aa ?_ | refine cG rfl (cQ fun K' hK' => aa ?_) | refine hK' _ _ (ab fun Y hY => aa ?_)); (try clear hK' K'); (try dsimp only [aop]); try simp only [go_sem,↓reduceIte,Nat.reduceEqDiff,Nat.reduceLT,Nat.reduceLeDiff,Nat.reduceAdd,Nat.reduceSub,Nat.reduceMul,Nat.reduceBEq,Nat.reduceBNe,Nat.reducePow,Int.reduceToNat,Int.reduceLE,Int.reduceLT,Int.reduceMul,Int.reduceEq,Int.reducePow,Int.reduceAdd,Int.reduceSub,Int.reduceNeg,reduceCtorEq,bx,Tryz.results13,hlt',hg0,hfl,hkw,hx1,hxl,f0,f1,f2,f3,f18,f33,nP,nQ,rP,rQ,hk0']) | (with_reducible first | refine ag ?_ | refine am ?_ | refine aq ?_ | refine aG fun K hK => ?_ | refine az ?_ | refine ba ?_ | refine av ?_ | refine aH ?_ | refine bK ?_ | refine ef fun K hK => ?_) | (with_reducible refine hK _ ?_; clear hK K) | (with_reducible refine hK _ _ ?_ ?_; (· kernel_rfl); clear hK K) | ((with_reducible refine ai ?_ ?_); (· decide)) | (with_reducible refine bV tk0 bx ?_ ?_; (· kernel_rfl)) | (with_reducible refine bm ?_ ?_; (· (try and_intros) <;> first | omega | assumption | (simp only [List.length_append,List.length_map,List.length_cons,List.length_nil] <;> omega))) | (with_reducible refine ae (c1) ?_) | (with_reducible refine ae (c2) ?_) | (with_reducible refine ae (c3) ?_) | (with_reducible refine ae (c4) ?_) | (with_reducible refine ae (c5) ?_) | (with_reducible refine bv (cD _ _ ?_) ?_; (· (try simp only [List.length_append,List.length_cons,List.length_nil]); omega)))
    refine bg [1,5,6] (by simp only [go_sem,↓reduceIte,Nat.reduceEqDiff,Nat.reduceLT,Nat.reduceLeDiff,Nat.reduceAdd,Nat.reduceSub,Nat.reduceMul,Nat.reduceBEq,Nat.reduceBNe,Nat.reducePow,Int.reduceToNat,Int.reduceLE,Int.reduceLT,Int.reduceMul,Int.reduceEq,Int.reducePow,Int.reduceAdd,Int.reduceSub,Int.reduceNeg,reduceCtorEq]; exact rfl) ?_
    exact db ihk (by simp)
  ·have hlt' : ((k : Int) < (ps.length : Int)) = False := eq_false (by omega)
   obtain rfl : k = ps.length := by omega
   rw [List.take_length]
   clear ih hpo hok hlt
   generalize bb (gp ps) = T at *
   by_cases hT : T.length ≤ 65536
   ·have hT' : ((65536 : Int) < (T.length : Int)) = False := eq_false (by omega)
    rw [hR2 hT]
    clear hR1 hR2
    repeat' (first | (with_reducible refine hY _ ?_; clear hY Y) | ((with_reducible first | refine au rfl (ay fun K' hK' => aa ?_) | refine hK' _ (ab fun Y hY => aa ?_) | refine ab fun Y hY => aa ?_ | refine ac tk0 bx (ab fun Y hY => aa ?_) | refine aa ?_ | refine ax ?_); (try clear hK' K'); (try dsimp only [aop]); try simp only [go_sem,↓reduceIte,Nat.reduceEqDiff,Nat.reduceLT,Nat.reduceLeDiff,Nat.reduceAdd,Nat.reduceSub,Nat.reduceMul,Nat.reduceBEq,Nat.reduceBNe,Nat.reducePow,Int.reduceToNat,Int.reduceLE,Int.reduceLT,Int.reduceMul,Int.reduceEq,Int.reducePow,Int.reduceAdd,Int.reduceSub,Int.reduceNeg,reduceCtorEq,bx,Tryz.results13,hlt',hT']) | (with_reducible first | refine ag ?_ | refine am ?_ | refine aq ?_ | refine aG fun K hK => ?_ | refine aA ?_ | refine bY ?_ | refine bF ?_ | refine aH ?_ | refine aB ?_ | refine bE ?_) | (with_reducible refine hK _ ?_; clear hK K) | ((with_reducible refine ai ?_ ?_); (· decide)))
    rfl
   ·have hT' : ((65536 : Int) < (T.length : Int)) = True := eq_true (by omega)
    rw [hR1 hT]
    clear hR1 hR2
    repeat' (first | (with_reducible refine hY _ ?_; clear hY Y) | ((with_reducible first | refine au rfl (ay fun K' hK' => aa ?_) | refine hK' _ (ab fun Y hY => aa ?_) | refine ab fun Y hY => aa ?_ | refine ac tk0 bx (ab fun Y hY => aa ?_) | refine aa ?_ | refine ax ?_); (try clear hK' K'); (try dsimp only [aop]); try simp only [go_sem,↓reduceIte,Nat.reduceEqDiff,Nat.reduceLT,Nat.reduceLeDiff,Nat.reduceAdd,Nat.reduceSub,Nat.reduceMul,Nat.reduceBEq,Nat.reduceBNe,Nat.reducePow,Int.reduceToNat,Int.reduceLE,Int.reduceLT,Int.reduceMul,Int.reduceEq,Int.reducePow,Int.reduceAdd,Int.reduceSub,Int.reduceNeg,reduceCtorEq,bx,Tryz.results13,hlt',hT']) | (with_reducible first | refine ag ?_ | refine am ?_ | refine aq ?_ | refine aG fun K hK => ?_ | refine az ?_ | refine aA ?_ | refine bY ?_ | refine bh ?_ | refine bF ?_ | refine aB ?_ | refine bE ?_) | (with_reducible refine hK _ ?_; clear hK K) | ((with_reducible refine ai ?_ ?_); (· decide)))
    rfl
 ·rw [xr hE]
  have hE' : ((eL ps : Int) = 0) = False := eq_false (by omega)
  generalize eL ps = E at *
  refine aM [] Tryz.func13 rfl Tryz.ntmps13 (Nat.le_of_ble_eq_true rfl) (Nat.le_of_ble_eq_true rfl) fun w0 G0 B0 Pr hB0 => ?_
  simp only [aW,aL,List.cons_append,List.nil_append]
  repeat' (first | (with_reducible refine hY _ ?_; clear hY Y) | ((with_reducible first | refine au rfl (ay fun K' hK' => aa ?_) | refine hK' _ (ab fun Y hY => aa ?_) | refine ab fun Y hY => aa ?_ | refine ac tk0 bx (ab fun Y hY => aa ?_) | refine aa ?_ | refine ax ?_); (try clear hK' K'); (try dsimp only [aop]); try simp only [go_sem,↓reduceIte,Nat.reduceEqDiff,Nat.reduceLT,Nat.reduceLeDiff,Nat.reduceAdd,Nat.reduceSub,Nat.reduceMul,Nat.reduceBEq,Nat.reduceBNe,Nat.reducePow,Int.reduceToNat,Int.reduceLE,Int.reduceLT,Int.reduceMul,Int.reduceEq,Int.reducePow,Int.reduceAdd,Int.reduceSub,Int.reduceNeg,reduceCtorEq,bx,Tryz.results13,hE']) | (with_reducible first | refine ag ?_ | refine am ?_ | refine aq ?_ | refine aG fun K hK => ?_ | refine az ?_ | refine bh ?_ | refine aB ?_) | (with_reducible refine hK _ ?_; clear hK K) | ((with_reducible refine ai ?_ ?_); (· decide)) | (with_reducible refine ae (hck) ?_))
end Go.Proofs.YtkjnkkmokojnpaaGreatDoor

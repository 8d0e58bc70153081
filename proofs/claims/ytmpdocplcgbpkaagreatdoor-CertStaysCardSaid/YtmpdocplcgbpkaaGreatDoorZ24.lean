/- Cut in K: maps.Keys and slices.Sorted of it: the keys of a map, sorted. Cut in K: a sum divided. Cut in K: a step: the parts together in a map. -/
import Derived.Test.YtmpdocplcgbpkaaGreatDoorZ10
import Derived.Test.YtmpdocplcgbpkaaGreatDoorZ16
namespace Go.Proofs.YtmpdocplcgbpkaaGreatDoor
set_option linter.unusedSimpArgs false
set_option linter.unusedVariables false
open Go.RowKit Go.Maps Go.Sort Go.Shelf
theorem mT {bs : List AV} {j : Nat} {x : AV} (h : bs[j]? = some x) (hj : j < 1000 := by decide) : ck bs (20000 + j) = x := (cE (B := dp bs) (by omega)).trans (jf h)
def dl : Nat → List Nat
 | 0 => [0]
 | 1 => [1]
 | _ => []
set_option maxRecDepth 100000 in
theorem wK (M : List Tm) : AFn Tryz.prog 132 [.mp 20000] [.bc (bn M) (1000000000 + 187)] (.fn (.func 138) [] [.loc 20001 0]) [.bc (bn M) (1000000000 + 187),.bc [.mp 20000] 187] := by
 refine bm [10001] Tryz.func132 rfl Tryz.ntmps132 (Nat.le_of_ble_eq_true rfl) (Nat.le_of_ble_eq_true rfl) fun w0 G0 B0 Pr hB0 => ?_
 simp only [bD,bj,List.cons_append,List.nil_append]
 repeat' (first | (with_reducible refine hY _ ?_;clear hY Y) | ((with_reducible first | refine aX rfl (aR fun K' hK' => aa ?_) | refine hK' _ (ab fun Y hY => aa ?_) | refine ag tk0 dl (ab fun Y hY => aa ?_) | refine aa ?_ | refine aH ?_);(try clear hK' K');(try dsimp only [aop]);try simp only [go_sem,↓reduceIte,Nat.reduceEqDiff,Nat.reduceLT,Nat.reduceLeDiff,Nat.reduceAdd,Nat.reduceSub,Nat.reduceMul,Nat.reduceBEq,Nat.reduceBNe,Nat.reducePow,Int.reduceToNat,Int.reduceLE,Int.reduceLT,Int.reduceMul,Int.reduceEq,Int.reducePow,Int.reduceAdd,Int.reduceSub,Int.reduceNeg,reduceCtorEq,dl,Tryz.results132]) | (with_reducible first | refine aI ?_ | refine aP ?_ | refine aS ?_ | refine bi fun K hK => ?_ | refine aL ?_) | (with_reducible refine hK _ ?_;clear hK K))
theorem mS : ∀ (es : List MapEntry) (M : List Tm),bn M = (es.flatMap fun e => [AV.c e.key,AV.c e.val]) → es.map (·.key) = M.map fun m => Value.int .i64 m.1
 | [],[],_ => rfl
 | [],m :: r,h => by simp [bn] at h
 | e :: es,[],h => by simp [bn] at h
 | e :: es,m :: r,h => by
  rw [bn,List.flatMap_cons] at h
  simp only [List.cons_append,List.nil_append,List.cons.injEq,AV.c.injEq] at h
  rw [List.map_cons,List.map_cons,mS es r h.2.2,h.1]
def zC : Value → Int
 | .int _ a => a
 | _ => 0
abbrev vC : Value → Option (DataW Unit × List MemPlace) := fun _ => some (.nil,[])
theorem yJ {w : World} {g : Nat} {es : Array MapEntry} {clock : Nat} {M : List Tm} (hb : w.heap[g]? = some (.map es clock)) (hs : MapKept.Stamped es clock) (hc : bn M = dY es) (hM : ∀ m ∈ M,0 ≤ m.1 ∧ m.1 < 1048576) (hl : M.length ≤ 4096) :
  ∃ D : DataW Unit,w.ownsMap Tryz.prog 3 vC g M.length D ∧ (intKeys D).Perm (M.map (·.1)) ∧ Maps.size D = M.length := by
 have hk := mS es.toList M hc
 have hlen : es.size = M.length := by have := congrArg List.length hk;simpa using this
 have hrd : ∀ x ∈ es.toList,∃ z : Int,x.key = .int .i64 z ∧ WideElems.rd Tryz.prog 3 vC x = some (.int .i64 z,.nil) := fun x hx => by
  have : x.key ∈ M.map fun m => Value.int .i64 m.1 := hk ▸ List.mem_map.2 ⟨x,hx,rfl⟩
  obtain ⟨m,hm,he⟩ := List.mem_map.1 this
  refine ⟨m.1,he.symm,?_⟩
  have hw : (Lit.int .i64 m.1).wf = true := by
   have := hM m hm
   simp [Lit.wf,IntKind.min,IntKind.max,IntKind.signed,IntKind.bits];omega
  unfold WideElems.rd
  rw [← he,Maps.keyOf_int_mk Tryz.underlying3 hw];rfl
 refine ⟨_,⟨es,clock,hb,⟨by unfold maxLen;omega,hs,fun x hx => ?_⟩,by omega,rfl⟩,?_,?_⟩
 ·obtain ⟨z,_,h⟩ := hrd x hx;exact ⟨_,h⟩
 ·have h1 : (es.toList.map (WideElems.rg Tryz.prog 3 vC)).map (fun p => Go.intOf p.1) = M.map (·.1) := by
   have h2 : (es.toList.map (WideElems.rg Tryz.prog 3 vC)).map (fun p => Go.intOf p.1) = (es.toList.map (·.key)).map zC := by
    rw [List.map_map,List.map_map]
    refine List.map_congr_left fun x hx => ?_
    obtain ⟨z,hz,h⟩ := hrd x hx
    simp only [Function.comp,WideElems.rg_of h,hz,Go.intOf,zC]
   rw [h2,hk,List.map_map];rfl
  rw [← h1]
  exact (WideShapes.sorted_perm _).map _
 ·show (List.foldr DataW.insert [] _).length = _
  rw [(WideShapes.sorted_perm _).length_eq,List.length_map]
  simpa using hlen
theorem pV (m : Nat) : AnyZI.SortsIn Tryz.prog Tryz.zSortedI_ren Fence.wide m :=
 ⟨fun blk off cap ss W hH hblk hsz => callsIn_wide.2 (Any.slices_Sort_int Tryz.zSortI blk off cap ss W hH hblk hsz),
  fun p cap W => callsIn_wide.2 (Any.slices_Sort_int_none Tryz.zSortI p cap W)⟩
set_option maxRecDepth 100000 in
theorem tw (M : List Tm) (hM : ∀ m ∈ M,0 ≤ m.1 ∧ m.1 < 1048576) (hl : M.length ≤ 4096) :
  AFn Tryz.prog 131 [.fn (.func 138) [] [.loc 20000 0]] [.bc [.mp 20001] 187,.bc (bn M) (1000000000 + 187)]
   (.sl ((km (M.map (·.1))).map inA) (km (M.map (·.1))).length .none) [.bc [.mp 20001] 187,.bc (bn M) (1000000000 + 187)] := by
 have e1 : (km (M.map (·.1))).map inA = ((km (M.map (·.1))).map encZ).map AV.c := by rw [List.map_map];rfl
 rw [e1]
 refine lK (e := 3) (sz := 1) (by simp) (fun x hx => by obtain ⟨z,_,rfl⟩ := List.mem_map.1 hx;rfl) fun w G vs hst hvs hargs => ?_
 have x0 : ck [.bc [.mp 20001] 187,.bc (bn M) (1000000000 + 187)] 20000 = .bc [.mp 20001] 187 := mT (j := 0) rfl
 have x1 : ck [.bc [.mp 20001] 187,.bc (bn M) (1000000000 + 187)] 20001 = .bc (bn M) (1000000000 + 187) := mT (j := 1) rfl
 generalize ck [.bc [.mp 20001] 187,.bc (bn M) (1000000000 + 187)] = B at *
 have h0 := hargs 0 (by simp)
 simp only [List.getElem_cons_zero] at h0
 obtain ⟨va,vb,e0,ha,hb,pa,pb⟩ := gH h0
 have h1 := pb 0 (by simp)
 simp only [List.getElem_cons_zero] at h1
 obtain ⟨g0,_,_,e2,_,_,hg0,_⟩ := eW h1
 obtain ⟨_,_,hbx⟩ := hst.box 20000 g0 hg0
 have hc0 : ∃ g1,w.cell? ⟨g0,0,none⟩ = some (.map (some g1)) ∧ G.γ 20001 = some g1 := by
  rcases hbx with ⟨cs,ty,q1,⟨_,c,q2,q3,_,q5⟩ | ⟨q2,_⟩⟩ | ⟨n,e,q1,_⟩ | ⟨_,_,_,_,q1,_⟩
  ·rw [x0] at q1;cases q1
   have h2 := (q5 0 (by simp)).1
   simp only [List.getElem_cons_zero] at h2
   obtain ⟨g1,_,_,e3,_,_,hg1,_⟩ := iZ h2
   refine ⟨g1,?_,hg1⟩
   have hsz : 0 < c.size := q3
   rw [Array.getD_eq_getD_getElem?,Array.getElem?_eq_getElem hsz] at e3
   simp only [Option.getD_some] at e3
   simp [World.cell?,q2,hsz,e3]
  ·rw [x0] at q1;cases q1;exact absurd q2 (by decide)
  ·rw [x0] at q1;cases q1
  ·rw [x0] at q1;cases q1
 obtain ⟨g1,hcell,hg1⟩ := hc0
 have hmap : ∃ es clock,w.heap[g1]? = some (.map es clock) ∧ bn M = dY es ∧ MapKept.Stamped es clock := by
  obtain ⟨_,_,hbx1⟩ := hst.box 20001 g1 hg1
  rcases hbx1 with ⟨cs,ty,q1,⟨q2,_⟩ | ⟨_,es,clock,q2,_,q3,q4⟩⟩ | ⟨n,e,q1,_⟩ | ⟨_,_,_,_,q1,_⟩
  ·rw [x1] at q1;cases q1;exact absurd q2 (by decide)
  ·rw [x1] at q1;cases q1;exact ⟨es,clock,q2,q3,q4⟩
  ·rw [x1] at q1;cases q1
  ·rw [x1] at q1;cases q1
 obtain ⟨es,clock,hh,hcs,hst2⟩ := hmap
 obtain ⟨D,hown,hperm,hsize⟩ := yJ hh hst2 hcs hM hl
 have hvs2 : vs = #[.func (.func 138) #[] #[.pointer (some ⟨g0,0,none⟩)]] := by
  have ea : va = #[] := Array.eq_empty_of_size_eq_zero (by simpa using ha)
  have eb : vb = #[.pointer (some ⟨g0,0,none⟩)] := by
   cases vb with
   | mk l =>
    match l,hb with
    | [p0],_ => simp at e2;subst e2;rfl
  subst ea eb
  cases vs with
  | mk l =>
   match l,hvs with
   | [v0],_ => simp at e0;subst e0;rfl
 subst hvs2
 have hgl : g0 < w.heap.size := World.block_lt_of_cell? w ⟨g0,0,none⟩ hcell
 have hseq : SeqGives Fence.wide (4 - 1 - 1 - 1) Tryz.prog 138 #[.pointer (some ⟨g0,0,none⟩)] encZ (fun ss => ss.Perm (intKeys D)) (Maps.size D) w :=
  AnyZI.keys_gives Tryz.zKeysI Fence.wide 1 trivial rfl (Nat.le_refl _) g0 g1 M.length D w hgl hcell hown
 have hent : ∀ f (hf : bx Tryz.prog f = true) (args : Array Value) (w : World),(callFunc f args).run Tryz.prog w = .ok (.enter f args) w := fun f hf args w => nq hf
 have h := AnyZI.sorted_in Tryz.zSortedI Fence.wide 4 trivial trivial trivial trivial rfl (Nat.le_refl _) (pV _) (hent _ (by kernel_rfl)) 138 #[.pointer (some ⟨g0,0,none⟩)] trivial (hent _ (by kernel_rfl)) (fun ss => ss.Perm (intKeys D)) (Maps.size D) (by rw [hsize];unfold maxLen;omega) (by rw [hsize];omega) w hseq
 refine (callsIn_wide.1 h).mono ?_
 rintro e w' ⟨v,ss,rfl,hp,hrow,_,hbl⟩
 have he : (ss.mergeSort fun x y => decide (x ≤ y)) = km (M.map (·.1)) := mergeSort_of_perm_i (hp.trans hperm)
 have hn : ss.length = (km (M.map (·.1))).length := by rw [← he];exact (List.length_mergeSort _).symm
 rw [he,hn] at hrow
 exact ⟨v,rfl,hrow,hbl⟩
end Go.Proofs.YtmpdocplcgbpkaaGreatDoor
namespace Go.Proofs.YtmpdocplcgbpkaaGreatDoor
set_option linter.unusedSimpArgs false
set_option linter.unusedVariables false
open Go.RowKit
attribute [-go_sem] kD
theorem ni (ts : List Tm) (div v : Int) : ∀ a : List Int,fB ts div (a ++ [v]) = if fp ts v = 0 then fB ts div a else fB ts div a ++ [(v,(fp ts v).tdiv div)]
 | [] => by simp only [List.nil_append,fB]
 | u :: r => by
  rw [List.cons_append,fB,fB,ni ts div v r]
  by_cases h1 : fp ts u = 0
  ·simp only [if_pos h1]
  ·simp only [if_neg h1]
   split
   ·rfl
   ·rfl
theorem ov (ts : List Tm) (div : Int) : ∀ a : List Int,(fB ts div a).length ≤ a.length
 | [] => Nat.le_refl _
 | v :: r => by
  have := ov ts div r
  unfold fB
  split
  ·rw [List.length_cons];omega
  ·rw [List.length_cons,List.length_cons];omega
theorem oP (ts : List Tm) (v : Int) (a : List Int) : ic ts (a ++ [v]) = (ic ts a || ju (fp ts v)) := by
 unfold ic;rw [List.any_append,List.any_cons,List.any_nil,Bool.or_false]
theorem nI (ts : List Tm) (div v : Int) (a : List Int) : eU ts div (a ++ [v]) = (eU ts div a || !decide ((fp ts v).tmod div = 0)) := by
 unfold eU;rw [List.any_append,List.any_cons,List.any_nil,Bool.or_false]
theorem oY (c : Int) (ts : List Tm) (div : Int) (h : ¬ (div < 1 ∨ 1073741824 < div)) : dG c ts div = if ju c || ic ts (f9 ts) then (3,⟨0,[]⟩) else if eU ts div (f9 ts) then (7,⟨0,[]⟩) else oC ⟨upZ c div,fB ts div (f9 ts)⟩ := by
 unfold dG
 rw [if_neg h];rfl
theorem wk {l : List Int} {i : Nat} (h : i < l.length) : ((l.map inA).drop i).take 1 = [inA l[i]] := by
 have := kX (f := fun z : Int => [inA z]) (k := 1) (fun _ => rfl) h
 rw [Nat.mul_one,← nQ] at this;exact this
theorem wm {l : List Int} {i : Nat} (h : i < l.length) : (l.map inA).getD i .u = inA l[i] := yF h
def bF : Nat → List Nat
 | 0 => [0,1,2]
 | 1 => [0,1,2,6]
 | 2 => [6]
 | 3 => [0,1,2,6]
 | 4 => [0,1,2,6,8,9]
 | 5 => [1,2,6,8,9,10]
 | 6 => [1,2,6,8,9,10,30,31,32]
 | 7 => [1,2,6,8,9,10,30,31,32]
 | 8 => [1,2,6,8,9,10,12,30,31,32]
 | 9 => [1,2,6,8,9,10,12,13,30,31,32]
 | 10 => [1,2,6,8,9,10,12,13,30,31,32]
 | 11 => [1,2,6,8,9,10,12,13,30,31,32]
 | 12 => [1,2,6,8,9,10,30,31,32]
 | 13 => [6,8,9,10]
 | 14 => [6]
 | 15 => [6,8,10]
 | 16 => [6]
 | 17 => [6,10]
 | _ => []
set_option maxRecDepth 100000 in
set_option maxHeartbeats 16000000 in
theorem sN (c : Int) (M ts : List Tm) (div : Int) (hM : MapOf M ts) (hts : ∀ m ∈ ts,0 ≤ m.1 ∧ m.1 < 1048576) (hlen : M.length ≤ 4096) (hc : -1125899906842624 ≤ c ∧ c ≤ 1125899906842624)
  (hs : ∀ v,-36028797018963968 ≤ fp ts v ∧ fp ts v ≤ 36028797018963968) :
  AFn Tryz.prog 125 [inA c,.mp 20000,inA div] [.bc (bn M) (1000000000 + 187)] (kN (dG c ts div)) [.bc (bn M) (1000000000 + 187)] := by
 by_cases hd1 : div < 1
 ·rw [show dG c ts div = (1,⟨0,[]⟩) from if_pos (.inl hd1),oz]
  refine bm [] Tryz.func125 rfl Tryz.ntmps125 (Nat.le_of_ble_eq_true rfl) (Nat.le_of_ble_eq_true rfl) fun w0 G0 B0 Pr hB0 => ?_
  simp only [bD,bj,List.cons_append,List.nil_append]
  repeat' (first | (with_reducible refine hY _ ?_;clear hY Y) | ((with_reducible first | refine aX rfl (aR fun K' hK' => aa ?_) | refine hK' _ (ab fun Y hY => aa ?_) | refine aW rfl (ab fun Y hY => aa ?_) | refine ab fun Y hY => aa ?_ | refine ag tk0 bF (ab fun Y hY => aa ?_) | refine aa ?_ | refine aH ?_);(try clear hK' K');(try dsimp only [aop]);try simp only [go_sem,↓reduceIte,Nat.reduceEqDiff,Nat.reduceLT,Nat.reduceLeDiff,Nat.reduceAdd,Nat.reduceSub,Nat.reduceMul,Nat.reduceBEq,Nat.reduceBNe,Nat.reducePow,Int.reduceToNat,Int.reduceLE,Int.reduceLT,Int.reduceMul,Int.reduceEq,Int.reducePow,Int.reduceAdd,Int.reduceSub,Int.reduceNeg,reduceCtorEq,bF,Tryz.results125,hd1]) | (with_reducible first | refine aI ?_ | refine am rfl ?_ | refine bg ?_ ?_ | refine aP ?_ | refine aS ?_ | refine bi fun K hK => ?_ | refine aD ?_ | refine aQ ?_ | refine aL ?_) | (with_reducible refine hK _ ?_;clear hK K) | ((with_reducible first | refine aF ?_ ?_ | refine ai ?_ ?_);(· decide)))
 by_cases hd2 : 1073741824 < div
 ·rw [show dG c ts div = (1,⟨0,[]⟩) from if_pos (.inr hd2),oz]
  refine bm [] Tryz.func125 rfl Tryz.ntmps125 (Nat.le_of_ble_eq_true rfl) (Nat.le_of_ble_eq_true rfl) fun w0 G0 B0 Pr hB0 => ?_
  simp only [bD,bj,List.cons_append,List.nil_append]
  repeat' (first | (with_reducible refine hY _ ?_;clear hY Y) | ((with_reducible first | refine aX rfl (aR fun K' hK' => aa ?_) | refine hK' _ (ab fun Y hY => aa ?_) | refine aW rfl (ab fun Y hY => aa ?_) | refine ab fun Y hY => aa ?_ | refine aR fun K' hK' => aa ?_ | refine ag tk0 bF (ab fun Y hY => aa ?_) | refine aa ?_ | refine aH ?_);(try clear hK' K');(try dsimp only [aop]);try simp only [go_sem,↓reduceIte,Nat.reduceEqDiff,Nat.reduceLT,Nat.reduceLeDiff,Nat.reduceAdd,Nat.reduceSub,Nat.reduceMul,Nat.reduceBEq,Nat.reduceBNe,Nat.reducePow,Int.reduceToNat,Int.reduceLE,Int.reduceLT,Int.reduceMul,Int.reduceEq,Int.reducePow,Int.reduceAdd,Int.reduceSub,Int.reduceNeg,reduceCtorEq,bF,Tryz.results125,hd1,hd2]) | (with_reducible first | refine aI ?_ | refine ao ?_ | refine aP ?_ | refine aS ?_ | refine bi fun K hK => ?_ | refine aD ?_ | refine aQ ?_ | refine aL ?_) | (with_reducible refine hK _ ?_;clear hK K) | ((with_reducible first | refine aF ?_ ?_ | refine ai ?_ ?_);(· decide)))
 rw [oY c ts div (by omega)]
 have hMk : ∀ m ∈ M,0 ≤ m.1 ∧ m.1 < 1048576 := fun m hm => by
  have h1 : m.1 ∈ ts.map (·.1) := (hM.key m.1).1 (List.mem_map.2 ⟨m,hm,rfl⟩)
  obtain ⟨x,hx,he⟩ := List.mem_map.1 h1
  rw [← he];exact hts x hx
 have hfar := xO c
 have hup := zO c div (by omega) hc
 have hks := wK M
 have hso := tw M hMk hlen
 rw [hM.sorted] at hso
 have hvl : (f9 ts).length ≤ 4096 := by
  rw [← hM.sorted];unfold km;rw [List.length_mergeSort,List.length_map];exact hlen
 refine bm [] Tryz.func125 rfl Tryz.ntmps125 (Nat.le_of_ble_eq_true rfl) (Nat.le_of_ble_eq_true rfl) fun w0 G0 B0 Pr hB0 => ?_
 simp only [bD,bj,List.cons_append,List.nil_append]
 repeat' (first | (with_reducible refine hY _ ?_;clear hY Y) | ((with_reducible first | refine aX rfl (aR fun K' hK' => aa ?_) | refine hK' _ (ab fun Y hY => aa ?_) | refine aW rfl (ab fun Y hY => aa ?_) | refine ab fun Y hY => aa ?_ | refine aR fun K' hK' => aa ?_ | refine ag tk0 bF (ab fun Y hY => aa ?_) | refine aa ?_);(try clear hK' K');(try dsimp only [aop]);try simp only [go_sem,↓reduceIte,Nat.reduceEqDiff,Nat.reduceLT,Nat.reduceLeDiff,Nat.reduceAdd,Nat.reduceSub,Nat.reduceMul,Nat.reduceBEq,Nat.reduceBNe,Nat.reducePow,Int.reduceToNat,Int.reduceLE,Int.reduceLT,Int.reduceMul,Int.reduceEq,Int.reducePow,Int.reduceAdd,Int.reduceSub,Int.reduceNeg,reduceCtorEq,bF,Tryz.results125,hd1,hd2]) | (with_reducible first | refine aI ?_ | refine ao ?_ | refine aP ?_ | refine aS ?_ | refine bi fun K hK => ?_ | refine aC ?_ | refine ah ?_ | refine av ?_ | refine au ?_) | (with_reducible refine hK _ ?_;clear hK K) | ((with_reducible first | refine aF ?_ ?_ | refine ai ?_ ?_);(· decide)) | (with_reducible refine aK (hfar) ?_) | (with_reducible refine aK (hup) ?_) | (with_reducible refine aK (hks) ?_) | (with_reducible refine aK (hso) ?_))
 have hfo := rM M
 have hko := lV M
 have hsum : ∀ v,iW M v = fp ts v := hM.get
 clear hfar hup hks hso hMk hts hM
 have hdn : (div = 0) = False := eq_false (by omega)
 refine d5 (dk (b := 10061) (k0 := 10010) (i := 1) 94 (by decide) (by decide) (by decide) rfl rfl rfl) ?_
 generalize hvs : f9 ts = vs at *
 refine b7 (α := Nat) (fun k => [(1,.mp 20000),(2,inA div),(6,.loc 10006 0),(8,.c (.bool (eU ts div (vs.take k)))),(9,.c (.bool (ju c || ic ts (vs.take k)))),(10,.loc 10010 0),(30,.sl (vs.map inA) vs.length .none),(31,inA (vs.length : Int)),(32,inA (k : Int)),(10006,.bc [inA 0,.sl [] 0 .full] 24),(10010,.bc [inA (upZ c div),.sl (bn (fB ts div (vs.take k))) (fB ts div (vs.take k)).length (.tok 10061)] 24),(10061,.bt (fB ts div (vs.take k)).length 94),(20000,.bc (bn M) (1000000000 + 187))])
  (fun k => k ≤ vs.length) (fun k => vs.length - k) 0 [1,2,6,8,9,10,30,31,32] ?_ (Nat.zero_le _) ?_
 ·simp only [go_sem,↓reduceIte,Nat.reduceEqDiff,Nat.reduceLT,Nat.reduceLeDiff,Nat.reduceAdd,Nat.reduceSub,Nat.reduceMul,Nat.reduceBEq,Nat.reduceBNe,Nat.reducePow,Int.reduceToNat,Int.reduceLE,Int.reduceLT,Int.reduceMul,Int.reduceEq,Int.reducePow,Int.reduceAdd,Int.reduceSub,Int.reduceNeg,reduceCtorEq,List.take_zero,eU,ic,List.any_nil,Bool.or_false,fB,bn,List.set_cons_succ,List.set_cons_zero] <;> rfl
 intro k hk ih
 by_cases hlt : k < vs.length
 ·have hlt' : ((k : Int) < (vs.length : Int)) = True := eq_true (by omega)
  have hkw := cC (n := k) (by omega)
  have hg0 := wk hlt
  have hg1 := wm hlt
  have hvl2 : (vs.map inA).length = vs.length := List.length_map ..
  have ih' := ih (k + 1) (by omega) (by omega)
  have hol := ov ts div (vs.take k)
  have hcl := cM (fB ts div (vs.take k))
  have hbo : (fB ts div (vs.take k)).length ≤ 4096 := by rw [List.length_take] at hol;omega
  clear ih hol
  rw [List.take_succ_eq_append_getElem hlt,ni,oP,nI] at ih'
  generalize vs[k] = v at *
  have hK := hs v
  have hgv := hsum v
  have hfk := xO (fp ts v)
  have hlk := hfo v
  rw [hgv] at hlk
  generalize fp ts v = K at *
  have hKb := kq K div
  have hq : IntKind.i64.wrap (K.tdiv div) = K.tdiv div := bQ (by omega) (by omega)
  generalize fB ts div (vs.take k) = O at *
  generalize eU ts div (vs.take k) = r at *
  generalize hfo2 : ic ts (vs.take k) = f2 at *
  rw [← Bool.or_assoc] at ih'
  generalize (ju c || f2) = o at *
  by_cases hK0 : K = 0
  ·subst hK0
   rw [if_pos rfl] at ih'
   clear hfk hfo
   repeat' (first | (with_reducible refine hY _ ?_;clear hY Y) | ((with_reducible first | refine aX rfl (aR fun K' hK' => aa ?_) | refine hK' _ (ab fun Y hY => aa ?_) | refine ab fun Y hY => aa ?_ | refine ag tk0 bF (ab fun Y hY => aa ?_));(try clear hK' K');(try dsimp only [aop]);try simp only [go_sem,↓reduceIte,Nat.reduceEqDiff,Nat.reduceLT,Nat.reduceLeDiff,Nat.reduceAdd,Nat.reduceSub,Nat.reduceMul,Nat.reduceBEq,Nat.reduceBNe,Nat.reducePow,Int.reduceToNat,Int.reduceLE,Int.reduceLT,Int.reduceMul,Int.reduceEq,Int.reducePow,Int.reduceAdd,Int.reduceSub,Int.reduceNeg,reduceCtorEq,bF,Tryz.results125,hlt',hg0,hg1,hvl2,hlk,hko,hkw]) | (with_reducible first | refine aI ?_ | refine aP ?_ | refine aS ?_ | refine bi fun K hK => ?_ | refine aD ?_ | refine aO ?_ | refine ax ?_ | refine ah ?_ | refine av ?_ | refine ar ?_) | (with_reducible refine hK _ ?_;clear hK K) | ((with_reducible refine ai ?_ ?_);(· decide)) | (with_reducible refine aV ?_ ?_;(· (try and_intros) <;> first | omega | assumption | (simp only [List.length_append,List.length_map,List.length_cons,List.length_nil] <;> omega))))
   refine bO [1,2,6,8,9,10,30,31,32] (by simp only [go_sem,↓reduceIte,Nat.reduceEqDiff,Nat.reduceLT,Nat.reduceLeDiff,Nat.reduceAdd,Nat.reduceSub,Nat.reduceMul,Nat.reduceBEq,Nat.reduceBNe,Nat.reducePow,Int.reduceToNat,Int.reduceLE,Int.reduceLT,Int.reduceMul,Int.reduceEq,Int.reducePow,Int.reduceAdd,Int.reduceSub,Int.reduceNeg,reduceCtorEq];exact rfl) ?_
   refine gF ih' ?_
   simp [ju]
  ·rw [if_neg hK0,ig,List.length_append] at ih'
   clear hfo
   generalize ju K = fk at *
   cases r <;> cases o
   all_goals
    repeat' (first | (with_reducible refine hY _ ?_;clear hY Y) | ((with_reducible first | refine aX rfl (aR fun K' hK' => aa ?_) | refine hK' _ (ab fun Y hY => aa ?_) | refine ab fun Y hY => aa ?_ | refine ag tk0 bF (ab fun Y hY => aa ?_) | refine aa ?_ | refine aN rfl (ap fun K' hK' => aa ?_) | refine hK' _ _ (ab fun Y hY => aa ?_) | refine aM rfl (ab fun Y hY => aa ?_) | refine ap fun K' hK' => aa ?_);(try clear hK' K');(try dsimp only [aop]);try simp only [go_sem,↓reduceIte,Nat.reduceEqDiff,Nat.reduceLT,Nat.reduceLeDiff,Nat.reduceAdd,Nat.reduceSub,Nat.reduceMul,Nat.reduceBEq,Nat.reduceBNe,Nat.reducePow,Int.reduceToNat,Int.reduceLE,Int.reduceLT,Int.reduceMul,Int.reduceEq,Int.reducePow,Int.reduceAdd,Int.reduceSub,Int.reduceNeg,reduceCtorEq,bF,Tryz.results125,hlt',hg0,hg1,hvl2,hlk,hko,hkw,hK0,hdn,hq,hcl]) | (with_reducible first | refine aI ?_ | refine am rfl ?_ | refine ao ?_ | refine bg ?_ ?_ | refine aP ?_ | refine aS ?_ | refine bi fun K hK => ?_ | refine aD ?_ | refine aC ?_ | refine ay ?_ | refine ah ?_ | refine av ?_ | refine aj ?_ | refine bh fun K hK => ?_) | (with_reducible refine hK _ ?_;clear hK K) | (with_reducible refine hK _ _ ?_ ?_;(· kernel_rfl);clear hK K) | ((with_reducible first | refine aF ?_ ?_ | refine ai ?_ ?_);(· decide)) | (with_reducible refine aq tk0 bF ?_ ?_;(· kernel_rfl)) | (with_reducible refine aV ?_ ?_;(· (try and_intros) <;> first | omega | assumption | (simp only [List.length_append,List.length_map,List.length_cons,List.length_nil] <;> omega))) | (with_reducible refine aK (hfk) ?_))
   all_goals
    refine bO [1,2,6,8,9,10,30,31,32] (by simp only [go_sem,↓reduceIte,Nat.reduceEqDiff,Nat.reduceLT,Nat.reduceLeDiff,Nat.reduceAdd,Nat.reduceSub,Nat.reduceMul,Nat.reduceBEq,Nat.reduceBNe,Nat.reducePow,Int.reduceToNat,Int.reduceLE,Int.reduceLT,Int.reduceMul,Int.reduceEq,Int.reducePow,Int.reduceAdd,Int.reduceSub,Int.reduceNeg,reduceCtorEq];exact rfl) ?_
    refine gF ih' ?_
    simp [bn]
 ·have hlt' : ((k : Int) < (vs.length : Int)) = False := eq_false (by omega)
  rw [List.take_of_length_le (by omega)]
  clear ih hfo hlt
  have hso := xv ⟨upZ c div,fB ts div vs⟩ (by have := ov ts div vs;show (fB ts div vs).length ≤ _;omega)
  generalize (ju c || ic ts vs) = o at *
  generalize eU ts div vs = r at *
  cases o with
  | true =>
   rw [if_pos rfl,jO]
   repeat' (first | (with_reducible refine hY _ ?_;clear hY Y) | ((with_reducible first | refine aX rfl (aR fun K' hK' => aa ?_) | refine hK' _ (ab fun Y hY => aa ?_) | refine ab fun Y hY => aa ?_ | refine ag tk0 bF (ab fun Y hY => aa ?_) | refine aa ?_ | refine aH ?_);(try clear hK' K');(try dsimp only [aop]);try simp only [go_sem,↓reduceIte,Nat.reduceEqDiff,Nat.reduceLT,Nat.reduceLeDiff,Nat.reduceAdd,Nat.reduceSub,Nat.reduceMul,Nat.reduceBEq,Nat.reduceBNe,Nat.reducePow,Int.reduceToNat,Int.reduceLE,Int.reduceLT,Int.reduceMul,Int.reduceEq,Int.reducePow,Int.reduceAdd,Int.reduceSub,Int.reduceNeg,reduceCtorEq,bF,Tryz.results125,hlt']) | (with_reducible first | refine aI ?_ | refine aP ?_ | refine aS ?_ | refine bi fun K hK => ?_ | refine aD ?_ | refine aC ?_ | refine aO ?_ | refine aQ ?_ | refine aA ?_ | refine ax ?_ | refine ah ?_ | refine aL ?_ | refine ar ?_) | (with_reducible refine hK _ ?_;clear hK K) | ((with_reducible refine ai ?_ ?_);(· decide)))
  | false =>
  rw [if_neg (by decide)]
  cases r with
  | true =>
   rw [if_pos rfl,yU]
   repeat' (first | (with_reducible refine hY _ ?_;clear hY Y) | ((with_reducible first | refine aX rfl (aR fun K' hK' => aa ?_) | refine hK' _ (ab fun Y hY => aa ?_) | refine ab fun Y hY => aa ?_ | refine ag tk0 bF (ab fun Y hY => aa ?_) | refine aa ?_ | refine aH ?_);(try clear hK' K');(try dsimp only [aop]);try simp only [go_sem,↓reduceIte,Nat.reduceEqDiff,Nat.reduceLT,Nat.reduceLeDiff,Nat.reduceAdd,Nat.reduceSub,Nat.reduceMul,Nat.reduceBEq,Nat.reduceBNe,Nat.reducePow,Int.reduceToNat,Int.reduceLE,Int.reduceLT,Int.reduceMul,Int.reduceEq,Int.reducePow,Int.reduceAdd,Int.reduceSub,Int.reduceNeg,reduceCtorEq,bF,Tryz.results125,hlt']) | (with_reducible first | refine aI ?_ | refine aP ?_ | refine aS ?_ | refine bi fun K hK => ?_ | refine aD ?_ | refine aC ?_ | refine aO ?_ | refine aQ ?_ | refine aA ?_ | refine ax ?_ | refine ah ?_ | refine aL ?_ | refine ar ?_) | (with_reducible refine hK _ ?_;clear hK K) | ((with_reducible refine ai ?_ ?_);(· decide)))
  | false =>
  rw [if_neg (by decide)]
  generalize oC ⟨upZ c div,fB ts div vs⟩ = q at *
  obtain ⟨e,l⟩ := q
  by_cases he : e = 0
  ·subst he
   rw [iC] at hso ⊢
   repeat' (first | (with_reducible refine hY _ ?_;clear hY Y) | ((with_reducible first | refine aX rfl (aR fun K' hK' => aa ?_) | refine hK' _ (ab fun Y hY => aa ?_) | refine ab fun Y hY => aa ?_ | refine ag tk0 bF (ab fun Y hY => aa ?_) | refine aa ?_ | refine aH ?_);(try clear hK' K');(try dsimp only [aop]);try simp only [go_sem,↓reduceIte,Nat.reduceEqDiff,Nat.reduceLT,Nat.reduceLeDiff,Nat.reduceAdd,Nat.reduceSub,Nat.reduceMul,Nat.reduceBEq,Nat.reduceBNe,Nat.reducePow,Int.reduceToNat,Int.reduceLE,Int.reduceLT,Int.reduceMul,Int.reduceEq,Int.reducePow,Int.reduceAdd,Int.reduceSub,Int.reduceNeg,reduceCtorEq,bF,Tryz.results125,hlt']) | (with_reducible first | refine aI ?_ | refine aP ?_ | refine aS ?_ | refine bi fun K hK => ?_ | refine aC ?_ | refine aO ?_ | refine ay ?_ | refine ax ?_ | refine ah ?_ | refine av ?_ | refine aL ?_ | refine ar ?_) | (with_reducible refine hK _ ?_;clear hK K) | ((with_reducible refine ai ?_ ?_);(· decide)) | (with_reducible refine aK (dd hso ?_) ?_;(· simp [c6])))
  ·rw [ra he] at hso ⊢
   repeat' (first | (with_reducible refine hY _ ?_;clear hY Y) | ((with_reducible first | refine aX rfl (aR fun K' hK' => aa ?_) | refine hK' _ (ab fun Y hY => aa ?_) | refine ab fun Y hY => aa ?_ | refine ag tk0 bF (ab fun Y hY => aa ?_) | refine aa ?_ | refine aH ?_);(try clear hK' K');(try dsimp only [aop]);try simp only [go_sem,↓reduceIte,Nat.reduceEqDiff,Nat.reduceLT,Nat.reduceLeDiff,Nat.reduceAdd,Nat.reduceSub,Nat.reduceMul,Nat.reduceBEq,Nat.reduceBNe,Nat.reducePow,Int.reduceToNat,Int.reduceLE,Int.reduceLT,Int.reduceMul,Int.reduceEq,Int.reducePow,Int.reduceAdd,Int.reduceSub,Int.reduceNeg,reduceCtorEq,bF,Tryz.results125,hlt']) | (with_reducible first | refine aI ?_ | refine aP ?_ | refine aS ?_ | refine bi fun K hK => ?_ | refine aC ?_ | refine aO ?_ | refine ay ?_ | refine ax ?_ | refine ah ?_ | refine av ?_ | refine aL ?_ | refine ar ?_) | (with_reducible refine hK _ ?_;clear hK K) | ((with_reducible refine ai ?_ ?_);(· decide)) | (with_reducible refine aK (dd hso ?_) ?_;(· simp [c6])))
end Go.Proofs.YtmpdocplcgbpkaaGreatDoor
namespace Go.Proofs.YtmpdocplcgbpkaaGreatDoor
set_option linter.unusedSimpArgs false
set_option linter.unusedVariables false
open Go.RowKit
attribute [-go_sem] kD
theorem pC : ∀ (M : List Tm) (v x : Int),(ll M v x).length ≤ M.length + 1
 | [],v,x => Nat.le_refl _
 | m :: r,v,x => by
  unfold ll
  split
  ·rw [List.length_cons,List.length_cons];omega
  ·have := pC r v x
   rw [List.length_cons,List.length_cons];omega
theorem lJ : ∀ (l M : List Tm),(l.foldl jU M).length ≤ M.length + l.length
 | [],M => Nat.le_refl _
 | m :: r,M => by
  rw [List.foldl_cons,List.length_cons]
  have h1 := lJ r (jU M m)
  have h2 : (jU M m).length ≤ M.length + 1 := pC _ _ _
  omega
def qA (div : Int) (q : Nat × Int × List Tm) : Nat × Ln := if q.1 = 0 then dG q.2.1 q.2.2 div else (q.1,⟨0,[]⟩)
theorem vh {ls : List Ln} {s : Stp} (h : ¬ 64 < s.parts.length) : fR ls s = qA s.div (fC ls (s.parts.drop 0) 0 []) := by
 unfold fR
 rw [if_neg h];rfl
def bE : Nat → List Nat
 | 0 => [0,1]
 | 1 => [0,3,4]
 | 2 => [4]
 | 3 => [0,3,4]
 | 4 => [0,3,4,6,7]
 | 5 => [0,3,4,6,7,21,22,23]
 | 6 => [0,3,4,6,7,21,22,23]
 | 7 => [0,3,4,6,7,9,21,22,23]
 | 8 => [4]
 | 9 => [0,3,4,6,7,9,21,22,23]
 | 10 => [4]
 | 11 => [0,3,4,6,7,9,21,22,23]
 | 12 => [0,3,4,6,7,9,10,21,22,23]
 | 13 => [0,3,4,6,7,9,10,21,22,23]
 | 14 => [0,3,4,6,7,9,21,22,23,64,65,66]
 | 15 => [0,3,4,6,7,9,21,22,23,64,65,66]
 | 16 => [0,3,4,6,7,9,12,21,22,23,64,65,66]
 | 17 => [0,3,4,6,7,9,21,22,23,64,65,66]
 | 18 => [0,3,4,6,7,21,22,23]
 | 19 => [3,4,6,7]
 | _ => []
set_option maxRecDepth 100000 in
set_option maxHeartbeats 16000000 in
theorem y4 (ls : List Ln) (hls : ∀ l ∈ ls,dg l = true) (hll : ls.length ≤ 1048576) (s : Stp) (hsl : Lg s.parts) : AFn Tryz.prog 114 [gm ls,.agg (mn s)] [] (kN (fR ls s)) [] := by
 unfold Lg at hsl
 by_cases h64 : 64 < s.parts.length
 ·have h64' : ((64 : Int) < (s.parts.length : Int)) = True := eq_true (by omega)
  rw [show fR ls s = (2,⟨0,[]⟩) from if_pos h64,uZ]
  refine bm [] Tryz.func114 rfl Tryz.ntmps114 (Nat.le_of_ble_eq_true rfl) (Nat.le_of_ble_eq_true rfl) fun w0 G0 B0 Pr hB0 => ?_
  simp only [bD,bj,List.cons_append,List.nil_append]
  repeat' (first | (with_reducible refine hY _ ?_;clear hY Y) | ((with_reducible first | refine aX rfl (aR fun K' hK' => aa ?_) | refine hK' _ (ab fun Y hY => aa ?_) | refine ab fun Y hY => aa ?_ | refine ag tk0 bE (ab fun Y hY => aa ?_) | refine aa ?_ | refine aH ?_);(try clear hK' K');(try dsimp only [aop]);try simp only [go_sem,↓reduceIte,Nat.reduceEqDiff,Nat.reduceLT,Nat.reduceLeDiff,Nat.reduceAdd,Nat.reduceSub,Nat.reduceMul,Nat.reduceBEq,Nat.reduceBNe,Nat.reducePow,Int.reduceToNat,Int.reduceLE,Int.reduceLT,Int.reduceMul,Int.reduceEq,Int.reducePow,Int.reduceAdd,Int.reduceSub,Int.reduceNeg,reduceCtorEq,bE,Tryz.results114,h64']) | (with_reducible first | refine aI ?_ | refine aP ?_ | refine aS ?_ | refine bi fun K hK => ?_ | refine aD ?_ | refine aQ ?_ | refine aL ?_) | (with_reducible refine hK _ ?_;clear hK K) | ((with_reducible refine ai ?_ ?_);(· decide)))
 have h64' : ((64 : Int) < (s.parts.length : Int)) = False := eq_false (by omega)
 have hS0 := vh (ls := ls) h64
 refine bm [] Tryz.func114 rfl Tryz.ntmps114 (Nat.le_of_ble_eq_true rfl) (Nat.le_of_ble_eq_true rfl) fun w0 G0 B0 Pr hB0 => ?_
 simp only [bD,bj,List.cons_append,List.nil_append]
 repeat' (first | (with_reducible refine hY _ ?_;clear hY Y) | ((with_reducible first | refine aX rfl (aR fun K' hK' => aa ?_) | refine hK' _ (ab fun Y hY => aa ?_) | refine ab fun Y hY => aa ?_ | refine ag tk0 bE (ab fun Y hY => aa ?_));(try clear hK' K');(try dsimp only [aop]);try simp only [go_sem,↓reduceIte,Nat.reduceEqDiff,Nat.reduceLT,Nat.reduceLeDiff,Nat.reduceAdd,Nat.reduceSub,Nat.reduceMul,Nat.reduceBEq,Nat.reduceBNe,Nat.reducePow,Int.reduceToNat,Int.reduceLE,Int.reduceLT,Int.reduceMul,Int.reduceEq,Int.reducePow,Int.reduceAdd,Int.reduceSub,Int.reduceNeg,reduceCtorEq,bE,Tryz.results114,h64']) | (with_reducible first | refine aI ?_ | refine aP ?_ | refine aS ?_ | refine bi fun K hK => ?_ | refine aC ?_ | refine ah ?_ | refine av ?_ | refine au ?_) | (with_reducible refine hK _ ?_;clear hK K) | ((with_reducible refine ai ?_ ?_);(· decide)))
 refine b7 (α := Nat × Int × List Tm × List Tm) (fun a => [(0,gm ls),(3,.loc 10003 0),(4,.loc 10004 0),(6,inA a.2.1),(7,.mp 10019),(21,.sl (bn s.parts) s.parts.length .none),(22,inA (s.parts.length : Int)),(23,inA (a.1 : Int)),(10003,.bc (mn s) 83),(10004,.bc [inA 0,.sl [] 0 .full] 24),(10019,.bc (bn a.2.2.2) (1000000000 + 187))])
  (fun a => a.1 ≤ s.parts.length ∧ fR ls s = qA s.div (fC ls (s.parts.drop a.1) a.2.1 a.2.2.1) ∧ PrOk a.1 a.2.1 a.2.2.1 ∧ MapOf a.2.2.2 a.2.2.1 ∧ a.2.2.2.length ≤ a.2.2.1.length) (fun a => s.parts.length - a.1) (0,0,[],[]) [0,3,4,6,7,21,22,23] ?_ ⟨Nat.zero_le _,hS0,py,s5,Nat.le_refl _⟩ ?_
 ·simp only [go_sem,↓reduceIte,Nat.reduceEqDiff,Nat.reduceLT,Nat.reduceLeDiff,Nat.reduceAdd,Nat.reduceSub,Nat.reduceMul,Nat.reduceBEq,Nat.reduceBNe,Nat.reducePow,Int.reduceToNat,Int.reduceLE,Int.reduceLT,Int.reduceMul,Int.reduceEq,Int.reducePow,Int.reduceAdd,Int.reduceSub,Int.reduceNeg,reduceCtorEq,bn] <;> rfl
 rintro ⟨k,c,ts,M⟩ ⟨hk,hS,hP,hM,hML⟩ ih
 simp only at hk hS hP hM hML ih ⊢
 clear hS0
 by_cases hlt : k < s.parts.length
 ·have hlt' : ((k : Int) < (s.parts.length : Int)) = True := eq_true (by omega)
  have hkw := cC (n := k) (by omega)
  have hg0 := eM hlt
  have hfl := cM s.parts
  rw [List.drop_eq_getElem_cons hlt] at hS
  generalize s.parts[k] = m at *
  obtain ⟨v,p⟩ := m
  simp only at hg0
  unfold fC at hS
  simp only at hS
  by_cases hv0 : v < 0
  ·rw [if_pos (.inl hv0)] at hS
   rw [hS,show qA s.div (6,0,[]) = (6,⟨0,[]⟩) from rfl,u2]
   clear ih hS hP hM
   have hv0' : (v < 0) = True := eq_true hv0
   repeat' (first | (with_reducible refine hY _ ?_;clear hY Y) | ((with_reducible first | refine aX rfl (aR fun K' hK' => aa ?_) | refine hK' _ (ab fun Y hY => aa ?_) | refine aW rfl (ab fun Y hY => aa ?_) | refine ab fun Y hY => aa ?_ | refine ag tk0 bE (ab fun Y hY => aa ?_) | refine aa ?_ | refine aH ?_);(try clear hK' K');(try dsimp only [aop]);try simp only [go_sem,↓reduceIte,Nat.reduceEqDiff,Nat.reduceLT,Nat.reduceLeDiff,Nat.reduceAdd,Nat.reduceSub,Nat.reduceMul,Nat.reduceBEq,Nat.reduceBNe,Nat.reducePow,Int.reduceToNat,Int.reduceLE,Int.reduceLT,Int.reduceMul,Int.reduceEq,Int.reducePow,Int.reduceAdd,Int.reduceSub,Int.reduceNeg,reduceCtorEq,bE,Tryz.results114,hlt',hfl,hg0,hv0']) | (with_reducible first | refine aI ?_ | refine am rfl ?_ | refine bg ?_ ?_ | refine aP ?_ | refine aS ?_ | refine bi fun K hK => ?_ | refine aD ?_ | refine aQ ?_ | refine aA ?_ | refine ah ?_ | refine av ?_ | refine aL ?_) | (with_reducible refine hK _ ?_;clear hK K) | ((with_reducible first | refine aF ?_ ?_ | refine ai ?_ ?_);(· decide)) | (with_reducible refine aV ?_ ?_;(· (try and_intros) <;> first | omega | assumption | (simp only [List.length_append,List.length_map,List.length_cons,List.length_nil] <;> omega))))
  by_cases hv1 : (ls.length : Int) ≤ v
  ·rw [if_pos (.inr hv1)] at hS
   rw [hS,show qA s.div (6,0,[]) = (6,⟨0,[]⟩) from rfl,u2]
   clear ih hS hP hM
   have hv0' : (v < 0) = False := eq_false hv0
   have hv1' : ((ls.length : Int) ≤ v) = True := eq_true hv1
   repeat' (first | (with_reducible refine hY _ ?_;clear hY Y) | ((with_reducible first | refine aX rfl (aR fun K' hK' => aa ?_) | refine hK' _ (ab fun Y hY => aa ?_) | refine aW rfl (ab fun Y hY => aa ?_) | refine ab fun Y hY => aa ?_ | refine aR fun K' hK' => aa ?_ | refine ag tk0 bE (ab fun Y hY => aa ?_) | refine aa ?_ | refine aH ?_);(try clear hK' K');(try dsimp only [aop]);try simp only [go_sem,↓reduceIte,Nat.reduceEqDiff,Nat.reduceLT,Nat.reduceLeDiff,Nat.reduceAdd,Nat.reduceSub,Nat.reduceMul,Nat.reduceBEq,Nat.reduceBNe,Nat.reducePow,Int.reduceToNat,Int.reduceLE,Int.reduceLT,Int.reduceMul,Int.reduceEq,Int.reducePow,Int.reduceAdd,Int.reduceSub,Int.reduceNeg,reduceCtorEq,bE,Tryz.results114,hlt',hfl,hg0,hv0',hv1']) | (with_reducible first | refine aI ?_ | refine ao ?_ | refine aP ?_ | refine aS ?_ | refine bi fun K hK => ?_ | refine aD ?_ | refine aQ ?_ | refine aA ?_ | refine ah ?_ | refine av ?_ | refine aL ?_) | (with_reducible refine hK _ ?_;clear hK K) | ((with_reducible first | refine aF ?_ ?_ | refine ai ?_ ?_);(· decide)) | (with_reducible refine aV ?_ ?_;(· (try and_intros) <;> first | omega | assumption | (simp only [List.length_append,List.length_map,List.length_cons,List.length_nil] <;> omega))))
  rw [if_neg (by omega)] at hS
  have hv0' : (v < 0) = False := eq_false hv0
  have hv1' : ((ls.length : Int) ≤ v) = False := eq_false hv1
  by_cases hp0 : p < 1
  ·rw [if_pos (.inl hp0)] at hS
   rw [hS,show qA s.div (1,0,[]) = (1,⟨0,[]⟩) from rfl,oz]
   clear ih hS hP hM
   have hp0' : (p < 1) = True := eq_true hp0
   repeat' (first | (with_reducible refine hY _ ?_;clear hY Y) | ((with_reducible first | refine aX rfl (aR fun K' hK' => aa ?_) | refine hK' _ (ab fun Y hY => aa ?_) | refine aW rfl (ab fun Y hY => aa ?_) | refine ab fun Y hY => aa ?_ | refine aR fun K' hK' => aa ?_ | refine ag tk0 bE (ab fun Y hY => aa ?_) | refine aa ?_ | refine aH ?_);(try clear hK' K');(try dsimp only [aop]);try simp only [go_sem,↓reduceIte,Nat.reduceEqDiff,Nat.reduceLT,Nat.reduceLeDiff,Nat.reduceAdd,Nat.reduceSub,Nat.reduceMul,Nat.reduceBEq,Nat.reduceBNe,Nat.reducePow,Int.reduceToNat,Int.reduceLE,Int.reduceLT,Int.reduceMul,Int.reduceEq,Int.reducePow,Int.reduceAdd,Int.reduceSub,Int.reduceNeg,reduceCtorEq,bE,Tryz.results114,hlt',hfl,hg0,hv0',hv1',hp0']) | (with_reducible first | refine aI ?_ | refine am rfl ?_ | refine ao ?_ | refine bg ?_ ?_ | refine aP ?_ | refine aS ?_ | refine bi fun K hK => ?_ | refine aD ?_ | refine aC ?_ | refine aQ ?_ | refine aA ?_ | refine ah ?_ | refine av ?_ | refine aL ?_) | (with_reducible refine hK _ ?_;clear hK K) | ((with_reducible first | refine aF ?_ ?_ | refine ai ?_ ?_);(· decide)) | (with_reducible refine aV ?_ ?_;(· (try and_intros) <;> first | omega | assumption | (simp only [List.length_append,List.length_map,List.length_cons,List.length_nil] <;> omega))))
  by_cases hp1 : 4096 < p
  ·rw [if_pos (.inr hp1)] at hS
   rw [hS,show qA s.div (1,0,[]) = (1,⟨0,[]⟩) from rfl,oz]
   clear ih hS hP hM
   have hp0' : (p < 1) = False := eq_false hp0
   have hp1' : ((4096 : Int) < p) = True := eq_true hp1
   repeat' (first | (with_reducible refine hY _ ?_;clear hY Y) | ((with_reducible first | refine aX rfl (aR fun K' hK' => aa ?_) | refine hK' _ (ab fun Y hY => aa ?_) | refine aW rfl (ab fun Y hY => aa ?_) | refine ab fun Y hY => aa ?_ | refine aR fun K' hK' => aa ?_ | refine ag tk0 bE (ab fun Y hY => aa ?_) | refine aa ?_ | refine aH ?_);(try clear hK' K');(try dsimp only [aop]);try simp only [go_sem,↓reduceIte,Nat.reduceEqDiff,Nat.reduceLT,Nat.reduceLeDiff,Nat.reduceAdd,Nat.reduceSub,Nat.reduceMul,Nat.reduceBEq,Nat.reduceBNe,Nat.reducePow,Int.reduceToNat,Int.reduceLE,Int.reduceLT,Int.reduceMul,Int.reduceEq,Int.reducePow,Int.reduceAdd,Int.reduceSub,Int.reduceNeg,reduceCtorEq,bE,Tryz.results114,hlt',hfl,hg0,hv0',hv1',hp0',hp1']) | (with_reducible first | refine aI ?_ | refine ao ?_ | refine aP ?_ | refine aS ?_ | refine bi fun K hK => ?_ | refine aD ?_ | refine aC ?_ | refine aQ ?_ | refine aA ?_ | refine ah ?_ | refine av ?_ | refine aL ?_) | (with_reducible refine hK _ ?_;clear hK K) | ((with_reducible first | refine aF ?_ ?_ | refine ai ?_ ?_);(· decide)) | (with_reducible refine aV ?_ ?_;(· (try and_intros) <;> first | omega | assumption | (simp only [List.length_append,List.length_map,List.length_cons,List.length_nil] <;> omega))))
  rw [if_neg (by omega)] at hS
  have hp0' : (p < 1) = False := eq_false hp0
  have hp1' : ((4096 : Int) < p) = False := eq_false hp1
  obtain ⟨i,rfl⟩ : ∃ i : Nat,v = (i : Int) := ⟨v.toNat,by omega⟩
  have hil : i < ls.length := by omega
  have hgi : ls.getD (i : Int).toNat ⟨0,[]⟩ = ls[i] := by rw [Int.toNat_natCast,List.getD_eq_getElem?_getD,List.getElem?_eq_getElem hil];rfl
  rw [hgi] at hS
  have hgl := i4 hil
  have hll2 := eo ls
  have hlin := hls _ (List.getElem_mem hil)
  generalize ls[i] = l at *
  have hP2 := hP.add hlin (p := p) (by omega) (by omega)
  obtain ⟨⟨l1,l2⟩,l3,l4⟩ := fi hlin
  obtain ⟨a1,a2⟩ := ol (p := p) (by omega) (by omega) l1 l2
  have hw1 : IntKind.i64.wrap (p * l.c) = p * l.c := bQ (by omega) (by omega)
  have hw2 : IntKind.i64.wrap (c + p * l.c) = c + p * l.c := by
   have := hP2.c1;have := hP2.c2
   exact bQ (by omega) (by omega)
  have ih' := ih (k + 1,c + p * l.c,ts ++ c4 p l.t,(c4 p l.t).foldl jU M) ⟨by simp only;omega,hS,hP2,hM.addAll _,by have := lJ (c4 p l.t) M;simp only [List.length_append];omega⟩ (by simp only;omega)
  clear ih hS hls
  simp only at ih'
  have hvv : ((i : Int) < (ls.length : Int)) = True := eq_true (by omega)
  have hPr := hP
  repeat' (first | (with_reducible refine hY _ ?_;clear hY Y) | ((with_reducible first | refine aX rfl (aR fun K' hK' => aa ?_) | refine hK' _ (ab fun Y hY => aa ?_) | refine aW rfl (ab fun Y hY => aa ?_) | refine ab fun Y hY => aa ?_ | refine aR fun K' hK' => aa ?_ | refine ag tk0 bE (ab fun Y hY => aa ?_));(try clear hK' K');(try dsimp only [aop]);try simp only [go_sem,↓reduceIte,Nat.reduceEqDiff,Nat.reduceLT,Nat.reduceLeDiff,Nat.reduceAdd,Nat.reduceSub,Nat.reduceMul,Nat.reduceBEq,Nat.reduceBNe,Nat.reducePow,Int.reduceToNat,Int.reduceLE,Int.reduceLT,Int.reduceMul,Int.reduceEq,Int.reducePow,Int.reduceAdd,Int.reduceSub,Int.reduceNeg,reduceCtorEq,bE,Tryz.results114,hlt',hfl,hg0,hv0',hv1',hp0',hp1',hgl,hll2,hw1,hw2]) | (with_reducible first | refine aI ?_ | refine ao ?_ | refine aP ?_ | refine aS ?_ | refine bi fun K hK => ?_ | refine aD ?_ | refine aC ?_ | refine ay ?_ | refine ah ?_ | refine av ?_ | refine au ?_) | (with_reducible refine hK _ ?_;clear hK K) | ((with_reducible first | refine aF ?_ ?_ | refine ai ?_ ?_);(· decide)) | (with_reducible refine aV ?_ ?_;(· (try and_intros) <;> first | omega | assumption | (simp only [List.length_append,List.length_map,List.length_cons,List.length_nil] <;> omega))))
  have hTl : (c4 p l.t).length = l.t.length := List.length_map ..
  have hTg : ∀ j (hj : j < l.t.length) (hq : j < (c4 p l.t).length),(c4 p l.t)[j] = (l.t[j].1,p * l.t[j].2) := fun j hj hq => List.getElem_map ..
  have hok := hP2.ok
  generalize hT : c4 p l.t = T at *
  have hlen2 : ts.length ≤ 64 * 64 := by have := hP.len;omega
  clear hP hP2 hPr hgi hlin hgl hg0 hll2
  refine b7 (α := Nat) (fun j => [(0,gm ls),(3,.loc 10003 0),(4,.loc 10004 0),(6,inA (c + p * l.c)),(7,.mp 10019),(9,.loc 10009 0),(21,.sl (bn s.parts) s.parts.length .none),(22,inA (s.parts.length : Int)),(23,inA (k : Int)),(64,.sl (bn l.t) l.t.length .none),(65,inA (l.t.length : Int)),(66,inA (j : Int)),(10003,.bc (mn s) 83),(10004,.bc [inA 0,.sl [] 0 .full] 24),(10009,.bc [inA (i : Int),inA p] 181),(10019,.bc (bn ((T.take j).foldl jU M)) (1000000000 + 187))])
   (fun j => j ≤ l.t.length) (fun j => l.t.length - j) 0 [0,3,4,6,7,9,21,22,23,64,65,66] ?_ (Nat.zero_le _) ?_
  ·simp only [go_sem,↓reduceIte,Nat.reduceEqDiff,Nat.reduceLT,Nat.reduceLeDiff,Nat.reduceAdd,Nat.reduceSub,Nat.reduceMul,Nat.reduceBEq,Nat.reduceBNe,Nat.reducePow,Int.reduceToNat,Int.reduceLE,Int.reduceLT,Int.reduceMul,Int.reduceEq,Int.reducePow,Int.reduceAdd,Int.reduceSub,Int.reduceNeg,reduceCtorEq,List.take_zero,List.foldl_nil] <;> rfl
  intro j hj ihj
  by_cases hjt : j < l.t.length
  ·have hjt' : ((j : Int) < (l.t.length : Int)) = True := eq_true (by omega)
   have hjw := cC (n := j) (by omega)
   have hj0 := eM hjt
   have hjl := cM l.t
   have hmem := l4 _ (List.getElem_mem hjt)
   have hMj : MapOf ((T.take j).foldl jU M) (ts ++ T.take j) := hM.addAll _
   have ihj' := ihj (j + 1) (by omega) (by omega)
   rw [List.take_succ_eq_append_getElem (by omega),List.foldl_append,List.foldl_cons,List.foldl_nil,hTg j hjt (by omega)] at ihj'
   have hsb := oE 4398046511104 (by decide) (ts ++ T.take j) l.t[j].1 (fun m hm => hok m (by
    rcases List.mem_append.1 hm with h | h
    ·exact List.mem_append_left _ h
    ·exact List.mem_append_right _ (List.mem_of_mem_take h)))
   have hln : (ts ++ T.take j).length ≤ 4160 := by rw [List.length_append,List.length_take];omega
   have hgt := hMj.get l.t[j].1
   clear ihj hTg hok ih' hMj
   generalize (T.take j).foldl jU M = MM at *
   generalize l.t[j] = m2 at *
   obtain ⟨v,x⟩ := m2
   obtain ⟨b1,b2,b3,b4⟩ := hmem
   simp only at b1 b2 b3 b4 hj0 ihj' hgt hsb
   obtain ⟨d1,d2⟩ := ol (p := p) (k := x) (by omega) (by omega) b3 b4
   unfold jU at ihj'
   simp only at ihj'
   have hlk := rM MM v
   have hko := lV MM
   have hpu := uI MM v (iW MM v + p * x)
   rw [← hgt] at hsb
   generalize iW MM v = GV at *
   have hx1 : IntKind.i64.wrap (p * x) = p * x := bQ (by omega) (by omega)
   have hx2 : IntKind.i64.wrap (GV + p * x) = GV + p * x := bQ (by omega) (by omega)
   repeat' (first | (with_reducible refine hY _ ?_;clear hY Y) | ((with_reducible first | refine aX rfl (aR fun K' hK' => aa ?_) | refine hK' _ (ab fun Y hY => aa ?_) | refine ab fun Y hY => aa ?_ | refine ag tk0 bE (ab fun Y hY => aa ?_));(try clear hK' K');(try dsimp only [aop]);try simp only [go_sem,↓reduceIte,Nat.reduceEqDiff,Nat.reduceLT,Nat.reduceLeDiff,Nat.reduceAdd,Nat.reduceSub,Nat.reduceMul,Nat.reduceBEq,Nat.reduceBNe,Nat.reducePow,Int.reduceToNat,Int.reduceLE,Int.reduceLT,Int.reduceMul,Int.reduceEq,Int.reducePow,Int.reduceAdd,Int.reduceSub,Int.reduceNeg,reduceCtorEq,bE,Tryz.results114,hjt',hjw,hj0,hjl,hlk,hko,hpu,hx1,hx2]) | (with_reducible first | refine aI ?_ | refine aP ?_ | refine aS ?_ | refine bi fun K hK => ?_ | refine aD ?_ | refine ay ?_ | refine ah ?_ | refine av ?_) | (with_reducible refine hK _ ?_;clear hK K) | ((with_reducible refine ai ?_ ?_);(· decide)) | (with_reducible refine aV ?_ ?_;(· (try and_intros) <;> first | omega | assumption | (simp only [List.length_append,List.length_map,List.length_cons,List.length_nil] <;> omega))))
   refine bO [0,3,4,6,7,9,21,22,23,64,65,66] (by simp only [go_sem,↓reduceIte,Nat.reduceEqDiff,Nat.reduceLT,Nat.reduceLeDiff,Nat.reduceAdd,Nat.reduceSub,Nat.reduceMul,Nat.reduceBEq,Nat.reduceBNe,Nat.reducePow,Int.reduceToNat,Int.reduceLE,Int.reduceLT,Int.reduceMul,Int.reduceEq,Int.reducePow,Int.reduceAdd,Int.reduceSub,Int.reduceNeg,reduceCtorEq];exact rfl) ?_
   exact ihj'
  ·have hjt' : ((j : Int) < (l.t.length : Int)) = False := eq_false (by omega)
   rw [List.take_of_length_le (by omega)]
   clear ihj hTg
   generalize T.foldl jU M = MM at *
   repeat' (first | (with_reducible refine hY _ ?_;clear hY Y) | ((with_reducible first | refine aX rfl (aR fun K' hK' => aa ?_) | refine hK' _ (ab fun Y hY => aa ?_) | refine ab fun Y hY => aa ?_ | refine ag tk0 bE (ab fun Y hY => aa ?_));(try clear hK' K');(try dsimp only [aop]);try simp only [go_sem,↓reduceIte,Nat.reduceEqDiff,Nat.reduceLT,Nat.reduceLeDiff,Nat.reduceAdd,Nat.reduceSub,Nat.reduceMul,Nat.reduceBEq,Nat.reduceBNe,Nat.reducePow,Int.reduceToNat,Int.reduceLE,Int.reduceLT,Int.reduceMul,Int.reduceEq,Int.reducePow,Int.reduceAdd,Int.reduceSub,Int.reduceNeg,reduceCtorEq,bE,Tryz.results114,hjt',hkw]) | (with_reducible first | refine aI ?_ | refine aP ?_ | refine aS ?_ | refine bi fun K hK => ?_ | refine aC ?_ | refine aO ?_ | refine ay ?_ | refine ax ?_ | refine ar ?_) | (with_reducible refine hK _ ?_;clear hK K) | ((with_reducible refine ai ?_ ?_);(· decide)))
   refine bO [0,3,4,6,7,21,22,23] (by simp only [go_sem,↓reduceIte,Nat.reduceEqDiff,Nat.reduceLT,Nat.reduceLeDiff,Nat.reduceAdd,Nat.reduceSub,Nat.reduceMul,Nat.reduceBEq,Nat.reduceBNe,Nat.reducePow,Int.reduceToNat,Int.reduceLE,Int.reduceLT,Int.reduceMul,Int.reduceEq,Int.reducePow,Int.reduceAdd,Int.reduceSub,Int.reduceNeg,reduceCtorEq];exact rfl) ?_
   exact ih'
 ·have hlt' : ((k : Int) < (s.parts.length : Int)) = False := eq_false (by omega)
  rw [List.drop_of_length_le (by omega),show qA s.div (fC ls [] c ts) = dG c ts s.div from rfl] at hS
  rw [hS]
  have hPl := hP.len
  have hc1 := hP.c1
  have hc2 := hP.c2
  have hdv := sN c M ts s.div hM (fun m hm => ⟨(hP.ok m hm).1,(hP.ok m hm).2.1⟩) (by omega) ⟨by omega,by omega⟩ (fun v => by
   have := oE 4398046511104 (by decide) ts v hP.ok
   omega)
  clear ih hS hls hP hM
  generalize dG c ts s.div = q at *
  obtain ⟨e,l⟩ := q
  by_cases he : e = 0
  ·subst he
   rw [iC] at hdv ⊢
   repeat' (first | (with_reducible refine hY _ ?_;clear hY Y) | ((with_reducible first | refine aX rfl (aR fun K' hK' => aa ?_) | refine hK' _ (ab fun Y hY => aa ?_) | refine ab fun Y hY => aa ?_ | refine ag tk0 bE (ab fun Y hY => aa ?_) | refine aa ?_ | refine aH ?_);(try clear hK' K');(try dsimp only [aop]);try simp only [go_sem,↓reduceIte,Nat.reduceEqDiff,Nat.reduceLT,Nat.reduceLeDiff,Nat.reduceAdd,Nat.reduceSub,Nat.reduceMul,Nat.reduceBEq,Nat.reduceBNe,Nat.reducePow,Int.reduceToNat,Int.reduceLE,Int.reduceLT,Int.reduceMul,Int.reduceEq,Int.reducePow,Int.reduceAdd,Int.reduceSub,Int.reduceNeg,reduceCtorEq,bE,Tryz.results114,hlt']) | (with_reducible first | refine aI ?_ | refine aP ?_ | refine aS ?_ | refine bi fun K hK => ?_ | refine aC ?_ | refine aO ?_ | refine ax ?_ | refine aL ?_ | refine ar ?_) | (with_reducible refine hK _ ?_;clear hK K) | ((with_reducible refine ai ?_ ?_);(· decide)) | (with_reducible refine aK (hdv) ?_))
  ·rw [ra he] at hdv ⊢
   repeat' (first | (with_reducible refine hY _ ?_;clear hY Y) | ((with_reducible first | refine aX rfl (aR fun K' hK' => aa ?_) | refine hK' _ (ab fun Y hY => aa ?_) | refine ab fun Y hY => aa ?_ | refine ag tk0 bE (ab fun Y hY => aa ?_) | refine aa ?_ | refine aH ?_);(try clear hK' K');(try dsimp only [aop]);try simp only [go_sem,↓reduceIte,Nat.reduceEqDiff,Nat.reduceLT,Nat.reduceLeDiff,Nat.reduceAdd,Nat.reduceSub,Nat.reduceMul,Nat.reduceBEq,Nat.reduceBNe,Nat.reducePow,Int.reduceToNat,Int.reduceLE,Int.reduceLT,Int.reduceMul,Int.reduceEq,Int.reducePow,Int.reduceAdd,Int.reduceSub,Int.reduceNeg,reduceCtorEq,bE,Tryz.results114,hlt']) | (with_reducible first | refine aI ?_ | refine aP ?_ | refine aS ?_ | refine bi fun K hK => ?_ | refine aC ?_ | refine aO ?_ | refine ax ?_ | refine aL ?_ | refine ar ?_) | (with_reducible refine hK _ ?_;clear hK K) | ((with_reducible refine ai ?_ ?_);(· decide)) | (with_reducible refine aK (hdv) ?_))
end Go.Proofs.YtmpdocplcgbpkaaGreatDoor

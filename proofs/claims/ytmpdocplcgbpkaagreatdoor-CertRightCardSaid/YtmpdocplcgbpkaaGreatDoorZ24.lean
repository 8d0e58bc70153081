/- Cut in K: maps.Keys and slices.Sorted of it: the keys of a map, sorted. Cut in K: a sum divided. Cut in K: a step: the parts together in a map. -/
import Derived.Test.YtmpdocplcgbpkaaGreatDoorZ10
import Derived.Test.YtmpdocplcgbpkaaGreatDoorZ16
namespace Go.Proofs.YtmpdocplcgbpkaaGreatDoor
set_option linter.unusedSimpArgs false
set_option linter.unusedVariables false
open Go.RowKit Go.Maps Go.Sort Go.Shelf
theorem nM {bs : List AV} {j : Nat} {x : AV} (h : bs[j]? = some x) (hj : j < 1000:=by decide) : bP bs (20000 + j) = x:=(ca (B:=dd bs) (by omega)).trans (jB h)
def dD : Nat→List Nat
 | 0=>[0]
 | 1=>[1]
 | _=>[]
set_option maxRecDepth 100000 in
theorem yE (M : List Tm) : AFn Tryz.prog 132 [.mp 20000] [.bc (aJ M) (1000000000 + 187)] (.fn (.func 138) [] [.loc 20001 0]) [.bc (aJ M) (1000000000 + 187),.bc [.mp 20000] 187]:=by
 refine aD [10001] Tryz.func132 rfl Tryz.ntmps132 (Nat.le_of_ble_eq_true rfl) (Nat.le_of_ble_eq_true rfl) fun w0 G0 B0 Pr hB0=>?_
 simp only [aO,aA,List.cons_append,List.nil_append]
 repeat' (first | (with_reducible refine hY _ ?_;clear hY Y) | ((with_reducible first | refine an rfl (ar fun K' hK'=>aa ?_) | refine hK' _ (ab fun Y hY=>aa ?_) | refine ae tk0 dD (ab fun Y hY=>aa ?_) | refine aa ?_ | refine ao ?_);(try clear hK' K');(try dsimp only [aop]);try simp only [go_sem,↓reduceIte,Nat.reduceEqDiff,Nat.reduceLT,Nat.reduceLeDiff,Nat.reduceAdd,Nat.reduceSub,Nat.reduceMul,Nat.reduceBEq,Nat.reduceBNe,Nat.reducePow,Int.reduceToNat,Int.reduceLE,Int.reduceLT,Int.reduceMul,Int.reduceEq,Int.reducePow,Int.reduceAdd,Int.reduceSub,Int.reduceNeg,reduceCtorEq,dD,Tryz.results132]) | (with_reducible first | refine af ?_ | refine ai ?_ | refine aj ?_ | refine ay fun K hK=>?_ | refine au ?_) | (with_reducible refine hK _ ?_;clear hK K))
theorem nL : ∀ (es : List MapEntry) (M : List Tm),aJ M = (es.flatMap fun e=>[AV.c e.key,AV.c e.val])→es.map (·.key) = M.map fun m=>Value.int .i64 m.1
 | [],[],_=>rfl
 | [],m :: r,h=>by simp [aJ] at h
 | e :: es,[],h=>by simp [aJ] at h
 | e :: es,m :: r,h=>by
  rw [aJ,List.flatMap_cons] at h
  simp only [List.cons_append,List.nil_append,List.cons.injEq,AV.c.injEq] at h
  rw [List.map_cons,List.map_cons,nL es r h.2.2,h.1]
def BD : Value→Int
 | .int _ a=>a
 | _=>0
abbrev xA : Value→Option (DataW Unit × List MemPlace):=fun _=>some (.nil,[])
theorem AN {w : World} {g : Nat} {es : Array MapEntry} {clock : Nat} {M : List Tm} (hb : w.heap[g]? = some (.map es clock)) (hs : MapKept.Stamped es clock) (hc : aJ M = dT es) (hM : ∀ m ∈ M,0≤m.1∧m.1 < 1048576) (hl : M.length≤4096) :
  ∃ D : DataW Unit,w.ownsMap Tryz.prog 3 xA g M.length D∧(intKeys D).Perm (M.map (·.1))∧Maps.size D = M.length:=by
 have hk:=nL es.toList M hc
 have hlen : es.size = M.length:=by have:=congrArg List.length hk;simpa using this
 have hrd : ∀ x ∈ es.toList,∃ z : Int,x.key = .int .i64 z∧WideElems.rd Tryz.prog 3 xA x = some (.int .i64 z,.nil):=fun x hx=>by
  have : x.key ∈ M.map fun m=>Value.int .i64 m.1:=hk ▸ List.mem_map.2 ⟨x,hx,rfl⟩
  obtain ⟨m,hm,he⟩:=List.mem_map.1 this
  refine ⟨m.1,he.symm,?_⟩
  have hw : (Lit.int .i64 m.1).wf = true:=by
   have:=hM m hm
   simp [Lit.wf,IntKind.min,IntKind.max,IntKind.signed,IntKind.bits];omega
  unfold WideElems.rd
  rw [← he,Maps.keyOf_int_mk Tryz.underlying3 hw];rfl
 refine ⟨_,⟨es,clock,hb,⟨by unfold maxLen;omega,hs,fun x hx=>?_⟩,by omega,rfl⟩,?_,?_⟩
 ·obtain ⟨z,_,h⟩:=hrd x hx;exact ⟨_,h⟩
 ·have h1 : (es.toList.map (WideElems.rg Tryz.prog 3 xA)).map (fun p=>Go.intOf p.1) = M.map (·.1):=by
   have h2 : (es.toList.map (WideElems.rg Tryz.prog 3 xA)).map (fun p=>Go.intOf p.1) = (es.toList.map (·.key)).map BD:=by
    rw [List.map_map,List.map_map]
    refine List.map_congr_left fun x hx=>?_
    obtain ⟨z,hz,h⟩:=hrd x hx
    simp only [Function.comp,WideElems.rg_of h,hz,Go.intOf,BD]
   rw [h2,hk,List.map_map];rfl
  rw [← h1]
  exact (WideShapes.sorted_perm _).map _
 ·show (List.foldr DataW.insert [] _).length = _
  rw [(WideShapes.sorted_perm _).length_eq,List.length_map]
  simpa using hlen
theorem qY (m : Nat) : AnyZI.SortsIn Tryz.prog Tryz.zSortedI_ren Fence.wide m :=
 ⟨fun blk off cap ss W hH hblk hsz=>callsIn_wide.2 (Any.slices_Sort_int Tryz.zSortI blk off cap ss W hH hblk hsz),
  fun p cap W=>callsIn_wide.2 (Any.slices_Sort_int_none Tryz.zSortI p cap W)⟩
set_option maxRecDepth 100000 in
theorem vg (M : List Tm) (hM : ∀ m ∈ M,0≤m.1∧m.1 < 1048576) (hl : M.length≤4096) :
  AFn Tryz.prog 131 [.fn (.func 138) [] [.loc 20000 0]] [.bc [.mp 20001] 187,.bc (aJ M) (1000000000 + 187)]
   (.sl ((kM (M.map (·.1))).map inA) (kM (M.map (·.1))).length .none) [.bc [.mp 20001] 187,.bc (aJ M) (1000000000 + 187)]:=by
 have e1 : (kM (M.map (·.1))).map inA = ((kM (M.map (·.1))).map encZ).map AV.c:=by rw [List.map_map];rfl
 rw [e1]
 refine mh (e:=3) (sz:=1) (by simp) (fun x hx=>by obtain ⟨z,_,rfl⟩:=List.mem_map.1 hx;rfl) fun w G vs hst hvs hargs=>?_
 have x0 : bP [.bc [.mp 20001] 187,.bc (aJ M) (1000000000 + 187)] 20000 = .bc [.mp 20001] 187:=nM (j:=0) rfl
 have x1 : bP [.bc [.mp 20001] 187,.bc (aJ M) (1000000000 + 187)] 20001 = .bc (aJ M) (1000000000 + 187):=nM (j:=1) rfl
 generalize bP [.bc [.mp 20001] 187,.bc (aJ M) (1000000000 + 187)] = B at *
 have h0:=hargs 0 (by simp)
 simp only [List.getElem_cons_zero] at h0
 obtain ⟨va,vb,e0,ha,hb,pa,pb⟩:=g6 h0
 have h1:=pb 0 (by simp)
 simp only [List.getElem_cons_zero] at h1
 obtain ⟨g0,_,_,e2,_,_,hg0,_⟩:=ff h1
 obtain ⟨_,_,hbx⟩:=hst.box 20000 g0 hg0
 have hc0 : ∃ g1,w.cell? ⟨g0,0,none⟩ = some (.map (some g1))∧G.γ 20001 = some g1:=by
  rcases hbx with ⟨cs,ty,q1,⟨_,c,q2,q3,_,q5⟩ | ⟨q2,_⟩⟩ | ⟨n,e,q1,_⟩ | ⟨_,_,_,_,q1,_⟩
  ·rw [x0] at q1;cases q1
   have h2:=(q5 0 (by simp)).1
   simp only [List.getElem_cons_zero] at h2
   obtain ⟨g1,_,_,e3,_,_,hg1,_⟩:=jm h2
   refine ⟨g1,?_,hg1⟩
   have hsz : 0 < c.size:=q3
   rw [Array.getD_eq_getD_getElem?,Array.getElem?_eq_getElem hsz] at e3
   simp only [Option.getD_some] at e3
   simp [World.cell?,q2,hsz,e3]
  ·rw [x0] at q1;cases q1;exact absurd q2 (by decide)
  ·rw [x0] at q1;cases q1
  ·rw [x0] at q1;cases q1
 obtain ⟨g1,hcell,hg1⟩:=hc0
 have hmap : ∃ es clock,w.heap[g1]? = some (.map es clock)∧aJ M = dT es∧MapKept.Stamped es clock:=by
  obtain ⟨_,_,hbx1⟩:=hst.box 20001 g1 hg1
  rcases hbx1 with ⟨cs,ty,q1,⟨q2,_⟩ | ⟨_,es,clock,q2,_,q3,q4⟩⟩ | ⟨n,e,q1,_⟩ | ⟨_,_,_,_,q1,_⟩
  ·rw [x1] at q1;cases q1;exact absurd q2 (by decide)
  ·rw [x1] at q1;cases q1;exact ⟨es,clock,q2,q3,q4⟩
  ·rw [x1] at q1;cases q1
  ·rw [x1] at q1;cases q1
 obtain ⟨es,clock,hh,hcs,hst2⟩:=hmap
 obtain ⟨D,hown,hperm,hsize⟩:=AN hh hst2 hcs hM hl
 have hvs2 : vs = #[.func (.func 138) #[] #[.pointer (some ⟨g0,0,none⟩)]]:=by
  have ea : va = #[]:=Array.eq_empty_of_size_eq_zero (by simpa using ha)
  have eb : vb = #[.pointer (some ⟨g0,0,none⟩)]:=by
   cases vb with
   | mk l =>
    match l,hb with
    | [p0],_=>simp at e2;subst e2;rfl
  subst ea eb
  cases vs with
  | mk l =>
   match l,hvs with
   | [v0],_=>simp at e0;subst e0;rfl
 subst hvs2
 have hgl : g0 < w.heap.size:=World.block_lt_of_cell? w ⟨g0,0,none⟩ hcell
 have hseq : SeqGives Fence.wide (4 - 1 - 1 - 1) Tryz.prog 138 #[.pointer (some ⟨g0,0,none⟩)] encZ (fun ss=>ss.Perm (intKeys D)) (Maps.size D) w :=
  AnyZI.keys_gives Tryz.zKeysI Fence.wide 1 trivial rfl (Nat.le_refl _) g0 g1 M.length D w hgl hcell hown
 have hent : ∀ f (hf : aM Tryz.prog f = true) (args : Array Value) (w : World),(callFunc f args).run Tryz.prog w = .ok (.enter f args) w:=fun f hf args w=>oj hf
 have h:=AnyZI.sorted_in Tryz.zSortedI Fence.wide 4 trivial trivial trivial trivial rfl (Nat.le_refl _) (qY _) (hent _ (by kernel_rfl)) 138 #[.pointer (some ⟨g0,0,none⟩)] trivial (hent _ (by kernel_rfl)) (fun ss=>ss.Perm (intKeys D)) (Maps.size D) (by rw [hsize];unfold maxLen;omega) (by rw [hsize];omega) w hseq
 refine (callsIn_wide.1 h).mono ?_
 rintro e w' ⟨v,ss,rfl,hp,hrow,_,hbl⟩
 have he : (ss.mergeSort fun x y=>decide (x≤y)) = kM (M.map (·.1)):=mergeSort_of_perm_i (hp.trans hperm)
 have hn : ss.length = (kM (M.map (·.1))).length:=by rw [← he];exact (List.length_mergeSort _).symm
 rw [he,hn] at hrow
 exact ⟨v,rfl,hrow,hbl⟩
end Go.Proofs.YtmpdocplcgbpkaaGreatDoor
namespace Go.Proofs.YtmpdocplcgbpkaaGreatDoor
set_option linter.unusedSimpArgs false
set_option linter.unusedVariables false
open Go.RowKit
attribute [-go_sem] kZ
theorem n8 (ts : List Tm) (div v : Int) : ∀ a : List Int,fa ts div (a ++ [v]) = if d9 ts v = 0 then fa ts div a else fa ts div a ++ [(v,(d9 ts v).tdiv div)]
 | []=>by simp only [List.nil_append,fa]
 | u :: r=>by
  rw [List.cons_append,fa,fa,n8 ts div v r]
  by_cases h1 : d9 ts u = 0
  ·simp only [if_pos h1]
  ·simp only [if_neg h1]
   split
   ·rfl
   ·rfl
theorem pD (ts : List Tm) (div : Int) : ∀ a : List Int,(fa ts div a).length≤a.length
 | []=>Nat.le_refl _
 | v :: r=>by
  have:=pD ts div r
  unfold fa
  split
  ·rw [List.length_cons];omega
  ·rw [List.length_cons,List.length_cons];omega
theorem p6 (ts : List Tm) (v : Int) (a : List Int) : iB ts (a ++ [v]) = (iB ts a || jR (d9 ts v)):=by
 unfold iB;rw [List.any_append,List.any_cons,List.any_nil,Bool.or_false]
theorem oM (ts : List Tm) (div v : Int) (a : List Int) : dZ ts div (a ++ [v]) = (dZ ts div a || !decide ((d9 ts v).tmod div = 0)):=by
 unfold dZ;rw [List.any_append,List.any_cons,List.any_nil,Bool.or_false]
theorem qf (c : Int) (ts : List Tm) (div : Int) (h : ¬ (div < 1∨1073741824 < div)) : da c ts div = if jR c || iB ts (fw ts) then (3,⟨0,[]⟩) else if dZ ts div (fw ts) then (7,⟨0,[]⟩) else pL ⟨upZ c div,fa ts div (fw ts)⟩:=by
 unfold da
 rw [if_neg h];rfl
theorem ye {l : List Int} {i : Nat} (h : i < l.length) : ((l.map inA).drop i).take 1 = [inA l[i]]:=by
 have:=lE (f:=fun z : Int=>[inA z]) (k:=1) (fun _=>rfl) h
 rw [Nat.mul_one,← mq] at this;exact this
theorem yf {l : List Int} {i : Nat} (h : i < l.length) : (l.map inA).getD i .u = inA l[i]:=wH h
def bq : Nat→List Nat
 | 0=>[0,1,2]
 | 1=>[0,1,2,6]
 | 2=>[6]
 | 3=>[0,1,2,6]
 | 4=>[0,1,2,6,8,9]
 | 5=>[1,2,6,8,9,10]
 | 6=>[1,2,6,8,9,10,30,31,32]
 | 7=>[1,2,6,8,9,10,30,31,32]
 | 8=>[1,2,6,8,9,10,12,30,31,32]
 | 9=>[1,2,6,8,9,10,12,13,30,31,32]
 | 10=>[1,2,6,8,9,10,12,13,30,31,32]
 | 11=>[1,2,6,8,9,10,12,13,30,31,32]
 | 12=>[1,2,6,8,9,10,30,31,32]
 | 13=>[6,8,9,10]
 | 14=>[6]
 | 15=>[6,8,10]
 | 16=>[6]
 | 17=>[6,10]
 | _=>[]
set_option maxRecDepth 100000 in
set_option maxHeartbeats 16000000 in
theorem ut (c : Int) (M ts : List Tm) (div : Int) (hM : MapOf M ts) (hts : ∀ m ∈ ts,0≤m.1∧m.1 < 1048576) (hlen : M.length≤4096) (hc : -1125899906842624≤c∧c≤1125899906842624)
  (hs : ∀ v,-36028797018963968≤d9 ts v∧d9 ts v≤36028797018963968) :
  AFn Tryz.prog 125 [inA c,.mp 20000,inA div] [.bc (aJ M) (1000000000 + 187)] (ll (da c ts div)) [.bc (aJ M) (1000000000 + 187)]:=by
 by_cases hd1 : div < 1
 ·rw [show da c ts div = (1,⟨0,[]⟩) from if_pos (.inl hd1),pH]
  refine aD [] Tryz.func125 rfl Tryz.ntmps125 (Nat.le_of_ble_eq_true rfl) (Nat.le_of_ble_eq_true rfl) fun w0 G0 B0 Pr hB0=>?_
  simp only [aO,aA,List.cons_append,List.nil_append]
  repeat' (first | (with_reducible refine hY _ ?_;clear hY Y) | ((with_reducible first | refine an rfl (ar fun K' hK'=>aa ?_) | refine hK' _ (ab fun Y hY=>aa ?_) | refine bl rfl (ab fun Y hY=>aa ?_) | refine ab fun Y hY=>aa ?_ | refine ae tk0 bq (ab fun Y hY=>aa ?_) | refine aa ?_ | refine ao ?_);(try clear hK' K');(try dsimp only [aop]);try simp only [go_sem,↓reduceIte,Nat.reduceEqDiff,Nat.reduceLT,Nat.reduceLeDiff,Nat.reduceAdd,Nat.reduceSub,Nat.reduceMul,Nat.reduceBEq,Nat.reduceBNe,Nat.reducePow,Int.reduceToNat,Int.reduceLE,Int.reduceLT,Int.reduceMul,Int.reduceEq,Int.reducePow,Int.reduceAdd,Int.reduceSub,Int.reduceNeg,reduceCtorEq,bq,Tryz.results125,hd1]) | (with_reducible first | refine af ?_ | refine bh rfl ?_ | refine cS ?_ ?_ | refine ai ?_ | refine aj ?_ | refine ay fun K hK=>?_ | refine ap ?_ | refine aS ?_ | refine au ?_) | (with_reducible refine hK _ ?_;clear hK K) | ((with_reducible first | refine aG ?_ ?_ | refine ag ?_ ?_);(· decide)))
 by_cases hd2 : 1073741824 < div
 ·rw [show da c ts div = (1,⟨0,[]⟩) from if_pos (.inr hd2),pH]
  refine aD [] Tryz.func125 rfl Tryz.ntmps125 (Nat.le_of_ble_eq_true rfl) (Nat.le_of_ble_eq_true rfl) fun w0 G0 B0 Pr hB0=>?_
  simp only [aO,aA,List.cons_append,List.nil_append]
  repeat' (first | (with_reducible refine hY _ ?_;clear hY Y) | ((with_reducible first | refine an rfl (ar fun K' hK'=>aa ?_) | refine hK' _ (ab fun Y hY=>aa ?_) | refine bl rfl (ab fun Y hY=>aa ?_) | refine ab fun Y hY=>aa ?_ | refine ar fun K' hK'=>aa ?_ | refine ae tk0 bq (ab fun Y hY=>aa ?_) | refine aa ?_ | refine ao ?_);(try clear hK' K');(try dsimp only [aop]);try simp only [go_sem,↓reduceIte,Nat.reduceEqDiff,Nat.reduceLT,Nat.reduceLeDiff,Nat.reduceAdd,Nat.reduceSub,Nat.reduceMul,Nat.reduceBEq,Nat.reduceBNe,Nat.reducePow,Int.reduceToNat,Int.reduceLE,Int.reduceLT,Int.reduceMul,Int.reduceEq,Int.reducePow,Int.reduceAdd,Int.reduceSub,Int.reduceNeg,reduceCtorEq,bq,Tryz.results125,hd1,hd2]) | (with_reducible first | refine af ?_ | refine aL ?_ | refine ai ?_ | refine aj ?_ | refine ay fun K hK=>?_ | refine ap ?_ | refine aS ?_ | refine au ?_) | (with_reducible refine hK _ ?_;clear hK K) | ((with_reducible first | refine aG ?_ ?_ | refine ag ?_ ?_);(· decide)))
 rw [qf c ts div (by omega)]
 have hMk : ∀ m ∈ M,0≤m.1∧m.1 < 1048576:=fun m hm=>by
  have h1 : m.1 ∈ ts.map (·.1):=(hM.key m.1).1 (List.mem_map.2 ⟨m,hm,rfl⟩)
  obtain ⟨x,hx,he⟩:=List.mem_map.1 h1
  rw [← he];exact hts x hx
 have hfar:=zR c
 have hup:=BN c div (by omega) hc
 have hks:=yE M
 have hso:=vg M hMk hlen
 rw [hM.sorted] at hso
 have hvl : (fw ts).length≤4096:=by
  rw [← hM.sorted];unfold kM;rw [List.length_mergeSort,List.length_map];exact hlen
 refine aD [] Tryz.func125 rfl Tryz.ntmps125 (Nat.le_of_ble_eq_true rfl) (Nat.le_of_ble_eq_true rfl) fun w0 G0 B0 Pr hB0=>?_
 simp only [aO,aA,List.cons_append,List.nil_append]
 repeat' (first | (with_reducible refine hY _ ?_;clear hY Y) | ((with_reducible first | refine an rfl (ar fun K' hK'=>aa ?_) | refine hK' _ (ab fun Y hY=>aa ?_) | refine bl rfl (ab fun Y hY=>aa ?_) | refine ab fun Y hY=>aa ?_ | refine ar fun K' hK'=>aa ?_ | refine ae tk0 bq (ab fun Y hY=>aa ?_) | refine aa ?_);(try clear hK' K');(try dsimp only [aop]);try simp only [go_sem,↓reduceIte,Nat.reduceEqDiff,Nat.reduceLT,Nat.reduceLeDiff,Nat.reduceAdd,Nat.reduceSub,Nat.reduceMul,Nat.reduceBEq,Nat.reduceBNe,Nat.reducePow,Int.reduceToNat,Int.reduceLE,Int.reduceLT,Int.reduceMul,Int.reduceEq,Int.reducePow,Int.reduceAdd,Int.reduceSub,Int.reduceNeg,reduceCtorEq,bq,Tryz.results125,hd1,hd2]) | (with_reducible first | refine af ?_ | refine aL ?_ | refine ai ?_ | refine aj ?_ | refine ay fun K hK=>?_ | refine aq ?_ | refine al ?_ | refine av ?_ | refine bG ?_) | (with_reducible refine hK _ ?_;clear hK K) | ((with_reducible first | refine aG ?_ ?_ | refine ag ?_ ?_);(· decide)) | (with_reducible refine ah (hfar) ?_) | (with_reducible refine ah (hup) ?_) | (with_reducible refine ah (hks) ?_) | (with_reducible refine ah (hso) ?_))
 have hfo:=ti M
 have hko:=mz M
 have hsum : ∀ v,jk M v = d9 ts v:=hM.get
 clear hfar hup hks hso hMk hts hM
 have hdn : (div = 0) = False:=eq_false (by omega)
 refine eu (dm (b:=10061) (k0:=10010) (i:=1) 94 (by decide) (by decide) (by decide) rfl rfl rfl) ?_
 generalize hvs : fw ts = vs at *
 refine bK (α:=Nat) (fun k=>[(1,.mp 20000),(2,inA div),(6,.loc 10006 0),(8,.c (.bool (dZ ts div (vs.take k)))),(9,.c (.bool (jR c || iB ts (vs.take k)))),(10,.loc 10010 0),(30,.sl (vs.map inA) vs.length .none),(31,inA (vs.length : Int)),(32,inA (k : Int)),(10006,.bc [inA 0,.sl [] 0 .full] 24),(10010,.bc [inA (upZ c div),.sl (aJ (fa ts div (vs.take k))) (fa ts div (vs.take k)).length (.tok 10061)] 24),(10061,.bt (fa ts div (vs.take k)).length 94),(20000,.bc (aJ M) (1000000000 + 187))])
  (fun k=>k≤vs.length) (fun k=>vs.length - k) 0 [1,2,6,8,9,10,30,31,32] ?_ (Nat.zero_le _) ?_
 ·simp only [go_sem,↓reduceIte,Nat.reduceEqDiff,Nat.reduceLT,Nat.reduceLeDiff,Nat.reduceAdd,Nat.reduceSub,Nat.reduceMul,Nat.reduceBEq,Nat.reduceBNe,Nat.reducePow,Int.reduceToNat,Int.reduceLE,Int.reduceLT,Int.reduceMul,Int.reduceEq,Int.reducePow,Int.reduceAdd,Int.reduceSub,Int.reduceNeg,reduceCtorEq,List.take_zero,dZ,iB,List.any_nil,Bool.or_false,fa,aJ,List.set_cons_succ,List.set_cons_zero] <;> rfl
 intro k hk ih
 by_cases hlt : k < vs.length
 ·have hlt' : ((k : Int) < (vs.length : Int)) = True:=eq_true (by omega)
  have hkw:=cf (n:=k) (by omega)
  have hg0:=ye hlt
  have hg1:=yf hlt
  have hvl2 : (vs.map inA).length = vs.length:=List.length_map ..
  have ih':=ih (k + 1) (by omega) (by omega)
  have hol:=pD ts div (vs.take k)
  have hcl:=cl (fa ts div (vs.take k))
  have hbo : (fa ts div (vs.take k)).length≤4096:=by rw [List.length_take] at hol;omega
  clear ih hol
  rw [List.take_succ_eq_append_getElem hlt,n8,p6,oM] at ih'
  generalize vs[k] = v at *
  have hK:=hs v
  have hgv:=hsum v
  have hfk:=zR (d9 ts v)
  have hlk:=hfo v
  rw [hgv] at hlk
  generalize d9 ts v = K at *
  have hKb:=kQ K div
  have hq : IntKind.i64.wrap (K.tdiv div) = K.tdiv div:=aY (by omega) (by omega)
  generalize fa ts div (vs.take k) = O at *
  generalize dZ ts div (vs.take k) = r at *
  generalize hfo2 : iB ts (vs.take k) = f2 at *
  rw [← Bool.or_assoc] at ih'
  generalize (jR c || f2) = o at *
  by_cases hK0 : K = 0
  ·subst hK0
   rw [if_pos rfl] at ih'
   clear hfk hfo
   repeat' (first | (with_reducible refine hY _ ?_;clear hY Y) | ((with_reducible first | refine an rfl (ar fun K' hK'=>aa ?_) | refine hK' _ (ab fun Y hY=>aa ?_) | refine ab fun Y hY=>aa ?_ | refine ae tk0 bq (ab fun Y hY=>aa ?_));(try clear hK' K');(try dsimp only [aop]);try simp only [go_sem,↓reduceIte,Nat.reduceEqDiff,Nat.reduceLT,Nat.reduceLeDiff,Nat.reduceAdd,Nat.reduceSub,Nat.reduceMul,Nat.reduceBEq,Nat.reduceBNe,Nat.reducePow,Int.reduceToNat,Int.reduceLE,Int.reduceLT,Int.reduceMul,Int.reduceEq,Int.reducePow,Int.reduceAdd,Int.reduceSub,Int.reduceNeg,reduceCtorEq,bq,Tryz.results125,hlt',hg0,hg1,hvl2,hlk,hko,hkw]) | (with_reducible first | refine af ?_ | refine ai ?_ | refine aj ?_ | refine ay fun K hK=>?_ | refine ap ?_ | refine bC ?_ | refine bg ?_ | refine al ?_ | refine av ?_ | refine bf ?_) | (with_reducible refine hK _ ?_;clear hK K) | ((with_reducible refine ag ?_ ?_);(· decide)) | (with_reducible refine bp ?_ ?_;(· (try and_intros) <;> first | omega | assumption | (simp only [List.length_append,List.length_map,List.length_cons,List.length_nil] <;> omega))))
   refine bi [1,2,6,8,9,10,30,31,32] (by simp only [go_sem,↓reduceIte,Nat.reduceEqDiff,Nat.reduceLT,Nat.reduceLeDiff,Nat.reduceAdd,Nat.reduceSub,Nat.reduceMul,Nat.reduceBEq,Nat.reduceBNe,Nat.reducePow,Int.reduceToNat,Int.reduceLE,Int.reduceLT,Int.reduceMul,Int.reduceEq,Int.reducePow,Int.reduceAdd,Int.reduceSub,Int.reduceNeg,reduceCtorEq];exact rfl) ?_
   refine gY ih' ?_
   simp [jR]
  ·rw [if_neg hK0,iC,List.length_append] at ih'
   clear hfo
   generalize jR K = fk at *
   cases r <;> cases o
   all_goals
    repeat' (first | (with_reducible refine hY _ ?_;clear hY Y) | ((with_reducible first | refine an rfl (ar fun K' hK'=>aa ?_) | refine hK' _ (ab fun Y hY=>aa ?_) | refine ab fun Y hY=>aa ?_ | refine ae tk0 bq (ab fun Y hY=>aa ?_) | refine aa ?_ | refine cV rfl (cT fun K' hK'=>aa ?_) | refine hK' _ _ (ab fun Y hY=>aa ?_) | refine eU rfl (ab fun Y hY=>aa ?_) | refine cT fun K' hK'=>aa ?_);(try clear hK' K');(try dsimp only [aop]);try simp only [go_sem,↓reduceIte,Nat.reduceEqDiff,Nat.reduceLT,Nat.reduceLeDiff,Nat.reduceAdd,Nat.reduceSub,Nat.reduceMul,Nat.reduceBEq,Nat.reduceBNe,Nat.reducePow,Int.reduceToNat,Int.reduceLE,Int.reduceLT,Int.reduceMul,Int.reduceEq,Int.reducePow,Int.reduceAdd,Int.reduceSub,Int.reduceNeg,reduceCtorEq,bq,Tryz.results125,hlt',hg0,hg1,hvl2,hlk,hko,hkw,hK0,hdn,hq,hcl]) | (with_reducible first | refine af ?_ | refine bh rfl ?_ | refine aL ?_ | refine cS ?_ ?_ | refine ai ?_ | refine aj ?_ | refine ay fun K hK=>?_ | refine ap ?_ | refine aq ?_ | refine aU ?_ | refine al ?_ | refine av ?_ | refine ch ?_ | refine eN fun K hK=>?_) | (with_reducible refine hK _ ?_;clear hK K) | (with_reducible refine hK _ _ ?_ ?_;(· kernel_rfl);clear hK K) | ((with_reducible first | refine aG ?_ ?_ | refine ag ?_ ?_);(· decide)) | (with_reducible refine cg tk0 bq ?_ ?_;(· kernel_rfl)) | (with_reducible refine bp ?_ ?_;(· (try and_intros) <;> first | omega | assumption | (simp only [List.length_append,List.length_map,List.length_cons,List.length_nil] <;> omega))) | (with_reducible refine ah (hfk) ?_))
   all_goals
    refine bi [1,2,6,8,9,10,30,31,32] (by simp only [go_sem,↓reduceIte,Nat.reduceEqDiff,Nat.reduceLT,Nat.reduceLeDiff,Nat.reduceAdd,Nat.reduceSub,Nat.reduceMul,Nat.reduceBEq,Nat.reduceBNe,Nat.reducePow,Int.reduceToNat,Int.reduceLE,Int.reduceLT,Int.reduceMul,Int.reduceEq,Int.reducePow,Int.reduceAdd,Int.reduceSub,Int.reduceNeg,reduceCtorEq];exact rfl) ?_
    refine gY ih' ?_
    simp [aJ]
 ·have hlt' : ((k : Int) < (vs.length : Int)) = False:=eq_false (by omega)
  rw [List.take_of_length_le (by omega)]
  clear ih hfo hlt
  have hso:=zx ⟨upZ c div,fa ts div vs⟩ (by have:=pD ts div vs;show (fa ts div vs).length≤_;omega)
  generalize (jR c || iB ts vs) = o at *
  generalize dZ ts div vs = r at *
  cases o with
  | true =>
   rw [if_pos rfl,ke]
   repeat' (first | (with_reducible refine hY _ ?_;clear hY Y) | ((with_reducible first | refine an rfl (ar fun K' hK'=>aa ?_) | refine hK' _ (ab fun Y hY=>aa ?_) | refine ab fun Y hY=>aa ?_ | refine ae tk0 bq (ab fun Y hY=>aa ?_) | refine aa ?_ | refine ao ?_);(try clear hK' K');(try dsimp only [aop]);try simp only [go_sem,↓reduceIte,Nat.reduceEqDiff,Nat.reduceLT,Nat.reduceLeDiff,Nat.reduceAdd,Nat.reduceSub,Nat.reduceMul,Nat.reduceBEq,Nat.reduceBNe,Nat.reducePow,Int.reduceToNat,Int.reduceLE,Int.reduceLT,Int.reduceMul,Int.reduceEq,Int.reducePow,Int.reduceAdd,Int.reduceSub,Int.reduceNeg,reduceCtorEq,bq,Tryz.results125,hlt']) | (with_reducible first | refine af ?_ | refine ai ?_ | refine aj ?_ | refine ay fun K hK=>?_ | refine ap ?_ | refine aq ?_ | refine bC ?_ | refine aS ?_ | refine bb ?_ | refine bg ?_ | refine al ?_ | refine au ?_ | refine bf ?_) | (with_reducible refine hK _ ?_;clear hK K) | ((with_reducible refine ag ?_ ?_);(· decide)))
  | false =>
  rw [if_neg (by decide)]
  cases r with
  | true =>
   rw [if_pos rfl,A3]
   repeat' (first | (with_reducible refine hY _ ?_;clear hY Y) | ((with_reducible first | refine an rfl (ar fun K' hK'=>aa ?_) | refine hK' _ (ab fun Y hY=>aa ?_) | refine ab fun Y hY=>aa ?_ | refine ae tk0 bq (ab fun Y hY=>aa ?_) | refine aa ?_ | refine ao ?_);(try clear hK' K');(try dsimp only [aop]);try simp only [go_sem,↓reduceIte,Nat.reduceEqDiff,Nat.reduceLT,Nat.reduceLeDiff,Nat.reduceAdd,Nat.reduceSub,Nat.reduceMul,Nat.reduceBEq,Nat.reduceBNe,Nat.reducePow,Int.reduceToNat,Int.reduceLE,Int.reduceLT,Int.reduceMul,Int.reduceEq,Int.reducePow,Int.reduceAdd,Int.reduceSub,Int.reduceNeg,reduceCtorEq,bq,Tryz.results125,hlt']) | (with_reducible first | refine af ?_ | refine ai ?_ | refine aj ?_ | refine ay fun K hK=>?_ | refine ap ?_ | refine aq ?_ | refine bC ?_ | refine aS ?_ | refine bb ?_ | refine bg ?_ | refine al ?_ | refine au ?_ | refine bf ?_) | (with_reducible refine hK _ ?_;clear hK K) | ((with_reducible refine ag ?_ ?_);(· decide)))
  | false =>
  rw [if_neg (by decide)]
  generalize pL ⟨upZ c div,fa ts div vs⟩ = q at *
  obtain ⟨e,l⟩:=q
  by_cases he : e = 0
  ·subst he
   rw [iU] at hso ⊢
   repeat' (first | (with_reducible refine hY _ ?_;clear hY Y) | ((with_reducible first | refine an rfl (ar fun K' hK'=>aa ?_) | refine hK' _ (ab fun Y hY=>aa ?_) | refine ab fun Y hY=>aa ?_ | refine ae tk0 bq (ab fun Y hY=>aa ?_) | refine aa ?_ | refine ao ?_);(try clear hK' K');(try dsimp only [aop]);try simp only [go_sem,↓reduceIte,Nat.reduceEqDiff,Nat.reduceLT,Nat.reduceLeDiff,Nat.reduceAdd,Nat.reduceSub,Nat.reduceMul,Nat.reduceBEq,Nat.reduceBNe,Nat.reducePow,Int.reduceToNat,Int.reduceLE,Int.reduceLT,Int.reduceMul,Int.reduceEq,Int.reducePow,Int.reduceAdd,Int.reduceSub,Int.reduceNeg,reduceCtorEq,bq,Tryz.results125,hlt']) | (with_reducible first | refine af ?_ | refine ai ?_ | refine aj ?_ | refine ay fun K hK=>?_ | refine aq ?_ | refine bC ?_ | refine aU ?_ | refine bg ?_ | refine al ?_ | refine av ?_ | refine au ?_ | refine bf ?_) | (with_reducible refine hK _ ?_;clear hK K) | ((with_reducible refine ag ?_ ?_);(· decide)) | (with_reducible refine ah (c5 hso ?_) ?_;(· simp [cN])))
  ·rw [sL he] at hso ⊢
   repeat' (first | (with_reducible refine hY _ ?_;clear hY Y) | ((with_reducible first | refine an rfl (ar fun K' hK'=>aa ?_) | refine hK' _ (ab fun Y hY=>aa ?_) | refine ab fun Y hY=>aa ?_ | refine ae tk0 bq (ab fun Y hY=>aa ?_) | refine aa ?_ | refine ao ?_);(try clear hK' K');(try dsimp only [aop]);try simp only [go_sem,↓reduceIte,Nat.reduceEqDiff,Nat.reduceLT,Nat.reduceLeDiff,Nat.reduceAdd,Nat.reduceSub,Nat.reduceMul,Nat.reduceBEq,Nat.reduceBNe,Nat.reducePow,Int.reduceToNat,Int.reduceLE,Int.reduceLT,Int.reduceMul,Int.reduceEq,Int.reducePow,Int.reduceAdd,Int.reduceSub,Int.reduceNeg,reduceCtorEq,bq,Tryz.results125,hlt']) | (with_reducible first | refine af ?_ | refine ai ?_ | refine aj ?_ | refine ay fun K hK=>?_ | refine aq ?_ | refine bC ?_ | refine aU ?_ | refine bg ?_ | refine al ?_ | refine av ?_ | refine au ?_ | refine bf ?_) | (with_reducible refine hK _ ?_;clear hK K) | ((with_reducible refine ag ?_ ?_);(· decide)) | (with_reducible refine ah (c5 hso ?_) ?_;(· simp [cN])))
end Go.Proofs.YtmpdocplcgbpkaaGreatDoor
namespace Go.Proofs.YtmpdocplcgbpkaaGreatDoor
set_option linter.unusedSimpArgs false
set_option linter.unusedVariables false
open Go.RowKit
attribute [-go_sem] kZ
theorem qK : ∀ (M : List Tm) (v x : Int),(lS M v x).length≤M.length + 1
 | [],v,x=>Nat.le_refl _
 | m :: r,v,x=>by
  unfold lS
  split
  ·rw [List.length_cons,List.length_cons];omega
  ·have:=qK r v x
   rw [List.length_cons,List.length_cons];omega
theorem mg : ∀ (l M : List Tm),(l.foldl km M).length≤M.length + l.length
 | [],M=>Nat.le_refl _
 | m :: r,M=>by
  rw [List.foldl_cons,List.length_cons]
  have h1:=mg r (km M m)
  have h2 : (km M m).length≤M.length + 1:=qK _ _ _
  omega
def sb (div : Int) (q : Nat × Int × List Tm) : Nat × Ln:=if q.1 = 0 then da q.2.1 q.2.2 div else (q.1,⟨0,[]⟩)
theorem xh {ls : List Ln} {s : Stp} (h : ¬ 64 < s.parts.length) : fb ls s = sb s.div (d5 ls (s.parts.drop 0) 0 []):=by
 unfold fb
 rw [if_neg h];rfl
def bx : Nat→List Nat
 | 0=>[0,1]
 | 1=>[0,3,4]
 | 2=>[4]
 | 3=>[0,3,4]
 | 4=>[0,3,4,6,7]
 | 5=>[0,3,4,6,7,21,22,23]
 | 6=>[0,3,4,6,7,21,22,23]
 | 7=>[0,3,4,6,7,9,21,22,23]
 | 8=>[4]
 | 9=>[0,3,4,6,7,9,21,22,23]
 | 10=>[4]
 | 11=>[0,3,4,6,7,9,21,22,23]
 | 12=>[0,3,4,6,7,9,10,21,22,23]
 | 13=>[0,3,4,6,7,9,10,21,22,23]
 | 14=>[0,3,4,6,7,9,21,22,23,64,65,66]
 | 15=>[0,3,4,6,7,9,21,22,23,64,65,66]
 | 16=>[0,3,4,6,7,9,12,21,22,23,64,65,66]
 | 17=>[0,3,4,6,7,9,21,22,23,64,65,66]
 | 18=>[0,3,4,6,7,21,22,23]
 | 19=>[3,4,6,7]
 | _=>[]
set_option maxRecDepth 100000 in
set_option maxHeartbeats 16000000 in
theorem Ba (ls : List Ln) (hls : ∀ l ∈ ls,cY l = true) (hll : ls.length≤1048576) (s : Stp) (hsl : Lg s.parts) : AFn Tryz.prog 114 [gB ls,.agg (m6 s)] [] (ll (fb ls s)) []:=by
 unfold Lg at hsl
 by_cases h64 : 64 < s.parts.length
 ·have h64' : ((64 : Int) < (s.parts.length : Int)) = True:=eq_true (by omega)
  rw [show fb ls s = (2,⟨0,[]⟩) from if_pos h64,w5]
  refine aD [] Tryz.func114 rfl Tryz.ntmps114 (Nat.le_of_ble_eq_true rfl) (Nat.le_of_ble_eq_true rfl) fun w0 G0 B0 Pr hB0=>?_
  simp only [aO,aA,List.cons_append,List.nil_append]
  repeat' (first | (with_reducible refine hY _ ?_;clear hY Y) | ((with_reducible first | refine an rfl (ar fun K' hK'=>aa ?_) | refine hK' _ (ab fun Y hY=>aa ?_) | refine ab fun Y hY=>aa ?_ | refine ae tk0 bx (ab fun Y hY=>aa ?_) | refine aa ?_ | refine ao ?_);(try clear hK' K');(try dsimp only [aop]);try simp only [go_sem,↓reduceIte,Nat.reduceEqDiff,Nat.reduceLT,Nat.reduceLeDiff,Nat.reduceAdd,Nat.reduceSub,Nat.reduceMul,Nat.reduceBEq,Nat.reduceBNe,Nat.reducePow,Int.reduceToNat,Int.reduceLE,Int.reduceLT,Int.reduceMul,Int.reduceEq,Int.reducePow,Int.reduceAdd,Int.reduceSub,Int.reduceNeg,reduceCtorEq,bx,Tryz.results114,h64']) | (with_reducible first | refine af ?_ | refine ai ?_ | refine aj ?_ | refine ay fun K hK=>?_ | refine ap ?_ | refine aS ?_ | refine au ?_) | (with_reducible refine hK _ ?_;clear hK K) | ((with_reducible refine ag ?_ ?_);(· decide)))
 have h64' : ((64 : Int) < (s.parts.length : Int)) = False:=eq_false (by omega)
 have hS0:=xh (ls:=ls) h64
 refine aD [] Tryz.func114 rfl Tryz.ntmps114 (Nat.le_of_ble_eq_true rfl) (Nat.le_of_ble_eq_true rfl) fun w0 G0 B0 Pr hB0=>?_
 simp only [aO,aA,List.cons_append,List.nil_append]
 repeat' (first | (with_reducible refine hY _ ?_;clear hY Y) | ((with_reducible first | refine an rfl (ar fun K' hK'=>aa ?_) | refine hK' _ (ab fun Y hY=>aa ?_) | refine ab fun Y hY=>aa ?_ | refine ae tk0 bx (ab fun Y hY=>aa ?_));(try clear hK' K');(try dsimp only [aop]);try simp only [go_sem,↓reduceIte,Nat.reduceEqDiff,Nat.reduceLT,Nat.reduceLeDiff,Nat.reduceAdd,Nat.reduceSub,Nat.reduceMul,Nat.reduceBEq,Nat.reduceBNe,Nat.reducePow,Int.reduceToNat,Int.reduceLE,Int.reduceLT,Int.reduceMul,Int.reduceEq,Int.reducePow,Int.reduceAdd,Int.reduceSub,Int.reduceNeg,reduceCtorEq,bx,Tryz.results114,h64']) | (with_reducible first | refine af ?_ | refine ai ?_ | refine aj ?_ | refine ay fun K hK=>?_ | refine aq ?_ | refine al ?_ | refine av ?_ | refine bG ?_) | (with_reducible refine hK _ ?_;clear hK K) | ((with_reducible refine ag ?_ ?_);(· decide)))
 refine bK (α:=Nat × Int × List Tm × List Tm) (fun a=>[(0,gB ls),(3,.loc 10003 0),(4,.loc 10004 0),(6,inA a.2.1),(7,.mp 10019),(21,.sl (aJ s.parts) s.parts.length .none),(22,inA (s.parts.length : Int)),(23,inA (a.1 : Int)),(10003,.bc (m6 s) 83),(10004,.bc [inA 0,.sl [] 0 .full] 24),(10019,.bc (aJ a.2.2.2) (1000000000 + 187))])
  (fun a=>a.1≤s.parts.length∧fb ls s = sb s.div (d5 ls (s.parts.drop a.1) a.2.1 a.2.2.1)∧PrOk a.1 a.2.1 a.2.2.1∧MapOf a.2.2.2 a.2.2.1∧a.2.2.2.length≤a.2.2.1.length) (fun a=>s.parts.length - a.1) (0,0,[],[]) [0,3,4,6,7,21,22,23] ?_ ⟨Nat.zero_le _,hS0,qF,uL,Nat.le_refl _⟩ ?_
 ·simp only [go_sem,↓reduceIte,Nat.reduceEqDiff,Nat.reduceLT,Nat.reduceLeDiff,Nat.reduceAdd,Nat.reduceSub,Nat.reduceMul,Nat.reduceBEq,Nat.reduceBNe,Nat.reducePow,Int.reduceToNat,Int.reduceLE,Int.reduceLT,Int.reduceMul,Int.reduceEq,Int.reducePow,Int.reduceAdd,Int.reduceSub,Int.reduceNeg,reduceCtorEq,aJ] <;> rfl
 rintro ⟨k,c,ts,M⟩ ⟨hk,hS,hP,hM,hML⟩ ih
 simp only at hk hS hP hM hML ih ⊢
 clear hS0
 by_cases hlt : k < s.parts.length
 ·have hlt' : ((k : Int) < (s.parts.length : Int)) = True:=eq_true (by omega)
  have hkw:=cf (n:=k) (by omega)
  have hg0:=ez hlt
  have hfl:=cl s.parts
  rw [List.drop_eq_getElem_cons hlt] at hS
  generalize s.parts[k] = m at *
  obtain ⟨v,p⟩:=m
  simp only at hg0
  unfold d5 at hS
  simp only at hS
  by_cases hv0 : v < 0
  ·rw [if_pos (.inl hv0)] at hS
   rw [hS,show sb s.div (6,0,[]) = (6,⟨0,[]⟩) from rfl,w6]
   clear ih hS hP hM
   have hv0' : (v < 0) = True:=eq_true hv0
   repeat' (first | (with_reducible refine hY _ ?_;clear hY Y) | ((with_reducible first | refine an rfl (ar fun K' hK'=>aa ?_) | refine hK' _ (ab fun Y hY=>aa ?_) | refine bl rfl (ab fun Y hY=>aa ?_) | refine ab fun Y hY=>aa ?_ | refine ae tk0 bx (ab fun Y hY=>aa ?_) | refine aa ?_ | refine ao ?_);(try clear hK' K');(try dsimp only [aop]);try simp only [go_sem,↓reduceIte,Nat.reduceEqDiff,Nat.reduceLT,Nat.reduceLeDiff,Nat.reduceAdd,Nat.reduceSub,Nat.reduceMul,Nat.reduceBEq,Nat.reduceBNe,Nat.reducePow,Int.reduceToNat,Int.reduceLE,Int.reduceLT,Int.reduceMul,Int.reduceEq,Int.reducePow,Int.reduceAdd,Int.reduceSub,Int.reduceNeg,reduceCtorEq,bx,Tryz.results114,hlt',hfl,hg0,hv0']) | (with_reducible first | refine af ?_ | refine bh rfl ?_ | refine cS ?_ ?_ | refine ai ?_ | refine aj ?_ | refine ay fun K hK=>?_ | refine ap ?_ | refine aS ?_ | refine bb ?_ | refine al ?_ | refine av ?_ | refine au ?_) | (with_reducible refine hK _ ?_;clear hK K) | ((with_reducible first | refine aG ?_ ?_ | refine ag ?_ ?_);(· decide)) | (with_reducible refine bp ?_ ?_;(· (try and_intros) <;> first | omega | assumption | (simp only [List.length_append,List.length_map,List.length_cons,List.length_nil] <;> omega))))
  by_cases hv1 : (ls.length : Int)≤v
  ·rw [if_pos (.inr hv1)] at hS
   rw [hS,show sb s.div (6,0,[]) = (6,⟨0,[]⟩) from rfl,w6]
   clear ih hS hP hM
   have hv0' : (v < 0) = False:=eq_false hv0
   have hv1' : ((ls.length : Int)≤v) = True:=eq_true hv1
   repeat' (first | (with_reducible refine hY _ ?_;clear hY Y) | ((with_reducible first | refine an rfl (ar fun K' hK'=>aa ?_) | refine hK' _ (ab fun Y hY=>aa ?_) | refine bl rfl (ab fun Y hY=>aa ?_) | refine ab fun Y hY=>aa ?_ | refine ar fun K' hK'=>aa ?_ | refine ae tk0 bx (ab fun Y hY=>aa ?_) | refine aa ?_ | refine ao ?_);(try clear hK' K');(try dsimp only [aop]);try simp only [go_sem,↓reduceIte,Nat.reduceEqDiff,Nat.reduceLT,Nat.reduceLeDiff,Nat.reduceAdd,Nat.reduceSub,Nat.reduceMul,Nat.reduceBEq,Nat.reduceBNe,Nat.reducePow,Int.reduceToNat,Int.reduceLE,Int.reduceLT,Int.reduceMul,Int.reduceEq,Int.reducePow,Int.reduceAdd,Int.reduceSub,Int.reduceNeg,reduceCtorEq,bx,Tryz.results114,hlt',hfl,hg0,hv0',hv1']) | (with_reducible first | refine af ?_ | refine aL ?_ | refine ai ?_ | refine aj ?_ | refine ay fun K hK=>?_ | refine ap ?_ | refine aS ?_ | refine bb ?_ | refine al ?_ | refine av ?_ | refine au ?_) | (with_reducible refine hK _ ?_;clear hK K) | ((with_reducible first | refine aG ?_ ?_ | refine ag ?_ ?_);(· decide)) | (with_reducible refine bp ?_ ?_;(· (try and_intros) <;> first | omega | assumption | (simp only [List.length_append,List.length_map,List.length_cons,List.length_nil] <;> omega))))
  rw [if_neg (by omega)] at hS
  have hv0' : (v < 0) = False:=eq_false hv0
  have hv1' : ((ls.length : Int)≤v) = False:=eq_false hv1
  by_cases hp0 : p < 1
  ·rw [if_pos (.inl hp0)] at hS
   rw [hS,show sb s.div (1,0,[]) = (1,⟨0,[]⟩) from rfl,pH]
   clear ih hS hP hM
   have hp0' : (p < 1) = True:=eq_true hp0
   repeat' (first | (with_reducible refine hY _ ?_;clear hY Y) | ((with_reducible first | refine an rfl (ar fun K' hK'=>aa ?_) | refine hK' _ (ab fun Y hY=>aa ?_) | refine bl rfl (ab fun Y hY=>aa ?_) | refine ab fun Y hY=>aa ?_ | refine ar fun K' hK'=>aa ?_ | refine ae tk0 bx (ab fun Y hY=>aa ?_) | refine aa ?_ | refine ao ?_);(try clear hK' K');(try dsimp only [aop]);try simp only [go_sem,↓reduceIte,Nat.reduceEqDiff,Nat.reduceLT,Nat.reduceLeDiff,Nat.reduceAdd,Nat.reduceSub,Nat.reduceMul,Nat.reduceBEq,Nat.reduceBNe,Nat.reducePow,Int.reduceToNat,Int.reduceLE,Int.reduceLT,Int.reduceMul,Int.reduceEq,Int.reducePow,Int.reduceAdd,Int.reduceSub,Int.reduceNeg,reduceCtorEq,bx,Tryz.results114,hlt',hfl,hg0,hv0',hv1',hp0']) | (with_reducible first | refine af ?_ | refine bh rfl ?_ | refine aL ?_ | refine cS ?_ ?_ | refine ai ?_ | refine aj ?_ | refine ay fun K hK=>?_ | refine ap ?_ | refine aq ?_ | refine aS ?_ | refine bb ?_ | refine al ?_ | refine av ?_ | refine au ?_) | (with_reducible refine hK _ ?_;clear hK K) | ((with_reducible first | refine aG ?_ ?_ | refine ag ?_ ?_);(· decide)) | (with_reducible refine bp ?_ ?_;(· (try and_intros) <;> first | omega | assumption | (simp only [List.length_append,List.length_map,List.length_cons,List.length_nil] <;> omega))))
  by_cases hp1 : 4096 < p
  ·rw [if_pos (.inr hp1)] at hS
   rw [hS,show sb s.div (1,0,[]) = (1,⟨0,[]⟩) from rfl,pH]
   clear ih hS hP hM
   have hp0' : (p < 1) = False:=eq_false hp0
   have hp1' : ((4096 : Int) < p) = True:=eq_true hp1
   repeat' (first | (with_reducible refine hY _ ?_;clear hY Y) | ((with_reducible first | refine an rfl (ar fun K' hK'=>aa ?_) | refine hK' _ (ab fun Y hY=>aa ?_) | refine bl rfl (ab fun Y hY=>aa ?_) | refine ab fun Y hY=>aa ?_ | refine ar fun K' hK'=>aa ?_ | refine ae tk0 bx (ab fun Y hY=>aa ?_) | refine aa ?_ | refine ao ?_);(try clear hK' K');(try dsimp only [aop]);try simp only [go_sem,↓reduceIte,Nat.reduceEqDiff,Nat.reduceLT,Nat.reduceLeDiff,Nat.reduceAdd,Nat.reduceSub,Nat.reduceMul,Nat.reduceBEq,Nat.reduceBNe,Nat.reducePow,Int.reduceToNat,Int.reduceLE,Int.reduceLT,Int.reduceMul,Int.reduceEq,Int.reducePow,Int.reduceAdd,Int.reduceSub,Int.reduceNeg,reduceCtorEq,bx,Tryz.results114,hlt',hfl,hg0,hv0',hv1',hp0',hp1']) | (with_reducible first | refine af ?_ | refine aL ?_ | refine ai ?_ | refine aj ?_ | refine ay fun K hK=>?_ | refine ap ?_ | refine aq ?_ | refine aS ?_ | refine bb ?_ | refine al ?_ | refine av ?_ | refine au ?_) | (with_reducible refine hK _ ?_;clear hK K) | ((with_reducible first | refine aG ?_ ?_ | refine ag ?_ ?_);(· decide)) | (with_reducible refine bp ?_ ?_;(· (try and_intros) <;> first | omega | assumption | (simp only [List.length_append,List.length_map,List.length_cons,List.length_nil] <;> omega))))
  rw [if_neg (by omega)] at hS
  have hp0' : (p < 1) = False:=eq_false hp0
  have hp1' : ((4096 : Int) < p) = False:=eq_false hp1
  obtain ⟨i,rfl⟩ : ∃ i : Nat,v = (i : Int):=⟨v.toNat,by omega⟩
  have hil : i < ls.length:=by omega
  have hgi : ls.getD (i : Int).toNat ⟨0,[]⟩ = ls[i]:=by rw [Int.toNat_natCast,List.getD_eq_getElem?_getD,List.getElem?_eq_getElem hil];rfl
  rw [hgi] at hS
  have hgl:=jo hil
  have hll2:=ei ls
  have hlin:=hls _ (List.getElem_mem hil)
  generalize ls[i] = l at *
  have hP2:=hP.add hlin (p:=p) (by omega) (by omega)
  obtain ⟨⟨l1,l2⟩,l3,l4⟩:=ef hlin
  obtain ⟨a1,a2⟩:=py (p:=p) (by omega) (by omega) l1 l2
  have hw1 : IntKind.i64.wrap (p * l.c) = p * l.c:=aY (by omega) (by omega)
  have hw2 : IntKind.i64.wrap (c + p * l.c) = c + p * l.c:=by
   have:=hP2.c1;have:=hP2.c2
   exact aY (by omega) (by omega)
  have ih':=ih (k + 1,c + p * l.c,ts ++ cz p l.t,(cz p l.t).foldl km M) ⟨by simp only;omega,hS,hP2,hM.addAll _,by have:=mg (cz p l.t) M;simp only [List.length_append];omega⟩ (by simp only;omega)
  clear ih hS hls
  simp only at ih'
  have hvv : ((i : Int) < (ls.length : Int)) = True:=eq_true (by omega)
  have hPr:=hP
  repeat' (first | (with_reducible refine hY _ ?_;clear hY Y) | ((with_reducible first | refine an rfl (ar fun K' hK'=>aa ?_) | refine hK' _ (ab fun Y hY=>aa ?_) | refine bl rfl (ab fun Y hY=>aa ?_) | refine ab fun Y hY=>aa ?_ | refine ar fun K' hK'=>aa ?_ | refine ae tk0 bx (ab fun Y hY=>aa ?_));(try clear hK' K');(try dsimp only [aop]);try simp only [go_sem,↓reduceIte,Nat.reduceEqDiff,Nat.reduceLT,Nat.reduceLeDiff,Nat.reduceAdd,Nat.reduceSub,Nat.reduceMul,Nat.reduceBEq,Nat.reduceBNe,Nat.reducePow,Int.reduceToNat,Int.reduceLE,Int.reduceLT,Int.reduceMul,Int.reduceEq,Int.reducePow,Int.reduceAdd,Int.reduceSub,Int.reduceNeg,reduceCtorEq,bx,Tryz.results114,hlt',hfl,hg0,hv0',hv1',hp0',hp1',hgl,hll2,hw1,hw2]) | (with_reducible first | refine af ?_ | refine aL ?_ | refine ai ?_ | refine aj ?_ | refine ay fun K hK=>?_ | refine ap ?_ | refine aq ?_ | refine aU ?_ | refine al ?_ | refine av ?_ | refine bG ?_) | (with_reducible refine hK _ ?_;clear hK K) | ((with_reducible first | refine aG ?_ ?_ | refine ag ?_ ?_);(· decide)) | (with_reducible refine bp ?_ ?_;(· (try and_intros) <;> first | omega | assumption | (simp only [List.length_append,List.length_map,List.length_cons,List.length_nil] <;> omega))))
  have hTl : (cz p l.t).length = l.t.length:=List.length_map ..
  have hTg : ∀ j (hj : j < l.t.length) (hq : j < (cz p l.t).length),(cz p l.t)[j] = (l.t[j].1,p * l.t[j].2):=fun j hj hq=>List.getElem_map ..
  have hok:=hP2.ok
  generalize hT : cz p l.t = T at *
  have hlen2 : ts.length≤64 * 64:=by have:=hP.len;omega
  clear hP hP2 hPr hgi hlin hgl hg0 hll2
  refine bK (α:=Nat) (fun j=>[(0,gB ls),(3,.loc 10003 0),(4,.loc 10004 0),(6,inA (c + p * l.c)),(7,.mp 10019),(9,.loc 10009 0),(21,.sl (aJ s.parts) s.parts.length .none),(22,inA (s.parts.length : Int)),(23,inA (k : Int)),(64,.sl (aJ l.t) l.t.length .none),(65,inA (l.t.length : Int)),(66,inA (j : Int)),(10003,.bc (m6 s) 83),(10004,.bc [inA 0,.sl [] 0 .full] 24),(10009,.bc [inA (i : Int),inA p] 181),(10019,.bc (aJ ((T.take j).foldl km M)) (1000000000 + 187))])
   (fun j=>j≤l.t.length) (fun j=>l.t.length - j) 0 [0,3,4,6,7,9,21,22,23,64,65,66] ?_ (Nat.zero_le _) ?_
  ·simp only [go_sem,↓reduceIte,Nat.reduceEqDiff,Nat.reduceLT,Nat.reduceLeDiff,Nat.reduceAdd,Nat.reduceSub,Nat.reduceMul,Nat.reduceBEq,Nat.reduceBNe,Nat.reducePow,Int.reduceToNat,Int.reduceLE,Int.reduceLT,Int.reduceMul,Int.reduceEq,Int.reducePow,Int.reduceAdd,Int.reduceSub,Int.reduceNeg,reduceCtorEq,List.take_zero,List.foldl_nil] <;> rfl
  intro j hj ihj
  by_cases hjt : j < l.t.length
  ·have hjt' : ((j : Int) < (l.t.length : Int)) = True:=eq_true (by omega)
   have hjw:=cf (n:=j) (by omega)
   have hj0:=ez hjt
   have hjl:=cl l.t
   have hmem:=l4 _ (List.getElem_mem hjt)
   have hMj : MapOf ((T.take j).foldl km M) (ts ++ T.take j):=hM.addAll _
   have ihj':=ihj (j + 1) (by omega) (by omega)
   rw [List.take_succ_eq_append_getElem (by omega),List.foldl_append,List.foldl_cons,List.foldl_nil,hTg j hjt (by omega)] at ihj'
   have hsb:=pN 4398046511104 (by decide) (ts ++ T.take j) l.t[j].1 (fun m hm=>hok m (by
    rcases List.mem_append.1 hm with h | h
    ·exact List.mem_append_left _ h
    ·exact List.mem_append_right _ (List.mem_of_mem_take h)))
   have hln : (ts ++ T.take j).length≤4160:=by rw [List.length_append,List.length_take];omega
   have hgt:=hMj.get l.t[j].1
   clear ihj hTg hok ih' hMj
   generalize (T.take j).foldl km M = MM at *
   generalize l.t[j] = m2 at *
   obtain ⟨v,x⟩:=m2
   obtain ⟨b1,b2,b3,b4⟩:=hmem
   simp only at b1 b2 b3 b4 hj0 ihj' hgt hsb
   obtain ⟨d1,d2⟩:=py (p:=p) (k:=x) (by omega) (by omega) b3 b4
   unfold km at ihj'
   simp only at ihj'
   have hlk:=ti MM v
   have hko:=mz MM
   have hpu:=wJ MM v (jk MM v + p * x)
   rw [← hgt] at hsb
   generalize jk MM v = GV at *
   have hx1 : IntKind.i64.wrap (p * x) = p * x:=aY (by omega) (by omega)
   have hx2 : IntKind.i64.wrap (GV + p * x) = GV + p * x:=aY (by omega) (by omega)
   repeat' (first | (with_reducible refine hY _ ?_;clear hY Y) | ((with_reducible first | refine an rfl (ar fun K' hK'=>aa ?_) | refine hK' _ (ab fun Y hY=>aa ?_) | refine ab fun Y hY=>aa ?_ | refine ae tk0 bx (ab fun Y hY=>aa ?_));(try clear hK' K');(try dsimp only [aop]);try simp only [go_sem,↓reduceIte,Nat.reduceEqDiff,Nat.reduceLT,Nat.reduceLeDiff,Nat.reduceAdd,Nat.reduceSub,Nat.reduceMul,Nat.reduceBEq,Nat.reduceBNe,Nat.reducePow,Int.reduceToNat,Int.reduceLE,Int.reduceLT,Int.reduceMul,Int.reduceEq,Int.reducePow,Int.reduceAdd,Int.reduceSub,Int.reduceNeg,reduceCtorEq,bx,Tryz.results114,hjt',hjw,hj0,hjl,hlk,hko,hpu,hx1,hx2]) | (with_reducible first | refine af ?_ | refine ai ?_ | refine aj ?_ | refine ay fun K hK=>?_ | refine ap ?_ | refine aU ?_ | refine al ?_ | refine av ?_) | (with_reducible refine hK _ ?_;clear hK K) | ((with_reducible refine ag ?_ ?_);(· decide)) | (with_reducible refine bp ?_ ?_;(· (try and_intros) <;> first | omega | assumption | (simp only [List.length_append,List.length_map,List.length_cons,List.length_nil] <;> omega))))
   refine bi [0,3,4,6,7,9,21,22,23,64,65,66] (by simp only [go_sem,↓reduceIte,Nat.reduceEqDiff,Nat.reduceLT,Nat.reduceLeDiff,Nat.reduceAdd,Nat.reduceSub,Nat.reduceMul,Nat.reduceBEq,Nat.reduceBNe,Nat.reducePow,Int.reduceToNat,Int.reduceLE,Int.reduceLT,Int.reduceMul,Int.reduceEq,Int.reducePow,Int.reduceAdd,Int.reduceSub,Int.reduceNeg,reduceCtorEq];exact rfl) ?_
   exact ihj'
  ·have hjt' : ((j : Int) < (l.t.length : Int)) = False:=eq_false (by omega)
   rw [List.take_of_length_le (by omega)]
   clear ihj hTg
   generalize T.foldl km M = MM at *
   repeat' (first | (with_reducible refine hY _ ?_;clear hY Y) | ((with_reducible first | refine an rfl (ar fun K' hK'=>aa ?_) | refine hK' _ (ab fun Y hY=>aa ?_) | refine ab fun Y hY=>aa ?_ | refine ae tk0 bx (ab fun Y hY=>aa ?_));(try clear hK' K');(try dsimp only [aop]);try simp only [go_sem,↓reduceIte,Nat.reduceEqDiff,Nat.reduceLT,Nat.reduceLeDiff,Nat.reduceAdd,Nat.reduceSub,Nat.reduceMul,Nat.reduceBEq,Nat.reduceBNe,Nat.reducePow,Int.reduceToNat,Int.reduceLE,Int.reduceLT,Int.reduceMul,Int.reduceEq,Int.reducePow,Int.reduceAdd,Int.reduceSub,Int.reduceNeg,reduceCtorEq,bx,Tryz.results114,hjt',hkw]) | (with_reducible first | refine af ?_ | refine ai ?_ | refine aj ?_ | refine ay fun K hK=>?_ | refine aq ?_ | refine bC ?_ | refine aU ?_ | refine bg ?_ | refine bf ?_) | (with_reducible refine hK _ ?_;clear hK K) | ((with_reducible refine ag ?_ ?_);(· decide)))
   refine bi [0,3,4,6,7,21,22,23] (by simp only [go_sem,↓reduceIte,Nat.reduceEqDiff,Nat.reduceLT,Nat.reduceLeDiff,Nat.reduceAdd,Nat.reduceSub,Nat.reduceMul,Nat.reduceBEq,Nat.reduceBNe,Nat.reducePow,Int.reduceToNat,Int.reduceLE,Int.reduceLT,Int.reduceMul,Int.reduceEq,Int.reducePow,Int.reduceAdd,Int.reduceSub,Int.reduceNeg,reduceCtorEq];exact rfl) ?_
   exact ih'
 ·have hlt' : ((k : Int) < (s.parts.length : Int)) = False:=eq_false (by omega)
  rw [List.drop_of_length_le (by omega),show sb s.div (d5 ls [] c ts) = da c ts s.div from rfl] at hS
  rw [hS]
  have hPl:=hP.len
  have hc1:=hP.c1
  have hc2:=hP.c2
  have hdv:=ut c M ts s.div hM (fun m hm=>⟨(hP.ok m hm).1,(hP.ok m hm).2.1⟩) (by omega) ⟨by omega,by omega⟩ (fun v=>by
   have:=pN 4398046511104 (by decide) ts v hP.ok
   omega)
  clear ih hS hls hP hM
  generalize da c ts s.div = q at *
  obtain ⟨e,l⟩:=q
  by_cases he : e = 0
  ·subst he
   rw [iU] at hdv ⊢
   repeat' (first | (with_reducible refine hY _ ?_;clear hY Y) | ((with_reducible first | refine an rfl (ar fun K' hK'=>aa ?_) | refine hK' _ (ab fun Y hY=>aa ?_) | refine ab fun Y hY=>aa ?_ | refine ae tk0 bx (ab fun Y hY=>aa ?_) | refine aa ?_ | refine ao ?_);(try clear hK' K');(try dsimp only [aop]);try simp only [go_sem,↓reduceIte,Nat.reduceEqDiff,Nat.reduceLT,Nat.reduceLeDiff,Nat.reduceAdd,Nat.reduceSub,Nat.reduceMul,Nat.reduceBEq,Nat.reduceBNe,Nat.reducePow,Int.reduceToNat,Int.reduceLE,Int.reduceLT,Int.reduceMul,Int.reduceEq,Int.reducePow,Int.reduceAdd,Int.reduceSub,Int.reduceNeg,reduceCtorEq,bx,Tryz.results114,hlt']) | (with_reducible first | refine af ?_ | refine ai ?_ | refine aj ?_ | refine ay fun K hK=>?_ | refine aq ?_ | refine bC ?_ | refine bg ?_ | refine au ?_ | refine bf ?_) | (with_reducible refine hK _ ?_;clear hK K) | ((with_reducible refine ag ?_ ?_);(· decide)) | (with_reducible refine ah (hdv) ?_))
  ·rw [sL he] at hdv ⊢
   repeat' (first | (with_reducible refine hY _ ?_;clear hY Y) | ((with_reducible first | refine an rfl (ar fun K' hK'=>aa ?_) | refine hK' _ (ab fun Y hY=>aa ?_) | refine ab fun Y hY=>aa ?_ | refine ae tk0 bx (ab fun Y hY=>aa ?_) | refine aa ?_ | refine ao ?_);(try clear hK' K');(try dsimp only [aop]);try simp only [go_sem,↓reduceIte,Nat.reduceEqDiff,Nat.reduceLT,Nat.reduceLeDiff,Nat.reduceAdd,Nat.reduceSub,Nat.reduceMul,Nat.reduceBEq,Nat.reduceBNe,Nat.reducePow,Int.reduceToNat,Int.reduceLE,Int.reduceLT,Int.reduceMul,Int.reduceEq,Int.reducePow,Int.reduceAdd,Int.reduceSub,Int.reduceNeg,reduceCtorEq,bx,Tryz.results114,hlt']) | (with_reducible first | refine af ?_ | refine ai ?_ | refine aj ?_ | refine ay fun K hK=>?_ | refine aq ?_ | refine bC ?_ | refine bg ?_ | refine au ?_ | refine bf ?_) | (with_reducible refine hK _ ?_;clear hK K) | ((with_reducible refine ag ?_ ?_);(· decide)) | (with_reducible refine ah (hdv) ?_))
end Go.Proofs.YtmpdocplcgbpkaaGreatDoor

/- What follows, in K: an assignment that grows. What follows, in K: a clause is looked at. -/
import Derived.Test.YtmpdocplcgbpkaaGreatDoorZ10
namespace Go.Proofs.YtmpdocplcgbpkaaGreatDoor
set_option linter.unusedSimpArgs false
set_option linter.unusedVariables false
open Go.RowKit
def dh : Nat→List Nat
 | 0=>[0,1]
 | 1=>[0,1]
 | 2=>[0,1]
 | 3=>[0,1]
 | _=>[]
def cj : Nat→List Nat
 | 0=>[0,1]
 | 1=>[0,1]
 | 2=>[0,1,7]
 | 3=>[]
 | 4=>[0,1,7]
 | 5=>[0,1]
 | 6=>[0,1]
 | 7=>[0,1]
 | 8=>[0,1]
 | 9=>[]
 | _=>[]
def bn : Nat→List Nat
 | 0=>[0,1]
 | 1=>[0,1]
 | 2=>[0,1,5]
 | 3=>[0,5,8,9,10]
 | 4=>[0,5,8,9,10]
 | 5=>[0,5,7,8,9,10]
 | 6=>[0,5,7,8,9,10,16]
 | 7=>[]
 | 8=>[0,5,7,8,9,10,16]
 | 9=>[0,5,7,8,9,10]
 | 10=>[]
 | 11=>[0,7,8,9,10]
 | 12=>[0,5,8,9,10]
 | 13=>[0,5]
 | _=>[]
def ofA (a : List Int) (l : Int) : Int:=if l < 0 then -(a.getD (-l).toNat 0) else a.getD l.toNat 0
abbrev stG (a pre q : List Int) (v : Nat) : List AV:=[.bc [.arr 20001 0 a.length 3,.ow 20002 pre.length q.length v] 146,.bc (a.map inA) 3,.br ((pre ++ q).map inA) v 3 1]
theorem Ag {a : List Int} {i : Nat} (h : i < a.length) : (a.map inA)[i]? = some (inA (a.getD i 0)):=by
 rw [List.getElem?_map,List.getElem?_eq_getElem h,List.getD_eq_getElem?_getD,List.getElem?_eq_getElem h];rfl
theorem zO {a : List Int} {i : Nat} (h : i < a.length) : (a.map inA).getD i .u = inA (a.getD i 0):=by
 rw [List.getD_eq_getElem?_getD,Ag h];rfl
theorem AU (g : List (Nat × Nat)) (a : List Int) : (a.map inA).map (ren g 4) = a.map inA:=by rw [List.map_map];exact List.map_congr_left fun x _=>rfl
theorem xZ (ex : List Nat) (σ : bv) (a : List Int) : (a.map inA).map (eX ex σ 4) = a.map inA:=by rw [List.map_map];exact List.map_congr_left fun x _=>rfl
theorem wL (t : Bool) (a : List Int) : (a.map inA).flatMap (fJ t 4) = []:=by
 rw [List.flatMap_eq_nil_iff]
 intro x hx
 obtain ⟨y,_,rfl⟩:=List.mem_map.1 hx
 rfl
theorem wK (t : Bool) (a : List Int) : (a.map inA).flatMap (fJ t 3) = []:=by
 rw [List.flatMap_eq_nil_iff]
 intro x hx
 obtain ⟨y,_,rfl⟩:=List.mem_map.1 hx
 rfl
theorem uA (b : Nat) (a : List Int) : (a.map inA).any (cy b 4) = false:=by
 rw [List.any_eq_false]
 intro x hx
 obtain ⟨y,_,rfl⟩:=List.mem_map.1 hx
 simp [cy]
attribute [go_sem] AU xZ wL wK uA
set_option maxRecDepth 100000 in
set_option maxHeartbeats 8000000 in
theorem wP (a pre q : List Int) (v : Nat) (l : Int) (hl : l.natAbs < a.length) (hb : a.length≤1000000) (ha : ∀ i,-1≤a.getD i 0∧a.getD i 0≤1) :
  AFn Tryz.prog 115 [.loc 20000 0,inA l] (stG a pre q v) (inA (ofA a l)) (stG a pre q v):=by
 unfold ofA
 by_cases hn : l < 0
 ·obtain ⟨i,hi⟩ : ∃ i : Nat,(i : Int) = -l:=⟨(-l).toNat,by omega⟩
  have hn' : (l < 0) = True:=eq_true hn
  have hw : IntKind.i64.wrap (0 - l) = (i : Int):=by rw [aY (by omega) (by omega)];omega
  have hw2 : IntKind.i64.wrap (-l) = (i : Int):=by rw [aY (by omega) (by omega)];omega
  have hia : i < a.length:=by omega
  have hil : ((i : Int) < (a.length : Int)) = True:=eq_true (by omega)
  have hg:=Ag hia
  have hg2:=zO hia
  rw [if_pos hn,show (-l).toNat = i by omega]
  have hv:=ha i
  have hw3 : IntKind.i64.wrap (0 - a.getD i 0) = -a.getD i 0:=by rw [aY (by omega) (by omega)];omega
  have hw4 : IntKind.i64.wrap (-a.getD i 0) = -a.getD i 0:=aY (by omega) (by omega)
  have hal : (a.map inA).length = a.length:=List.length_map ..
  generalize a.getD i 0 = x at *
  simp only [stG]
  generalize pre ++ q = Q at *
  refine aD [] Tryz.func115 rfl Tryz.ntmps115 (Nat.le_of_ble_eq_true rfl) (Nat.le_of_ble_eq_true rfl) fun w0 G0 B0 Pr hB0=>?_
  simp only [aO,aA,List.cons_append,List.nil_append]
  repeat' (first | (with_reducible refine hY _ ?_;clear hY Y) | ((with_reducible first | refine an rfl (ar fun K' hK'=>aa ?_) | refine hK' _ (ab fun Y hY=>aa ?_) | refine ab fun Y hY=>aa ?_ | refine ae tk0 dh (ab fun Y hY=>aa ?_) | refine aa ?_ | refine ao ?_);(try clear hK' K');(try dsimp only [aop]);try simp only [go_sem,↓reduceIte,Nat.reduceEqDiff,Nat.reduceLT,Nat.reduceLeDiff,Nat.reduceAdd,Nat.reduceSub,Nat.reduceMul,Nat.reduceBEq,Nat.reduceBNe,Nat.reducePow,Int.reduceToNat,Int.reduceLE,Int.reduceLT,Int.reduceMul,Int.reduceEq,Int.reducePow,Int.reduceAdd,Int.reduceSub,Int.reduceNeg,reduceCtorEq,dh,Tryz.results115,hn',hw,hw2,hil,hg,hg2,hw3,hw4,hal]) | (with_reducible first | refine af ?_ | refine ai ?_ | refine aj ?_ | refine ay fun K hK=>?_ | refine ap ?_ | refine aS ?_ | refine au ?_) | (with_reducible refine hK _ ?_;clear hK K) | ((with_reducible refine ag ?_ ?_);(· decide)) | (with_reducible refine bp ?_ ?_;(· (try and_intros) <;> first | omega | assumption | (simp only [List.length_append,List.length_map,List.length_cons,List.length_nil] <;> omega))))
 ·obtain ⟨i,rfl⟩ : ∃ i : Nat,l = (i : Int):=⟨l.toNat,by omega⟩
  have hn' : ((i : Int) < 0) = False:=eq_false hn
  have hia : i < a.length:=by omega
  have hil : ((i : Int) < (a.length : Int)) = True:=eq_true (by omega)
  have hg:=Ag hia
  have hg2:=zO hia
  rw [if_neg hn,Int.toNat_natCast]
  have hal : (a.map inA).length = a.length:=List.length_map ..
  generalize a.getD i 0 = x at *
  simp only [stG]
  generalize pre ++ q = Q at *
  refine aD [] Tryz.func115 rfl Tryz.ntmps115 (Nat.le_of_ble_eq_true rfl) (Nat.le_of_ble_eq_true rfl) fun w0 G0 B0 Pr hB0=>?_
  simp only [aO,aA,List.cons_append,List.nil_append]
  repeat' (first | (with_reducible refine hY _ ?_;clear hY Y) | ((with_reducible first | refine an rfl (ar fun K' hK'=>aa ?_) | refine hK' _ (ab fun Y hY=>aa ?_) | refine ab fun Y hY=>aa ?_ | refine ae tk0 dh (ab fun Y hY=>aa ?_) | refine aa ?_ | refine ao ?_);(try clear hK' K');(try dsimp only [aop]);try simp only [go_sem,↓reduceIte,Nat.reduceEqDiff,Nat.reduceLT,Nat.reduceLeDiff,Nat.reduceAdd,Nat.reduceSub,Nat.reduceMul,Nat.reduceBEq,Nat.reduceBNe,Nat.reducePow,Int.reduceToNat,Int.reduceLE,Int.reduceLT,Int.reduceMul,Int.reduceEq,Int.reducePow,Int.reduceAdd,Int.reduceSub,Int.reduceNeg,reduceCtorEq,dh,Tryz.results115,hn',hil,hg,hg2,hal]) | (with_reducible first | refine af ?_ | refine ai ?_ | refine aj ?_ | refine ay fun K hK=>?_ | refine aq ?_ | refine av ?_ | refine au ?_) | (with_reducible refine hK _ ?_;clear hK K) | ((with_reducible refine ag ?_ ?_);(· decide)) | (with_reducible refine bp ?_ ?_;(· (try and_intros) <;> first | omega | assumption | (simp only [List.length_append,List.length_map,List.length_cons,List.length_nil] <;> omega))))
theorem Bu (pre q : List Int) : dz ((pre ++ q).map inA) (pre.length * 1) (q.length * 1) = q.map inA:=by
 have e : (((pre ++ q).map inA).drop pre.length).take q.length = q.map inA:=by
  rw [List.map_append,List.drop_left' (List.length_map ..),List.take_of_length_le (by rw [List.length_map];exact Nat.le_refl _)]
 unfold dz
 rw [Nat.mul_one,Nat.mul_one]
 split
 ·rename_i h
  obtain ⟨h1,h2⟩:=h
  have : pre = []:=List.eq_nil_of_length_eq_zero h1
  subst this
  rfl
 ·exact e
theorem AP (pre q : List Int) : (if pre.length = 0∧(pre ++ q).length = q.length then (pre ++ q).map inA else (((pre ++ q).map inA).drop pre.length).take q.length) = q.map inA:=by
 have:=Bu pre q
 unfold dz at this
 rw [Nat.mul_one,Nat.mul_one,List.length_map] at this
 exact this
theorem zP (a : List Int) (i : Nat) (x : Int) (h : i < a.length) : (a.map inA).take i ++ [AV.c (.int .i64 x)] ++ (a.map inA).drop (i + 1) = (a.set i x).map inA:=by
 rw [← List.map_take,← List.map_drop,List.set_eq_take_append_cons_drop,if_pos h]
 simp
theorem AQ (q : List Int) (x : Int) : q.map inA ++ [AV.c (.int .i64 x)] = (q ++ [x]).map inA:=by simp
set_option maxRecDepth 100000 in
set_option maxHeartbeats 8000000 in
theorem w8 (a pre q : List Int) (v : Nat) (l : Int) (hl : l.natAbs < a.length) (hb : a.length≤1000000) (hq : q.length≤1000000) (ha : ∀ i,-1≤a.getD i 0∧a.getD i 0≤1) (h : ofA a l = 0) :
  AFn Tryz.prog 85 [.loc 20000 0,inA l] (stG a pre q v) (.c (.bool true)) (stG (a.set l.natAbs (if 0 < l then 1 else -1)) [] (q ++ [l]) (v + 1)):=by
 have ho:=wP a pre q v l hl hb ha
 rw [h] at ho
 have hc:=AP pre q
 have hcp:=AQ q l
 have hw1 : IntKind.i64.wrap (-1) = -1:=rfl
 by_cases hp : 0 < l
 ·obtain ⟨i,rfl⟩ : ∃ i : Nat,l = (i : Int):=⟨l.toNat,by omega⟩
  have hp' : ((0 : Int) < (i : Int)) = True:=eq_true hp
  have hil : ((i : Int) < (a.length : Int)) = True:=eq_true (by omega)
  have hs:=zP a i 1 (by omega)
  rw [if_pos hp,show ((i : Int)).natAbs = i from rfl]
  have e : stG (a.set i 1) [] (q ++ [(i : Int)]) (v + 1) = [.bc [.arr 20001 0 a.length 3,.ow 20002 0 (q.length + 1) (v + 1)] 146,.bc ((a.set i 1).map inA) 3,.br ((q ++ [(i : Int)]).map inA) (v + 1) 3 1]:=by simp [stG]
  rw [e]
  simp only [stG] at ho ⊢
  refine aD [] Tryz.func85 rfl Tryz.ntmps85 (Nat.le_of_ble_eq_true rfl) (Nat.le_of_ble_eq_true rfl) fun w0 G0 B0 Pr hB0=>?_
  simp only [aO,aA,List.cons_append,List.nil_append]
  repeat' (first | (with_reducible refine hY _ ?_;clear hY Y) | ((with_reducible first | refine an rfl (ar fun K' hK'=>aa ?_) | refine hK' _ (ab fun Y hY=>aa ?_) | refine ab fun Y hY=>aa ?_ | refine ae tk0 cj (ab fun Y hY=>aa ?_) | refine aa ?_ | refine ao ?_);(try clear hK' K');(try dsimp only [aop]);try simp only [go_sem,↓reduceIte,Nat.reduceEqDiff,Nat.reduceLT,Nat.reduceLeDiff,Nat.reduceAdd,Nat.reduceSub,Nat.reduceMul,Nat.reduceBEq,Nat.reduceBNe,Nat.reducePow,Int.reduceToNat,Int.reduceLE,Int.reduceLT,Int.reduceMul,Int.reduceEq,Int.reducePow,Int.reduceAdd,Int.reduceSub,Int.reduceNeg,reduceCtorEq,cj,Tryz.results85,hp',hil,hc,hs,hcp]) | (with_reducible first | refine af ?_ | refine ai ?_ | refine aj ?_ | refine ay fun K hK=>?_ | refine ap ?_ | refine aq ?_ | refine aU ?_ | refine al ?_ | refine au ?_) | (with_reducible refine hK _ ?_;clear hK K) | ((with_reducible refine ag ?_ ?_);(· decide)) | (with_reducible refine bp ?_ ?_;(· (try and_intros) <;> first | omega | assumption | (simp only [List.length_append,List.length_map,List.length_cons,List.length_nil] <;> omega))) | (with_reducible refine ah (ho) ?_))
 ·obtain ⟨i,hi⟩ : ∃ i : Nat,(i : Int) = -l:=⟨(-l).toNat,by omega⟩
  have hp' : (0 < l) = False:=eq_false hp
  have hil : ((i : Int) < (a.length : Int)) = True:=eq_true (by omega)
  have hs:=zP a i (-1) (by omega)
  have hw : IntKind.i64.wrap (0 - l) = (i : Int):=by rw [aY (by omega) (by omega)];omega
  have hw2 : IntKind.i64.wrap (-l) = (i : Int):=by rw [aY (by omega) (by omega)];omega
  rw [if_neg hp,show l.natAbs = i by omega]
  have e : stG (a.set i (-1)) [] (q ++ [l]) (v + 1) = [.bc [.arr 20001 0 a.length 3,.ow 20002 0 (q.length + 1) (v + 1)] 146,.bc ((a.set i (-1)).map inA) 3,.br ((q ++ [l]).map inA) (v + 1) 3 1]:=by simp [stG]
  rw [e]
  simp only [stG] at ho ⊢
  refine aD [] Tryz.func85 rfl Tryz.ntmps85 (Nat.le_of_ble_eq_true rfl) (Nat.le_of_ble_eq_true rfl) fun w0 G0 B0 Pr hB0=>?_
  simp only [aO,aA,List.cons_append,List.nil_append]
  repeat' (first | (with_reducible refine hY _ ?_;clear hY Y) | ((with_reducible first | refine an rfl (ar fun K' hK'=>aa ?_) | refine hK' _ (ab fun Y hY=>aa ?_) | refine ab fun Y hY=>aa ?_ | refine ae tk0 cj (ab fun Y hY=>aa ?_) | refine aa ?_ | refine ao ?_);(try clear hK' K');(try dsimp only [aop]);try simp only [go_sem,↓reduceIte,Nat.reduceEqDiff,Nat.reduceLT,Nat.reduceLeDiff,Nat.reduceAdd,Nat.reduceSub,Nat.reduceMul,Nat.reduceBEq,Nat.reduceBNe,Nat.reducePow,Int.reduceToNat,Int.reduceLE,Int.reduceLT,Int.reduceMul,Int.reduceEq,Int.reducePow,Int.reduceAdd,Int.reduceSub,Int.reduceNeg,reduceCtorEq,cj,Tryz.results85,hp',hil,hc,hs,hcp,hw,hw2]) | (with_reducible first | refine af ?_ | refine ai ?_ | refine aj ?_ | refine ay fun K hK=>?_ | refine ap ?_ | refine aq ?_ | refine aU ?_ | refine al ?_ | refine au ?_) | (with_reducible refine hK _ ?_;clear hK K) | ((with_reducible refine ag ?_ ?_);(· decide)) | (with_reducible refine bp ?_ ?_;(· (try and_intros) <;> first | omega | assumption | (simp only [List.length_append,List.length_map,List.length_cons,List.length_nil] <;> omega))) | (with_reducible refine ah (ho) ?_))
theorem A6 (a pre q : List Int) (v : Nat) (l : Int) (hl : l.natAbs < a.length) (hb : a.length≤1000000) (ha : ∀ i,-1≤a.getD i 0∧a.getD i 0≤1) (h : ofA a l ≠ 0) :
  AFn Tryz.prog 85 [.loc 20000 0,inA l] (stG a pre q v) (.c (.bool (decide (ofA a l ≠ -1)))) (stG a pre q v):=by
 have ho:=wP a pre q v l hl hb ha
 generalize ofA a l = x at *
 simp only [stG] at ho ⊢
 generalize pre ++ q = Q at *
 by_cases h1 : x = -1
 ·rw [decide_eq_false (by simp [h1])]
  have h1' : (x = -1) = True:=eq_true h1
  refine aD [] Tryz.func85 rfl Tryz.ntmps85 (Nat.le_of_ble_eq_true rfl) (Nat.le_of_ble_eq_true rfl) fun w0 G0 B0 Pr hB0=>?_
  simp only [aO,aA,List.cons_append,List.nil_append]
  repeat' (first | (with_reducible refine hY _ ?_;clear hY Y) | ((with_reducible first | refine an rfl (ar fun K' hK'=>aa ?_) | refine hK' _ (ab fun Y hY=>aa ?_) | refine ab fun Y hY=>aa ?_ | refine ae tk0 cj (ab fun Y hY=>aa ?_) | refine aa ?_ | refine ao ?_);(try clear hK' K');(try dsimp only [aop]);try simp only [go_sem,↓reduceIte,Nat.reduceEqDiff,Nat.reduceLT,Nat.reduceLeDiff,Nat.reduceAdd,Nat.reduceSub,Nat.reduceMul,Nat.reduceBEq,Nat.reduceBNe,Nat.reducePow,Int.reduceToNat,Int.reduceLE,Int.reduceLT,Int.reduceMul,Int.reduceEq,Int.reducePow,Int.reduceAdd,Int.reduceSub,Int.reduceNeg,reduceCtorEq,cj,Tryz.results85,h1']) | (with_reducible first | refine af ?_ | refine ai ?_ | refine aj ?_ | refine ay fun K hK=>?_ | refine ap ?_ | refine aS ?_ | refine bb ?_ | refine al ?_ | refine au ?_) | (with_reducible refine hK _ ?_;clear hK K) | ((with_reducible refine ag ?_ ?_);(· decide)) | (with_reducible refine ah (ho) ?_))
 ·rw [decide_eq_true h1]
  have h1' : (x = -1) = False:=eq_false h1
  have h' : (x = 0) = False:=eq_false h
  refine aD [] Tryz.func85 rfl Tryz.ntmps85 (Nat.le_of_ble_eq_true rfl) (Nat.le_of_ble_eq_true rfl) fun w0 G0 B0 Pr hB0=>?_
  simp only [aO,aA,List.cons_append,List.nil_append]
  repeat' (first | (with_reducible refine hY _ ?_;clear hY Y) | ((with_reducible first | refine an rfl (ar fun K' hK'=>aa ?_) | refine hK' _ (ab fun Y hY=>aa ?_) | refine ab fun Y hY=>aa ?_ | refine ae tk0 cj (ab fun Y hY=>aa ?_) | refine aa ?_ | refine ao ?_);(try clear hK' K');(try dsimp only [aop]);try simp only [go_sem,↓reduceIte,Nat.reduceEqDiff,Nat.reduceLT,Nat.reduceLeDiff,Nat.reduceAdd,Nat.reduceSub,Nat.reduceMul,Nat.reduceBEq,Nat.reduceBNe,Nat.reducePow,Int.reduceToNat,Int.reduceLE,Int.reduceLT,Int.reduceMul,Int.reduceEq,Int.reducePow,Int.reduceAdd,Int.reduceSub,Int.reduceNeg,reduceCtorEq,cj,Tryz.results85,h1',h']) | (with_reducible first | refine af ?_ | refine ai ?_ | refine aj ?_ | refine ay fun K hK=>?_ | refine aq ?_ | refine aU ?_ | refine al ?_ | refine av ?_ | refine au ?_) | (with_reducible refine hK _ ?_;clear hK K) | ((with_reducible refine ag ?_ ?_);(· decide)) | (with_reducible refine ah (ho) ?_))
end Go.Proofs.YtmpdocplcgbpkaaGreatDoor
namespace Go.Proofs.YtmpdocplcgbpkaaGreatDoor
set_option linter.unusedSimpArgs false
set_option linter.unusedVariables false
open Go.RowKit
def dW (a : List Int) : List Int→Int→Bool × Int
 | [],one=>(false,one)
 | l :: r,one=>if ofA a l = 1 then (true,0) else if ofA a l = 0 then (if one ≠ 0∧one ≠ l then (true,0) else dW a r l) else dW a r one
structure Sta where
 a : List Int
 pre : List Int
 q : List Int
 v : Nat
abbrev stS (s : Sta) : List AV:=stG s.a s.pre s.q s.v
def ny (s : Sta) (l : Int) : Sta:=⟨s.a.set l.natAbs (if 0 < l then 1 else -1),[],s.q ++ [l],s.v + 1⟩
def d8 (s : Sta) (c : List Int) : Bool × Sta :=
 if (dW s.a c 0).1 then (true,s) else if (dW s.a c 0).2 = 0 then (false,s) else (true,ny s (dW s.a c 0).2)
theorem jH (a : List Int) : ∀ (c : List Int) (one : Int),(one ≠ 0→ofA a one = 0)→(∀ l ∈ c,l ≠ 0)→((dW a c one).2 ≠ 0→ofA a (dW a c one).2 = 0)
 | [],one,h,_=>h
 | l :: r,one,h,hc=>by
  rw [dW]
  split
  ·exact fun e=>absurd rfl e
  ·split
   ·rename_i h0
    split
    ·exact fun e=>absurd rfl e
    ·exact jH a r l (fun _=>h0) fun x hx=>hc x (by simp [hx])
   ·exact jH a r one h fun x hx=>hc x (by simp [hx])
theorem gw (a : List Int) : ∀ (c : List Int) (one : Int),(dW a c one).2 = 0∨(dW a c one).2 = one∨(dW a c one).2 ∈ c
 | [],one=>.inr (.inl rfl)
 | l :: r,one=>by
  rw [dW]
  split
  ·exact .inl rfl
  ·split
   ·split
    ·exact .inl rfl
    ·rcases gw a r l with h | h | h
     ·exact .inl h
     ·exact .inr (.inr (by rw [h];simp))
     ·exact .inr (.inr (by simp [h]))
   ·rcases gw a r one with h | h | h
    ·exact .inl h
    ·exact .inr (.inl h)
    ·exact .inr (.inr (by simp [h]))
theorem BL {c : List Int} {k : Nat} (h : k < c.length) : (c.map inA).getD k .u = inA c[k]:=by simp [List.getD_eq_getElem?_getD,h]
set_option maxRecDepth 100000 in
set_option maxHeartbeats 8000000 in
theorem yP (s : Sta) (c : List Int) (hb : s.a.length≤1000000) (hq : s.q.length≤1000000) (ha : ∀ i,-1≤s.a.getD i 0∧s.a.getD i 0≤1) (hcl : Lg c) (hc : ∀ l ∈ c,l ≠ 0∧l.natAbs < s.a.length) :
  AFn Tryz.prog 86 [.loc 20000 0,dr c] (stS s) (.c (.bool (d8 s c).1)) (stS (d8 s c).2):=by
 obtain ⟨a,pre,q,v⟩:=s
 simp only at hb hq ha hc
 unfold Lg at hcl
 unfold d8
 simp only
 have hof:=fun l (hl : l ∈ c)=>wP a pre q v l (hc l hl).2 hb ha
 have h1:=jH a c 0 (fun h=>absurd rfl h) fun l hl=>(hc l hl).1
 have hm:=gw a c 0
 have h0 : dW a (c.drop 0) 0 = dW a c 0:=by rw [List.drop_zero]
 generalize dW a c 0 = R at *
 refine aD [] Tryz.func86 rfl Tryz.ntmps86 (Nat.le_of_ble_eq_true rfl) (Nat.le_of_ble_eq_true rfl) fun w0 G0 B0 Pr hB0=>?_
 simp only [aO,aA,List.cons_append,List.nil_append]
 repeat' (first | (with_reducible refine hY _ ?_;clear hY Y) | ((with_reducible first | refine an rfl (ar fun K' hK'=>aa ?_) | refine hK' _ (ab fun Y hY=>aa ?_) | refine ae tk0 bn (ab fun Y hY=>aa ?_));(try clear hK' K');(try dsimp only [aop]);try simp only [go_sem,↓reduceIte,Nat.reduceEqDiff,Nat.reduceLT,Nat.reduceLeDiff,Nat.reduceAdd,Nat.reduceSub,Nat.reduceMul,Nat.reduceBEq,Nat.reduceBNe,Nat.reducePow,Int.reduceToNat,Int.reduceLE,Int.reduceLT,Int.reduceMul,Int.reduceEq,Int.reducePow,Int.reduceAdd,Int.reduceSub,Int.reduceNeg,reduceCtorEq,bn,Tryz.results86]) | (with_reducible first | refine af ?_ | refine ai ?_ | refine aj ?_ | refine ay fun K hK=>?_ | refine al ?_ | refine bG ?_) | (with_reducible refine hK _ ?_;clear hK K))
 refine bK (α:=Nat × Int) (fun x=>[(0,.loc 20000 0),(5,inA x.2),(8,dr c),(9,inA (c.length : Int)),(10,inA (x.1 : Int)),(20000,.bc [.arr 20001 0 a.length 3,.ow 20002 pre.length q.length v] 146),(20001,.bc (a.map inA) 3),(20002,.br ((pre ++ q).map inA) v 3 1)])
  (fun x=>x.1≤c.length∧dW a (c.drop x.1) x.2 = R) (fun x=>c.length - x.1) (0,0) [0,5,8,9,10] ?_ ⟨Nat.zero_le _,h0⟩ ?_
 ·simp only [go_sem,↓reduceIte,Nat.reduceEqDiff,Nat.reduceLT,Nat.reduceLeDiff,Nat.reduceAdd,Nat.reduceSub,Nat.reduceMul,Nat.reduceBEq,Nat.reduceBNe,Nat.reducePow,Int.reduceToNat,Int.reduceLE,Int.reduceLT,Int.reduceMul,Int.reduceEq,Int.reducePow,Int.reduceAdd,Int.reduceSub,Int.reduceNeg,reduceCtorEq] <;> rfl
 clear h0
 rintro ⟨k,one⟩ ⟨hk,hR⟩ ih
 simp only at hk hR ih ⊢
 by_cases hlt : k < c.length
 ·have hlt' : ((k : Int) < (c.length : Int)) = True:=eq_true (by omega)
  have hkw:=cf (n:=k) (by omega)
  have hg0:=BL hlt
  have hfl : (c.map inA).length = c.length:=List.length_map ..
  have ho:=hof _ (List.getElem_mem hlt)
  rw [List.drop_eq_getElem_cons hlt,dW] at hR
  have ihx:=fun o e=>ih (k + 1,o) ⟨by simp only;omega,e⟩ (by simp only;omega)
  simp only at ihx
  clear ih hof h1 hm hc
  simp only [stG] at ho
  generalize c[k] = l at *
  generalize ofA a l = y at *
  by_cases y1 : y = 1
  ·rw [if_pos y1] at hR
   subst hR
   have y1' : (y = 1) = True:=eq_true y1
   rw [if_pos rfl]
   clear ihx
   repeat' (first | (with_reducible refine hY _ ?_;clear hY Y) | ((with_reducible first | refine an rfl (ar fun K' hK'=>aa ?_) | refine hK' _ (ab fun Y hY=>aa ?_) | refine ab fun Y hY=>aa ?_ | refine ae tk0 bn (ab fun Y hY=>aa ?_) | refine aa ?_ | refine ao ?_);(try clear hK' K');(try dsimp only [aop]);try simp only [go_sem,↓reduceIte,Nat.reduceEqDiff,Nat.reduceLT,Nat.reduceLeDiff,Nat.reduceAdd,Nat.reduceSub,Nat.reduceMul,Nat.reduceBEq,Nat.reduceBNe,Nat.reducePow,Int.reduceToNat,Int.reduceLE,Int.reduceLT,Int.reduceMul,Int.reduceEq,Int.reducePow,Int.reduceAdd,Int.reduceSub,Int.reduceNeg,reduceCtorEq,bn,Tryz.results86,hlt',hfl,hg0,y1']) | (with_reducible first | refine af ?_ | refine ai ?_ | refine aj ?_ | refine ay fun K hK=>?_ | refine ap ?_ | refine aS ?_ | refine bb ?_ | refine al ?_ | refine av ?_ | refine au ?_) | (with_reducible refine hK _ ?_;clear hK K) | ((with_reducible refine ag ?_ ?_);(· decide)) | (with_reducible refine bp ?_ ?_;(· (try and_intros) <;> first | omega | assumption | (simp only [List.length_append,List.length_map,List.length_cons,List.length_nil] <;> omega))) | (with_reducible refine ah (ho) ?_))
  rw [if_neg y1] at hR
  have y1' : (y = 1) = False:=eq_false y1
  by_cases y0 : y = 0
  ·rw [if_pos y0] at hR
   have y0' : (y = 0) = True:=eq_true y0
   subst y0
   by_cases o1 : one ≠ 0∧one ≠ l
   ·rw [if_pos o1] at hR
    subst hR
    rw [if_pos rfl]
    have e1 : (one = 0) = False:=eq_false o1.1
    have e2 : (one = l) = False:=eq_false o1.2
    clear ihx
    repeat' (first | (with_reducible refine hY _ ?_;clear hY Y) | ((with_reducible first | refine an rfl (ar fun K' hK'=>aa ?_) | refine hK' _ (ab fun Y hY=>aa ?_) | refine bl rfl (ab fun Y hY=>aa ?_) | refine ab fun Y hY=>aa ?_ | refine ar fun K' hK'=>aa ?_ | refine ae tk0 bn (ab fun Y hY=>aa ?_) | refine aa ?_ | refine ao ?_);(try clear hK' K');(try dsimp only [aop]);try simp only [go_sem,↓reduceIte,Nat.reduceEqDiff,Nat.reduceLT,Nat.reduceLeDiff,Nat.reduceAdd,Nat.reduceSub,Nat.reduceMul,Nat.reduceBEq,Nat.reduceBNe,Nat.reducePow,Int.reduceToNat,Int.reduceLE,Int.reduceLT,Int.reduceMul,Int.reduceEq,Int.reducePow,Int.reduceAdd,Int.reduceSub,Int.reduceNeg,reduceCtorEq,bn,Tryz.results86,hlt',hfl,hg0,e1,e2]) | (with_reducible first | refine af ?_ | refine aL ?_ | refine ai ?_ | refine aj ?_ | refine ay fun K hK=>?_ | refine ap ?_ | refine aq ?_ | refine aS ?_ | refine bb ?_ | refine al ?_ | refine av ?_ | refine au ?_) | (with_reducible refine hK _ ?_;clear hK K) | ((with_reducible first | refine aG ?_ ?_ | refine ag ?_ ?_);(· decide)) | (with_reducible refine bp ?_ ?_;(· (try and_intros) <;> first | omega | assumption | (simp only [List.length_append,List.length_map,List.length_cons,List.length_nil] <;> omega))) | (with_reducible refine ah (ho) ?_))
   ·rw [if_neg o1] at hR
    have ih':=ihx l hR
    clear ihx
    by_cases e0 : one = 0
    ·have e1 : (one = 0) = True:=eq_true e0
     repeat' (first | (with_reducible refine hY _ ?_;clear hY Y) | ((with_reducible first | refine an rfl (ar fun K' hK'=>aa ?_) | refine hK' _ (ab fun Y hY=>aa ?_) | refine bl rfl (ab fun Y hY=>aa ?_) | refine ab fun Y hY=>aa ?_ | refine ae tk0 bn (ab fun Y hY=>aa ?_) | refine aa ?_);(try clear hK' K');(try dsimp only [aop]);try simp only [go_sem,↓reduceIte,Nat.reduceEqDiff,Nat.reduceLT,Nat.reduceLeDiff,Nat.reduceAdd,Nat.reduceSub,Nat.reduceMul,Nat.reduceBEq,Nat.reduceBNe,Nat.reducePow,Int.reduceToNat,Int.reduceLE,Int.reduceLT,Int.reduceMul,Int.reduceEq,Int.reducePow,Int.reduceAdd,Int.reduceSub,Int.reduceNeg,reduceCtorEq,bn,Tryz.results86,hlt',hfl,hg0,hkw,e1]) | (with_reducible first | refine af ?_ | refine bh rfl ?_ | refine cS ?_ ?_ | refine ai ?_ | refine aj ?_ | refine ay fun K hK=>?_ | refine ap ?_ | refine aq ?_ | refine aU ?_ | refine al ?_ | refine av ?_) | (with_reducible refine hK _ ?_;clear hK K) | ((with_reducible first | refine aG ?_ ?_ | refine ag ?_ ?_);(· decide)) | (with_reducible refine bp ?_ ?_;(· (try and_intros) <;> first | omega | assumption | (simp only [List.length_append,List.length_map,List.length_cons,List.length_nil] <;> omega))) | (with_reducible refine ah (ho) ?_))
     refine bi [0,5,8,9,10] (by simp only [go_sem,↓reduceIte,Nat.reduceEqDiff,Nat.reduceLT,Nat.reduceLeDiff,Nat.reduceAdd,Nat.reduceSub,Nat.reduceMul,Nat.reduceBEq,Nat.reduceBNe,Nat.reducePow,Int.reduceToNat,Int.reduceLE,Int.reduceLT,Int.reduceMul,Int.reduceEq,Int.reducePow,Int.reduceAdd,Int.reduceSub,Int.reduceNeg,reduceCtorEq];exact rfl) ?_
     exact ih'
    ·have e1 : (one = 0) = False:=eq_false e0
     have e2 : (one = l) = True:=eq_true (by
      by_cases e : one = l
      ·exact e
      ·exact absurd ⟨e0,e⟩ o1)
     repeat' (first | (with_reducible refine hY _ ?_;clear hY Y) | ((with_reducible first | refine an rfl (ar fun K' hK'=>aa ?_) | refine hK' _ (ab fun Y hY=>aa ?_) | refine bl rfl (ab fun Y hY=>aa ?_) | refine ab fun Y hY=>aa ?_ | refine ar fun K' hK'=>aa ?_ | refine ae tk0 bn (ab fun Y hY=>aa ?_) | refine aa ?_);(try clear hK' K');(try dsimp only [aop]);try simp only [go_sem,↓reduceIte,Nat.reduceEqDiff,Nat.reduceLT,Nat.reduceLeDiff,Nat.reduceAdd,Nat.reduceSub,Nat.reduceMul,Nat.reduceBEq,Nat.reduceBNe,Nat.reducePow,Int.reduceToNat,Int.reduceLE,Int.reduceLT,Int.reduceMul,Int.reduceEq,Int.reducePow,Int.reduceAdd,Int.reduceSub,Int.reduceNeg,reduceCtorEq,bn,Tryz.results86,hlt',hfl,hg0,hkw,e1,e2]) | (with_reducible first | refine af ?_ | refine aL ?_ | refine ai ?_ | refine aj ?_ | refine ay fun K hK=>?_ | refine ap ?_ | refine aq ?_ | refine aU ?_ | refine al ?_ | refine av ?_) | (with_reducible refine hK _ ?_;clear hK K) | ((with_reducible first | refine aG ?_ ?_ | refine ag ?_ ?_);(· decide)) | (with_reducible refine bp ?_ ?_;(· (try and_intros) <;> first | omega | assumption | (simp only [List.length_append,List.length_map,List.length_cons,List.length_nil] <;> omega))) | (with_reducible refine ah (ho) ?_))
     refine bi [0,5,8,9,10] (by simp only [go_sem,↓reduceIte,Nat.reduceEqDiff,Nat.reduceLT,Nat.reduceLeDiff,Nat.reduceAdd,Nat.reduceSub,Nat.reduceMul,Nat.reduceBEq,Nat.reduceBNe,Nat.reducePow,Int.reduceToNat,Int.reduceLE,Int.reduceLT,Int.reduceMul,Int.reduceEq,Int.reducePow,Int.reduceAdd,Int.reduceSub,Int.reduceNeg,reduceCtorEq];exact rfl) ?_
     exact ih'
  ·rw [if_neg y0] at hR
   have y0' : (y = 0) = False:=eq_false y0
   have ih':=ihx one hR
   clear ihx
   repeat' (first | (with_reducible refine hY _ ?_;clear hY Y) | ((with_reducible first | refine an rfl (ar fun K' hK'=>aa ?_) | refine hK' _ (ab fun Y hY=>aa ?_) | refine ab fun Y hY=>aa ?_ | refine ae tk0 bn (ab fun Y hY=>aa ?_) | refine aa ?_);(try clear hK' K');(try dsimp only [aop]);try simp only [go_sem,↓reduceIte,Nat.reduceEqDiff,Nat.reduceLT,Nat.reduceLeDiff,Nat.reduceAdd,Nat.reduceSub,Nat.reduceMul,Nat.reduceBEq,Nat.reduceBNe,Nat.reducePow,Int.reduceToNat,Int.reduceLE,Int.reduceLT,Int.reduceMul,Int.reduceEq,Int.reducePow,Int.reduceAdd,Int.reduceSub,Int.reduceNeg,reduceCtorEq,bn,Tryz.results86,hlt',hfl,hg0,hkw,y1',y0']) | (with_reducible first | refine af ?_ | refine ai ?_ | refine aj ?_ | refine ay fun K hK=>?_ | refine ap ?_ | refine aq ?_ | refine aU ?_ | refine al ?_ | refine av ?_) | (with_reducible refine hK _ ?_;clear hK K) | ((with_reducible refine ag ?_ ?_);(· decide)) | (with_reducible refine bp ?_ ?_;(· (try and_intros) <;> first | omega | assumption | (simp only [List.length_append,List.length_map,List.length_cons,List.length_nil] <;> omega))) | (with_reducible refine ah (ho) ?_))
   refine bi [0,5,8,9,10] (by simp only [go_sem,↓reduceIte,Nat.reduceEqDiff,Nat.reduceLT,Nat.reduceLeDiff,Nat.reduceAdd,Nat.reduceSub,Nat.reduceMul,Nat.reduceBEq,Nat.reduceBNe,Nat.reducePow,Int.reduceToNat,Int.reduceLE,Int.reduceLT,Int.reduceMul,Int.reduceEq,Int.reducePow,Int.reduceAdd,Int.reduceSub,Int.reduceNeg,reduceCtorEq];exact rfl) ?_
   exact ih'
 ·have hlt' : ((k : Int) < (c.length : Int)) = False:=eq_false (by omega)
  obtain rfl : R = (false,one):=by rw [← hR,List.drop_eq_nil_of_le (by omega),dW]
  simp only [Bool.false_eq_true,if_false] at h1 hm ⊢
  clear ih hof hR
  by_cases e0 : one = 0
  ·have e1 : (one = 0) = True:=eq_true e0
   rw [if_pos e0]
   simp only [stG]
   repeat' (first | (with_reducible refine hY _ ?_;clear hY Y) | ((with_reducible first | refine an rfl (ar fun K' hK'=>aa ?_) | refine hK' _ (ab fun Y hY=>aa ?_) | refine bl rfl (ab fun Y hY=>aa ?_) | refine ab fun Y hY=>aa ?_ | refine ae tk0 bn (ab fun Y hY=>aa ?_) | refine aa ?_ | refine ao ?_);(try clear hK' K');(try dsimp only [aop]);try simp only [go_sem,↓reduceIte,Nat.reduceEqDiff,Nat.reduceLT,Nat.reduceLeDiff,Nat.reduceAdd,Nat.reduceSub,Nat.reduceMul,Nat.reduceBEq,Nat.reduceBNe,Nat.reducePow,Int.reduceToNat,Int.reduceLE,Int.reduceLT,Int.reduceMul,Int.reduceEq,Int.reducePow,Int.reduceAdd,Int.reduceSub,Int.reduceNeg,reduceCtorEq,bn,Tryz.results86,hlt',e1]) | (with_reducible first | refine af ?_ | refine bh rfl ?_ | refine cS ?_ ?_ | refine ai ?_ | refine aj ?_ | refine ay fun K hK=>?_ | refine aq ?_ | refine bC ?_ | refine bg ?_ | refine au ?_ | refine bf ?_) | (with_reducible refine hK _ ?_;clear hK K) | ((with_reducible first | refine aG ?_ ?_ | refine ag ?_ ?_);(· decide)))
  ·have e1 : (one = 0) = False:=eq_false e0
   rw [if_neg e0]
   have hmem : one ∈ c:=by
    rcases hm with h | h | h
    ·exact absurd h e0
    ·exact absurd h e0
    ·exact h
   have hs:=w8 a pre q v one (hc one hmem).2 hb hq ha (h1 e0)
   have ep : stS (ny ⟨a,pre,q,v⟩ one) = stG (a.set one.natAbs (if 0 < one then 1 else -1)) [] (q ++ [one]) (v + 1):=rfl
   rw [ep]
   have hal : (a.set one.natAbs (if 0 < one then 1 else -1)).length = a.length:=List.length_set ..
   simp only [stG,hal] at hs ⊢
   generalize a.set one.natAbs (if 0 < one then 1 else -1) = A2 at *
   generalize ([] : List Int) ++ (q ++ [one]) = Q2 at *
   repeat' (first | (with_reducible refine hY _ ?_;clear hY Y) | ((with_reducible first | refine an rfl (ar fun K' hK'=>aa ?_) | refine hK' _ (ab fun Y hY=>aa ?_) | refine bl rfl (ab fun Y hY=>aa ?_) | refine ab fun Y hY=>aa ?_ | refine ar fun K' hK'=>aa ?_ | refine ae tk0 bn (ab fun Y hY=>aa ?_) | refine aa ?_ | refine ao ?_);(try clear hK' K');(try dsimp only [aop]);try simp only [go_sem,↓reduceIte,Nat.reduceEqDiff,Nat.reduceLT,Nat.reduceLeDiff,Nat.reduceAdd,Nat.reduceSub,Nat.reduceMul,Nat.reduceBEq,Nat.reduceBNe,Nat.reducePow,Int.reduceToNat,Int.reduceLE,Int.reduceLT,Int.reduceMul,Int.reduceEq,Int.reducePow,Int.reduceAdd,Int.reduceSub,Int.reduceNeg,reduceCtorEq,bn,Tryz.results86,hlt',e1]) | (with_reducible first | refine af ?_ | refine aL ?_ | refine ai ?_ | refine aj ?_ | refine ay fun K hK=>?_ | refine aq ?_ | refine bC ?_ | refine bg ?_ | refine au ?_ | refine bf ?_) | (with_reducible refine hK _ ?_;clear hK K) | ((with_reducible first | refine aG ?_ ?_ | refine ag ?_ ?_);(· decide)) | (with_reducible refine ah (hs) ?_))
end Go.Proofs.YtmpdocplcgbpkaaGreatDoor

/- What follows, in K: an assignment that grows. What follows, in K: a clause is looked at. -/
import Derived.Test.YtmpdocplcgbpkaaGreatDoorZ10
namespace Go.Proofs.YtmpdocplcgbpkaaGreatDoor
set_option linter.unusedSimpArgs false
set_option linter.unusedVariables false
open Go.RowKit
def c9 : Nat → List Nat
 | 0 => [0,1]
 | 1 => [0,1]
 | 2 => [0,1]
 | 3 => [0,1]
 | _ => []
def cd : Nat → List Nat
 | 0 => [0,1]
 | 1 => [0,1]
 | 2 => [0,1,7]
 | 3 => []
 | 4 => [0,1,7]
 | 5 => [0,1]
 | 6 => [0,1]
 | 7 => [0,1]
 | 8 => [0,1]
 | 9 => []
 | _ => []
def bA : Nat → List Nat
 | 0 => [0,1]
 | 1 => [0,1]
 | 2 => [0,1,5]
 | 3 => [0,5,8,9,10]
 | 4 => [0,5,8,9,10]
 | 5 => [0,5,7,8,9,10]
 | 6 => [0,5,7,8,9,10,16]
 | 7 => []
 | 8 => [0,5,7,8,9,10,16]
 | 9 => [0,5,7,8,9,10]
 | 10 => []
 | 11 => [0,7,8,9,10]
 | 12 => [0,5,8,9,10]
 | 13 => [0,5]
 | _ => []
def ofA (a : List Int) (l : Int) : Int := if l < 0 then -(a.getD (-l).toNat 0) else a.getD l.toNat 0
abbrev stG (a pre q : List Int) (v : Nat) : List AV := [.bc [.arr 20001 0 a.length 3,.ow 20002 pre.length q.length v] 146,.bc (a.map inA) 3,.br ((pre ++ q).map inA) v 3 1]
theorem x8 {a : List Int} {i : Nat} (h : i < a.length) : (a.map inA)[i]? = some (inA (a.getD i 0)) := by
 rw [List.getElem?_map,List.getElem?_eq_getElem h,List.getD_eq_getElem?_getD,List.getElem?_eq_getElem h];rfl
theorem xL {a : List Int} {i : Nat} (h : i < a.length) : (a.map inA).getD i .u = inA (a.getD i 0) := by
 rw [List.getD_eq_getElem?_getD,x8 h];rfl
theorem yP (g : List (Nat × Nat)) (a : List Int) : (a.map inA).map (ren g 4) = a.map inA := by rw [List.map_map];exact List.map_congr_left fun x _ => rfl
theorem vZ (ex : List Nat) (σ : bT) (a : List Int) : (a.map inA).map (eQ ex σ 4) = a.map inA := by rw [List.map_map];exact List.map_congr_left fun x _ => rfl
theorem uK (t : Bool) (a : List Int) : (a.map inA).flatMap (fw t 4) = [] := by
 rw [List.flatMap_eq_nil_iff]
 intro x hx
 obtain ⟨y,_,rfl⟩ := List.mem_map.1 hx
 rfl
theorem uJ (t : Bool) (a : List Int) : (a.map inA).flatMap (fw t 3) = [] := by
 rw [List.flatMap_eq_nil_iff]
 intro x hx
 obtain ⟨y,_,rfl⟩ := List.mem_map.1 hx
 rfl
theorem sT (b : Nat) (a : List Int) : (a.map inA).any (cQ b 4) = false := by
 rw [List.any_eq_false]
 intro x hx
 obtain ⟨y,_,rfl⟩ := List.mem_map.1 hx
 simp [cQ]
attribute [go_sem] yP vZ uK uJ sT
set_option maxRecDepth 100000 in
set_option maxHeartbeats 8000000 in
theorem uN (a pre q : List Int) (v : Nat) (l : Int) (hl : l.natAbs < a.length) (hb : a.length ≤ 1000000) (ha : ∀ i,-1 ≤ a.getD i 0 ∧ a.getD i 0 ≤ 1) :
  AFn Tryz.prog 115 [.loc 20000 0,inA l] (stG a pre q v) (inA (ofA a l)) (stG a pre q v) := by
 unfold ofA
 by_cases hn : l < 0
 ·obtain ⟨i,hi⟩ : ∃ i : Nat,(i : Int) = -l := ⟨(-l).toNat,by omega⟩
  have hn' : (l < 0) = True := eq_true hn
  have hw : IntKind.i64.wrap (0 - l) = (i : Int) := by rw [bQ (by omega) (by omega)];omega
  have hw2 : IntKind.i64.wrap (-l) = (i : Int) := by rw [bQ (by omega) (by omega)];omega
  have hia : i < a.length := by omega
  have hil : ((i : Int) < (a.length : Int)) = True := eq_true (by omega)
  have hg := x8 hia
  have hg2 := xL hia
  rw [if_pos hn,show (-l).toNat = i by omega]
  have hv := ha i
  have hw3 : IntKind.i64.wrap (0 - a.getD i 0) = -a.getD i 0 := by rw [bQ (by omega) (by omega)];omega
  have hw4 : IntKind.i64.wrap (-a.getD i 0) = -a.getD i 0 := bQ (by omega) (by omega)
  have hal : (a.map inA).length = a.length := List.length_map ..
  generalize a.getD i 0 = x at *
  simp only [stG]
  generalize pre ++ q = Q at *
  refine bm [] Tryz.func115 rfl Tryz.ntmps115 (Nat.le_of_ble_eq_true rfl) (Nat.le_of_ble_eq_true rfl) fun w0 G0 B0 Pr hB0 => ?_
  simp only [bD,bj,List.cons_append,List.nil_append]
  repeat' (first | (with_reducible refine hY _ ?_;clear hY Y) | ((with_reducible first | refine aX rfl (aR fun K' hK' => aa ?_) | refine hK' _ (ab fun Y hY => aa ?_) | refine ab fun Y hY => aa ?_ | refine ag tk0 c9 (ab fun Y hY => aa ?_) | refine aa ?_ | refine aH ?_);(try clear hK' K');(try dsimp only [aop]);try simp only [go_sem,↓reduceIte,Nat.reduceEqDiff,Nat.reduceLT,Nat.reduceLeDiff,Nat.reduceAdd,Nat.reduceSub,Nat.reduceMul,Nat.reduceBEq,Nat.reduceBNe,Nat.reducePow,Int.reduceToNat,Int.reduceLE,Int.reduceLT,Int.reduceMul,Int.reduceEq,Int.reducePow,Int.reduceAdd,Int.reduceSub,Int.reduceNeg,reduceCtorEq,c9,Tryz.results115,hn',hw,hw2,hil,hg,hg2,hw3,hw4,hal]) | (with_reducible first | refine aI ?_ | refine aP ?_ | refine aS ?_ | refine bi fun K hK => ?_ | refine aD ?_ | refine aQ ?_ | refine aL ?_) | (with_reducible refine hK _ ?_;clear hK K) | ((with_reducible refine ai ?_ ?_);(· decide)) | (with_reducible refine aV ?_ ?_;(· (try and_intros) <;> first | omega | assumption | (simp only [List.length_append,List.length_map,List.length_cons,List.length_nil] <;> omega))))
 ·obtain ⟨i,rfl⟩ : ∃ i : Nat,l = (i : Int) := ⟨l.toNat,by omega⟩
  have hn' : ((i : Int) < 0) = False := eq_false hn
  have hia : i < a.length := by omega
  have hil : ((i : Int) < (a.length : Int)) = True := eq_true (by omega)
  have hg := x8 hia
  have hg2 := xL hia
  rw [if_neg hn,Int.toNat_natCast]
  have hal : (a.map inA).length = a.length := List.length_map ..
  generalize a.getD i 0 = x at *
  simp only [stG]
  generalize pre ++ q = Q at *
  refine bm [] Tryz.func115 rfl Tryz.ntmps115 (Nat.le_of_ble_eq_true rfl) (Nat.le_of_ble_eq_true rfl) fun w0 G0 B0 Pr hB0 => ?_
  simp only [bD,bj,List.cons_append,List.nil_append]
  repeat' (first | (with_reducible refine hY _ ?_;clear hY Y) | ((with_reducible first | refine aX rfl (aR fun K' hK' => aa ?_) | refine hK' _ (ab fun Y hY => aa ?_) | refine ab fun Y hY => aa ?_ | refine ag tk0 c9 (ab fun Y hY => aa ?_) | refine aa ?_ | refine aH ?_);(try clear hK' K');(try dsimp only [aop]);try simp only [go_sem,↓reduceIte,Nat.reduceEqDiff,Nat.reduceLT,Nat.reduceLeDiff,Nat.reduceAdd,Nat.reduceSub,Nat.reduceMul,Nat.reduceBEq,Nat.reduceBNe,Nat.reducePow,Int.reduceToNat,Int.reduceLE,Int.reduceLT,Int.reduceMul,Int.reduceEq,Int.reducePow,Int.reduceAdd,Int.reduceSub,Int.reduceNeg,reduceCtorEq,c9,Tryz.results115,hn',hil,hg,hg2,hal]) | (with_reducible first | refine aI ?_ | refine aP ?_ | refine aS ?_ | refine bi fun K hK => ?_ | refine aC ?_ | refine av ?_ | refine aL ?_) | (with_reducible refine hK _ ?_;clear hK K) | ((with_reducible refine ai ?_ ?_);(· decide)) | (with_reducible refine aV ?_ ?_;(· (try and_intros) <;> first | omega | assumption | (simp only [List.length_append,List.length_map,List.length_cons,List.length_nil] <;> omega))))
theorem zr (pre q : List Int) : dO ((pre ++ q).map inA) (pre.length * 1) (q.length * 1) = q.map inA := by
 have e : (((pre ++ q).map inA).drop pre.length).take q.length = q.map inA := by
  rw [List.map_append,List.drop_left' (List.length_map ..),List.take_of_length_le (by rw [List.length_map];exact Nat.le_refl _)]
 unfold dO
 rw [Nat.mul_one,Nat.mul_one]
 split
 ·rename_i h
  obtain ⟨h1,h2⟩ := h
  have : pre = [] := List.eq_nil_of_length_eq_zero h1
  subst this
  rfl
 ·exact e
theorem yK (pre q : List Int) : (if pre.length = 0 ∧ (pre ++ q).length = q.length then (pre ++ q).map inA else (((pre ++ q).map inA).drop pre.length).take q.length) = q.map inA := by
 have := zr pre q
 unfold dO at this
 rw [Nat.mul_one,Nat.mul_one,List.length_map] at this
 exact this
theorem xM (a : List Int) (i : Nat) (x : Int) (h : i < a.length) : (a.map inA).take i ++ [AV.c (.int .i64 x)] ++ (a.map inA).drop (i + 1) = (a.set i x).map inA := by
 rw [← List.map_take,← List.map_drop,List.set_eq_take_append_cons_drop,if_pos h]
 simp
theorem yL (q : List Int) (x : Int) : q.map inA ++ [AV.c (.int .i64 x)] = (q ++ [x]).map inA := by simp
set_option maxRecDepth 100000 in
set_option maxHeartbeats 8000000 in
theorem u4 (a pre q : List Int) (v : Nat) (l : Int) (hl : l.natAbs < a.length) (hb : a.length ≤ 1000000) (hq : q.length ≤ 1000000) (ha : ∀ i,-1 ≤ a.getD i 0 ∧ a.getD i 0 ≤ 1) (h : ofA a l = 0) :
  AFn Tryz.prog 85 [.loc 20000 0,inA l] (stG a pre q v) (.c (.bool true)) (stG (a.set l.natAbs (if 0 < l then 1 else -1)) [] (q ++ [l]) (v + 1)) := by
 have ho := uN a pre q v l hl hb ha
 rw [h] at ho
 have hc := yK pre q
 have hcp := yL q l
 have hw1 : IntKind.i64.wrap (-1) = -1 := rfl
 by_cases hp : 0 < l
 ·obtain ⟨i,rfl⟩ : ∃ i : Nat,l = (i : Int) := ⟨l.toNat,by omega⟩
  have hp' : ((0 : Int) < (i : Int)) = True := eq_true hp
  have hil : ((i : Int) < (a.length : Int)) = True := eq_true (by omega)
  have hs := xM a i 1 (by omega)
  rw [if_pos hp,show ((i : Int)).natAbs = i from rfl]
  have e : stG (a.set i 1) [] (q ++ [(i : Int)]) (v + 1) = [.bc [.arr 20001 0 a.length 3,.ow 20002 0 (q.length + 1) (v + 1)] 146,.bc ((a.set i 1).map inA) 3,.br ((q ++ [(i : Int)]).map inA) (v + 1) 3 1] := by simp [stG]
  rw [e]
  simp only [stG] at ho ⊢
  refine bm [] Tryz.func85 rfl Tryz.ntmps85 (Nat.le_of_ble_eq_true rfl) (Nat.le_of_ble_eq_true rfl) fun w0 G0 B0 Pr hB0 => ?_
  simp only [bD,bj,List.cons_append,List.nil_append]
  repeat' (first | (with_reducible refine hY _ ?_;clear hY Y) | ((with_reducible first | refine aX rfl (aR fun K' hK' => aa ?_) | refine hK' _ (ab fun Y hY => aa ?_) | refine ab fun Y hY => aa ?_ | refine ag tk0 cd (ab fun Y hY => aa ?_) | refine aa ?_ | refine aH ?_);(try clear hK' K');(try dsimp only [aop]);try simp only [go_sem,↓reduceIte,Nat.reduceEqDiff,Nat.reduceLT,Nat.reduceLeDiff,Nat.reduceAdd,Nat.reduceSub,Nat.reduceMul,Nat.reduceBEq,Nat.reduceBNe,Nat.reducePow,Int.reduceToNat,Int.reduceLE,Int.reduceLT,Int.reduceMul,Int.reduceEq,Int.reducePow,Int.reduceAdd,Int.reduceSub,Int.reduceNeg,reduceCtorEq,cd,Tryz.results85,hp',hil,hc,hs,hcp]) | (with_reducible first | refine aI ?_ | refine aP ?_ | refine aS ?_ | refine bi fun K hK => ?_ | refine aD ?_ | refine aC ?_ | refine ay ?_ | refine ah ?_ | refine aL ?_) | (with_reducible refine hK _ ?_;clear hK K) | ((with_reducible refine ai ?_ ?_);(· decide)) | (with_reducible refine aV ?_ ?_;(· (try and_intros) <;> first | omega | assumption | (simp only [List.length_append,List.length_map,List.length_cons,List.length_nil] <;> omega))) | (with_reducible refine aK (ho) ?_))
 ·obtain ⟨i,hi⟩ : ∃ i : Nat,(i : Int) = -l := ⟨(-l).toNat,by omega⟩
  have hp' : (0 < l) = False := eq_false hp
  have hil : ((i : Int) < (a.length : Int)) = True := eq_true (by omega)
  have hs := xM a i (-1) (by omega)
  have hw : IntKind.i64.wrap (0 - l) = (i : Int) := by rw [bQ (by omega) (by omega)];omega
  have hw2 : IntKind.i64.wrap (-l) = (i : Int) := by rw [bQ (by omega) (by omega)];omega
  rw [if_neg hp,show l.natAbs = i by omega]
  have e : stG (a.set i (-1)) [] (q ++ [l]) (v + 1) = [.bc [.arr 20001 0 a.length 3,.ow 20002 0 (q.length + 1) (v + 1)] 146,.bc ((a.set i (-1)).map inA) 3,.br ((q ++ [l]).map inA) (v + 1) 3 1] := by simp [stG]
  rw [e]
  simp only [stG] at ho ⊢
  refine bm [] Tryz.func85 rfl Tryz.ntmps85 (Nat.le_of_ble_eq_true rfl) (Nat.le_of_ble_eq_true rfl) fun w0 G0 B0 Pr hB0 => ?_
  simp only [bD,bj,List.cons_append,List.nil_append]
  repeat' (first | (with_reducible refine hY _ ?_;clear hY Y) | ((with_reducible first | refine aX rfl (aR fun K' hK' => aa ?_) | refine hK' _ (ab fun Y hY => aa ?_) | refine ab fun Y hY => aa ?_ | refine ag tk0 cd (ab fun Y hY => aa ?_) | refine aa ?_ | refine aH ?_);(try clear hK' K');(try dsimp only [aop]);try simp only [go_sem,↓reduceIte,Nat.reduceEqDiff,Nat.reduceLT,Nat.reduceLeDiff,Nat.reduceAdd,Nat.reduceSub,Nat.reduceMul,Nat.reduceBEq,Nat.reduceBNe,Nat.reducePow,Int.reduceToNat,Int.reduceLE,Int.reduceLT,Int.reduceMul,Int.reduceEq,Int.reducePow,Int.reduceAdd,Int.reduceSub,Int.reduceNeg,reduceCtorEq,cd,Tryz.results85,hp',hil,hc,hs,hcp,hw,hw2]) | (with_reducible first | refine aI ?_ | refine aP ?_ | refine aS ?_ | refine bi fun K hK => ?_ | refine aD ?_ | refine aC ?_ | refine ay ?_ | refine ah ?_ | refine aL ?_) | (with_reducible refine hK _ ?_;clear hK K) | ((with_reducible refine ai ?_ ?_);(· decide)) | (with_reducible refine aV ?_ ?_;(· (try and_intros) <;> first | omega | assumption | (simp only [List.length_append,List.length_map,List.length_cons,List.length_nil] <;> omega))) | (with_reducible refine aK (ho) ?_))
theorem yX (a pre q : List Int) (v : Nat) (l : Int) (hl : l.natAbs < a.length) (hb : a.length ≤ 1000000) (ha : ∀ i,-1 ≤ a.getD i 0 ∧ a.getD i 0 ≤ 1) (h : ofA a l ≠ 0) :
  AFn Tryz.prog 85 [.loc 20000 0,inA l] (stG a pre q v) (.c (.bool (decide (ofA a l ≠ -1)))) (stG a pre q v) := by
 have ho := uN a pre q v l hl hb ha
 generalize ofA a l = x at *
 simp only [stG] at ho ⊢
 generalize pre ++ q = Q at *
 by_cases h1 : x = -1
 ·rw [decide_eq_false (by simp [h1])]
  have h1' : (x = -1) = True := eq_true h1
  refine bm [] Tryz.func85 rfl Tryz.ntmps85 (Nat.le_of_ble_eq_true rfl) (Nat.le_of_ble_eq_true rfl) fun w0 G0 B0 Pr hB0 => ?_
  simp only [bD,bj,List.cons_append,List.nil_append]
  repeat' (first | (with_reducible refine hY _ ?_;clear hY Y) | ((with_reducible first | refine aX rfl (aR fun K' hK' => aa ?_) | refine hK' _ (ab fun Y hY => aa ?_) | refine ab fun Y hY => aa ?_ | refine ag tk0 cd (ab fun Y hY => aa ?_) | refine aa ?_ | refine aH ?_);(try clear hK' K');(try dsimp only [aop]);try simp only [go_sem,↓reduceIte,Nat.reduceEqDiff,Nat.reduceLT,Nat.reduceLeDiff,Nat.reduceAdd,Nat.reduceSub,Nat.reduceMul,Nat.reduceBEq,Nat.reduceBNe,Nat.reducePow,Int.reduceToNat,Int.reduceLE,Int.reduceLT,Int.reduceMul,Int.reduceEq,Int.reducePow,Int.reduceAdd,Int.reduceSub,Int.reduceNeg,reduceCtorEq,cd,Tryz.results85,h1']) | (with_reducible first | refine aI ?_ | refine aP ?_ | refine aS ?_ | refine bi fun K hK => ?_ | refine aD ?_ | refine aQ ?_ | refine aA ?_ | refine ah ?_ | refine aL ?_) | (with_reducible refine hK _ ?_;clear hK K) | ((with_reducible refine ai ?_ ?_);(· decide)) | (with_reducible refine aK (ho) ?_))
 ·rw [decide_eq_true h1]
  have h1' : (x = -1) = False := eq_false h1
  have h' : (x = 0) = False := eq_false h
  refine bm [] Tryz.func85 rfl Tryz.ntmps85 (Nat.le_of_ble_eq_true rfl) (Nat.le_of_ble_eq_true rfl) fun w0 G0 B0 Pr hB0 => ?_
  simp only [bD,bj,List.cons_append,List.nil_append]
  repeat' (first | (with_reducible refine hY _ ?_;clear hY Y) | ((with_reducible first | refine aX rfl (aR fun K' hK' => aa ?_) | refine hK' _ (ab fun Y hY => aa ?_) | refine ab fun Y hY => aa ?_ | refine ag tk0 cd (ab fun Y hY => aa ?_) | refine aa ?_ | refine aH ?_);(try clear hK' K');(try dsimp only [aop]);try simp only [go_sem,↓reduceIte,Nat.reduceEqDiff,Nat.reduceLT,Nat.reduceLeDiff,Nat.reduceAdd,Nat.reduceSub,Nat.reduceMul,Nat.reduceBEq,Nat.reduceBNe,Nat.reducePow,Int.reduceToNat,Int.reduceLE,Int.reduceLT,Int.reduceMul,Int.reduceEq,Int.reducePow,Int.reduceAdd,Int.reduceSub,Int.reduceNeg,reduceCtorEq,cd,Tryz.results85,h1',h']) | (with_reducible first | refine aI ?_ | refine aP ?_ | refine aS ?_ | refine bi fun K hK => ?_ | refine aC ?_ | refine ay ?_ | refine ah ?_ | refine av ?_ | refine aL ?_) | (with_reducible refine hK _ ?_;clear hK K) | ((with_reducible refine ai ?_ ?_);(· decide)) | (with_reducible refine aK (ho) ?_))
end Go.Proofs.YtmpdocplcgbpkaaGreatDoor
namespace Go.Proofs.YtmpdocplcgbpkaaGreatDoor
set_option linter.unusedSimpArgs false
set_option linter.unusedVariables false
open Go.RowKit
def fm (a : List Int) : List Int → Int → Bool × Int
 | [],one => (false,one)
 | l :: r,one => if ofA a l = 1 then (true,0) else if ofA a l = 0 then (if one ≠ 0 ∧ one ≠ l then (true,0) else fm a r l) else fm a r one
structure Sta where
 a : List Int
 pre : List Int
 q : List Int
 v : Nat
abbrev stS (s : Sta) : List AV := stG s.a s.pre s.q s.v
def pD (s : Sta) (l : Int) : Sta := ⟨s.a.set l.natAbs (if 0 < l then 1 else -1),[],s.q ++ [l],s.v + 1⟩
def eN (s : Sta) (c : List Int) : Bool × Sta :=
 if (fm s.a c 0).1 then (true,s) else if (fm s.a c 0).2 = 0 then (false,s) else (true,pD s (fm s.a c 0).2)
theorem jm (a : List Int) : ∀ (c : List Int) (one : Int),(one ≠ 0 → ofA a one = 0) → (∀ l ∈ c,l ≠ 0) → ((fm a c one).2 ≠ 0 → ofA a (fm a c one).2 = 0)
 | [],one,h,_ => h
 | l :: r,one,h,hc => by
  rw [fm]
  split
  ·exact fun e => absurd rfl e
  ·split
   ·rename_i h0
    split
    ·exact fun e => absurd rfl e
    ·exact jm a r l (fun _ => h0) fun x hx => hc x (by simp [hx])
   ·exact jm a r one h fun x hx => hc x (by simp [hx])
theorem gY (a : List Int) : ∀ (c : List Int) (one : Int),(fm a c one).2 = 0 ∨ (fm a c one).2 = one ∨ (fm a c one).2 ∈ c
 | [],one => .inr (.inl rfl)
 | l :: r,one => by
  rw [fm]
  split
  ·exact .inl rfl
  ·split
   ·split
    ·exact .inl rfl
    ·rcases gY a r l with h | h | h
     ·exact .inl h
     ·exact .inr (.inr (by rw [h];simp))
     ·exact .inr (.inr (by simp [h]))
   ·rcases gY a r one with h | h | h
    ·exact .inl h
    ·exact .inr (.inl h)
    ·exact .inr (.inr (by simp [h]))
theorem zM {c : List Int} {k : Nat} (h : k < c.length) : (c.map inA).getD k .u = inA c[k] := by simp [List.getD_eq_getElem?_getD,h]
set_option maxRecDepth 100000 in
set_option maxHeartbeats 8000000 in
theorem wU (s : Sta) (c : List Int) (hb : s.a.length ≤ 1000000) (hq : s.q.length ≤ 1000000) (ha : ∀ i,-1 ≤ s.a.getD i 0 ∧ s.a.getD i 0 ≤ 1) (hcl : Lg c) (hc : ∀ l ∈ c,l ≠ 0 ∧ l.natAbs < s.a.length) :
  AFn Tryz.prog 86 [.loc 20000 0,di c] (stS s) (.c (.bool (eN s c).1)) (stS (eN s c).2) := by
 obtain ⟨a,pre,q,v⟩ := s
 simp only at hb hq ha hc
 unfold Lg at hcl
 unfold eN
 simp only
 have hof := fun l (hl : l ∈ c) => uN a pre q v l (hc l hl).2 hb ha
 have h1 := jm a c 0 (fun h => absurd rfl h) fun l hl => (hc l hl).1
 have hm := gY a c 0
 have h0 : fm a (c.drop 0) 0 = fm a c 0 := by rw [List.drop_zero]
 generalize fm a c 0 = R at *
 refine bm [] Tryz.func86 rfl Tryz.ntmps86 (Nat.le_of_ble_eq_true rfl) (Nat.le_of_ble_eq_true rfl) fun w0 G0 B0 Pr hB0 => ?_
 simp only [bD,bj,List.cons_append,List.nil_append]
 repeat' (first | (with_reducible refine hY _ ?_;clear hY Y) | ((with_reducible first | refine aX rfl (aR fun K' hK' => aa ?_) | refine hK' _ (ab fun Y hY => aa ?_) | refine ag tk0 bA (ab fun Y hY => aa ?_));(try clear hK' K');(try dsimp only [aop]);try simp only [go_sem,↓reduceIte,Nat.reduceEqDiff,Nat.reduceLT,Nat.reduceLeDiff,Nat.reduceAdd,Nat.reduceSub,Nat.reduceMul,Nat.reduceBEq,Nat.reduceBNe,Nat.reducePow,Int.reduceToNat,Int.reduceLE,Int.reduceLT,Int.reduceMul,Int.reduceEq,Int.reducePow,Int.reduceAdd,Int.reduceSub,Int.reduceNeg,reduceCtorEq,bA,Tryz.results86]) | (with_reducible first | refine aI ?_ | refine aP ?_ | refine aS ?_ | refine bi fun K hK => ?_ | refine ah ?_ | refine au ?_) | (with_reducible refine hK _ ?_;clear hK K))
 refine b7 (α := Nat × Int) (fun x => [(0,.loc 20000 0),(5,inA x.2),(8,di c),(9,inA (c.length : Int)),(10,inA (x.1 : Int)),(20000,.bc [.arr 20001 0 a.length 3,.ow 20002 pre.length q.length v] 146),(20001,.bc (a.map inA) 3),(20002,.br ((pre ++ q).map inA) v 3 1)])
  (fun x => x.1 ≤ c.length ∧ fm a (c.drop x.1) x.2 = R) (fun x => c.length - x.1) (0,0) [0,5,8,9,10] ?_ ⟨Nat.zero_le _,h0⟩ ?_
 ·simp only [go_sem,↓reduceIte,Nat.reduceEqDiff,Nat.reduceLT,Nat.reduceLeDiff,Nat.reduceAdd,Nat.reduceSub,Nat.reduceMul,Nat.reduceBEq,Nat.reduceBNe,Nat.reducePow,Int.reduceToNat,Int.reduceLE,Int.reduceLT,Int.reduceMul,Int.reduceEq,Int.reducePow,Int.reduceAdd,Int.reduceSub,Int.reduceNeg,reduceCtorEq] <;> rfl
 clear h0
 rintro ⟨k,one⟩ ⟨hk,hR⟩ ih
 simp only at hk hR ih ⊢
 by_cases hlt : k < c.length
 ·have hlt' : ((k : Int) < (c.length : Int)) = True := eq_true (by omega)
  have hkw := cC (n := k) (by omega)
  have hg0 := zM hlt
  have hfl : (c.map inA).length = c.length := List.length_map ..
  have ho := hof _ (List.getElem_mem hlt)
  rw [List.drop_eq_getElem_cons hlt,fm] at hR
  have ihx := fun o e => ih (k + 1,o) ⟨by simp only;omega,e⟩ (by simp only;omega)
  simp only at ihx
  clear ih hof h1 hm hc
  simp only [stG] at ho
  generalize c[k] = l at *
  generalize ofA a l = y at *
  by_cases y1 : y = 1
  ·rw [if_pos y1] at hR
   subst hR
   have y1' : (y = 1) = True := eq_true y1
   rw [if_pos rfl]
   clear ihx
   repeat' (first | (with_reducible refine hY _ ?_;clear hY Y) | ((with_reducible first | refine aX rfl (aR fun K' hK' => aa ?_) | refine hK' _ (ab fun Y hY => aa ?_) | refine ab fun Y hY => aa ?_ | refine ag tk0 bA (ab fun Y hY => aa ?_) | refine aa ?_ | refine aH ?_);(try clear hK' K');(try dsimp only [aop]);try simp only [go_sem,↓reduceIte,Nat.reduceEqDiff,Nat.reduceLT,Nat.reduceLeDiff,Nat.reduceAdd,Nat.reduceSub,Nat.reduceMul,Nat.reduceBEq,Nat.reduceBNe,Nat.reducePow,Int.reduceToNat,Int.reduceLE,Int.reduceLT,Int.reduceMul,Int.reduceEq,Int.reducePow,Int.reduceAdd,Int.reduceSub,Int.reduceNeg,reduceCtorEq,bA,Tryz.results86,hlt',hfl,hg0,y1']) | (with_reducible first | refine aI ?_ | refine aP ?_ | refine aS ?_ | refine bi fun K hK => ?_ | refine aD ?_ | refine aQ ?_ | refine aA ?_ | refine ah ?_ | refine av ?_ | refine aL ?_) | (with_reducible refine hK _ ?_;clear hK K) | ((with_reducible refine ai ?_ ?_);(· decide)) | (with_reducible refine aV ?_ ?_;(· (try and_intros) <;> first | omega | assumption | (simp only [List.length_append,List.length_map,List.length_cons,List.length_nil] <;> omega))) | (with_reducible refine aK (ho) ?_))
  rw [if_neg y1] at hR
  have y1' : (y = 1) = False := eq_false y1
  by_cases y0 : y = 0
  ·rw [if_pos y0] at hR
   have y0' : (y = 0) = True := eq_true y0
   subst y0
   by_cases o1 : one ≠ 0 ∧ one ≠ l
   ·rw [if_pos o1] at hR
    subst hR
    rw [if_pos rfl]
    have e1 : (one = 0) = False := eq_false o1.1
    have e2 : (one = l) = False := eq_false o1.2
    clear ihx
    repeat' (first | (with_reducible refine hY _ ?_;clear hY Y) | ((with_reducible first | refine aX rfl (aR fun K' hK' => aa ?_) | refine hK' _ (ab fun Y hY => aa ?_) | refine aW rfl (ab fun Y hY => aa ?_) | refine ab fun Y hY => aa ?_ | refine aR fun K' hK' => aa ?_ | refine ag tk0 bA (ab fun Y hY => aa ?_) | refine aa ?_ | refine aH ?_);(try clear hK' K');(try dsimp only [aop]);try simp only [go_sem,↓reduceIte,Nat.reduceEqDiff,Nat.reduceLT,Nat.reduceLeDiff,Nat.reduceAdd,Nat.reduceSub,Nat.reduceMul,Nat.reduceBEq,Nat.reduceBNe,Nat.reducePow,Int.reduceToNat,Int.reduceLE,Int.reduceLT,Int.reduceMul,Int.reduceEq,Int.reducePow,Int.reduceAdd,Int.reduceSub,Int.reduceNeg,reduceCtorEq,bA,Tryz.results86,hlt',hfl,hg0,e1,e2]) | (with_reducible first | refine aI ?_ | refine ao ?_ | refine aP ?_ | refine aS ?_ | refine bi fun K hK => ?_ | refine aD ?_ | refine aC ?_ | refine aQ ?_ | refine aA ?_ | refine ah ?_ | refine av ?_ | refine aL ?_) | (with_reducible refine hK _ ?_;clear hK K) | ((with_reducible first | refine aF ?_ ?_ | refine ai ?_ ?_);(· decide)) | (with_reducible refine aV ?_ ?_;(· (try and_intros) <;> first | omega | assumption | (simp only [List.length_append,List.length_map,List.length_cons,List.length_nil] <;> omega))) | (with_reducible refine aK (ho) ?_))
   ·rw [if_neg o1] at hR
    have ih' := ihx l hR
    clear ihx
    by_cases e0 : one = 0
    ·have e1 : (one = 0) = True := eq_true e0
     repeat' (first | (with_reducible refine hY _ ?_;clear hY Y) | ((with_reducible first | refine aX rfl (aR fun K' hK' => aa ?_) | refine hK' _ (ab fun Y hY => aa ?_) | refine aW rfl (ab fun Y hY => aa ?_) | refine ab fun Y hY => aa ?_ | refine ag tk0 bA (ab fun Y hY => aa ?_) | refine aa ?_);(try clear hK' K');(try dsimp only [aop]);try simp only [go_sem,↓reduceIte,Nat.reduceEqDiff,Nat.reduceLT,Nat.reduceLeDiff,Nat.reduceAdd,Nat.reduceSub,Nat.reduceMul,Nat.reduceBEq,Nat.reduceBNe,Nat.reducePow,Int.reduceToNat,Int.reduceLE,Int.reduceLT,Int.reduceMul,Int.reduceEq,Int.reducePow,Int.reduceAdd,Int.reduceSub,Int.reduceNeg,reduceCtorEq,bA,Tryz.results86,hlt',hfl,hg0,hkw,e1]) | (with_reducible first | refine aI ?_ | refine am rfl ?_ | refine bg ?_ ?_ | refine aP ?_ | refine aS ?_ | refine bi fun K hK => ?_ | refine aD ?_ | refine aC ?_ | refine ay ?_ | refine ah ?_ | refine av ?_) | (with_reducible refine hK _ ?_;clear hK K) | ((with_reducible first | refine aF ?_ ?_ | refine ai ?_ ?_);(· decide)) | (with_reducible refine aV ?_ ?_;(· (try and_intros) <;> first | omega | assumption | (simp only [List.length_append,List.length_map,List.length_cons,List.length_nil] <;> omega))) | (with_reducible refine aK (ho) ?_))
     refine bO [0,5,8,9,10] (by simp only [go_sem,↓reduceIte,Nat.reduceEqDiff,Nat.reduceLT,Nat.reduceLeDiff,Nat.reduceAdd,Nat.reduceSub,Nat.reduceMul,Nat.reduceBEq,Nat.reduceBNe,Nat.reducePow,Int.reduceToNat,Int.reduceLE,Int.reduceLT,Int.reduceMul,Int.reduceEq,Int.reducePow,Int.reduceAdd,Int.reduceSub,Int.reduceNeg,reduceCtorEq];exact rfl) ?_
     exact ih'
    ·have e1 : (one = 0) = False := eq_false e0
     have e2 : (one = l) = True := eq_true (by
      by_cases e : one = l
      ·exact e
      ·exact absurd ⟨e0,e⟩ o1)
     repeat' (first | (with_reducible refine hY _ ?_;clear hY Y) | ((with_reducible first | refine aX rfl (aR fun K' hK' => aa ?_) | refine hK' _ (ab fun Y hY => aa ?_) | refine aW rfl (ab fun Y hY => aa ?_) | refine ab fun Y hY => aa ?_ | refine aR fun K' hK' => aa ?_ | refine ag tk0 bA (ab fun Y hY => aa ?_) | refine aa ?_);(try clear hK' K');(try dsimp only [aop]);try simp only [go_sem,↓reduceIte,Nat.reduceEqDiff,Nat.reduceLT,Nat.reduceLeDiff,Nat.reduceAdd,Nat.reduceSub,Nat.reduceMul,Nat.reduceBEq,Nat.reduceBNe,Nat.reducePow,Int.reduceToNat,Int.reduceLE,Int.reduceLT,Int.reduceMul,Int.reduceEq,Int.reducePow,Int.reduceAdd,Int.reduceSub,Int.reduceNeg,reduceCtorEq,bA,Tryz.results86,hlt',hfl,hg0,hkw,e1,e2]) | (with_reducible first | refine aI ?_ | refine ao ?_ | refine aP ?_ | refine aS ?_ | refine bi fun K hK => ?_ | refine aD ?_ | refine aC ?_ | refine ay ?_ | refine ah ?_ | refine av ?_) | (with_reducible refine hK _ ?_;clear hK K) | ((with_reducible first | refine aF ?_ ?_ | refine ai ?_ ?_);(· decide)) | (with_reducible refine aV ?_ ?_;(· (try and_intros) <;> first | omega | assumption | (simp only [List.length_append,List.length_map,List.length_cons,List.length_nil] <;> omega))) | (with_reducible refine aK (ho) ?_))
     refine bO [0,5,8,9,10] (by simp only [go_sem,↓reduceIte,Nat.reduceEqDiff,Nat.reduceLT,Nat.reduceLeDiff,Nat.reduceAdd,Nat.reduceSub,Nat.reduceMul,Nat.reduceBEq,Nat.reduceBNe,Nat.reducePow,Int.reduceToNat,Int.reduceLE,Int.reduceLT,Int.reduceMul,Int.reduceEq,Int.reducePow,Int.reduceAdd,Int.reduceSub,Int.reduceNeg,reduceCtorEq];exact rfl) ?_
     exact ih'
  ·rw [if_neg y0] at hR
   have y0' : (y = 0) = False := eq_false y0
   have ih' := ihx one hR
   clear ihx
   repeat' (first | (with_reducible refine hY _ ?_;clear hY Y) | ((with_reducible first | refine aX rfl (aR fun K' hK' => aa ?_) | refine hK' _ (ab fun Y hY => aa ?_) | refine ab fun Y hY => aa ?_ | refine ag tk0 bA (ab fun Y hY => aa ?_) | refine aa ?_);(try clear hK' K');(try dsimp only [aop]);try simp only [go_sem,↓reduceIte,Nat.reduceEqDiff,Nat.reduceLT,Nat.reduceLeDiff,Nat.reduceAdd,Nat.reduceSub,Nat.reduceMul,Nat.reduceBEq,Nat.reduceBNe,Nat.reducePow,Int.reduceToNat,Int.reduceLE,Int.reduceLT,Int.reduceMul,Int.reduceEq,Int.reducePow,Int.reduceAdd,Int.reduceSub,Int.reduceNeg,reduceCtorEq,bA,Tryz.results86,hlt',hfl,hg0,hkw,y1',y0']) | (with_reducible first | refine aI ?_ | refine aP ?_ | refine aS ?_ | refine bi fun K hK => ?_ | refine aD ?_ | refine aC ?_ | refine ay ?_ | refine ah ?_ | refine av ?_) | (with_reducible refine hK _ ?_;clear hK K) | ((with_reducible refine ai ?_ ?_);(· decide)) | (with_reducible refine aV ?_ ?_;(· (try and_intros) <;> first | omega | assumption | (simp only [List.length_append,List.length_map,List.length_cons,List.length_nil] <;> omega))) | (with_reducible refine aK (ho) ?_))
   refine bO [0,5,8,9,10] (by simp only [go_sem,↓reduceIte,Nat.reduceEqDiff,Nat.reduceLT,Nat.reduceLeDiff,Nat.reduceAdd,Nat.reduceSub,Nat.reduceMul,Nat.reduceBEq,Nat.reduceBNe,Nat.reducePow,Int.reduceToNat,Int.reduceLE,Int.reduceLT,Int.reduceMul,Int.reduceEq,Int.reducePow,Int.reduceAdd,Int.reduceSub,Int.reduceNeg,reduceCtorEq];exact rfl) ?_
   exact ih'
 ·have hlt' : ((k : Int) < (c.length : Int)) = False := eq_false (by omega)
  obtain rfl : R = (false,one) := by rw [← hR,List.drop_eq_nil_of_le (by omega),fm]
  simp only [Bool.false_eq_true,if_false] at h1 hm ⊢
  clear ih hof hR
  by_cases e0 : one = 0
  ·have e1 : (one = 0) = True := eq_true e0
   rw [if_pos e0]
   simp only [stG]
   repeat' (first | (with_reducible refine hY _ ?_;clear hY Y) | ((with_reducible first | refine aX rfl (aR fun K' hK' => aa ?_) | refine hK' _ (ab fun Y hY => aa ?_) | refine aW rfl (ab fun Y hY => aa ?_) | refine ab fun Y hY => aa ?_ | refine ag tk0 bA (ab fun Y hY => aa ?_) | refine aa ?_ | refine aH ?_);(try clear hK' K');(try dsimp only [aop]);try simp only [go_sem,↓reduceIte,Nat.reduceEqDiff,Nat.reduceLT,Nat.reduceLeDiff,Nat.reduceAdd,Nat.reduceSub,Nat.reduceMul,Nat.reduceBEq,Nat.reduceBNe,Nat.reducePow,Int.reduceToNat,Int.reduceLE,Int.reduceLT,Int.reduceMul,Int.reduceEq,Int.reducePow,Int.reduceAdd,Int.reduceSub,Int.reduceNeg,reduceCtorEq,bA,Tryz.results86,hlt',e1]) | (with_reducible first | refine aI ?_ | refine am rfl ?_ | refine bg ?_ ?_ | refine aP ?_ | refine aS ?_ | refine bi fun K hK => ?_ | refine aC ?_ | refine aO ?_ | refine ax ?_ | refine aL ?_ | refine ar ?_) | (with_reducible refine hK _ ?_;clear hK K) | ((with_reducible first | refine aF ?_ ?_ | refine ai ?_ ?_);(· decide)))
  ·have e1 : (one = 0) = False := eq_false e0
   rw [if_neg e0]
   have hmem : one ∈ c := by
    rcases hm with h | h | h
    ·exact absurd h e0
    ·exact absurd h e0
    ·exact h
   have hs := u4 a pre q v one (hc one hmem).2 hb hq ha (h1 e0)
   have ep : stS (pD ⟨a,pre,q,v⟩ one) = stG (a.set one.natAbs (if 0 < one then 1 else -1)) [] (q ++ [one]) (v + 1) := rfl
   rw [ep]
   have hal : (a.set one.natAbs (if 0 < one then 1 else -1)).length = a.length := List.length_set ..
   simp only [stG,hal] at hs ⊢
   generalize a.set one.natAbs (if 0 < one then 1 else -1) = A2 at *
   generalize ([] : List Int) ++ (q ++ [one]) = Q2 at *
   repeat' (first | (with_reducible refine hY _ ?_;clear hY Y) | ((with_reducible first | refine aX rfl (aR fun K' hK' => aa ?_) | refine hK' _ (ab fun Y hY => aa ?_) | refine aW rfl (ab fun Y hY => aa ?_) | refine ab fun Y hY => aa ?_ | refine aR fun K' hK' => aa ?_ | refine ag tk0 bA (ab fun Y hY => aa ?_) | refine aa ?_ | refine aH ?_);(try clear hK' K');(try dsimp only [aop]);try simp only [go_sem,↓reduceIte,Nat.reduceEqDiff,Nat.reduceLT,Nat.reduceLeDiff,Nat.reduceAdd,Nat.reduceSub,Nat.reduceMul,Nat.reduceBEq,Nat.reduceBNe,Nat.reducePow,Int.reduceToNat,Int.reduceLE,Int.reduceLT,Int.reduceMul,Int.reduceEq,Int.reducePow,Int.reduceAdd,Int.reduceSub,Int.reduceNeg,reduceCtorEq,bA,Tryz.results86,hlt',e1]) | (with_reducible first | refine aI ?_ | refine ao ?_ | refine aP ?_ | refine aS ?_ | refine bi fun K hK => ?_ | refine aC ?_ | refine aO ?_ | refine ax ?_ | refine aL ?_ | refine ar ?_) | (with_reducible refine hK _ ?_;clear hK K) | ((with_reducible first | refine aF ?_ ?_ | refine ai ?_ ?_);(· decide)) | (with_reducible refine aK (hs) ?_))
end Go.Proofs.YtmpdocplcgbpkaaGreatDoor

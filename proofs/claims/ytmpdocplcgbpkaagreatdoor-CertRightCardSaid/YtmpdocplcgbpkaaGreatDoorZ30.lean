/- What follows, in K: the rows of clauses' numbers as cells. What follows, in K: prop.Follow of sound clauses and literals. -/
import Derived.Test.YtmpdocplcgbpkaaGreatDoorZ23
import Derived.Test.YtmpdocplcgbpkaaGreatDoorZ11
import Derived.Test.YtmpdocplcgbpkaaGreatDoorZ7
namespace Go.Proofs.YtmpdocplcgbpkaaGreatDoor
set_option linter.unusedSimpArgs false
set_option linter.unusedVariables false
open Go.RowKit
def inN (i : Nat) : AV:=inA (i : Int)
def ko (F : List (List Nat)) : Option Nat→AV
 | none=>.sl [] 0 .full
 | some j=>.ow (enc 10067 j) 0 (F.getD j []).length (F.getD j []).length
def cW (S : WS) : List AV:=S.m.map (ko S.F)
def zi (r : List Nat) : AV:=.br (r.map inN) r.length 3 1
def ic (S : WS) : List AV:=S.F.map zi
theorem oQ (S : WS) : (cW S).length = S.m.length:=List.length_map ..
theorem wa (S : WS) : (ic S).length = S.F.length:=List.length_map ..
theorem Bl {S : WS} {p : Nat} (h : p < S.m.length) : (cW S)[p]? = some (ko S.F (S.m.getD p none)):=by
 unfold cW
 rw [List.getElem?_map,List.getElem?_eq_getElem h,List.getD_eq_getElem?_getD,List.getElem?_eq_getElem h];rfl
theorem vP {S : WS} {p : Nat} (h : p < S.m.length) : (cW S).getD p .u = ko S.F (S.m.getD p none):=by
 rw [List.getD_eq_getElem?_getD,Bl h];rfl
theorem tg {S : WS} {j : Nat} (h : j < S.F.length) : (ic S).getD j .u = .br ((S.F.getD j []).map inN) (S.F.getD j []).length 3 1:=by
 simp [ic,zi,List.getD_eq_getElem?_getD,h]
theorem Bw (N : Nat) : jU [.sl [] 0 .full] N = cW (ws0 N):=by
 unfold cW ws0
 rw [List.map_replicate]
 induction N with
 | zero=>rfl
 | succ n ih=>rw [jU,ih,List.replicate_succ];rfl
theorem Bv (N : Nat) : jU [.c (.int .i64 0)] N = (List.replicate N (0 : Int)).map inA:=by
 rw [List.map_replicate]
 induction N with
 | zero=>rfl
 | succ n ih=>rw [jU,ih,List.replicate_succ];rfl
theorem w9 {α : Type} (l : List α) (p : Nat) (x : α) (h : p < l.length) : l.take p ++ [x] ++ l.drop (p + 1) = l.set p x:=by
 rw [List.set_eq_take_append_cons_drop,if_pos h];simp
theorem xM {S : WS} {N p : Nat} (h : S.Ok N) (hp : p < N) (e : S.m.getD p none = none) (i : Nat) : (cW S).take p ++ [AV.ow (enc 10067 S.F.length) 0 1 1] ++ (cW S).drop (p + 1) = cW (S.add p i):=by
 have hpl : p < S.m.length:=by rw [h.len];exact hp
 rw [w9 _ _ _ (by rw [oQ];exact hpl)]
 have hE : S.add p i = ⟨S.m.set p (some S.F.length),S.F ++ [[i]]⟩:=by unfold WS.add;rw [e]
 rw [hE]
 unfold cW
 simp only
 apply List.ext_getElem?
 intro q
 rw [List.getElem?_set,List.getElem?_map,List.getElem?_map,List.getElem?_set,List.length_map]
 by_cases hq : p = q
 ·subst hq
  rw [if_pos rfl,if_pos rfl,if_pos hpl,if_pos hpl]
  show _ = some (AV.ow (enc 10067 S.F.length) 0 ((S.F ++ [[i]]).getD S.F.length []).length ((S.F ++ [[i]]).getD S.F.length []).length)
  rw [nR];rfl
 ·rw [if_neg hq,if_neg hq]
  cases hm : S.m[q]? with
  | none=>rfl
  | some x =>
   cases x with
   | none=>rfl
   | some j =>
    have hj:=h.lt q j (by rw [List.getD_eq_getElem?_getD,hm];rfl)
    show some (AV.ow (enc 10067 j) 0 (S.F.getD j []).length (S.F.getD j []).length) = some (AV.ow (enc 10067 j) 0 ((S.F ++ [[i]]).getD j []).length ((S.F ++ [[i]]).getD j []).length)
    rw [nQ _ _ _ hj]
theorem xN {S : WS} {N p j : Nat} (h : S.Ok N) (hp : p < N) (e : S.m.getD p none = some j) (i : Nat) : (cW S).take p ++ [AV.ow (enc 10067 j) 0 ((S.F.getD j []).length + 1) ((S.F.getD j []).length + 1)] ++ (cW S).drop (p + 1) = cW (S.add p i):=by
 have hpl : p < S.m.length:=by rw [h.len];exact hp
 have hj:=h.lt p j e
 rw [w9 _ _ _ (by rw [oQ];exact hpl)]
 have hE : S.add p i = ⟨S.m,S.F.set j (S.F.getD j [] ++ [i])⟩:=by unfold WS.add;rw [e]
 rw [hE]
 unfold cW
 simp only
 apply List.ext_getElem?
 intro q
 rw [List.getElem?_set,List.getElem?_map,List.getElem?_map,List.length_map]
 by_cases hq : p = q
 ·subst hq
  rw [if_pos rfl,if_pos hpl]
  have e':=e
  rw [List.getD_eq_getElem?_getD,List.getElem?_eq_getElem hpl] at e'
  rw [List.getElem?_eq_getElem hpl]
  simp only [Option.getD_some] at e'
  rw [e']
  show _ = some (AV.ow (enc 10067 j) 0 ((S.F.set j (S.F.getD j [] ++ [i])).getD j []).length ((S.F.set j (S.F.getD j [] ++ [i])).getD j []).length)
  rw [fz _ _ _ _ _ hj,if_pos rfl,List.length_append];rfl
 ·rw [if_neg hq]
  cases hm : S.m[q]? with
  | none=>rfl
  | some x =>
   cases x with
   | none=>rfl
   | some k =>
    have hk : S.m.getD q none = some k:=by rw [List.getD_eq_getElem?_getD,hm];rfl
    show some (AV.ow (enc 10067 k) 0 (S.F.getD k []).length (S.F.getD k []).length) = some (AV.ow (enc 10067 k) 0 ((S.F.set j (S.F.getD j [] ++ [i])).getD k []).length ((S.F.set j (S.F.getD j [] ++ [i])).getD k []).length)
    rw [fz _ _ _ _ _ hj,if_neg]
    intro e3;subst e3
    exact hq (h.inj p q j e hk)
theorem uu {S : WS} {p : Nat} (e : S.m.getD p none = none) (i : Nat) : ic S ++ [.br [inA (i : Int)] 1 3 1] = ic (S.add p i):=by
 have hE : S.add p i = ⟨S.m.set p (some S.F.length),S.F ++ [[i]]⟩:=by unfold WS.add;rw [e]
 rw [hE]
 unfold ic
 simp only
 rw [List.map_append];rfl
theorem uv {S : WS} {p j : Nat} (e : S.m.getD p none = some j) (i : Nat) : (ic S).set j (.br ((S.F.getD j []).map inN ++ [inA (i : Int)]) ((S.F.getD j []).length + 1) 3 1) = ic (S.add p i):=by
 have hE : S.add p i = ⟨S.m,S.F.set j (S.F.getD j [] ++ [i])⟩:=by unfold WS.add;rw [e]
 rw [hE]
 unfold ic
 simp only
 rw [List.map_set]
 congr 1
 unfold zi
 rw [List.map_append,List.length_append];rfl
theorem mm {b : Nat} (hb : b < 1000000) (S : WS) : (cW S).any (cy b 4) = false:=by
 unfold cW
 rw [List.any_map,List.any_eq_false]
 intro x _
 cases x with
 | none=>simp [ko,cy]
 | some j=>
  have:=gq 10067 j
  simp [ko,cy];omega
theorem ku (b : Nat) (S : WS) : cy b 5 (.fo (ic S)) = false:=by
 unfold ic
 simp only [cy,List.any_map,List.any_eq_false]
 intro r _
 simp [zi,inN,cy]
def oZ (R : Bool × Sta) : AV:=if R.1 then .tup [dr R.2.a,.c (.bool false),.c .nilIface] else .tup [.sl [] 0 .full,.c (.bool true),.c .nilIface]
theorem jC (s : Sta) : oZ (false,s) = .tup [.sl [] 0 .full,.c (.bool true),.c .nilIface]:=rfl
theorem nP (a pre q : List Int) (v : Nat) : oZ (true,⟨a,pre,q,v⟩) = .tup [.sl (a.map inA) a.length .none,.c (.bool false),.c .nilIface]:=rfl
def rL (cls : List (List Int)) (n : Nat) (q : Bool × Sta) : Bool × Sta:=if q.1 then fC cls (n + 1) q.2 else (false,q.2)
def rK (cls : List (List Int)) (n : Nat) (q : Bool × Sta) : Bool × Sta:=if q.1 then rL cls n (dy cls q.2) else (false,q.2)
theorem sd (n : Nat) (cls : List (List Int)) (lits : List Int) : gN n cls lits = rK cls n (gh lits ⟨List.replicate (n + 1) 0,[],[],0⟩):=rfl
end Go.Proofs.YtmpdocplcgbpkaaGreatDoor
namespace Go.Proofs.YtmpdocplcgbpkaaGreatDoor
set_option linter.unusedSimpArgs false
set_option linter.unusedVariables false
open Go.RowKit
def aE : Nat→List Nat
 | 0=>[0,1,2]
 | 1=>[1,2,3]
 | 2=>[1,2,3,9]
 | 3=>[9]
 | 4=>[1,2,3]
 | 5=>[]
 | 6=>[1,2,3]
 | 7=>[1,2,3,10]
 | 8=>[1,2,3,10,11]
 | 9=>[1,2,3,10,11,42,43,44]
 | 10=>[1,2,3,10,11,42,43,44]
 | 11=>[1,2,3,10,11,12,13,42,43,44]
 | 12=>[1,2,3,10,11,12,42,43,44,49,50,51]
 | 13=>[1,2,3,10,11,12,42,43,44,49,50,51]
 | 14=>[1,2,3,10,11,12,15,42,43,44,49,50,51]
 | 15=>[1,2,3,10,11,12,42,43,44,49,50,51]
 | 16=>[1,2,3,10,11,42,43,44]
 | 17=>[1,2,3,10,11]
 | 18=>[1,3,10,11,71,72,73]
 | 19=>[1,3,10,11,71,72,73]
 | 20=>[1,3,10,11,17,71,72,73]
 | 21=>[]
 | 22=>[1,3,10,11,71,72,73]
 | 23=>[1,3,10,11]
 | 24=>[1,3,10,11,82,83,84]
 | 25=>[1,3,10,11,82,83,84]
 | 26=>[1,3,10,11,19,82,83,84]
 | 27=>[]
 | 28=>[1,3,10,11,82,83,84]
 | 29=>[1,3,10,11]
 | 30=>[1,3,10,11]
 | 31=>[1,3,10,11,20]
 | 32=>[1,3,10,11,20]
 | 33=>[1,3,10,11,118,119,120]
 | 34=>[1,3,10,11,118,119,120]
 | 35=>[1,3,10,11,22,118,119,120]
 | 36=>[]
 | 37=>[1,3,10,11,118,119,120]
 | 38=>[10]
 | _=>[]
theorem lF : aM Tryz.prog 84 = true:=by kernel_rfl
theorem Aj {n : Nat} {c : List Int} (h : ∀ l ∈ c,OkL n l) : (c.any fun l=>!iO n l) = false:=by
 rw [List.any_eq_false]
 intro l hl
 rw [tz (h l hl)];decide
theorem io {cs : List (List Int)} {c : List Int} (h : c ∈ cs) : c.length≤fi cs:=by
 induction cs with
 | nil=>exact absurd h List.not_mem_nil
 | cons d r ih =>
  have e : fi (d :: r) = d.length + fi r:=rfl
  rcases List.mem_cons.1 h with rfl | h
  ·omega
  ·have:=ih h;omega
theorem wY (s : Sta) : s.q.length≤du s:=by unfold du;omega
abbrev bxS (n1 : Nat) (s : Sta) : List AV:=[.bc [.arr 20001 0 n1 3,.ow 20002 s.pre.length s.q.length s.v] 146,.bc (s.a.map inA) 3,.br ((s.pre ++ s.q).map inA) s.v 3 1]
theorem BM {n n1 : Nat} (e : n1 = n + 1) (hn : n≤8192) {s : Sta} {l : Int} (h : OkSt n s) (hl : OkL n l) (hq : du s≤n) :
  AFn Tryz.prog 85 [.loc 20000 0,inA l] (bxS n1 s) (.c (.bool (setS s l).1)) (bxS n1 (setS s l).2):=by
 have hk:=A7 s l (by have:=h.len;have:=hl.2;omega) (by have:=h.len;omega) (by have:=wY s;omega) h.a
 have e1 : stS s = bxS n1 s:=by show stG _ _ _ _ = _;unfold stG bxS;rw [h.len,e]
 have e2 : stS (setS s l).2 = bxS n1 (setS s l).2:=by show stG _ _ _ _ = _;unfold stG bxS;rw [(h.set hl).len,e]
 rw [e1,e2] at hk
 exact hk
theorem zY {n n1 : Nat} (e : n1 = n + 1) (hn : n≤8192) {s : Sta} {c : List Int} (h : OkSt n s) (hc : ∀ l ∈ c,OkL n l) (hcl : c.length≤131072) (hq : du s≤n) :
  AFn Tryz.prog 86 [.loc 20000 0,dr c] (bxS n1 s) (.c (.bool (d8 s c).1)) (bxS n1 (d8 s c).2):=by
 have hk:=yP s c (by have:=h.len;omega) (by have:=wY s;omega) h.a (by unfold Lg;omega) fun l hl=>⟨(hc l hl).1,by have:=h.len;have:=(hc l hl).2;omega⟩
 have e1 : stS s = bxS n1 s:=by show stG _ _ _ _ = _;unfold stG bxS;rw [h.len,e]
 have e2 : stS (d8 s c).2 = bxS n1 (d8 s c).2:=by show stG _ _ _ _ = _;unfold stG bxS;rw [(h.look hc).len,e]
 rw [e1,e2] at hk
 exact hk
theorem lH {n : Nat} {s : Sta} {c : List Int} (h : OkSt n s) (hc : ∀ l ∈ c,OkL n l) : du (d8 s c).2 = du s:=sC fun l hl=>⟨(hc l hl).1,by have:=h.len;have:=(hc l hl).2;omega⟩
theorem sS {n : Nat} {s : Sta} {l : Int} (h : OkSt n s) (hl : OkL n l) : du (setS s l).2 = du s:=uY hl.1 (by have:=h.len;have:=hl.2;omega)
theorem sT {r : List Int} {k : Nat} (h : k < r.length) (s : Sta) : gh (r.drop k) s = if (setS s r[k]).1 then gh (r.drop (k + 1)) (setS s r[k]).2 else (false,(setS s r[k]).2):=by
 rw [List.drop_eq_getElem_cons h,gh]
theorem qA {r : List (List Int)} {k : Nat} (h : k < r.length) (s : Sta) : dy (r.drop k) s = if (d8 s r[k]).1 then dy (r.drop (k + 1)) (d8 s r[k]).2 else (false,(d8 s r[k]).2):=by
 rw [List.drop_eq_getElem_cons h,dy]
def rM (cls : List (List Int)) (m : Nat) (q : Bool × Sta) : Bool × Sta:=if q.1 then fC cls m q.2 else (false,q.2)
theorem qL {cls : List (List Int)} {m : Nat} {s : Sta} {l : Int} {r : List Int} (h : s.q = l :: r) : fC cls (m + 1) s = rM cls m (dy ((gm cls (-l)).map fun i=>cls.getD i []) (nx s)):=by
 rw [fC,if_neg (by rw [h];simp),h]
 rfl
theorem sI {cls : List (List Int)} {m : Nat} {s : Sta} (h : s.q = []) : fC cls m s = (true,s):=by
 cases m with
 | zero=>rfl
 | succ m=>rw [fC,if_pos h]
theorem y8 (ex : List Nat) (σ : bv) (a : List Int) : (a.map inA).map (eT ex σ 6) = a.map inA:=by rw [List.map_map];exact List.map_congr_left fun x _=>rfl
attribute [go_sem] y8
set_option maxRecDepth 100000 in
set_option maxHeartbeats 16000000 in
theorem wd (n : Nat) (cls : List (List Int)) (lits : List Int) (hck : c4 (n : Int) cls = 0) (hli : ∀ l ∈ lits,OkL n l) (hll : lits.length≤1000000) :
  AFn Tryz.prog 42 [inA (n : Int),csA cls,dr lits] [] (oZ (gN n cls lits)) []:=by
 obtain ⟨⟨hn0,hn1⟩,hcl,hsum,hlits⟩:=jb hck
 rw [Int.toNat_natCast] at hlits
 have hlen1 : ∀ c ∈ cls,c.length≤131072:=fun c hc=>by
  have : c.length≤fi cls:=io hc
  omega
 have hpc:=kI (n : Int) cls (by unfold Lg;omega) fun c hc=>by have:=hlen1 c hc;unfold Lg;omega
 rw [hck,cR] at hpc
 have hha:=sg lits 84 (n : Int) (fun l=>!iO n l) lF (by unfold Lg;omega) fun y _=>ux n y (by omega)
 rw [Aj hli] at hha
 have hf1:=lF
 have hR:=sd n cls lits
 generalize gN n cls lits = R at *
 obtain ⟨n1,hn1e⟩ : ∃ n1 : Nat,n1 = n + 1:=⟨_,rfl⟩
 obtain ⟨N,hNe⟩ : ∃ N : Nat,N = 2 * n + 1:=⟨_,rfl⟩
 have hw1 : IntKind.i64.wrap ((n : Int) + 1) = (n1 : Int):=by rw [aY (by omega) (by omega)];omega
 have hw2 : IntKind.i64.wrap (2 * (n : Int)) = ((2 * n : Nat) : Int):=by rw [aY (by omega) (by omega)];omega
 have hw3 : IntKind.i64.wrap (((2 * n : Nat) : Int) + 1) = (N : Int):=by rw [aY (by omega) (by omega)];omega
 have hrI:=Bv n1
 have hrW:=Bw N
 rw [← hn1e] at hR
 clear hck
 refine aD [] Tryz.func42 rfl Tryz.ntmps42 (Nat.le_of_ble_eq_true rfl) (Nat.le_of_ble_eq_true rfl) fun w0 G0 B0 Pr hB0=>?_
 simp only [aO,aA,List.cons_append,List.nil_append]
 repeat' (first | (with_reducible refine hY _ ?_;clear hY Y) | ((with_reducible first | refine an rfl (ar fun K' hK'=>aa ?_) | refine hK' _ (ab fun Y hY=>aa ?_) | refine ab fun Y hY=>aa ?_ | refine ae tk0 aE (ab fun Y hY=>aa ?_) | refine aa ?_);(try clear hK' K');(try dsimp only [aop]);try simp only [go_sem,seval,-Int.reduceNatCast,-Int.reduceNatCast',aE,Tryz.results42,hw1,hw2,hw3,hf1,hrI,hrW]) | (with_reducible first | refine af ?_ | refine ai ?_ | refine aj ?_ | refine ay fun K hK=>?_ | refine aq ?_ | refine al ?_ | refine av ?_ | refine bG ?_) | (with_reducible refine hK _ ?_;clear hK K) | ((with_reducible refine ag ?_ ?_);(· decide)) | (with_reducible refine bp ?_ ?_;(· (try and_intros) <;> first | omega | assumption | (simp only [List.length_append,List.length_map,List.length_cons,List.length_nil] <;> omega))) | (with_reducible refine ah (hpc) ?_) | (with_reducible refine ah (hha) ?_) | (with_reducible refine ce (cr) ?_) | (with_reducible refine v6 ?_))
 clear hpc hha hw1 hw2 hw3 hf1 hrI hrW
 have hws0:=Bd N
 have hwr0:=fun p=>zK N p
 have hR1 : R = rK cls n (gh (lits.drop 0) ⟨List.replicate n1 0,[],[],0⟩):=hR
 have hok0:=sE n
 have hle0:=AJ n
 rw [← hn1e] at hok0 hle0
 generalize hs0 : (⟨List.replicate n1 0,[],[],0⟩ : Sta) = s0 at *
 have hA0 : (List.replicate n1 (0 : Int)).map inA = s0.a.map inA:=by rw [← hs0]
 have hQ0 : ([] : List AV) = (s0.pre ++ s0.q).map inA:=by rw [← hs0];rfl
 have hp0 : s0.pre.length = 0:=by rw [← hs0];rfl
 have hq0 : s0.q.length = 0:=by rw [← hs0];rfl
 have hv0 : s0.v = 0:=by rw [← hs0]
 clear hs0 hR
 refine eu (xF (b:=19999) (k0:=10037) (i:=1) 3 1 (by decide) (by decide) (by decide) rfl rfl rfl) ?_
 refine eu (Ah (b:=10067) (by decide) rfl) ?_
 have hen : ∀ i b,b < 1000000→(enc 10067 i == b) = false:=fun i b hb=>by have:=gq 10067 i;simp;omega
 refine bK (α:=Nat × WS) (fun x=>[(1,csA cls),(2,dr lits),(3,.loc 10003 0),(10,.loc 10037 0),(11,.arr 10041 0 N 41),(42,csA cls),(43,inA (cls.length : Int)),(44,inA (x.1 : Int)),(10003,.bc [inA (n : Int)] 3),(10035,.bc ((List.replicate n1 (0 : Int)).map inA) 3),(10037,.bc [.arr 10035 0 n1 3,.ow 19999 0 0 0] 146),(10041,.bc (cW x.2) 41),(10067,.fo (ic x.2)),(19999,.br [] 0 3 1)])
  (fun x=>x.1≤cls.length∧x.2.Ok N∧(∀ z : Int,-(n : Int)≤z→z≤n→x.2.row ((n : Int) + z).toNat = gm (cls.take x.1) z)∧∀ p,(x.2.row p).length≤fi (cls.take x.1)) (fun x=>cls.length - x.1) (0,ws0 N) [1,2,3,10,11,42,43,44] ?_ ⟨Nat.zero_le _,hws0,fun z _ _=>hwr0 _,fun p=>by rw [hwr0];exact Nat.zero_le _⟩ ?_
 ·have hCr:=fun b (hb : b < 1000000)=>mm hb (ws0 N)
  simp only [go_sem,seval,-Int.reduceNatCast,-Int.reduceNatCast',List.set_cons_succ,List.set_cons_zero,hCr]
  rfl
 clear hws0 hwr0
 rintro ⟨k,S⟩ ⟨hk,hS,hSr,hSb⟩ ih
 simp only at hk hS hSr hSb ih ⊢
 by_cases hlt : k < cls.length
 ·have hlt' : ((k : Int) < (cls.length : Int)) = True:=eq_true (by omega)
  have hkw:=cf (n:=k) (by omega)
  have hg0:=ly hlt
  have hfl : (cls.map dr).length = cls.length:=List.length_map ..
  have hlc:=hlits _ (List.getElem_mem hlt)
  have hcl1:=hlen1 _ (List.getElem_mem hlt)
  have hwt:=fun x=>rE hlt x
  have hst:=om hlt
  have hsl:=kP cls (k + 1)
  have ihx:=fun S' e1 e2 e3=>ih (k + 1,S') ⟨by simp only;omega,e1,e2,e3⟩ (by simp only;omega)
  simp only at ihx
  clear ih
  generalize cls[k] = c at *
  have hCr:=fun b (hb : b < 1000000)=>mm hb S
  have hFr:=fun b=>ku b S
  simp only [cy] at hFr
  generalize hCWe : cW S = CW at *
  generalize hFRe : ic S = FR at *
  repeat' (first | (with_reducible refine hY _ ?_;clear hY Y) | ((with_reducible first | refine an rfl (ar fun K' hK'=>aa ?_) | refine hK' _ (ab fun Y hY=>aa ?_) | refine ab fun Y hY=>aa ?_ | refine ae tk0 aE (ab fun Y hY=>aa ?_));(try clear hK' K');(try dsimp only [aop]);try simp only [go_sem,seval,-Int.reduceNatCast,-Int.reduceNatCast',aE,Tryz.results42,hlt',hg0,hfl,hCr,hFr]) | (with_reducible first | refine af ?_ | refine ai ?_ | refine aj ?_ | refine ay fun K hK=>?_ | refine ap ?_ | refine al ?_ | refine av ?_ | refine bG ?_) | (with_reducible refine hK _ ?_;clear hK K) | ((with_reducible refine ag ?_ ?_);(· decide)) | (with_reducible refine bp ?_ ?_;(· (try and_intros) <;> first | omega | assumption | (simp only [List.length_append,List.length_map,List.length_cons,List.length_nil] <;> omega))))
  subst hCWe hFRe
  refine bK (α:=Nat × WS) (fun x=>[(1,csA cls),(2,dr lits),(3,.loc 10003 0),(10,.loc 10037 0),(11,.arr 10041 0 N 41),(12,inA (k : Int)),(42,csA cls),(43,inA (cls.length : Int)),(44,inA (k : Int)),(49,dr c),(50,inA (c.length : Int)),(51,inA (x.1 : Int)),(10003,.bc [inA (n : Int)] 3),(10035,.bc ((List.replicate n1 (0 : Int)).map inA) 3),(10037,.bc [.arr 10035 0 n1 3,.ow 19999 0 0 0] 146),(10041,.bc (cW x.2) 41),(10067,.fo (ic x.2)),(19999,.br [] 0 3 1)])
   (fun x=>x.1≤c.length∧x.2.Ok N∧(∀ z : Int,-(n : Int)≤z→z≤n→x.2.row ((n : Int) + z).toNat = gm (cls.take k) z ++ ((c.take x.1).filter (fun l=>l == z)).map fun _=>k)∧∀ p,(x.2.row p).length≤fi (cls.take k) + x.1) (fun x=>c.length - x.1) (0,S) [1,2,3,10,11,12,42,43,44,49,50,51] ?_ ⟨Nat.zero_le _,hS,(fun z h1 h2=>by rw [hSr z h1 h2];simp),hSb⟩ ?_
  ·simp only [go_sem,seval,-Int.reduceNatCast,-Int.reduceNatCast',hCr,hFr] <;> rfl
  clear hCr hFr hS hSr hSb
  rintro ⟨j,S⟩ ⟨hj,hS,hSr,hSb⟩ ihj
  simp only at hj hS hSr hSb ihj ⊢
  have hCr:=fun b (hb : b < 1000000)=>mm hb S
  have hFr:=fun b=>ku b S
  simp only [cy] at hFr
  by_cases hjl : j < c.length
  ·have hjl' : ((j : Int) < (c.length : Int)) = True:=eq_true (by omega)
   have hjw:=cf (n:=j) (by omega)
   have hgj:=tq hjl
   have hcl2 : (c.map inA).length = c.length:=List.length_map ..
   obtain ⟨hl1,hl2⟩:=hlc _ (List.getElem_mem hjl)
   have hft:=fun z=>uw hjl z k
   have ihjx:=fun S' e1 e2 e3=>ihj (j + 1,S') ⟨by simp only;omega,e1,e2,e3⟩ (by simp only;omega)
   simp only at ihjx
   clear ihj ihx
   generalize c[j] = l at *
   obtain ⟨p,hp⟩ : ∃ p : Nat,(p : Int) = (n : Int) + l:=⟨((n : Int) + l).toNat,by omega⟩
   have hwp : IntKind.i64.wrap ((n : Int) + l) = (p : Int):=by rw [aY (by omega) (by omega)];omega
   have hpN : p < N:=by omega
   have hpN' : ((p : Int) < (N : Int)) = True:=eq_true (by omega)
   have hra:=fun q=>WS.row_add hS hpN k q
   have ihj':=ihjx (S.add p k) (hS.add hpN k) (fun z h1 h2=>by
    rw [hra,hft,hSr z h1 h2]
    by_cases hz : p = ((n : Int) + z).toNat
    ·rw [if_pos hz,if_pos (by omega),List.append_assoc]
    ·rw [if_neg hz,if_neg (by omega),List.append_nil]) (fun q=>by
    rw [hra]
    have:=hSb q
    split
    ·rw [List.length_append,List.length_singleton];omega
    ·omega)
   have hCl : (cW S).length = N:=by rw [oQ,hS.len]
   have hg:=vP (S:=S) (p:=p) (by rw [hS.len];exact hpN)
   have hFl:=wa S
   have hCr':=fun b (hb : b < 1000000)=>mm hb (S.add p k)
   have hFr':=fun b=>ku b (S.add p k)
   simp only [cy] at hFr'
   have hpb:=hSb p
   have hsk:=kP cls k
   clear ihjx hft hra hSr hSb
   cases hm : S.m.getD p none with
   | none =>
    rw [hm] at hg
    have hs1:=xM hS hpN hm k
    have hs2:=uu hm k
    simp only [ko] at hg
    clear hS
    generalize cW (S.add p k) = CW2 at *
    generalize ic (S.add p k) = FR2 at *
    generalize cW S = CW at *
    generalize ic S = FR at *
    generalize S.F.length = FL at *
    repeat' (first | (with_reducible refine hY _ ?_;clear hY Y) | ((with_reducible first | refine an rfl (ar fun K' hK'=>aa ?_) | refine hK' _ (ab fun Y hY=>aa ?_) | refine ab fun Y hY=>aa ?_ | refine ae tk0 aE (ab fun Y hY=>aa ?_) | refine aa ?_ | refine cV rfl (cT fun K' hK'=>aa ?_) | refine hK' _ _ (ab fun Y hY=>aa ?_));(try clear hK' K');(try dsimp only [aop]);try simp only [go_sem,seval,-Int.reduceNatCast,-Int.reduceNatCast',aE,Tryz.results42,hjl',hgj,hcl2,hwp,hpN',hCl,hg,hFl,hCr,hFr,hCr',hFr',hs1,hs2,hen,hjw]) | (with_reducible first | refine af ?_ | refine ai ?_ | refine aj ?_ | refine ay fun K hK=>?_ | refine ap ?_ | refine aU ?_ | refine al ?_ | refine av ?_ | refine ch ?_ | refine eN fun K hK=>?_) | (with_reducible refine hK _ ?_;clear hK K) | (with_reducible refine hK _ _ ?_ ?_;(· kernel_rfl);clear hK K) | ((with_reducible refine ag ?_ ?_);(· decide)) | (with_reducible refine cg tk0 aE ?_ ?_;(· kernel_rfl)) | (with_reducible refine bp ?_ ?_;(· (try and_intros) <;> first | omega | assumption | (simp only [List.length_append,List.length_map,List.length_cons,List.length_nil] <;> omega))) | (with_reducible refine v6 ?_))
    refine bi [1,2,3,10,11,12,42,43,44,49,50,51] (by simp only [go_sem,seval,-Int.reduceNatCast,-Int.reduceNatCast',hCr',hFr',hen];exact rfl) ?_
    exact ihj'
   | some jj =>
    rw [hm] at hg
    have hs1:=xN hS hpN hm k
    have hs2:=uv hm k
    have hrow:=tg (hS.lt p jj hm)
    have hrl : ((S.F.getD jj []).map inN).length = (S.F.getD jj []).length:=List.length_map ..
    rw [WS.row_some hm] at hpb
    simp only [ko] at hg
    clear hS
    generalize (S.F.getD jj []).map inN = RW at *
    generalize (S.F.getD jj []).length = L at *
    have hk1:=r9 10067 jj
    have hk2 : df (enc 10067 jj) = 10067:=fx jj (by decide)
    have hk3 : d7 (enc 10067 jj) = jj:=fY jj (by decide)
    have hk4 : ∀ b,b < 1000000→(enc 10067 jj == b) = false:=fun b hb=>hen jj b hb
    obtain ⟨ek,hek⟩ : ∃ ek,ek = enc 10067 jj:=⟨_,rfl⟩
    rw [← hek] at hk1 hk2 hk3 hk4 hg hs1
    clear hek
    have hap1 : ((L + 1) * 8≤140737488355328) = True:=eq_true (by omega)
    have hap2 : (L≤140737488355327) = True:=eq_true (by omega)
    generalize cW (S.add p k) = CW2 at *
    generalize ic (S.add p k) = FR2 at *
    generalize cW S = CW at *
    generalize ic S = FR at *
    repeat' (first | (with_reducible refine hY _ ?_;clear hY Y) | ((with_reducible first | refine an rfl (ar fun K' hK'=>aa ?_) | refine hK' _ (ab fun Y hY=>aa ?_) | refine ab fun Y hY=>aa ?_ | refine ae tk0 aE (ab fun Y hY=>aa ?_) | refine cV rfl (cT fun K' hK'=>aa ?_) | refine hK' _ _ (ab fun Y hY=>aa ?_));(try clear hK' K');(try dsimp only [aop]);try simp only [go_sem,seval,-Int.reduceNatCast,-Int.reduceNatCast',aE,Tryz.results42,hjl',hgj,hcl2,hwp,hpN',hCl,hg,hrow,hrl,hap1,hap2,hCr,hFr,hCr',hFr',hs1,hs2,hk1,hk2,hk3,hk4,hjw]) | (with_reducible first | refine af ?_ | refine ai ?_ | refine aj ?_ | refine ay fun K hK=>?_ | refine ap ?_ | refine aU ?_ | refine al ?_ | refine av ?_ | refine ch ?_ | refine eN fun K hK=>?_) | (with_reducible refine hK _ ?_;clear hK K) | (with_reducible refine hK _ _ ?_ ?_;(· kernel_rfl);clear hK K) | ((with_reducible refine ag ?_ ?_);(· decide)) | (with_reducible refine cg tk0 aE ?_ ?_;(· kernel_rfl)) | (with_reducible refine bp ?_ ?_;(· (try and_intros) <;> first | omega | assumption | (simp only [List.length_append,List.length_map,List.length_cons,List.length_nil] <;> omega))))
    refine bi [1,2,3,10,11,12,42,43,44,49,50,51] (by simp only [go_sem,seval,-Int.reduceNatCast,-Int.reduceNatCast',hCr',hFr',hk4];exact rfl) ?_
    exact ihj'
  ·have hjl' : ((j : Int) < (c.length : Int)) = False:=eq_false (by omega)
   obtain rfl : j = c.length:=by omega
   rw [List.take_of_length_le (Nat.le_refl _)] at hSr
   have ih':=ihx S hS (fun z h1 h2=>by rw [hSr z h1 h2,hwt]) (fun p=>by rw [hst];exact hSb p)
   clear ihj ihx hS hSr hSb
   generalize cW S = CW at *
   generalize ic S = FR at *
   repeat' (first | (with_reducible refine hY _ ?_;clear hY Y) | ((with_reducible first | refine an rfl (ar fun K' hK'=>aa ?_) | refine hK' _ (ab fun Y hY=>aa ?_) | refine ab fun Y hY=>aa ?_ | refine ae tk0 aE (ab fun Y hY=>aa ?_));(try clear hK' K');(try dsimp only [aop]);try simp only [go_sem,seval,-Int.reduceNatCast,-Int.reduceNatCast',aE,Tryz.results42,hjl',hCr,hFr,hkw]) | (with_reducible first | refine af ?_ | refine ai ?_ | refine aj ?_ | refine ay fun K hK=>?_ | refine aq ?_ | refine bC ?_ | refine aU ?_ | refine bg ?_ | refine bf ?_) | (with_reducible refine hK _ ?_;clear hK K) | ((with_reducible refine ag ?_ ?_);(· decide)))
   refine bi [1,2,3,10,11,42,43,44] (by simp only [go_sem,seval,-Int.reduceNatCast,-Int.reduceNatCast',hCr,hFr];exact rfl) ?_
   exact ih'
 have hlt' : ((k : Int) < (cls.length : Int)) = False:=eq_false (by omega)
 clear ih
 rw [List.take_of_length_le (by omega)] at hSr
 have hCr:=fun b (hb : b < 1000000)=>mm hb S
 have hFr:=fun b=>ku b S
 simp only [cy] at hFr
 generalize hCWe : cW S = CW at *
 generalize hFRe : ic S = FR at *
 repeat' (first | (with_reducible refine hY _ ?_;clear hY Y) | ((with_reducible first | refine an rfl (ar fun K' hK'=>aa ?_) | refine hK' _ (ab fun Y hY=>aa ?_) | refine ab fun Y hY=>aa ?_ | refine ae tk0 aE (ab fun Y hY=>aa ?_));(try clear hK' K');(try dsimp only [aop]);try simp only [go_sem,seval,-Int.reduceNatCast,-Int.reduceNatCast',aE,Tryz.results42,hlt',hCr,hFr]) | (with_reducible first | refine af ?_ | refine ai ?_ | refine aj ?_ | refine ay fun K hK=>?_ | refine aq ?_ | refine bC ?_ | refine bg ?_ | refine al ?_ | refine bf ?_ | refine bG ?_) | (with_reducible refine hK _ ?_;clear hK K) | ((with_reducible refine ag ?_ ?_);(· decide)))
 have hSb2:=fun p=>Nat.le_trans (hSb p) (Nat.le_trans (kP cls k) hsum)
 clear hk hlt hlt' hSb hlen1
 refine bK (α:=Nat × Sta) (fun x=>[(1,csA cls),(3,.loc 10003 0),(10,.loc 10037 0),(11,.arr 10041 0 N 41),(71,dr lits),(72,inA (lits.length : Int)),(73,inA (x.1 : Int)),(10003,.bc [inA (n : Int)] 3),(10035,.bc (x.2.a.map inA) 3),(10037,.bc [.arr 10035 0 n1 3,.ow 19999 x.2.pre.length x.2.q.length x.2.v] 146),(10041,.bc CW 41),(10067,.fo FR),(19999,.br ((x.2.pre ++ x.2.q).map inA) x.2.v 3 1)])
  (fun x=>x.1≤lits.length∧OkSt n x.2∧du x.2 = n∧R = rK cls n (gh (lits.drop x.1) x.2)) (fun x=>lits.length - x.1) (0,s0) [1,3,10,11,71,72,73] ?_ ⟨Nat.zero_le _,hok0,hle0,hR1⟩ ?_
 ·simp only [go_sem,seval,-Int.reduceNatCast,-Int.reduceNatCast',hCr,hFr,hA0,hp0,hq0,hv0,← hQ0] <;> rfl
 clear hR1 hok0 hle0 hA0 hQ0 hp0 hq0 hv0
 rintro ⟨k,s⟩ ⟨hk,hs,hsl,hRk⟩ ih
 simp only at hk hs hsl hRk ih ⊢
 by_cases hlt : k < lits.length
 ·have hlt' : ((k : Int) < (lits.length : Int)) = True:=eq_true (by omega)
  have hkw:=cf (n:=k) (by omega)
  have hg0:=tq hlt
  have hfl : (lits.map inA).length = lits.length:=List.length_map ..
  have hlk:=hli _ (List.getElem_mem hlt)
  have hX:=BM hn1e (by omega) hs hlk (by omega)
  have hok:=hs.set hlk
  have hlf:=sS hs hlk
  rw [hsl] at hlf
  rw [sT hlt] at hRk
  have ihx:=fun s' e1 e2 e3=>ih (k + 1,s') ⟨by simp only;omega,e1,e2,e3⟩ (by simp only;omega)
  simp only at ihx
  clear ih hsl hs hSr
  generalize setS s lits[k] = Q at *
  generalize lits[k] = l at *
  obtain ⟨a,pre,q,v⟩:=s
  obtain ⟨b,⟨a2,pre2,q2,v2⟩⟩:=Q
  simp only [bxS] at hX hRk hok hlf
  cases b with
  | true =>
   rw [if_pos rfl] at hRk
   have ih':=ihx _ hok hlf hRk
   clear ihx hRk
   simp only at ih' ⊢
   generalize pre ++ q = Q1 at *
   generalize pre2 ++ q2 = Q2 at *
   repeat' (first | (with_reducible refine hY _ ?_;clear hY Y) | ((with_reducible first | refine an rfl (ar fun K' hK'=>aa ?_) | refine hK' _ (ab fun Y hY=>aa ?_) | refine ab fun Y hY=>aa ?_ | refine ae tk0 aE (ab fun Y hY=>aa ?_) | refine aa ?_);(try clear hK' K');(try dsimp only [aop]);try simp only [go_sem,seval,-Int.reduceNatCast,-Int.reduceNatCast',aE,Tryz.results42,hlt',hkw,hg0,hfl,hCr,hFr]) | (with_reducible first | refine af ?_ | refine ai ?_ | refine aj ?_ | refine ay fun K hK=>?_ | refine ap ?_ | refine aq ?_ | refine aU ?_ | refine al ?_ | refine av ?_) | (with_reducible refine hK _ ?_;clear hK K) | ((with_reducible refine ag ?_ ?_);(· decide)) | (with_reducible refine bp ?_ ?_;(· (try and_intros) <;> first | omega | assumption | (simp only [List.length_append,List.length_map,List.length_cons,List.length_nil] <;> omega))) | (with_reducible refine ah (hX) ?_))
   refine bi [1,3,10,11,71,72,73] (by simp only [go_sem,seval,-Int.reduceNatCast,-Int.reduceNatCast',hCr,hFr];exact rfl) ?_
   exact ih'
  | false =>
   rw [if_neg (by decide)] at hRk
   have hRk : R = (false,⟨a2,pre2,q2,v2⟩):=hRk
   rw [hRk,jC]
   clear ihx hRk
   simp only
   generalize pre ++ q = Q1 at *
   generalize pre2 ++ q2 = Q2 at *
   repeat' (first | (with_reducible refine hY _ ?_;clear hY Y) | ((with_reducible first | refine an rfl (ar fun K' hK'=>aa ?_) | refine hK' _ (ab fun Y hY=>aa ?_) | refine ab fun Y hY=>aa ?_ | refine ae tk0 aE (ab fun Y hY=>aa ?_) | refine aa ?_ | refine ao ?_);(try clear hK' K');(try dsimp only [aop]);try simp only [go_sem,seval,-Int.reduceNatCast,-Int.reduceNatCast',aE,Tryz.results42,hlt',hkw,hg0,hfl,hCr,hFr]) | (with_reducible first | refine af ?_ | refine ai ?_ | refine aj ?_ | refine ay fun K hK=>?_ | refine ap ?_ | refine aS ?_ | refine bb ?_ | refine al ?_ | refine av ?_ | refine au ?_) | (with_reducible refine hK _ ?_;clear hK K) | ((with_reducible refine ag ?_ ?_);(· decide)) | (with_reducible refine bp ?_ ?_;(· (try and_intros) <;> first | omega | assumption | (simp only [List.length_append,List.length_map,List.length_cons,List.length_nil] <;> omega))) | (with_reducible refine ah (hX) ?_))
 have hlt' : ((k : Int) < (lits.length : Int)) = False:=eq_false (by omega)
 rw [List.drop_eq_nil_of_le (by omega)] at hRk
 have hR2 : R = rL cls n (dy (cls.drop 0) s):=hRk
 clear ih hRk hli hll hk hlt
 obtain ⟨s0,hs0⟩ : ∃ s0,s0 = s:=⟨_,rfl⟩
 repeat' (first | (with_reducible refine hY _ ?_;clear hY Y) | ((with_reducible first | refine an rfl (ar fun K' hK'=>aa ?_) | refine hK' _ (ab fun Y hY=>aa ?_) | refine ab fun Y hY=>aa ?_ | refine ae tk0 aE (ab fun Y hY=>aa ?_));(try clear hK' K');(try dsimp only [aop]);try simp only [go_sem,seval,-Int.reduceNatCast,-Int.reduceNatCast',aE,Tryz.results42,hlt',hCr,hFr]) | (with_reducible first | refine af ?_ | refine ai ?_ | refine aj ?_ | refine ay fun K hK=>?_ | refine aq ?_ | refine bC ?_ | refine bg ?_ | refine al ?_ | refine bf ?_ | refine bG ?_) | (with_reducible refine hK _ ?_;clear hK K) | ((with_reducible refine ag ?_ ?_);(· decide)))
 refine bK (α:=Nat × Sta) (fun x=>[(1,csA cls),(3,.loc 10003 0),(10,.loc 10037 0),(11,.arr 10041 0 N 41),(82,csA cls),(83,inA (cls.length : Int)),(84,inA (x.1 : Int)),(10003,.bc [inA (n : Int)] 3),(10035,.bc (x.2.a.map inA) 3),(10037,.bc [.arr 10035 0 n1 3,.ow 19999 x.2.pre.length x.2.q.length x.2.v] 146),(10041,.bc CW 41),(10067,.fo FR),(19999,.br ((x.2.pre ++ x.2.q).map inA) x.2.v 3 1)])
  (fun x=>x.1≤cls.length∧OkSt n x.2∧du x.2 = n∧R = rL cls n (dy (cls.drop x.1) x.2)) (fun x=>cls.length - x.1) (0,s) [1,3,10,11,82,83,84] ?_ ⟨Nat.zero_le _,hs,hsl,hR2⟩ ?_
 ·simp only [go_sem,seval,-Int.reduceNatCast,-Int.reduceNatCast',hCr,hFr] <;> rfl
 clear hR2 hs hsl hlt' hs0 s0 s
 rintro ⟨k,s⟩ ⟨hk,hs,hsl,hRk⟩ ih
 simp only at hk hs hsl hRk ih ⊢
 have hfl : (cls.map dr).length = cls.length:=List.length_map ..
 by_cases hlt : k < cls.length
 ·have hlt' : ((k : Int) < (cls.length : Int)) = True:=eq_true (by omega)
  have hkw:=cf (n:=k) (by omega)
  have hg0:=ly hlt
  have hlk:=hlits _ (List.getElem_mem hlt)
  have hX:=zY hn1e (by omega) hs hlk (by have:=io (List.getElem_mem hlt);omega) (by omega)
  have hok:=hs.look hlk
  have hlf:=lH hs hlk
  rw [hsl] at hlf
  rw [qA hlt] at hRk
  have ihx:=fun s' e1 e2 e3=>ih (k + 1,s') ⟨by simp only;omega,e1,e2,e3⟩ (by simp only;omega)
  simp only at ihx
  clear ih hsl hs hSr
  generalize d8 s cls[k] = Q at *
  generalize cls[k] = c at *
  obtain ⟨a,pre,q,v⟩:=s
  obtain ⟨b,⟨a2,pre2,q2,v2⟩⟩:=Q
  simp only [bxS] at hX hRk hok hlf
  cases b with
  | true =>
   rw [if_pos rfl] at hRk
   have ih':=ihx _ hok hlf hRk
   clear ihx hRk
   simp only at ih' ⊢
   generalize pre ++ q = Q1 at *
   generalize pre2 ++ q2 = Q2 at *
   repeat' (first | (with_reducible refine hY _ ?_;clear hY Y) | ((with_reducible first | refine an rfl (ar fun K' hK'=>aa ?_) | refine hK' _ (ab fun Y hY=>aa ?_) | refine ab fun Y hY=>aa ?_ | refine ae tk0 aE (ab fun Y hY=>aa ?_) | refine aa ?_);(try clear hK' K');(try dsimp only [aop]);try simp only [go_sem,seval,-Int.reduceNatCast,-Int.reduceNatCast',aE,Tryz.results42,hlt',hkw,hg0,hfl,hCr,hFr]) | (with_reducible first | refine af ?_ | refine ai ?_ | refine aj ?_ | refine ay fun K hK=>?_ | refine ap ?_ | refine aq ?_ | refine aU ?_ | refine al ?_ | refine av ?_) | (with_reducible refine hK _ ?_;clear hK K) | ((with_reducible refine ag ?_ ?_);(· decide)) | (with_reducible refine bp ?_ ?_;(· (try and_intros) <;> first | omega | assumption | (simp only [List.length_append,List.length_map,List.length_cons,List.length_nil] <;> omega))) | (with_reducible refine ah (hX) ?_))
   refine bi [1,3,10,11,82,83,84] (by simp only [go_sem,seval,-Int.reduceNatCast,-Int.reduceNatCast',hCr,hFr];exact rfl) ?_
   exact ih'
  | false =>
   rw [if_neg (by decide)] at hRk
   have hRk : R = (false,⟨a2,pre2,q2,v2⟩):=hRk
   rw [hRk,jC]
   clear ihx hRk
   simp only
   generalize pre ++ q = Q1 at *
   generalize pre2 ++ q2 = Q2 at *
   repeat' (first | (with_reducible refine hY _ ?_;clear hY Y) | ((with_reducible first | refine an rfl (ar fun K' hK'=>aa ?_) | refine hK' _ (ab fun Y hY=>aa ?_) | refine ab fun Y hY=>aa ?_ | refine ae tk0 aE (ab fun Y hY=>aa ?_) | refine aa ?_ | refine ao ?_);(try clear hK' K');(try dsimp only [aop]);try simp only [go_sem,seval,-Int.reduceNatCast,-Int.reduceNatCast',aE,Tryz.results42,hlt',hkw,hg0,hfl,hCr,hFr]) | (with_reducible first | refine af ?_ | refine ai ?_ | refine aj ?_ | refine ay fun K hK=>?_ | refine ap ?_ | refine aS ?_ | refine bb ?_ | refine al ?_ | refine av ?_ | refine au ?_) | (with_reducible refine hK _ ?_;clear hK K) | ((with_reducible refine ag ?_ ?_);(· decide)) | (with_reducible refine bp ?_ ?_;(· (try and_intros) <;> first | omega | assumption | (simp only [List.length_append,List.length_map,List.length_cons,List.length_nil] <;> omega))) | (with_reducible refine ah (hX) ?_))
 have hlt' : ((k : Int) < (cls.length : Int)) = False:=eq_false (by omega)
 rw [List.drop_eq_nil_of_le (by omega)] at hRk
 have hR3 : R = fC cls (n + 1) s:=hRk
 clear ih hRk hk hlt
 repeat' (first | (with_reducible refine hY _ ?_;clear hY Y) | ((with_reducible first | refine an rfl (ar fun K' hK'=>aa ?_) | refine hK' _ (ab fun Y hY=>aa ?_) | refine ab fun Y hY=>aa ?_ | refine ae tk0 aE (ab fun Y hY=>aa ?_));(try clear hK' K');(try dsimp only [aop]);try simp only [go_sem,seval,-Int.reduceNatCast,-Int.reduceNatCast',aE,Tryz.results42,hlt',hCr,hFr]) | (with_reducible first | refine af ?_ | refine ai ?_ | refine aj ?_ | refine ay fun K hK=>?_ | refine aq ?_ | refine bC ?_ | refine bg ?_ | refine al ?_ | refine bf ?_ | refine bG ?_) | (with_reducible refine hK _ ?_;clear hK K) | ((with_reducible refine ag ?_ ?_);(· decide)))
 refine bK (α:=Nat × Sta) (fun x=>[(1,csA cls),(3,.loc 10003 0),(10,.loc 10037 0),(11,.arr 10041 0 N 41),(10003,.bc [inA (n : Int)] 3),(10035,.bc (x.2.a.map inA) 3),(10037,.bc [.arr 10035 0 n1 3,.ow 19999 x.2.pre.length x.2.q.length x.2.v] 146),(10041,.bc CW 41),(10067,.fo FR),(19999,.br ((x.2.pre ++ x.2.q).map inA) x.2.v 3 1)])
  (fun x=>OkSt n x.2∧du x.2≤n∧du x.2≤x.1∧R = fC cls x.1 x.2) (fun x=>du x.2) (n + 1,s) [1,3,10,11] ?_ ⟨hs,by simp only;omega,by simp only;omega,hR3⟩ ?_
 ·simp only [go_sem,seval,-Int.reduceNatCast,-Int.reduceNatCast',hCr,hFr] <;> rfl
 clear hR3 hs hsl hlt' s k
 rintro ⟨m,s⟩ ⟨hs,hsn,hsm,hRk⟩ ih
 simp only at hs hsn hsm hRk ih ⊢
 obtain ⟨a,pre,q,v⟩:=s
 cases q with
 | nil =>
  rw [sI rfl] at hRk
  rw [hRk,nP]
  have hal : a.length = n1:=by have:=hs.len;simp only at this;omega
  clear ih hRk hs
  rw [List.append_nil,hal]
  simp only [List.length_nil]
  repeat' (first | (with_reducible refine hY _ ?_;clear hY Y) | ((with_reducible first | refine an rfl (ar fun K' hK'=>aa ?_) | refine hK' _ (ab fun Y hY=>aa ?_) | refine ab fun Y hY=>aa ?_ | refine ae tk0 aE (ab fun Y hY=>aa ?_) | refine aa ?_ | refine ao ?_);(try clear hK' K');(try dsimp only [aop]);try simp only [go_sem,seval,-Int.reduceNatCast,-Int.reduceNatCast',aE,Tryz.results42,hCr,hFr]) | (with_reducible first | refine af ?_ | refine ai ?_ | refine aj ?_ | refine ay fun K hK=>?_ | refine bC ?_ | refine bg ?_ | refine au ?_ | refine bf ?_) | (with_reducible refine hK _ ?_;clear hK K) | ((with_reducible refine ag ?_ ?_);(· decide)) | ((with_reducible refine gM (fun hc=>?_) (fun hc=>?_)) <;> (try simp only [decide_eq_true_eq,decide_eq_false_iff_not,Bool.not_true,Bool.not_false,Bool.not_eq_true',Bool.not_eq_false'] at hc) <;> (try (exfalso;omega))))
 | cons l r =>
  have hpop : du (nx ⟨a,pre,l :: r,v⟩) + 1 = du ⟨a,pre,l :: r,v⟩:=uQ (by simp)
  have hps : nx ⟨a,pre,l :: r,v⟩ = ⟨a,pre ++ [l],r,v⟩:=rfl
  have hlk:=hs.q l (by simp)
  have hsp:=hs.pop
  obtain ⟨m,rfl⟩ : ∃ m',m = m' + 1:=⟨m - 1,by omega⟩
  rw [qL rfl] at hRk
  rw [hps] at hpop hsp hRk
  obtain ⟨hl1,hl2⟩:=hlk
  obtain ⟨p,hp⟩ : ∃ p : Nat,(p : Int) = (n : Int) - l:=⟨((n : Int) - l).toNat,by omega⟩
  have hwp : IntKind.i64.wrap ((n : Int) - l) = (p : Int):=by rw [aY (by omega) (by omega)];omega
  have hpN : p < N:=by omega
  have hpN' : ((p : Int) < (N : Int)) = True:=eq_true (by omega)
  have hrow:=hSr (-l) (by omega) (by omega)
  rw [show ((n : Int) + -l).toNat = p by omega] at hrow
  rw [← hrow] at hRk
  have hrlt : ∀ i ∈ S.row p,i < cls.length:=fun i hi=>oE (x:=-l) (by rw [← hrow];exact hi)
  have hCl : CW.length = N:=by rw [← hCWe,oQ,hS.len]
  have hg:=vP (S:=S) (p:=p) (by rw [hS.len];exact hpN)
  rw [hCWe] at hg
  have hQ : ((pre ++ l :: r).map inA).getD pre.length .u = inA l:=by simp [List.getD_eq_getElem?_getD]
  have hQe : pre ++ l :: r = (pre ++ [l]) ++ r:=by simp
  have hQl : pre.length < (pre ++ l :: r).length:=by simp
  have hpl : (pre ++ [l]).length = pre.length + 1:=by simp
  have hql : (0 < ((r.length + 1 : Nat) : Int)) = True:=eq_true (by omega)
  simp only [List.length_cons]
  clear hrow hs
  have ihx:=fun s' (e1 : OkSt n s') (e2 : du s' + 1 = du ⟨a,pre,l :: r,v⟩) e4=>ih (m,s') ⟨e1,by simp only;omega,by simp only;omega,e4⟩ (by simp only;omega)
  simp only at ihx
  clear ih
  generalize du ⟨a,pre,l :: r,v⟩ = LF at *
  cases hm : S.m.getD p none with
  | none =>
   rw [hm] at hg
   rw [WS.row_none hm] at hRk
   have hRk : R = fC cls m ⟨a,pre ++ [l],r,v⟩:=hRk
   have ih':=ihx _ hsp hpop hRk
   simp only [ko] at hg
   simp only [← hQe,hpl] at ih'
   clear ihx hRk hrlt
   generalize pre ++ l :: r = Q1 at *
   repeat' (first | (with_reducible refine hY _ ?_;clear hY Y) | ((with_reducible first | refine an rfl (ar fun K' hK'=>aa ?_) | refine hK' _ (ab fun Y hY=>aa ?_) | refine ab fun Y hY=>aa ?_ | refine ae tk0 aE (ab fun Y hY=>aa ?_));(try clear hK' K');(try dsimp only [aop]);try simp only [go_sem,seval,-Int.reduceNatCast,-Int.reduceNatCast',aE,Tryz.results42,hCr,hFr,hql,hQ,hQl,hwp,hpN',hCl,hg]) | (with_reducible first | refine af ?_ | refine ai ?_ | refine aj ?_ | refine ay fun K hK=>?_ | refine ap ?_ | refine al ?_ | refine av ?_ | refine bG ?_) | (with_reducible refine hK _ ?_;clear hK K) | ((with_reducible refine ag ?_ ?_);(· decide)) | (with_reducible refine bp ?_ ?_;(· (try and_intros) <;> first | omega | assumption | (simp only [List.length_append,List.length_map,List.length_cons,List.length_nil] <;> omega))))
   refine bK (α:=Unit) (fun _=>[(1,csA cls),(3,.loc 10003 0),(10,.loc 10037 0),(11,.arr 10041 0 N 41),(118,.sl [] 0 .full),(119,inA 0),(120,inA 0),(10003,.bc [inA (n : Int)] 3),(10035,.bc (a.map inA) 3),(10037,.bc [.arr 10035 0 n1 3,.ow 19999 (pre.length + 1) r.length v] 146),(10041,.bc CW 41),(10067,.fo FR),(19999,.br (Q1.map inA) v 3 1)]) (fun _=>True) (fun _=>0) () [1,3,10,11,118,119,120] ?_ trivial ?_
   ·simp only [go_sem,seval,-Int.reduceNatCast,-Int.reduceNatCast',hCr,hFr,List.set_cons_succ,List.set_cons_zero] <;> rfl
   intro _ _ ih0
   clear ih0
   repeat' (first | (with_reducible refine hY _ ?_;clear hY Y) | ((with_reducible first | refine an rfl (ar fun K' hK'=>aa ?_) | refine hK' _ (ab fun Y hY=>aa ?_) | refine ab fun Y hY=>aa ?_ | refine ae tk0 aE (ab fun Y hY=>aa ?_));(try clear hK' K');(try dsimp only [aop]);try simp only [go_sem,seval,-Int.reduceNatCast,-Int.reduceNatCast',aE,Tryz.results42,hCr,hFr]) | (with_reducible first | refine af ?_ | refine ai ?_ | refine aj ?_ | refine ay fun K hK=>?_ | refine aq ?_ | refine bC ?_ | refine aU ?_ | refine bg ?_ | refine bf ?_) | (with_reducible refine hK _ ?_;clear hK K) | ((with_reducible refine ag ?_ ?_);(· decide)))
   refine bi [1,3,10,11] (by simp only [go_sem,seval,-Int.reduceNatCast,-Int.reduceNatCast',hCr,hFr];exact rfl) ?_
   exact ih'
  | some jj =>
   rw [hm] at hg
   rw [WS.row_some hm] at hRk hrlt
   have hfa:=tg (hS.lt p jj hm)
   have hrb:=hSb2 p
   rw [WS.row_some hm] at hrb
   clear hSb2
   rw [hFRe] at hfa
   simp only [ko] at hg
   generalize S.F.getD jj [] = rw_ at *
   have hRk2 : R = rM cls m (dy ((rw_.drop 0).map fun i=>cls.getD i []) ⟨a,pre ++ [l],r,v⟩):=hRk
   clear hRk hm hSr hS hCWe hFRe
   obtain ⟨sp,hsp0⟩ : ∃ sp : Sta,sp = ⟨a,pre ++ [l],r,v⟩:=⟨_,rfl⟩
   have hrl2 : (rw_.map inN).length = rw_.length:=List.length_map ..
   have hen2 : ∀ b,b < 1000000→(enc 10067 jj == b) = false:=fun b hb=>hen jj b hb
   have hk1:=r9 10067 jj
   have hk2 : df (enc 10067 jj) = 10067:=fx jj (by decide)
   have hk3 : d7 (enc 10067 jj) = jj:=fY jj (by decide)
   obtain ⟨ek,hek⟩ : ∃ ek,ek = enc 10067 jj:=⟨_,rfl⟩
   rw [← hek] at hk1 hk2 hk3 hen2 hg
   clear hek
   have ea : a.map inA = sp.a.map inA:=by rw [hsp0]
   have eq1 : (pre ++ l :: r).map inA = (sp.pre ++ sp.q).map inA:=by rw [hsp0,hQe]
   have ep : pre.length + 1 = sp.pre.length:=by rw [hsp0];exact hpl.symm
   have eq2 : r.length = sp.q.length:=by rw [hsp0]
   have ev : v = sp.v:=by rw [hsp0]
   rw [← hsp0] at hRk2 hpop hsp
   repeat' (first | (with_reducible refine hY _ ?_;clear hY Y) | ((with_reducible first | refine an rfl (ar fun K' hK'=>aa ?_) | refine hK' _ (ab fun Y hY=>aa ?_) | refine ab fun Y hY=>aa ?_ | refine ae tk0 aE (ab fun Y hY=>aa ?_));(try clear hK' K');(try dsimp only [aop]);try simp only [go_sem,seval,-Int.reduceNatCast,-Int.reduceNatCast',aE,Tryz.results42,hCr,hFr,hql,hQ,hQl,hwp,hpN',hCl,hg,hen2]) | (with_reducible first | refine af ?_ | refine ai ?_ | refine aj ?_ | refine ay fun K hK=>?_ | refine ap ?_ | refine al ?_ | refine av ?_ | refine bG ?_) | (with_reducible refine hK _ ?_;clear hK K) | ((with_reducible refine ag ?_ ?_);(· decide)) | (with_reducible refine bp ?_ ?_;(· (try and_intros) <;> first | omega | assumption | (simp only [List.length_append,List.length_map,List.length_cons,List.length_nil] <;> omega))))
   refine bK (α:=Nat × Sta) (fun x=>[(1,csA cls),(3,.loc 10003 0),(10,.loc 10037 0),(11,.arr 10041 0 N 41),(118,.ow ek 0 rw_.length rw_.length),(119,inA (rw_.length : Int)),(120,inA (x.1 : Int)),(10003,.bc [inA (n : Int)] 3),(10035,.bc (x.2.a.map inA) 3),(10037,.bc [.arr 10035 0 n1 3,.ow 19999 x.2.pre.length x.2.q.length x.2.v] 146),(10041,.bc CW 41),(10067,.fo FR),(19999,.br ((x.2.pre ++ x.2.q).map inA) x.2.v 3 1)])
    (fun x=>x.1≤rw_.length∧OkSt n x.2∧du x.2 + 1 = LF∧R = rM cls m (dy ((rw_.drop x.1).map fun i=>cls.getD i []) x.2)) (fun x=>rw_.length - x.1) (0,sp) [1,3,10,11,118,119,120] ?_ ⟨Nat.zero_le _,hsp,hpop,hRk2⟩ ?_
   ·simp only [go_sem,seval,-Int.reduceNatCast,-Int.reduceNatCast',hCr,hFr,hen2,List.set_cons_succ,List.set_cons_zero,← ea,← eq1,← ep,← eq2,← ev] <;> rfl
   clear hRk2 hpop hsp hsp0 ea eq1 ep eq2 hg hQ hQl hQe hpl hql hwp hpN' hCl
   clear ev sp
   rintro ⟨j,s⟩ ⟨hj,hs,hsl,hRk⟩ ihj
   simp only at hj hs hsl hRk ihj ⊢
   by_cases hjl : j < rw_.length
   ·have hjl' : ((j : Int) < (rw_.length : Int)) = True:=eq_true (by omega)
    have hil:=hrlt _ (List.getElem_mem hjl)
    have hjw:=cf (n:=j) (by omega)
    have hgr : (rw_.map inN).getD j .u = inA (rw_[j] : Int):=by simp [List.getD_eq_getElem?_getD,inN,hjl]
    have hii : ((rw_[j] : Int) < (cls.length : Int)) = True:=eq_true (by omega)
    have hg0:=ly hil
    have hlk:=hlits _ (List.getElem_mem hil)
    have hX:=zY hn1e (by omega) hs hlk (by have:=io (List.getElem_mem hil);omega) (by omega)
    have hok:=hs.look hlk
    have hlf:=lH hs hlk
    have hd : (rw_.drop j).map (fun i=>cls.getD i []) = cls[rw_[j]] :: (rw_.drop (j + 1)).map fun i=>cls.getD i []:=by
     rw [List.drop_eq_getElem_cons hjl,List.map_cons]
     rw [show cls.getD rw_[j] [] = cls[rw_[j]] by rw [List.getD_eq_getElem?_getD,List.getElem?_eq_getElem hil];rfl]
    rw [hd,dy] at hRk
    have ihj':=fun s' e1 e2 e3=>ihj (j + 1,s') ⟨by simp only;omega,e1,e2,e3⟩ (by simp only;omega)
    simp only at ihj'
    rw [← hlf] at hsl
    clear ihj hs hd ihx hrlt hlits hlf
    generalize d8 s cls[rw_[j]] = Q at *
    generalize cls[rw_[j]] = c at *
    generalize rw_[j] = ii at *
    obtain ⟨a,pre,q,v⟩:=s
    obtain ⟨b,⟨a2,pre2,q2,v2⟩⟩:=Q
    simp only [bxS] at hX hRk hok hsl
    cases b with
    | true =>
     rw [if_pos rfl] at hRk
     have ihj':=ihj' _ hok hsl hRk
     clear hRk
     simp only at ihj' ⊢
     generalize pre ++ q = Q1 at *
     generalize pre2 ++ q2 = Q2 at *
     generalize rw_.map inN = RW at *
     repeat' (first | (with_reducible refine hY _ ?_;clear hY Y) | ((with_reducible first | refine an rfl (ar fun K' hK'=>aa ?_) | refine hK' _ (ab fun Y hY=>aa ?_) | refine ab fun Y hY=>aa ?_ | refine ae tk0 aE (ab fun Y hY=>aa ?_) | refine aa ?_);(try clear hK' K');(try dsimp only [aop]);try simp only [go_sem,seval,-Int.reduceNatCast,-Int.reduceNatCast',aE,Tryz.results42,hjl',hjw,hgr,hii,hg0,hfl,hfa,hrl2,hk1,hk2,hk3,hCr,hFr,hen2]) | (with_reducible first | refine af ?_ | refine ai ?_ | refine aj ?_ | refine ay fun K hK=>?_ | refine ap ?_ | refine aq ?_ | refine aU ?_ | refine al ?_ | refine av ?_) | (with_reducible refine hK _ ?_;clear hK K) | ((with_reducible refine ag ?_ ?_);(· decide)) | (with_reducible refine bp ?_ ?_;(· (try and_intros) <;> first | omega | assumption | (simp only [List.length_append,List.length_map,List.length_cons,List.length_nil] <;> omega))) | (with_reducible refine ah (hX) ?_))
     refine bi [1,3,10,11,118,119,120] (by simp only [go_sem,seval,-Int.reduceNatCast,-Int.reduceNatCast',hCr,hFr,hen2];exact rfl) ?_
     exact ihj'
    | false =>
     rw [if_neg (by decide)] at hRk
     have hRk : R = (false,⟨a2,pre2,q2,v2⟩):=hRk
     rw [hRk,jC]
     clear hRk ihj'
     simp only
     generalize pre ++ q = Q1 at *
     generalize pre2 ++ q2 = Q2 at *
     generalize rw_.map inN = RW at *
     repeat' (first | (with_reducible refine hY _ ?_;clear hY Y) | ((with_reducible first | refine an rfl (ar fun K' hK'=>aa ?_) | refine hK' _ (ab fun Y hY=>aa ?_) | refine ab fun Y hY=>aa ?_ | refine ae tk0 aE (ab fun Y hY=>aa ?_) | refine aa ?_ | refine ao ?_);(try clear hK' K');(try dsimp only [aop]);try simp only [go_sem,seval,-Int.reduceNatCast,-Int.reduceNatCast',aE,Tryz.results42,hjl',hjw,hgr,hii,hg0,hfl,hfa,hrl2,hk1,hk2,hk3,hCr,hFr,hen2]) | (with_reducible first | refine af ?_ | refine ai ?_ | refine aj ?_ | refine ay fun K hK=>?_ | refine ap ?_ | refine aS ?_ | refine bb ?_ | refine al ?_ | refine av ?_ | refine au ?_) | (with_reducible refine hK _ ?_;clear hK K) | ((with_reducible refine ag ?_ ?_);(· decide)) | (with_reducible refine bp ?_ ?_;(· (try and_intros) <;> first | omega | assumption | (simp only [List.length_append,List.length_map,List.length_cons,List.length_nil] <;> omega))) | (with_reducible refine ah (hX) ?_))
   ·have hjl' : ((j : Int) < (rw_.length : Int)) = False:=eq_false (by omega)
    rw [List.drop_eq_nil_of_le (by omega)] at hRk
    have hRk : R = fC cls m s:=hRk
    have ih':=ihx s hs hsl hRk
    clear ihj ihx hRk hrlt hlits hs hsl
    obtain ⟨a,pre,q,v⟩:=s
    simp only at ih' ⊢
    generalize pre ++ q = Q1 at *
    repeat' (first | (with_reducible refine hY _ ?_;clear hY Y) | ((with_reducible first | refine an rfl (ar fun K' hK'=>aa ?_) | refine hK' _ (ab fun Y hY=>aa ?_) | refine ab fun Y hY=>aa ?_ | refine ae tk0 aE (ab fun Y hY=>aa ?_));(try clear hK' K');(try dsimp only [aop]);try simp only [go_sem,seval,-Int.reduceNatCast,-Int.reduceNatCast',aE,Tryz.results42,hjl',hCr,hFr,hen2]) | (with_reducible first | refine af ?_ | refine ai ?_ | refine aj ?_ | refine ay fun K hK=>?_ | refine aq ?_ | refine bC ?_ | refine aU ?_ | refine bg ?_ | refine bf ?_) | (with_reducible refine hK _ ?_;clear hK K) | ((with_reducible refine ag ?_ ?_);(· decide)))
    refine bi [1,3,10,11] (by simp only [go_sem,seval,-Int.reduceNatCast,-Int.reduceNatCast',hCr,hFr,hen2];exact rfl) ?_
    exact ih'
end Go.Proofs.YtmpdocplcgbpkaaGreatDoor

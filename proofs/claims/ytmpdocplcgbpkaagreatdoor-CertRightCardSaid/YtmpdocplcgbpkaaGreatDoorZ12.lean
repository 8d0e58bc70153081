/- What follows: plain. The loops over an assignment, with what is left to do as fuel. What follows, in K: a literal is made true; what stays of an assignment. What follows: plain. Which clauses a literal stands in, as a family of rows; what stays of a state. -/
import Derived.Test.YtmpdocplcgbpkaaGreatDoorZ11
namespace Go.Proofs.YtmpdocplcgbpkaaGreatDoor
set_option linter.unusedSimpArgs false
set_option linter.unusedVariables false
def gm (cls : List (List Int)) (x : Int) : List Nat:=(cls.zipIdx.flatMap fun p=>(p.1.filter (fun l=>l == x)).map fun _=>p.2)
def setS (s : Sta) (l : Int) : Bool × Sta:=if ofA s.a l = -1 then (false,s) else if ofA s.a l = 0 then (true,ny s l) else (true,s)
def gh : List Int→Sta→Bool × Sta
 | [],s=>(true,s)
 | l :: r,s=>if (setS s l).1 then gh r (setS s l).2 else (false,(setS s l).2)
def dy : List (List Int)→Sta→Bool × Sta
 | [],s=>(true,s)
 | c :: r,s=>if (d8 s c).1 then dy r (d8 s c).2 else (false,(d8 s c).2)
def nx (s : Sta) : Sta:=⟨s.a,s.pre ++ s.q.take 1,s.q.drop 1,s.v⟩
def fC (cls : List (List Int)) : Nat→Sta→Bool × Sta
 | 0,s=>(true,s)
 | m + 1,s=>if s.q = [] then (true,s) else
  if (dy ((gm cls (-(s.q.headD 0))).map fun i=>cls.getD i []) (nx s)).1 then fC cls m (dy ((gm cls (-(s.q.headD 0))).map fun i=>cls.getD i []) (nx s)).2
  else (false,(dy ((gm cls (-(s.q.headD 0))).map fun i=>cls.getD i []) (nx s)).2)
def gN (n : Nat) (cls : List (List Int)) (lits : List Int) : Bool × Sta :=
 let s0 : Sta:=⟨List.replicate (n + 1) 0,[],[],0⟩
 if (gh lits s0).1 then (if (dy cls (gh lits s0).2).1 then fC cls (n + 1) (dy cls (gh lits s0).2).2 else (false,(dy cls (gh lits s0).2).2)) else (false,(gh lits s0).2)
def rJ (a : List Int) : Nat:=(a.drop 1).countP (fun x=>x == 0)
def du (s : Sta) : Nat:=rJ s.a + s.q.length
theorem vv {a : List Int} {i : Nat} {x : Int} (h1 : 1≤i) (hi : i < a.length) (h0 : a.getD i 0 = 0) (hx : x ≠ 0) : rJ (a.set i x) + 1 = rJ a:=by
 unfold rJ
 have e : (a.set i x).drop 1 = (a.drop 1).set (i - 1) x:=by rw [List.drop_set];rw [if_neg (by omega)]
 have hl : i - 1 < (a.drop 1).length:=by rw [List.length_drop];omega
 have hg : (a.drop 1)[i - 1] = 0:=by
  rw [List.getElem_drop]
  rw [List.getD_eq_getElem?_getD,List.getElem?_eq_getElem hi] at h0
  simp only [show 1 + (i - 1) = i by omega]
  simpa using h0
 have hc:=List.countP_set (p:=fun x : Int=>x == 0) (a:=x) hl
 rw [hg] at hc
 have hx' : ((fun x : Int=>x == 0) x) = false:=by simp [hx]
 simp only [hx',show ((0 : Int) == 0) = true from rfl,if_true,Bool.false_eq_true,if_false,Nat.add_zero] at hc
 rw [e,hc]
 have hpos : 0 < (a.drop 1).countP (fun x=>x == 0):=List.countP_pos_iff.2 ⟨_,List.getElem_mem hl,by rw [hg];rfl⟩
 omega
theorem Br {a : List Int} {l : Int} (h : ofA a l = 0) : a.getD l.natAbs 0 = 0:=by
 unfold ofA at h
 split at h
 ·rw [show l.natAbs = (-l).toNat by omega];omega
 ·rw [show l.natAbs = l.toNat by omega];exact h
theorem oe {s : Sta} {l : Int} (h0 : ofA s.a l = 0) (hl : l ≠ 0) (hb : l.natAbs < s.a.length) : du (ny s l) = du s:=by
 unfold du ny
 have:=vv (x:=if 0 < l then 1 else -1) (show 1≤l.natAbs by omega) hb (Br h0) (by split <;> decide)
 simp only [List.length_append,List.length_cons,List.length_nil]
 omega
theorem sC {s : Sta} {c : List Int} (hc : ∀ l ∈ c,l ≠ 0∧l.natAbs < s.a.length) : du (d8 s c).2 = du s:=by
 unfold d8
 split
 ·rfl
 ·split
  ·rfl
  ·rename_i h1 h2
   have h3:=jH s.a c 0 (fun h=>absurd rfl h) (fun l hl=>(hc l hl).1) h2
   have hm : (dW s.a c 0).2 ∈ c:=by
    rcases gw s.a c 0 with h | h | h
    ·exact absurd h h2
    ·exact absurd h h2
    ·exact h
   exact oe h3 h2 (hc _ hm).2
theorem uQ {s : Sta} (h : s.q ≠ []) : du (nx s) + 1 = du s:=by
 unfold du nx
 have : 0 < s.q.length:=List.length_pos_iff.2 h
 simp only [List.length_drop]
 omega
end Go.Proofs.YtmpdocplcgbpkaaGreatDoor
namespace Go.Proofs.YtmpdocplcgbpkaaGreatDoor
set_option linter.unusedSimpArgs false
set_option linter.unusedVariables false
open Go.RowKit
def InA (a : List Int) : Prop:=∀ i,-1≤a.getD i 0∧a.getD i 0≤1
theorem InA.set {a : List Int} (h : InA a) (i : Nat) {x : Int} (hx : -1≤x∧x≤1) : InA (a.set i x):=fun j=>by
 rw [List.getD_eq_getElem?_getD,List.getElem?_set]
 split
 ·split
  ·exact hx
  ·exact ⟨by decide,by decide⟩
 ·have:=h j
  rw [List.getD_eq_getElem?_getD] at this
  exact this
theorem InA.put {s : Sta} (h : InA s.a) (l : Int) : InA (ny s l).a:=h.set _ (by split <;> decide)
theorem InA.setS {s : Sta} (h : InA s.a) (l : Int) : InA (setS s l).2.a:=by
 unfold Go.Proofs.YtmpdocplcgbpkaaGreatDoor.setS
 split
 ·exact h
 ·split
  ·exact h.put l
  ·exact h
theorem InA.look {s : Sta} (h : InA s.a) (c : List Int) : InA (d8 s c).2.a:=by
 unfold d8
 split
 ·exact h
 ·split
  ·exact h
  ·exact h.put _
theorem uY {s : Sta} {l : Int} (hl : l ≠ 0) (hb : l.natAbs < s.a.length) : du (setS s l).2 = du s:=by
 unfold setS
 split
 ·rfl
 ·split
  ·rename_i h
   exact oe h hl hb
  ·rfl
theorem A7 (s : Sta) (l : Int) (hl : l.natAbs < s.a.length) (hb : s.a.length≤1000000) (hq : s.q.length≤1000000) (ha : InA s.a) :
  AFn Tryz.prog 85 [.loc 20000 0,inA l] (stS s) (.c (.bool (setS s l).1)) (stS (setS s l).2):=by
 obtain ⟨a,pre,q,v⟩:=s
 simp only at hl hb hq ha
 unfold setS
 simp only
 by_cases h0 : ofA a l = 0
 ·rw [if_neg (by rw [h0];decide),if_pos h0]
  exact w8 a pre q v l hl hb hq ha h0
 ·have h:=A6 a pre q v l hl hb ha h0
  by_cases h1 : ofA a l = -1
  ·rw [if_pos h1]
   rw [decide_eq_false (by simp [h1])] at h
   exact h
  ·rw [if_neg h1,if_neg h0]
   rw [decide_eq_true h1] at h
   exact h
end Go.Proofs.YtmpdocplcgbpkaaGreatDoor
namespace Go.Proofs.YtmpdocplcgbpkaaGreatDoor
set_option linter.unusedSimpArgs false
set_option linter.unusedVariables false
def OkL (n : Nat) (l : Int) : Prop:=l ≠ 0∧l.natAbs≤n
structure OkSt (n : Nat) (s : Sta) : Prop where
 a : InA s.a
 len : s.a.length = n + 1
 q : ∀ l ∈ s.q,OkL n l
theorem OkSt.put {n : Nat} {s : Sta} (h : OkSt n s) {l : Int} (hl : OkL n l) : OkSt n (ny s l) :=
 ⟨h.a.put l,by unfold ny;simpa using h.len,fun x hx=>by
  have hx : x ∈ s.q ++ [l]:=hx
  rcases List.mem_append.1 hx with hx | hx
  ·exact h.q x hx
  ·rw [List.mem_singleton] at hx;subst hx;exact hl⟩
theorem OkSt.set {n : Nat} {s : Sta} (h : OkSt n s) {l : Int} (hl : OkL n l) : OkSt n (setS s l).2:=by
 unfold setS
 split
 ·exact h
 ·split
  ·exact h.put hl
  ·exact h
theorem OkSt.look {n : Nat} {s : Sta} (h : OkSt n s) {c : List Int} (hc : ∀ l ∈ c,OkL n l) : OkSt n (d8 s c).2:=by
 unfold d8
 split
 ·exact h
 ·split
  ·exact h
  ·rename_i h1 h2
   refine h.put ?_
   rcases gw s.a c 0 with e | e | e
   ·exact absurd e h2
   ·exact absurd e h2
   ·exact hc _ e
theorem OkSt.sets {n : Nat} : ∀ {r : List Int} {s : Sta},OkSt n s→(∀ l ∈ r,OkL n l)→OkSt n (gh r s).2
 | [],s,h,_=>h
 | l :: r,s,h,hr=>by
  rw [gh]
  split
  ·exact OkSt.sets (h.set (hr l (by simp))) fun x hx=>hr x (by simp [hx])
  ·exact h.set (hr l (by simp))
theorem OkSt.looks {n : Nat} : ∀ {r : List (List Int)} {s : Sta},OkSt n s→(∀ c ∈ r,∀ l ∈ c,OkL n l)→OkSt n (dy r s).2
 | [],s,h,_=>h
 | c :: r,s,h,hr=>by
  rw [dy]
  split
  ·exact OkSt.looks (h.look (hr c (by simp))) fun x hx=>hr x (by simp [hx])
  ·exact h.look (hr c (by simp))
theorem OkSt.pop {n : Nat} {s : Sta} (h : OkSt n s) : OkSt n (nx s):=⟨h.a,h.len,fun l hl=>h.q l (List.mem_of_mem_drop hl)⟩
theorem sE (n : Nat) : OkSt n ⟨List.replicate (n + 1) 0,[],[],0⟩:=by
 refine ⟨fun i=>?_,by simp,fun l hl=>absurd hl List.not_mem_nil⟩
 rw [List.getD_eq_getElem?_getD,List.getElem?_replicate]
 split <;> exact ⟨by decide,by decide⟩
theorem AJ (n : Nat) : du ⟨List.replicate (n + 1) 0,[],[],0⟩ = n:=by
 unfold du rJ
 simp [List.drop_replicate,List.countP_replicate]
structure WS where
 m : List (Option Nat)
 F : List (List Nat)
def WS.row (S : WS) (p : Nat) : List Nat:=match S.m.getD p none with | none=>[] | some j=>S.F.getD j []
structure WS.Ok (S : WS) (N : Nat) : Prop where
 len : S.m.length = N
 lt : ∀ p j,S.m.getD p none = some j→j < S.F.length
 inj : ∀ p q j,S.m.getD p none = some j→S.m.getD q none = some j→p = q
def WS.add (S : WS) (p i : Nat) : WS:=match S.m.getD p none with | none=>⟨S.m.set p (some S.F.length),S.F ++ [[i]]⟩ | some j=>⟨S.m,S.F.set j (S.F.getD j [] ++ [i])⟩
theorem fz {α : Type} (l : List α) (p q : Nat) (x d : α) (hp : p < l.length) : (l.set p x).getD q d = if p = q then x else l.getD q d:=by
 rw [List.getD_eq_getElem?_getD,List.getElem?_set,List.getD_eq_getElem?_getD]
 by_cases h : p = q
 ·rw [if_pos h,if_pos h,if_pos (by omega)];rfl
 ·rw [if_neg h,if_neg h]
theorem nR {α : Type} (l : List α) (x d : α) : (l ++ [x]).getD l.length d = x:=by simp [List.getD_eq_getElem?_getD]
theorem nQ {α : Type} (l r : List α) (d : α) {j : Nat} (h : j < l.length) : (l ++ r).getD j d = l.getD j d:=by
 rw [List.getD_eq_getElem?_getD,List.getElem?_append_left h,List.getD_eq_getElem?_getD]
theorem WS.Ok.add {S : WS} {N : Nat} (h : S.Ok N) {p : Nat} (hp : p < N) (i : Nat) : (S.add p i).Ok N:=by
 have hpl : p < S.m.length:=by rw [h.len];exact hp
 unfold WS.add
 split
 ·rename_i e
  refine ⟨by simp [h.len],fun q j hq=>?_,fun q r j hq hr=>?_⟩
  ·simp only at hq ⊢
   rw [fz _ _ _ _ _ hpl] at hq
   rw [List.length_append,List.length_singleton]
   split at hq
   ·injection hq with hq;omega
   ·have:=h.lt q j hq;omega
  ·simp only at hq hr
   rw [fz _ _ _ _ _ hpl] at hq hr
   split at hq
   ·split at hr
    ·omega
    ·injection hq with hq
     have:=h.lt r j hr
     omega
   ·split at hr
    ·injection hr with hr
     have:=h.lt q j hq
     omega
    ·exact h.inj q r j hq hr
 ·rename_i j e
  exact ⟨h.len,fun q k hq=>by have:=h.lt q k hq;simpa using this,fun q r k hq hr=>h.inj q r k hq hr⟩
theorem WS.add_none {S : WS} {p : Nat} (e : S.m.getD p none = none) (i : Nat) : S.add p i = ⟨S.m.set p (some S.F.length),S.F ++ [[i]]⟩:=by unfold WS.add;rw [e]
theorem WS.add_some {S : WS} {p j : Nat} (e : S.m.getD p none = some j) (i : Nat) : S.add p i = ⟨S.m,S.F.set j (S.F.getD j [] ++ [i])⟩:=by unfold WS.add;rw [e]
theorem WS.row_none {S : WS} {p : Nat} (e : S.m.getD p none = none) : S.row p = []:=by unfold WS.row;rw [e]
theorem WS.row_some {S : WS} {p j : Nat} (e : S.m.getD p none = some j) : S.row p = S.F.getD j []:=by unfold WS.row;rw [e]
theorem WS.row_add {S : WS} {N : Nat} (h : S.Ok N) {p : Nat} (hp : p < N) (i q : Nat) : (S.add p i).row q = if p = q then S.row q ++ [i] else S.row q:=by
 have hpl : p < S.m.length:=by rw [h.len];exact hp
 cases e : S.m.getD p none with
 | none =>
  rw [WS.add_none e]
  by_cases hq : p = q
  ·subst hq
   rw [if_pos rfl,WS.row_none e]
   rw [WS.row_some (j:=S.F.length) (by show (S.m.set p (some S.F.length)).getD p none = _;rw [fz _ _ _ _ _ hpl,if_pos rfl])]
   show (S.F ++ [[i]]).getD S.F.length [] = _
   rw [nR];rfl
  ·rw [if_neg hq]
   have e1 : (S.m.set p (some S.F.length)).getD q none = S.m.getD q none:=by rw [fz _ _ _ _ _ hpl,if_neg hq]
   cases e2 : S.m.getD q none with
   | none =>
    rw [WS.row_none e2]
    exact WS.row_none (e1.trans e2)
   | some j =>
    rw [WS.row_some e2,WS.row_some (S:=⟨S.m.set p (some S.F.length),S.F ++ [[i]]⟩) (e1.trans e2)]
    show (S.F ++ [[i]]).getD j [] = _
    rw [nQ _ _ _ (h.lt q j e2)]
 | some j =>
  have hj:=h.lt p j e
  rw [WS.add_some e]
  by_cases hq : p = q
  ·subst hq
   rw [if_pos rfl,WS.row_some e,WS.row_some (S:=⟨S.m,S.F.set j (S.F.getD j [] ++ [i])⟩) e]
   show (S.F.set j (S.F.getD j [] ++ [i])).getD j [] = _
   rw [fz _ _ _ _ _ hj,if_pos rfl]
  ·rw [if_neg hq]
   cases e2 : S.m.getD q none with
   | none =>
    rw [WS.row_none e2]
    exact WS.row_none (S:=⟨S.m,S.F.set j (S.F.getD j [] ++ [i])⟩) e2
   | some k =>
    rw [WS.row_some e2,WS.row_some (S:=⟨S.m,S.F.set j (S.F.getD j [] ++ [i])⟩) e2]
    show (S.F.set j (S.F.getD j [] ++ [i])).getD k [] = _
    rw [fz _ _ _ _ _ hj,if_neg]
    intro e3
    subst e3
    exact hq (h.inj p q j e e2)
def ws0 (N : Nat) : WS:=⟨List.replicate N none,[]⟩
theorem s6 (N p : Nat) : (ws0 N).m.getD p none = none:=by
 unfold ws0
 rw [List.getD_eq_getElem?_getD,List.getElem?_replicate]
 split <;> rfl
theorem Bd (N : Nat) : (ws0 N).Ok N:=⟨by simp [ws0],(fun p j h=>by rw [s6] at h;cases h),(fun p q j h=>by rw [s6] at h;cases h)⟩
theorem zK (N p : Nat) : (ws0 N).row p = []:=by unfold WS.row;rw [s6]
theorem rE {cls : List (List Int)} {k : Nat} (h : k < cls.length) (x : Int) : gm (cls.take (k + 1)) x = gm (cls.take k) x ++ (cls[k].filter (fun l=>l == x)).map fun _=>k:=by
 unfold gm
 rw [List.take_succ_eq_append_getElem h,List.zipIdx_append,List.flatMap_append]
 congr 1
 rw [List.length_take,Nat.min_eq_left (by omega)]
 simp
theorem uw {c : List Int} {j : Nat} (h : j < c.length) (x : Int) (k : Nat) : ((c.take (j + 1)).filter (fun l=>l == x)).map (fun _=>k) = ((c.take j).filter (fun l=>l == x)).map (fun _=>k) ++ if c[j] = x then [k] else []:=by
 rw [List.take_succ_eq_append_getElem h,List.filter_append,List.map_append]
 congr 1
 by_cases e : c[j] = x
 ·simp [e]
 ·simp [e]
theorem oE {cls : List (List Int)} {x : Int} {i : Nat} (h : i ∈ gm cls x) : i < cls.length:=by
 unfold gm at h
 obtain ⟨⟨c,j⟩,hp,hi⟩:=List.mem_flatMap.1 h
 obtain ⟨_,_,rfl⟩:=List.mem_map.1 hi
 have:=List.mem_zipIdx hp
 simp at this
 omega
end Go.Proofs.YtmpdocplcgbpkaaGreatDoor

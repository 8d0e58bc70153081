/- scan.token, in K. scan.Scan: what it answers, and that it does, in K. What scanL gives: its errors, its tokens. The parser's state at the beginning; programs. No program is in sight. The parser in K: procedures, programs. -/
import Derived.Test.YtkjnkkmokojnpaaGreatDoorZ6
import Derived.Test.YtkjnkkmokojnpaaGreatDoorZ20
import Derived.Test.YtkjnkkmokojnpaaGreatDoorZ21
namespace Go.Proofs.YtkjnkkmokojnpaaGreatDoor
set_option linter.unusedSimpArgs false
set_option linter.unusedVariables false
open Go.RowKit
theorem wS {α : Type} {p : α→Bool} : ∀ {l : List α} {k : Nat} (hk : k < l.length),(∀ j (hj : j < l.length),j < k→p l[j] = false)→p l[k] = true→l.find? p = some l[k]
 | x :: l,0,_,_,h=>by simp at h;simp [h]
 | x :: l,k + 1,hk,hall,h=>by
  have h0:=hall 0 (by simp) (by omega)
  simp only [List.getElem_cons_zero] at h0
  rw [List.find?_cons,h0]
  exact wS (Nat.lt_of_succ_lt_succ hk) (fun j hj hjk=>hall (j + 1) (Nat.succ_lt_succ hj) (Nat.succ_lt_succ hjk)) h
theorem Bv {α : Type} {p : α→Bool} {l : List α} (h : ∀ j (hj : j < l.length),p l[j] = false) : l.find? p = none:=by
 rw [List.find?_eq_none]
 intro x hx
 obtain ⟨j,hj,rfl⟩:=List.getElem_of_mem hx
 rw [h j hj];simp
theorem lS {l : List UInt8} {a n : Nat} : (l.drop a).take (a + n - a) = (l.drop a).take n:=by rw [Nat.add_sub_cancel_left]
def bF : Nat→List Nat
 | 0=>[0,1]
 | 1=>[0,1,4]
 | 2=>[0,1,4,6]
 | 3=>[0,1,4]
 | 4=>[0,1,4,6]
 | 5=>[4]
 | 6=>[0,1,4,6]
 | 7=>[4,7]
 | 8=>[4,7]
 | 9=>[4,7]
 | 10=>[0,1,4]
 | 11=>[0,1,4,8]
 | 12=>[0,1,4,8]
 | 13=>[4]
 | 14=>[0,1,4,8]
 | 15=>[0,1,4]
 | 16=>[0,1,4,67,68,69]
 | 17=>[0,1,4,67,68,69]
 | 18=>[0,1,4,10,67,68,69]
 | 19=>[1,4,10]
 | 20=>[0,1,4,67,68,69]
 | 21=>[4]
 | _=>[]
set_option maxRecDepth 100000 in
set_option maxHeartbeats 4000000 in
theorem C8 (l : List UInt8) (a : Nat) (ha : a < l.length) (hl : l.length≤4611686018427387904) : AFn Tryz.prog 128 [bs l,.c (.int .i64 (a : Int))] [] (.tup [.agg (nd (jl a (l.drop a)).1),fm (jl a (l.drop a)).2]) []:=by
 have hle : a≤l.length:=by omega
 have h1:=rl l lettersL tM a hle hl
 unfold jl
 by_cases c1 : 0 < dz lettersL (l.drop a)
 ·rw [if_pos c1]
  have h2:=rl l wordL vF a hle hl
  have hn:=kc wordL (l.drop a)
  have c1' : ((0 : Int) < (dz lettersL (l.drop a) : Int)) = True:=by simp;omega
  by_cases c2 : 32 < dz wordL (l.drop a)
  ·rw [if_pos c2]
   have c2' : ((32 : Int) < (dz wordL (l.drop a) : Int)) = True:=by simp;omega
   refine aC [] Tryz.func128 rfl Tryz.ntmps128 (Nat.le_of_ble_eq_true rfl) (Nat.le_of_ble_eq_true rfl) fun w0 G0 B0 Pr hB0=>?_
   simp only [aJ,aB,List.cons_append,List.nil_append]
   repeat' (first | (with_reducible refine hY _ ?_;clear hY Y) | ((with_reducible first | refine ar rfl (ay fun K' hK'=>aa ?_) | refine hK' _ (ab fun Y hY=>aa ?_) | refine ab fun Y hY=>aa ?_ | refine ae tk0 bF (ab fun Y hY=>aa ?_) | refine aa ?_ | refine aq ?_);(try clear hK' K');(try dsimp only [aop]);try simp only [go_sem,seval,bF,Tryz.results128,iN,xD,c1',c2']) | (with_reducible first | refine ag ?_ | refine aj ?_ | refine am ?_ | refine aF fun K hK=>?_ | refine ax ?_ | refine aZ ?_ | refine aA ?_) | (with_reducible refine hK _ ?_;clear hK K) | ((with_reducible refine ai ?_ ?_);(· decide)) | (with_reducible refine ac (h1) ?_) | (with_reducible refine ac (h2) ?_))
   all_goals (rfl)
  ·rw [if_neg c2]
   have c2' : ((32 : Int) < (dz wordL (l.drop a) : Int)) = False:=by simp;omega
   generalize dz wordL (l.drop a) = n at *
   rw [List.length_drop] at hn
   have hw1 : IntKind.i64.wrap ((a : Int) + (n : Int)) = ((a + n : Nat) : Int):=by rw [bZ (by omega) (by omega)];omega
   have h3:=DN ((l.drop a).take n)
   by_cases c3 : keyL.contains ((l.drop a).take n) = true
   ·rw [c3] at h3
    rw [if_pos c3]
    refine aC [] Tryz.func128 rfl Tryz.ntmps128 (Nat.le_of_ble_eq_true rfl) (Nat.le_of_ble_eq_true rfl) fun w0 G0 B0 Pr hB0=>?_
    simp only [aJ,aB,List.cons_append,List.nil_append]
    repeat' (first | (with_reducible refine hY _ ?_;clear hY Y) | ((with_reducible first | refine ar rfl (ay fun K' hK'=>aa ?_) | refine hK' _ (ab fun Y hY=>aa ?_) | refine ab fun Y hY=>aa ?_ | refine ae tk0 bF (ab fun Y hY=>aa ?_) | refine aa ?_ | refine aq ?_);(try clear hK' K');(try dsimp only [aop]);try simp only [go_sem,seval,bF,Tryz.results128,iN,xD,c1',c2',hw1,lS]) | (with_reducible first | refine ag ?_ | refine aj ?_ | refine am ?_ | refine aF fun K hK=>?_ | refine ax ?_ | refine av ?_ | refine aZ ?_ | refine aD ?_ | refine aA ?_) | (with_reducible refine hK _ ?_;clear hK K) | ((with_reducible refine ai ?_ ?_);(· decide)) | (with_reducible refine br ?_ ?_;(· (try and_intros) <;> first | omega | assumption | (simp only [List.length_append,List.length_map,List.length_cons,List.length_nil] <;> omega))) | (with_reducible refine ac (h1) ?_) | (with_reducible refine ac (h2) ?_) | (with_reducible refine ac (h3) ?_))
    all_goals (rfl)
   ·rw [Bool.eq_false_iff.2 c3] at h3
    rw [if_neg c3]
    refine aC [] Tryz.func128 rfl Tryz.ntmps128 (Nat.le_of_ble_eq_true rfl) (Nat.le_of_ble_eq_true rfl) fun w0 G0 B0 Pr hB0=>?_
    simp only [aJ,aB,List.cons_append,List.nil_append]
    repeat' (first | (with_reducible refine hY _ ?_;clear hY Y) | ((with_reducible first | refine ar rfl (ay fun K' hK'=>aa ?_) | refine hK' _ (ab fun Y hY=>aa ?_) | refine ab fun Y hY=>aa ?_ | refine ae tk0 bF (ab fun Y hY=>aa ?_) | refine aa ?_ | refine aq ?_);(try clear hK' K');(try dsimp only [aop]);try simp only [go_sem,seval,bF,Tryz.results128,iN,xD,c1',c2',hw1,lS]) | (with_reducible first | refine ag ?_ | refine aj ?_ | refine am ?_ | refine aF fun K hK=>?_ | refine ax ?_ | refine av ?_ | refine aZ ?_ | refine aD ?_ | refine aA ?_) | (with_reducible refine hK _ ?_;clear hK K) | ((with_reducible refine ai ?_ ?_);(· decide)) | (with_reducible refine br ?_ ?_;(· (try and_intros) <;> first | omega | assumption | (simp only [List.length_append,List.length_map,List.length_cons,List.length_nil] <;> omega))) | (with_reducible refine ac (h1) ?_) | (with_reducible refine ac (h2) ?_) | (with_reducible refine ac (h3) ?_))
    all_goals (rfl)
 ·rw [if_neg c1]
  have c1' : ((0 : Int) < (dz lettersL (l.drop a) : Int)) = False:=by simp;omega
  have h2:=rl l digitsL Br a hle hl
  have hn:=kc digitsL (l.drop a)
  by_cases c2 : 0 < dz digitsL (l.drop a)
  ·rw [if_pos c2]
   have c2' : ((0 : Int) < (dz digitsL (l.drop a) : Int)) = True:=by simp;omega
   generalize dz digitsL (l.drop a) = n at *
   rw [List.length_drop] at hn
   have hw1 : IntKind.i64.wrap ((a : Int) + (n : Int)) = ((a + n : Nat) : Int):=by rw [bZ (by omega) (by omega)];omega
   have h3:=Ac ((l.drop a).take n) (by rw [List.length_take,List.length_drop];omega)
   have h4:=rl l lettersL tM (a + n) (by omega) hl
   rw [← List.drop_drop] at h4
   by_cases c3 : Ab ((l.drop a).take n) = true
   ·rw [c3] at h3 ⊢
    by_cases c4 : 0 < dz lettersL ((l.drop a).drop n)
    ·have c4' : ((0 : Int) < (dz lettersL ((l.drop a).drop n) : Int)) = True:=eq_true (by omega)
     rw [if_pos (by simp only [Bool.not_true,Bool.false_or,decide_eq_true_eq];exact c4)]
     refine aC [] Tryz.func128 rfl Tryz.ntmps128 (Nat.le_of_ble_eq_true rfl) (Nat.le_of_ble_eq_true rfl) fun w0 G0 B0 Pr hB0=>?_
     simp only [aJ,aB,List.cons_append,List.nil_append]
     repeat' (first | (with_reducible refine hY _ ?_;clear hY Y) | ((with_reducible first | refine ar rfl (ay fun K' hK'=>aa ?_) | refine hK' _ (ab fun Y hY=>aa ?_) | refine ba rfl (ab fun Y hY=>aa ?_) | refine ab fun Y hY=>aa ?_ | refine ay fun K' hK'=>aa ?_ | refine ae tk0 bF (ab fun Y hY=>aa ?_) | refine aa ?_ | refine aq ?_);(try clear hK' K');(try dsimp only [aop]);try simp only [go_sem,seval,bF,Tryz.results128,iN,pH,c1',c2',c4',hw1,lS]) | (with_reducible first | refine ag ?_ | refine aK ?_ | refine aj ?_ | refine am ?_ | refine aF fun K hK=>?_ | refine ax ?_ | refine av ?_ | refine aZ ?_ | refine aD ?_ | refine aA ?_) | (with_reducible refine hK _ ?_;clear hK K) | ((with_reducible first | refine aI ?_ ?_ | refine ai ?_ ?_);(· decide)) | (with_reducible refine br ?_ ?_;(· (try and_intros) <;> first | omega | assumption | (simp only [List.length_append,List.length_map,List.length_cons,List.length_nil] <;> omega))) | (with_reducible refine ac (h1) ?_) | (with_reducible refine ac (h2) ?_) | (with_reducible refine ac (h3) ?_) | (with_reducible refine ac (h4) ?_))
     all_goals (rfl)
    ·have c4' : ((0 : Int) < (dz lettersL ((l.drop a).drop n) : Int)) = False:=eq_false (by omega)
     rw [if_neg (by simp only [Bool.not_true,Bool.false_or,decide_eq_true_eq];exact c4)]
     refine aC [] Tryz.func128 rfl Tryz.ntmps128 (Nat.le_of_ble_eq_true rfl) (Nat.le_of_ble_eq_true rfl) fun w0 G0 B0 Pr hB0=>?_
     simp only [aJ,aB,List.cons_append,List.nil_append]
     repeat' (first | (with_reducible refine hY _ ?_;clear hY Y) | ((with_reducible first | refine ar rfl (ay fun K' hK'=>aa ?_) | refine hK' _ (ab fun Y hY=>aa ?_) | refine ba rfl (ab fun Y hY=>aa ?_) | refine ab fun Y hY=>aa ?_ | refine ay fun K' hK'=>aa ?_ | refine ae tk0 bF (ab fun Y hY=>aa ?_) | refine aa ?_ | refine aq ?_);(try clear hK' K');(try dsimp only [aop]);try simp only [go_sem,seval,bF,Tryz.results128,iN,pH,c1',c2',c4',hw1,lS]) | (with_reducible first | refine ag ?_ | refine aK ?_ | refine aj ?_ | refine am ?_ | refine aF fun K hK=>?_ | refine ax ?_ | refine av ?_ | refine aZ ?_ | refine aD ?_ | refine aA ?_) | (with_reducible refine hK _ ?_;clear hK K) | ((with_reducible first | refine aI ?_ ?_ | refine ai ?_ ?_);(· decide)) | (with_reducible refine br ?_ ?_;(· (try and_intros) <;> first | omega | assumption | (simp only [List.length_append,List.length_map,List.length_cons,List.length_nil] <;> omega))) | (with_reducible refine ac (h1) ?_) | (with_reducible refine ac (h2) ?_) | (with_reducible refine ac (h3) ?_) | (with_reducible refine ac (h4) ?_))
     all_goals (rfl)
   ·have c3':=Bool.eq_false_iff.2 c3
    rw [c3'] at h3 ⊢
    rw [if_pos (by simp)]
    refine aC [] Tryz.func128 rfl Tryz.ntmps128 (Nat.le_of_ble_eq_true rfl) (Nat.le_of_ble_eq_true rfl) fun w0 G0 B0 Pr hB0=>?_
    simp only [aJ,aB,List.cons_append,List.nil_append]
    repeat' (first | (with_reducible refine hY _ ?_;clear hY Y) | ((with_reducible first | refine ar rfl (ay fun K' hK'=>aa ?_) | refine hK' _ (ab fun Y hY=>aa ?_) | refine ba rfl (ab fun Y hY=>aa ?_) | refine ab fun Y hY=>aa ?_ | refine ae tk0 bF (ab fun Y hY=>aa ?_) | refine aa ?_ | refine aq ?_);(try clear hK' K');(try dsimp only [aop]);try simp only [go_sem,seval,bF,Tryz.results128,iN,pH,c1',c2',hw1,lS]) | (with_reducible first | refine ag ?_ | refine aW rfl ?_ | refine dc ?_ ?_ | refine aj ?_ | refine am ?_ | refine aF fun K hK=>?_ | refine ax ?_ | refine av ?_ | refine aZ ?_ | refine aD ?_ | refine aA ?_) | (with_reducible refine hK _ ?_;clear hK K) | ((with_reducible first | refine aI ?_ ?_ | refine ai ?_ ?_);(· decide)) | (with_reducible refine br ?_ ?_;(· (try and_intros) <;> first | omega | assumption | (simp only [List.length_append,List.length_map,List.length_cons,List.length_nil] <;> omega))) | (with_reducible refine ac (h1) ?_) | (with_reducible refine ac (h2) ?_) | (with_reducible refine ac (h3) ?_))
    all_goals (rfl)
  ·rw [if_neg c2]
   have c2' : ((0 : Int) < (dz digitsL (l.drop a) : Int)) = False:=by simp;omega
   refine aC [] Tryz.func128 rfl Tryz.ntmps128 (Nat.le_of_ble_eq_true rfl) (Nat.le_of_ble_eq_true rfl) fun w0 G0 B0 Pr hB0=>?_
   simp only [aJ,aB,List.cons_append,List.nil_append]
   repeat' (first | (with_reducible refine hY _ ?_;clear hY Y) | ((with_reducible first | refine ar rfl (ay fun K' hK'=>aa ?_) | refine hK' _ (ab fun Y hY=>aa ?_) | refine ab fun Y hY=>aa ?_ | refine ae tk0 bF (ab fun Y hY=>aa ?_) | refine aa ?_);(try clear hK' K');(try dsimp only [aop]);try simp only [go_sem,seval,bF,Tryz.results128,iN,pH,c1',c2']) | (with_reducible first | refine ag ?_ | refine aj ?_ | refine am ?_ | refine aF fun K hK=>?_ | refine av ?_ | refine ap ?_ | refine aD ?_ | refine bW ?_) | (with_reducible refine hK _ ?_;clear hK K) | ((with_reducible refine ai ?_ ?_);(· decide)) | (with_reducible refine ac (h1) ?_) | (with_reducible refine ac (h2) ?_))
   refine b9 (α:=Nat) (fun k=>[(0,bs l),(1,.c (.int .i64 (a : Int))),(4,.loc 10004 0),(67,.sl (opL.map bs) 21 .none),(68,.c (.int .i64 21)),(69,.c (.int .i64 (k : Int))),(10004,.bc (nd uU) 165)])
    (fun k=>k≤21∧∀ j (hj : j < opL.length),j < k→opL[j].isPrefixOf (l.drop a) = false) (fun k=>21 - k) 0 [0,1,4,67,68,69] ?_ ⟨Nat.zero_le _,fun j _ h=>absurd h (by omega)⟩ ?_
   ·simp only [go_sem,seval] <;> rfl
   have hkl : opL.length = 21:=rfl
   rintro k ⟨hk,hall⟩ ih
   clear h1 h2
   by_cases hlt : k < 21
   ·have hlt' : ((k : Int) < 21) = True:=by simp;omega
    have hkw : IntKind.i64.wrap ((k : Int) + 1) = ((k + 1 : Nat) : Int):=by rw [bZ (by omega) (by omega)];rfl
    have hat:=lI (f:=bs) (l:=opL) (i:=k) (by omega)
    have hf : opL[k].isPrefixOf (l.drop a) = true→opS (l.drop a) = some opL[k]:=wS (p:=fun x : List UInt8=>x.isPrefixOf (l.drop a)) (by omega) hall
    have hce : ∀ j (hj : j < opL.length),j = k→opL[j] = opL[k]:=fun j hj e=>by subst e;rfl
    generalize opL[k] = o at *
    have h3:=uM (l.drop a) o
    by_cases he : o.isPrefixOf (l.drop a) = true
    ·rw [he] at h3
     rw [hf he]
     repeat' (first | (with_reducible refine hY _ ?_;clear hY Y) | ((with_reducible first | refine ar rfl (ay fun K' hK'=>aa ?_) | refine hK' _ (ab fun Y hY=>aa ?_) | refine ab fun Y hY=>aa ?_ | refine ae tk0 bF (ab fun Y hY=>aa ?_) | refine aa ?_ | refine aq ?_);(try clear hK' K');(try dsimp only [aop]);try simp only [go_sem,seval,bF,Tryz.results128,hlt',hat]) | (with_reducible first | refine ag ?_ | refine aj ?_ | refine am ?_ | refine aF fun K hK=>?_ | refine ax ?_ | refine aZ ?_ | refine bh ?_ | refine ap ?_ | refine aD ?_ | refine aA ?_) | (with_reducible refine hK _ ?_;clear hK K) | ((with_reducible refine ai ?_ ?_);(· decide)) | (with_reducible refine br ?_ ?_;(· (try and_intros) <;> first | omega | assumption | (simp only [List.length_append,List.length_map,List.length_cons,List.length_nil] <;> omega))) | (with_reducible refine ac (h3) ?_))
     all_goals (rfl)
    ·have he':=Bool.eq_false_iff.2 he
     rw [he'] at h3
     repeat' (first | (with_reducible refine hY _ ?_;clear hY Y) | ((with_reducible first | refine ar rfl (ay fun K' hK'=>aa ?_) | refine hK' _ (ab fun Y hY=>aa ?_) | refine ab fun Y hY=>aa ?_ | refine ae tk0 bF (ab fun Y hY=>aa ?_) | refine aa ?_);(try clear hK' K');(try dsimp only [aop]);try simp only [go_sem,seval,bF,Tryz.results128,hlt',hat,hkw]) | (with_reducible first | refine ag ?_ | refine aj ?_ | refine am ?_ | refine aF fun K hK=>?_ | refine ax ?_ | refine av ?_ | refine aR ?_ | refine ap ?_ | refine aD ?_) | (with_reducible refine hK _ ?_;clear hK K) | ((with_reducible refine ai ?_ ?_);(· decide)) | (with_reducible refine br ?_ ?_;(· (try and_intros) <;> first | omega | assumption | (simp only [List.length_append,List.length_map,List.length_cons,List.length_nil] <;> omega))) | (with_reducible refine ac (h3) ?_))
     refine bi [0,1,4,67,68,69] (by simp only [go_sem,seval];exact rfl) ?_
     exact ih (k + 1) ⟨by omega,fun j hj hjk=>by
      by_cases e : j = k
      ·rw [hce j hj e];exact he'
      ·exact hall j hj (by omega)⟩ (by omega)
   ·have hlt' : ((k : Int) < 21) = False:=by simp;omega
    rw [show opS (l.drop a) = none from Bv (p:=fun x : List UInt8=>x.isPrefixOf (l.drop a)) fun j hj=>hall j hj (by omega)]
    repeat' (first | (with_reducible refine hY _ ?_;clear hY Y) | ((with_reducible first | refine ar rfl (ay fun K' hK'=>aa ?_) | refine hK' _ (ab fun Y hY=>aa ?_) | refine ab fun Y hY=>aa ?_ | refine ae tk0 bF (ab fun Y hY=>aa ?_) | refine aa ?_ | refine aq ?_);(try clear hK' K');(try dsimp only [aop]);try simp only [go_sem,seval,bF,Tryz.results128,hlt']) | (with_reducible first | refine ag ?_ | refine aj ?_ | refine am ?_ | refine aF fun K hK=>?_ | refine av ?_ | refine cf ?_ | refine bI ?_ | refine aA ?_ | refine bH ?_) | (with_reducible refine hK _ ?_;clear hK K) | ((with_reducible refine ai ?_ ?_);(· decide)))
    all_goals (rfl)
end Go.Proofs.YtkjnkkmokojnpaaGreatDoor
namespace Go.Proofs.YtkjnkkmokojnpaaGreatDoor
set_option linter.unusedSimpArgs false
set_option linter.unusedVariables false
open Go.RowKit
def blanksL : List UInt8:=[32,9,10]
def slashL : List UInt8:=[47,47]
inductive FT where
 | skip (n : Nat)
 | tok (t : Tok)
 | err (e : Nat)
def je (a : Nat) (r : List UInt8) : FT :=
 if 0 < dz blanksL r then .skip (dz blanksL r)
 else if slashL.isPrefixOf r then .skip (r.takeWhile (· != 10)).length
 else if (jl a r).2 = 0 then .tok (jl a r).1 else .err (jl a r).2
abbrev Res:=List Tok × Nat × Int
def iV : Nat→List Tok→Nat→List UInt8→Res
 | 0,acc,_,_=>(acc,0,-1)
 | f + 1,acc,a,r=>match r with
  | []=>(acc,0,-1)
  | c :: r'=>match je a (c :: r') with
   | .skip n=>iV f acc (a + n) ((c :: r').drop n)
   | .tok t=>iV f (acc ++ [t]) (a + t.text.length) ((c :: r').drop t.text.length)
   | .err e=>([],e,(a : Int))
def jM (l : List UInt8) : Res:=if 65536 < l.length then ([],2,-1) else iV (l.length + 1) [] 0 l
theorem xM : ∀ c ∈ blanksL,c.toNat < 128:=by decide
theorem Ce : ∀ o ∈ opL,0 < o.length:=by decide
theorem xz {a : Nat} {r : List UInt8} (h : (jl a r).2 = 0) : 0 < (jl a r).1.text.length∧(jl a r).1.text.length≤r.length∧(jl a r).1.at0 = a:=by
 revert h
 unfold jl
 split
 ·rename_i h1
  split
  ·intro h;cases h
  ·intro _
   have h2 : 0 < dz wordL r:=by
    obtain ⟨c,t,e,hc⟩:=among_pos.1 h1
    exact among_pos.2 ⟨c,t,e,by rw [uS,← pM,hc];rfl⟩
   have h3:=kc wordL r
   refine ⟨?_,?_,rfl⟩
   ·show 0 < (r.take _).length
    rw [List.length_take];omega
   ·show (r.take _).length≤_
    rw [List.length_take];omega
 ·split
  ·rename_i h1
   split
   ·intro h;cases h
   ·intro _
    have h3:=kc digitsL r
    refine ⟨?_,?_,rfl⟩
    ·show 0 < (r.take _).length
     rw [List.length_take];omega
    ·show (r.take _).length≤_
     rw [List.length_take];omega
  ·split
   ·rename_i o ho
    intro _
    have hm:=List.mem_of_find?_eq_some ho
    have hp:=List.find?_some ho
    refine ⟨Ce o hm,?_,rfl⟩
    exact (List.isPrefixOf_iff_prefix.1 hp).length_le
   ·intro h;cases h
theorem AP (a : Nat) (r : List UInt8) : (jl a r).2≤16:=by
 unfold jl
 repeat' split
 all_goals exact Nat.le_of_ble_eq_true rfl
theorem kq {a n : Nat} {r : List UInt8} (h : je a r = .skip n) : 0 < n∧n≤r.length:=by
 unfold je at h
 split at h
 ·cases h;exact ⟨by assumption,kc _ _⟩
 ·split at h
  ·rename_i h1
   cases h
   obtain ⟨t,rfl⟩:=List.isPrefixOf_iff_prefix.1 h1
   refine ⟨?_,(List.takeWhile_sublist _).length_le⟩
   show 0 < ((47 :: 47 :: t).takeWhile (· != 10)).length
   rw [List.takeWhile_cons,if_pos (by decide)];simp
  ·split at h <;> cases h
theorem oh {a : Nat} {t : Tok} {r : List UInt8} (h : je a r = .tok t) : 0 < t.text.length∧t.text.length≤r.length:=by
 unfold je at h
 split at h
 ·cases h
 ·split at h
  ·cases h
  ·split at h
   ·rename_i h1
    cases h
    exact ⟨(xz h1).1,(xz h1).2.1⟩
   ·cases h
theorem kV : ∀ (f g : Nat) (acc : List Tok) (a : Nat) (r : List UInt8),r.length < f→r.length < g→iV f acc a r = iV g acc a r
 | 0,_,_,_,_,h,_=>absurd h (by omega)
 | _,0,_,_,_,_,h=>absurd h (by omega)
 | f + 1,g + 1,acc,a,[],_,_=>rfl
 | f + 1,g + 1,acc,a,c :: r,h1,h2=>by
  simp only [iV]
  split
  ·rename_i n hn
   have:=kq hn
   simp only [List.length_cons] at h1 h2 this
   exact kV f g _ _ _ (by rw [List.length_drop,List.length_cons];omega) (by rw [List.length_drop,List.length_cons];omega)
  ·rename_i t hn
   have:=oh hn
   simp only [List.length_cons] at h1 h2 this
   exact kV f g _ _ _ (by rw [List.length_drop,List.length_cons];omega) (by rw [List.length_drop,List.length_cons];omega)
  ·rfl
def my (acc : List Tok) (a : Nat) (r : List UInt8) : Res:=iV (r.length + 1) acc a r
theorem yj (acc : List Tok) (a : Nat) : my acc a [] = (acc,0,-1):=rfl
theorem rp {acc : List Tok} {a n : Nat} {r : List UInt8} (h0 : 0 < r.length) (h : je a r = .skip n) : my acc a r = my acc (a + n) (r.drop n):=by
 have hn:=kq h
 cases r with
 | nil=>simp at h0
 | cons c r =>
  unfold my
  rw [iV,h]
  simp only
  apply kV <;> (rw [List.length_drop];simp only [List.length_cons] at *;omega)
theorem yl {acc : List Tok} {a : Nat} {t : Tok} {r : List UInt8} (h0 : 0 < r.length) (h : je a r = .tok t) : my acc a r = my (acc ++ [t]) (a + t.text.length) (r.drop t.text.length):=by
 have hn:=oh h
 cases r with
 | nil=>simp at h0
 | cons c r =>
  unfold my
  rw [iV,h]
  simp only
  apply kV <;> (rw [List.length_drop];simp only [List.length_cons] at *;omega)
theorem yi {acc : List Tok} {a e : Nat} {r : List UInt8} (h0 : 0 < r.length) (h : je a r = .err e) : my acc a r = ([],e,(a : Int)):=by
 cases r with
 | nil=>simp at h0
 | cons c r =>
  unfold my
  rw [iV,h]
def Ar (R : Res) : AV:=if R.2.1 = 0 then .tup [.sl (R.1.flatMap nd) R.1.length .none,.c .nilIface] else .tup [.sl [] 0 .full,Bt R.2.1 R.2.2]
def cB : Nat→List Nat
 | 0=>[0]
 | 1=>[0]
 | 2=>[]
 | 3=>[0]
 | 4=>[0,4]
 | 5=>[0,4,5]
 | 6=>[0,4,5]
 | 7=>[0,4,5,6]
 | 8=>[0,4,5,6]
 | 9=>[0,4,5]
 | 10=>[0,4,5]
 | 11=>[0,4,5,7]
 | 12=>[0,4,5]
 | 13=>[0,4,5,10,11]
 | 14=>[5,11]
 | 15=>[0,4,5,10]
 | 16=>[0,4,5,10]
 | 17=>[4]
 | _=>[]
theorem zZ : (ByteArray.mk #[10]) = ByteArray.mk [10].toArray:=rfl
theorem pD : (ByteArray.mk #[32,9,10]) = ByteArray.mk blanksL.toArray:=rfl
theorem wu : (ByteArray.mk #[47,47]) = ByteArray.mk slashL.toArray:=rfl
set_option maxRecDepth 100000 in
set_option maxHeartbeats 8000000 in
theorem Ep (l : List UInt8) : AFn Tryz.prog 52 [bs l] [] (Ar (jM l)) []:=by
 unfold jM
 by_cases hl : 65536 < l.length
 ·rw [if_pos hl]
  have hl' : ((65536 : Int) < (l.length : Int)) = True:=eq_true (by omega)
  refine aC [] Tryz.func52 rfl Tryz.ntmps52 (Nat.le_of_ble_eq_true rfl) (Nat.le_of_ble_eq_true rfl) fun w0 G0 B0 Pr hB0=>?_
  simp only [aJ,aB,List.cons_append,List.nil_append]
  repeat' (first | (with_reducible refine hY _ ?_;clear hY Y) | ((with_reducible first | refine ar rfl (ay fun K' hK'=>aa ?_) | refine hK' _ (ab fun Y hY=>aa ?_) | refine ab fun Y hY=>aa ?_ | refine ae tk0 cB (ab fun Y hY=>aa ?_) | refine aa ?_ | refine aq ?_);(try clear hK' K');(try dsimp only [aop]);try simp only [go_sem,seval,cB,Tryz.results52,hl']) | (with_reducible first | refine ag ?_ | refine aj ?_ | refine am ?_ | refine aF fun K hK=>?_ | refine ax ?_ | refine aZ ?_ | refine aA ?_) | (with_reducible refine hK _ ?_;clear hK K) | ((with_reducible refine ai ?_ ?_);(· decide)))
  all_goals (rfl)
 rw [if_neg hl]
 have hl' : ((65536 : Int) < (l.length : Int)) = False:=eq_false (by omega)
 obtain ⟨R,hR⟩ : ∃ R,R = iV (l.length + 1) [] 0 l:=⟨_,rfl⟩
 rw [← hR]
 refine aC [] Tryz.func52 rfl Tryz.ntmps52 (Nat.le_of_ble_eq_true rfl) (Nat.le_of_ble_eq_true rfl) fun w0 G0 B0 Pr hB0=>?_
 simp only [aJ,aB,List.cons_append,List.nil_append]
 repeat' (first | (with_reducible refine hY _ ?_;clear hY Y) | ((with_reducible first | refine ar rfl (ay fun K' hK'=>aa ?_) | refine hK' _ (ab fun Y hY=>aa ?_) | refine ab fun Y hY=>aa ?_ | refine ae tk0 cB (ab fun Y hY=>aa ?_));(try clear hK' K');(try dsimp only [aop]);try simp only [go_sem,seval,cB,Tryz.results52,hl']) | (with_reducible first | refine ag ?_ | refine aj ?_ | refine am ?_ | refine aF fun K hK=>?_ | refine av ?_ | refine ap ?_ | refine aD ?_ | refine bW ?_) | (with_reducible refine hK _ ?_;clear hK K) | ((with_reducible refine ai ?_ ?_);(· decide)))
 refine jS (nh (b:=10060) (t:=4) 165 (by decide) (by decide) rfl rfl) ?_
 refine b9 (α:=List Tok × Nat) (fun p=>[(0,bs l),(4,.sl (p.1.flatMap nd) p.1.length (.tok 10060)),(5,.c (.int .i64 (p.2 : Int))),(10060,.bt p.1.length 165)])
  (fun p=>p.2≤l.length∧p.1.length≤p.2∧my p.1 p.2 (l.drop p.2) = R) (fun p=>l.length - p.2) ([],0) [0,4,5] ?_ ⟨Nat.zero_le _,Nat.zero_le _,hR.symm⟩ ?_
 ·simp only [go_sem,seval] <;> rfl
 rintro ⟨acc,a⟩ ⟨ha,hacc,hs⟩ ih
 simp only at ih ha hacc hs ⊢
 clear hR
 by_cases hlt : a < l.length
 case neg =>
  have hlt' : ((a : Int) < (l.length : Int)) = False:=eq_false (by omega)
  have he : l.drop a = []:=List.drop_of_length_le (by omega)
  rw [he,yj] at hs
  subst hs
  repeat' (first | (with_reducible refine hY _ ?_;clear hY Y) | ((with_reducible first | refine ar rfl (ay fun K' hK'=>aa ?_) | refine hK' _ (ab fun Y hY=>aa ?_) | refine ab fun Y hY=>aa ?_ | refine ae tk0 cB (ab fun Y hY=>aa ?_) | refine aa ?_ | refine aq ?_);(try clear hK' K');(try dsimp only [aop]);try simp only [go_sem,seval,cB,Tryz.results52,hlt']) | (with_reducible first | refine ag ?_ | refine aj ?_ | refine am ?_ | refine aF fun K hK=>?_ | refine av ?_ | refine cf ?_ | refine bI ?_ | refine aA ?_ | refine bH ?_) | (with_reducible refine hK _ ?_;clear hK K) | ((with_reducible refine ai ?_ ?_);(· decide)))
  all_goals (rfl)
 have hlt' : ((a : Int) < (l.length : Int)) = True:=eq_true (by omega)
 have h0 : 0 < (l.drop a).length:=by rw [List.length_drop];omega
 have h1:=rl l blanksL xM a ha (by omega)
 by_cases c1 : 0 < dz blanksL (l.drop a)
 ·have hst : je a (l.drop a) = .skip (dz blanksL (l.drop a)):=if_pos c1
  have hn:=kq hst
  rw [rp h0 hst] at hs
  have c1' : ((0 : Int) < (dz blanksL (l.drop a) : Int)) = True:=eq_true (by omega)
  generalize dz blanksL (l.drop a) = n at *
  rw [List.length_drop] at hn
  rw [List.drop_drop] at hs
  have hw1 : IntKind.i64.wrap ((a : Int) + (n : Int)) = ((a + n : Nat) : Int):=by rw [bZ (by omega) (by omega)];omega
  repeat' (first | (with_reducible refine hY _ ?_;clear hY Y) | ((with_reducible first | refine ar rfl (ay fun K' hK'=>aa ?_) | refine hK' _ (ab fun Y hY=>aa ?_) | refine ab fun Y hY=>aa ?_ | refine ae tk0 cB (ab fun Y hY=>aa ?_) | refine aa ?_);(try clear hK' K');(try dsimp only [aop]);try simp only [go_sem,seval,cB,Tryz.results52,hlt',pD,c1',hw1]) | (with_reducible first | refine ag ?_ | refine aj ?_ | refine am ?_ | refine aF fun K hK=>?_ | refine ax ?_ | refine cf ?_ | refine bI ?_ | refine ap ?_ | refine aD ?_ | refine bH ?_) | (with_reducible refine hK _ ?_;clear hK K) | ((with_reducible refine ai ?_ ?_);(· decide)) | (with_reducible refine ac (h1) ?_))
  refine bi [0,4,5] (by simp only [go_sem,seval];exact rfl) ?_
  exact ih (acc,a + n) ⟨by simp only;omega,by simp only;omega,hs⟩ (by simp only;omega)
 have c1' : ((0 : Int) < (dz blanksL (l.drop a) : Int)) = False:=eq_false (by omega)
 have h2:=uM (l.drop a) slashL
 by_cases c2 : slashL.isPrefixOf (l.drop a) = true
 ·have hst : je a (l.drop a) = .skip ((l.drop a).takeWhile (· != 10)).length:=by unfold je;rw [if_neg c1,if_pos c2]
  have hn:=kq hst
  rw [rp h0 hst] at hs
  rw [c2] at h2
  have h3:=E4 (l.drop a) 10 (by rw [List.length_drop];omega)
  unfold xR at h3
  generalize ((l.drop a).takeWhile (· != 10)) = m at *
  rw [List.length_drop] at hn
  rw [List.drop_drop] at hs
  have hw1 : IntKind.i64.wrap ((a : Int) + (m.length : Int)) = ((a + m.length : Nat) : Int):=by rw [bZ (by omega) (by omega)];omega
  repeat' (first | (with_reducible refine hY _ ?_;clear hY Y) | ((with_reducible first | refine ar rfl (ay fun K' hK'=>aa ?_) | refine hK' _ (ab fun Y hY=>aa ?_) | refine ab fun Y hY=>aa ?_ | refine ae tk0 cB (ab fun Y hY=>aa ?_) | refine aa ?_);(try clear hK' K');(try dsimp only [aop]);try simp only [go_sem,seval,cB,Tryz.results52,hlt',pD,wu,zZ,c1',hw1]) | (with_reducible first | refine ag ?_ | refine aj ?_ | refine am ?_ | refine aF fun K hK=>?_ | refine ax ?_ | refine av ?_ | refine cf ?_ | refine bI ?_ | refine ap ?_ | refine aD ?_ | refine bH ?_) | (with_reducible refine hK _ ?_;clear hK K) | ((with_reducible refine ai ?_ ?_);(· decide)) | (with_reducible refine br ?_ ?_;(· (try and_intros) <;> first | omega | assumption | (simp only [List.length_append,List.length_map,List.length_cons,List.length_nil] <;> omega))) | (with_reducible refine ac (h1) ?_) | (with_reducible refine ac (h2) ?_) | (with_reducible refine ac (h3) ?_))
  refine bi [0,4,5] (by simp only [go_sem,seval];exact rfl) ?_
  exact ih (acc,a + m.length) ⟨by simp only;omega,by simp only;omega,hs⟩ (by simp only;omega)
 have h3:=C8 l a hlt (by omega)
 have herr:=AP a (l.drop a)
 rw [Bool.eq_false_iff.2 c2] at h2
 by_cases c3 : (jl a (l.drop a)).2 = 0
 ·have hst : je a (l.drop a) = .tok (jl a (l.drop a)).1:=by unfold je;rw [if_neg c1,if_neg c2,if_pos c3]
  have hn:=oh hst
  rw [yl h0 hst] at hs
  rw [c3,ti] at h3
  generalize (jl a (l.drop a)).1 = t at *
  rw [List.length_drop] at hn
  rw [List.drop_drop] at hs
  have hw1 : IntKind.i64.wrap ((a : Int) + (t.text.length : Int)) = ((a + t.text.length : Nat) : Int):=by rw [bZ (by omega) (by omega)];omega
  have hfl:=jv (f:=nd) (k:=3) (fun _=>rfl) acc
  repeat' (first | (with_reducible refine hY _ ?_;clear hY Y) | ((with_reducible first | refine ar rfl (ay fun K' hK'=>aa ?_) | refine hK' _ (ab fun Y hY=>aa ?_) | refine ab fun Y hY=>aa ?_ | refine ae tk0 cB (ab fun Y hY=>aa ?_) | refine aa ?_);(try clear hK' K');(try dsimp only [aop]);try simp only [go_sem,seval,cB,Tryz.results52,hlt',pD,wu,c1',hw1,hfl]) | (with_reducible first | refine ag ?_ | refine aj ?_ | refine am ?_ | refine aF fun K hK=>?_ | refine ax ?_ | refine av ?_ | refine aR ?_ | refine ap ?_ | refine aD ?_) | (with_reducible refine hK _ ?_;clear hK K) | ((with_reducible refine ai ?_ ?_);(· decide)) | (with_reducible refine br ?_ ?_;(· (try and_intros) <;> first | omega | assumption | (simp only [List.length_append,List.length_map,List.length_cons,List.length_nil] <;> omega))) | (with_reducible refine ac (h1) ?_) | (with_reducible refine ac (h2) ?_) | (with_reducible refine ac (h3) ?_) | (with_reducible refine bg (pN) ?_))
  refine bi [0,4,5] (by simp only [go_sem,seval];exact rfl) ?_
  refine dd (ih (acc ++ [t],a + t.text.length) ⟨by simp only;omega,(by simp only [List.length_append,List.length_cons,List.length_nil];omega),hs⟩ (by simp only;omega)) ?_
  simp
 ·have hst : je a (l.drop a) = .err (jl a (l.drop a)).2:=by unfold je;rw [if_neg c1,if_neg c2,if_neg c3]
  rw [yi h0 hst] at hs
  rw [eV c3] at h3
  generalize (jl a (l.drop a)).1 = t at *
  generalize (jl a (l.drop a)).2 = e at *
  repeat' (first | (with_reducible refine hY _ ?_;clear hY Y) | ((with_reducible first | refine ar rfl (ay fun K' hK'=>aa ?_) | refine hK' _ (ab fun Y hY=>aa ?_) | refine ab fun Y hY=>aa ?_ | refine ae tk0 cB (ab fun Y hY=>aa ?_) | refine aa ?_ | refine aq ?_);(try clear hK' K');(try dsimp only [aop]);try simp only [go_sem,seval,cB,Tryz.results52,hlt',pD,wu,c1']) | (with_reducible first | refine ag ?_ | refine aj ?_ | refine am ?_ | refine aF fun K hK=>?_ | refine ax ?_ | refine av ?_ | refine aZ ?_ | refine bh ?_ | refine ap ?_ | refine aD ?_ | refine aA ?_) | (with_reducible refine hK _ ?_;clear hK K) | ((with_reducible refine ai ?_ ?_);(· decide)) | (with_reducible refine br ?_ ?_;(· (try and_intros) <;> first | omega | assumption | (simp only [List.length_append,List.length_map,List.length_cons,List.length_nil] <;> omega))) | (with_reducible refine ac (h1) ?_) | (with_reducible refine ac (h2) ?_) | (with_reducible refine ac (h3) ?_))
  subst hs
  unfold Ar Bt
  rw [if_neg c3,if_neg (by simp only;omega)]
  unfold AB
  rw [eV c3]
end Go.Proofs.YtkjnkkmokojnpaaGreatDoor
namespace Go.Proofs.YtkjnkkmokojnpaaGreatDoor
set_option linter.unusedSimpArgs false
set_option linter.unusedVariables false
open Go.RowKit
theorem oP : ∀ (f : Nat) (acc : List Tok) (a : Nat) (r : List UInt8),(iV f acc a r).1.length≤acc.length + r.length
 | 0,_,_,_=>by simp [iV]
 | f + 1,acc,a,[]=>by simp [iV]
 | f + 1,acc,a,c :: r=>by
  simp only [iV]
  split
  ·rename_i n hn
   have h1:=kq hn
   refine Nat.le_trans (oP f _ _ _) ?_
   rw [List.length_drop];omega
  ·rename_i t hn
   have h1:=oh hn
   refine Nat.le_trans (oP f _ _ _) ?_
   rw [List.length_drop,List.length_append,List.length_cons,List.length_nil];omega
  ·simp
theorem yg (l : List UInt8) : (jM l).1.length≤65536:=by
 unfold jM
 split
 ·simp
 ·refine Nat.le_trans (oP _ _ _ _) ?_
  simp only [List.length_nil];omega
theorem AR {p : UInt8→Bool} : ∀ {r : List UInt8} {c : UInt8},c ∈ r.takeWhile p→p c = true
 | [],c,h=>by simp at h
 | x :: r,c,h=>by
  rw [List.takeWhile_cons] at h
  split at h
  ·rename_i hx
   rcases List.mem_cons.1 h with rfl | h
   ·exact hx
   ·exact AR h
  ·simp at h
theorem qg {some r : List UInt8} {c : UInt8} (h : c ∈ r.take (dz some r)) : some.contains c = true:=by
 have e : r.take (dz some r) = r.takeWhile fun c=>some.contains c:=(List.prefix_iff_eq_take.1 (List.takeWhile_prefix _)).symm
 rw [e] at h
 exact AR h
theorem AQ {a : Nat} {r : List UInt8} (h : (jl a r).2 = 0) : um (jl a r).1:=by
 revert h
 unfold jl
 split
 ·rename_i h1
  split
  ·intro h;cases h
  ·intro _
   refine ⟨?_,fun e=>?_,fun e=>?_⟩
   ·simp only;split <;> simp
   ·simp only at e;split at e <;> omega
   ·exfalso
    have h2 : (42 : UInt8) ∈ r.take (dz wordL r):=by rw [show r.take (dz wordL r) = [42] from e];simp
    have h3:=qg h2
    revert h3;decide
 ·split
  ·rename_i h1
   split
   ·intro h;cases h
   ·rename_i hn
    intro _
    simp only [Bool.or_eq_true,Bool.not_eq_true',decide_eq_true_eq,not_or,Bool.not_eq_false] at hn
    refine ⟨by simp,fun _=>⟨fun c hc=>?_,?_⟩,fun e=>?_⟩
    ·rw [← w7];exact qg hc
    ·have h2:=hn.1
     unfold Ab at h2
     simp only [Bool.and_eq_true,Bool.or_eq_true,decide_eq_true_eq] at h2
     show (r.take (dz digitsL r)).length≤10
     omega
    ·exfalso
     have h2 : (42 : UInt8) ∈ r.take (dz digitsL r):=by rw [show r.take (dz digitsL r) = [42] from e];simp
     have h3:=qg h2
     revert h3;decide
  ·split
   ·intro _
    exact ⟨by simp,fun e=>by simp at e,fun _=>rfl⟩
   ·intro h;cases h
theorem oQ : ∀ (f : Nat) (acc : List Tok) (a : Nat) (r : List UInt8),(∀ t ∈ acc,um t)→∀ t ∈ (iV f acc a r).1,um t
 | 0,acc,_,_,h=>h
 | f + 1,acc,a,[],h=>h
 | f + 1,acc,a,c :: r,h=>by
  simp only [iV]
  split
  ·exact oQ f _ _ _ h
  ·rename_i t ht
   have h1 : t = (jl a (c :: r)).1∧(jl a (c :: r)).2 = 0:=by
    unfold je at ht
    split at ht
    ·cases ht
    ·split at ht
     ·cases ht
     ·split at ht
      ·rename_i h0;cases ht;exact ⟨rfl,h0⟩
      ·cases ht
   exact oQ f _ _ _ fun x hx=>by
    rcases List.mem_append.1 hx with hx | hx
    ·exact h x hx
    ·rw [List.mem_singleton.1 hx,h1.1];exact AQ h1.2
  ·exact fun t ht=>by simp at ht
theorem yh (l : List UInt8) : ∀ t ∈ (jM l).1,um t:=by
 unfold jM
 split
 ·exact fun t ht=>by simp at ht
 ·exact oQ _ _ _ _ fun t ht=>by simp at ht
end Go.Proofs.YtkjnkkmokojnpaaGreatDoor
namespace Go.Proofs.YtkjnkkmokojnpaaGreatDoor
open Go.RowKit
def oR (l : Wd) : PS:=⟨(jM l).1,(l.length : Int),0,none,yh l,yg l⟩
def oL (l : Wd) : List Pc × PS:=qZ FU [] (oR l)
end Go.Proofs.YtkjnkkmokojnpaaGreatDoor
namespace Go.Proofs.YtkjnkkmokojnpaaGreatDoor
set_option linter.unusedSimpArgs false
set_option linter.unusedVariables false
open Go.RowKit
theorem D1 (s : PS) (w1 w2 : Wd) : AFn Tryz.prog 129 [.loc 20000 0,.sl [bs w1,bs w2] 2 .full] [pA s] (.tup []) [pA (s.due [w1,w2])]:=sv s [w1,w2] .full (by simp)
def gp : Nat→List Nat
 | 0=>[0]
 | 1=>[0,2]
 | 2=>[0,2]
 | 3=>[0,2,3]
 | 4=>[0,2,3]
 | 5=>[0,2,3]
 | 6=>[0,2,3]
 | 7=>[0,2,3]
 | 8=>[0,2,3]
 | 9=>[0,2,3]
 | 10=>[0,2,3]
 | 11=>[0,2,3]
 | 12=>[2,3]
 | _=>[]
set_option maxRecDepth 100000 in
set_option maxHeartbeats 8000000 in
theorem Em (s : PS) : AFn Tryz.prog 53 [.loc 20000 0] [pA s] (.agg (pcW s.proc.1)) [pA s.proc.2]:=by
 unfold PS.proc
 simp only
 have h1:=ez s [112,114,111,99]
 generalize s.due [[112,114,111,99]] = s1 at *
 have h2:=kP s1
 generalize s1.word 1 = q1 at *
 obtain ⟨x,s2⟩:=q1
 have h3:=ez s2 [40]
 simp only at h2 h3 ⊢
 generalize s2.due [[40]] = s3 at *
 have h4:=w9 s3 [59]
 generalize s3.names [59] = q2 at *
 obtain ⟨ps,s4⟩:=q2
 have h5:=ez s4 [59]
 simp only at h4 h5 ⊢
 generalize s4.due [[59]] = s5 at *
 have h6:=w9 s5 [41]
 generalize s5.names [41] = q3 at *
 obtain ⟨gs,s6⟩:=q3
 have h7:=D1 s6 [41] [114,101,113,117,105,114,101,115]
 simp only at h6 h7 ⊢
 generalize s6.due [[41],[114,101,113,117,105,114,101,115]] = s7 at *
 have h8:=KO s7
 generalize nk s7 = q4 at *
 obtain ⟨⟨ak,⟨ack,ace,acks⟩,⟨aek,aen,aex,aeks⟩,⟨avk,avn,avx,avks⟩,af,an,aks⟩,s8⟩:=q4
 have h9:=ez s8 [101,110,115,117,114,101,115]
 simp only at h8 h9 ⊢
 generalize s8.due [[101,110,115,117,114,101,115]] = s9 at *
 have h10:=KO s9
 generalize nk s9 = q5 at *
 obtain ⟨⟨bk,⟨bck,bce,bcks⟩,⟨bek,ben,bex,beks⟩,⟨bvk,bvn,bvx,bvks⟩,bf,bn,bks⟩,s10⟩:=q5
 have h11:=Bh s10
 simp only at h10 h11 ⊢
 generalize ou s10 = q6 at *
 simp only [asA,coA,exA,List.cons_append,List.nil_append] at h8 h10
 refine aC [] Tryz.func53 rfl Tryz.ntmps53 (Nat.le_of_ble_eq_true rfl) (Nat.le_of_ble_eq_true rfl) fun w0 G0 B0 Pr hB0=>?_
 simp only [aJ,aB,List.cons_append,List.nil_append]
 repeat' (first | (with_reducible refine hY _ ?_;clear hY Y) | ((with_reducible first | refine ar rfl (ay fun K' hK'=>aa ?_) | refine hK' _ (ab fun Y hY=>aa ?_) | refine ae tk0 gp (ab fun Y hY=>aa ?_) | refine aa ?_ | refine aq ?_);(try clear hK' K');(try dsimp only [aop]);try simp only [go_sem,seval,gp,Tryz.results53]) | (with_reducible first | refine ag ?_ | refine aj ?_ | refine am ?_ | refine aF fun K hK=>?_ | refine aA ?_) | (with_reducible refine hK _ ?_;clear hK K) | (with_reducible refine ac (h1) ?_) | (with_reducible refine ac (h2) ?_) | (with_reducible refine ac (h3) ?_) | (with_reducible refine ac (h4) ?_) | (with_reducible refine ac (h5) ?_) | (with_reducible refine ac (h6) ?_) | (with_reducible refine ac (h7) ?_) | (with_reducible refine ac (h8) ?_) | (with_reducible refine ac (h9) ?_) | (with_reducible refine ac (h10) ?_) | (with_reducible refine ac (h11) ?_))
 all_goals first | rfl | exact ⟨rfl,rfl⟩
def tQ (l : Wd) : AV :=
 if (jM l).2.1 = 0 then
  match (oL l).2.err with
  | none=>.tup [.agg [.sl (oN (oL l).1) (oL l).1.length .none],.c .nilIface]
  | some x=>.tup [.agg [.sl [] 0 .full],np (some x)]
 else .tup [.agg [.sl [] 0 .full],Bt (jM l).2.1 (jM l).2.2]
def cm : Nat→List Nat
 | 0=>[0]
 | 1=>[0,2]
 | 2=>[0,2,4,5]
 | 3=>[2,5]
 | 4=>[0,2,4]
 | 5=>[2,6]
 | 6=>[2,6,7]
 | 7=>[2,6,7]
 | 8=>[2,6,7]
 | 9=>[2,6]
 | 10=>[2,7]
 | _=>[]
set_option maxRecDepth 100000 in
set_option maxHeartbeats 8000000 in
theorem Cg (l : Wd) : AFn Tryz.prog 20 [bs l] [] (tQ l) []:=by
 have h1:=Ep l
 unfold tQ
 unfold Ar at h1
 by_cases hz : (jM l).2.1 = 0
 case neg =>
  rw [if_neg hz] at h1 ⊢
  unfold Bt at h1 ⊢
  generalize jM l = R at *
  obtain ⟨ts,e,a⟩:=R
  simp only at h1 hz ⊢
  by_cases ha : a < 0∨e = 0
  ·rw [if_pos ha] at h1 ⊢
   rw [eV hz] at h1 ⊢
   refine aC [] Tryz.func20 rfl Tryz.ntmps20 (Nat.le_of_ble_eq_true rfl) (Nat.le_of_ble_eq_true rfl) fun w0 G0 B0 Pr hB0=>?_
   simp only [aJ,aB,List.cons_append,List.nil_append]
   repeat' (first | (with_reducible refine hY _ ?_;clear hY Y) | ((with_reducible first | refine ar rfl (ay fun K' hK'=>aa ?_) | refine hK' _ (ab fun Y hY=>aa ?_) | refine ab fun Y hY=>aa ?_ | refine ae tk0 cm (ab fun Y hY=>aa ?_) | refine aa ?_ | refine aq ?_);(try clear hK' K');(try dsimp only [aop]);try simp only [go_sem,seval,cm,Tryz.results20]) | (with_reducible first | refine ag ?_ | refine aj ?_ | refine am ?_ | refine aF fun K hK=>?_ | refine ax ?_ | refine aZ ?_ | refine aA ?_) | (with_reducible refine hK _ ?_;clear hK K) | ((with_reducible refine ai ?_ ?_);(· decide)) | (with_reducible refine ac (h1) ?_))
   all_goals first | rfl | exact ⟨rfl,rfl⟩
  ·rw [if_neg ha] at h1 ⊢
   unfold AB at h1 ⊢
   refine aC [] Tryz.func20 rfl Tryz.ntmps20 (Nat.le_of_ble_eq_true rfl) (Nat.le_of_ble_eq_true rfl) fun w0 G0 B0 Pr hB0=>?_
   simp only [aJ,aB,List.cons_append,List.nil_append]
   repeat' (first | (with_reducible refine hY _ ?_;clear hY Y) | ((with_reducible first | refine ar rfl (ay fun K' hK'=>aa ?_) | refine hK' _ (ab fun Y hY=>aa ?_) | refine ab fun Y hY=>aa ?_ | refine ae tk0 cm (ab fun Y hY=>aa ?_) | refine aa ?_ | refine aq ?_);(try clear hK' K');(try dsimp only [aop]);try simp only [go_sem,seval,cm,Tryz.results20]) | (with_reducible first | refine ag ?_ | refine aj ?_ | refine am ?_ | refine aF fun K hK=>?_ | refine ax ?_ | refine aZ ?_ | refine aA ?_) | (with_reducible refine hK _ ?_;clear hK K) | ((with_reducible refine ai ?_ ?_);(· decide)) | (with_reducible refine ac (h1) ?_))
   all_goals first | rfl | exact ⟨rfl,rfl⟩
 rw [if_pos hz] at h1 ⊢
 unfold oL
 have e1 : (oR l).l = (jM l).1∧(oR l).end0 = (l.length : Int)∧(oR l).depth = 0∧(oR l).err = none:=⟨rfl,rfl,rfl,rfl⟩
 obtain ⟨e1,e2,e3,e4⟩:=e1
 rw [← e1] at h1
 generalize oR l = s0 at *
 obtain ⟨R,hR⟩ : ∃ R,R = qZ FU [] s0:=⟨_,rfl⟩
 rw [← hR]
 have hm0:=jy s0
 refine aC [] Tryz.func20 rfl Tryz.ntmps20 (Nat.le_of_ble_eq_true rfl) (Nat.le_of_ble_eq_true rfl) fun w0 G0 B0 Pr hB0=>?_
 simp only [aJ,aB,List.cons_append,List.nil_append]
 repeat' (first | (with_reducible refine hY _ ?_;clear hY Y) | ((with_reducible first | refine ar rfl (ay fun K' hK'=>aa ?_) | refine hK' _ (ab fun Y hY=>aa ?_) | refine ab fun Y hY=>aa ?_ | refine ae tk0 cm (ab fun Y hY=>aa ?_) | refine aa ?_);(try clear hK' K');(try dsimp only [aop]);try simp only [go_sem,seval,cm,Tryz.results20]) | (with_reducible first | refine ag ?_ | refine aj ?_ | refine am ?_ | refine aF fun K hK=>?_ | refine av ?_ | refine ap ?_ | refine aD ?_ | refine bW ?_) | (with_reducible refine hK _ ?_;clear hK K) | ((with_reducible refine ai ?_ ?_);(· decide)) | (with_reducible refine ac (h1) ?_) | (with_reducible refine bg (pN) ?_))
 refine jS (qc (b:=10040) (k0:=10007) (i:=0) 59 (by decide) (by decide) (by decide) rfl rfl rfl) ?_
 refine b9 (α:=Nat × List Pc × PS) (fun p=>[(2,.loc 10002 0),(6,.loc 10021 0),(7,.loc 10007 0),(10002,.bc [.sl [] 0 .full] 24),(10007,.bc [.sl (oN p.2.1) p.2.1.length (.tok 10040)] 24),(10021,pA p.2.2),(10040,.bt p.2.1.length 59)])
  (fun p=>qZ p.1 p.2.1 p.2.2 = R∧p.2.2.mu < p.1∧p.2.1.length + p.1≤80000) (fun p=>p.1) (FU,[],s0) [2,6,7] ?_ ⟨hR.symm,hm0,(by simp [FU])⟩ ?_
 ·simp only [go_sem,seval,pA,e2,e3,e4,eW] <;> rfl
 rintro ⟨f,out,s1⟩ ⟨hgo,hmf,hlen⟩ ih
 simp only at ih hgo hmf hlen ⊢
 clear hR h1 e1 e2 e3 e4 hm0
 obtain ⟨f,rfl⟩ : ∃ f',f = f' + 1:=⟨f - 1,by omega⟩
 rw [qZ] at hgo
 cases he : s1.err with
 | some x =>
  obtain ⟨a,e⟩:=x
  rw [he] at hgo
  simp only [Option.isNone_some,Bool.false_and,Bool.false_eq_true,if_false] at hgo
  subst hgo
  simp only [he]
  simp only [pA,he,kf]
  repeat' (first | (with_reducible refine hY _ ?_;clear hY Y) | ((with_reducible first | refine ar rfl (ay fun K' hK'=>aa ?_) | refine hK' _ (ab fun Y hY=>aa ?_) | refine ba rfl (ab fun Y hY=>aa ?_) | refine ab fun Y hY=>aa ?_ | refine ae tk0 cm (ab fun Y hY=>aa ?_) | refine aa ?_ | refine aq ?_ | refine cX rfl (dx fun K' hK'=>aa ?_) | refine hK' _ _ (ab fun Y hY=>aa ?_));(try clear hK' K');(try dsimp only [aop]);try simp only [go_sem,seval,cm,Tryz.results20]) | (with_reducible first | refine ag ?_ | refine aW rfl ?_ | refine dc ?_ ?_ | refine aj ?_ | refine am ?_ | refine aF fun K hK=>?_ | refine ax ?_ | refine av ?_ | refine cf ?_ | refine aZ ?_ | refine bI ?_ | refine aA ?_ | refine bH ?_ | refine bV ?_ | refine eS fun K hK=>?_) | (with_reducible refine hK _ ?_;clear hK K) | (with_reducible refine hK _ _ ?_ ?_;(· kernel_rfl);clear hK K) | ((with_reducible first | refine aI ?_ ?_ | refine ai ?_ ?_);(· decide)) | (with_reducible refine bU tk0 cm ?_ ?_;(· kernel_rfl)))
  all_goals first | rfl | exact ⟨rfl,rfl⟩
 | none =>
  rw [he] at hgo
  simp only [Option.isNone_none,Bool.true_and] at hgo
  by_cases hl : s1.l = []
  ·rw [hl] at hgo
   simp only [List.isEmpty_nil,Bool.not_true,Bool.false_eq_true,if_false] at hgo
   subst hgo
   simp only [he]
   have hl0 : s1.l.length = 0:=by rw [hl];rfl
   simp only [pA,he,eW,hl0]
   repeat' (first | (with_reducible refine hY _ ?_;clear hY Y) | ((with_reducible first | refine ar rfl (ay fun K' hK'=>aa ?_) | refine hK' _ (ab fun Y hY=>aa ?_) | refine ba rfl (ab fun Y hY=>aa ?_) | refine ab fun Y hY=>aa ?_ | refine ay fun K' hK'=>aa ?_ | refine ae tk0 cm (ab fun Y hY=>aa ?_) | refine aa ?_ | refine aq ?_);(try clear hK' K');(try dsimp only [aop]);try simp only [go_sem,seval,cm,Tryz.results20]) | (with_reducible first | refine ag ?_ | refine aK ?_ | refine aj ?_ | refine am ?_ | refine aF fun K hK=>?_ | refine av ?_ | refine cf ?_ | refine bI ?_ | refine aD ?_ | refine aA ?_ | refine bH ?_) | (with_reducible refine hK _ ?_;clear hK K) | ((with_reducible first | refine aI ?_ ?_ | refine ai ?_ ?_);(· decide)) | ((with_reducible refine fu (fun hc=>?_) (fun hc=>?_)) <;> (try simp only [decide_eq_true_eq,decide_eq_false_iff_not,Bool.not_true,Bool.not_false,Bool.not_eq_true',Bool.not_eq_false'] at hc) <;> (try (exfalso;omega))) | (with_reducible refine bg (ii) ?_) | (with_reducible refine bg (pN) ?_))
   all_goals first | rfl | exact ⟨rfl,rfl⟩
  ·have hl1 : s1.l.isEmpty = false:=by simpa using hl
   have hl0 : ((0 : Int) < (s1.l.length : Int)) = True:=eq_true (by have:=List.length_pos_iff.2 hl;omega)
   rw [hl1] at hgo
   simp only [Bool.not_false,if_true] at hgo
   have h2:=Em s1
   have hm2:=Cl he
   generalize s1.proc = q at *
   obtain ⟨⟨pn,pp,pg,⟨ak,⟨ack,ace,acks⟩,⟨aek,aen,aex,aeks⟩,⟨avk,avn,avx,avks⟩,af,an,aks⟩,⟨bk,⟨bck,bce,bcks⟩,⟨bek,ben,bex,beks⟩,⟨bvk,bvn,bvx,bvks⟩,bf,bn,bks⟩,bd⟩,s3⟩:=q
   simp only [pcW,asA,coA,exA,List.cons_append,List.nil_append] at h2 hgo hm2
   simp only [pA,he,eW] at h2 ⊢
   repeat' (first | (with_reducible refine hY _ ?_;clear hY Y) | ((with_reducible first | refine ar rfl (ay fun K' hK'=>aa ?_) | refine hK' _ (ab fun Y hY=>aa ?_) | refine ba rfl (ab fun Y hY=>aa ?_) | refine ab fun Y hY=>aa ?_ | refine ay fun K' hK'=>aa ?_ | refine ae tk0 cm (ab fun Y hY=>aa ?_) | refine aa ?_ | refine cX rfl (dx fun K' hK'=>aa ?_) | refine hK' _ _ (ab fun Y hY=>aa ?_));(try clear hK' K');(try dsimp only [aop]);try simp only [go_sem,seval,cm,Tryz.results20,hl0,u0]) | (with_reducible first | refine ag ?_ | refine aK ?_ | refine aj ?_ | refine am ?_ | refine aF fun K hK=>?_ | refine ax ?_ | refine aR ?_ | refine ap ?_ | refine aD ?_ | refine bV ?_ | refine eS fun K hK=>?_) | (with_reducible refine hK _ ?_;clear hK K) | (with_reducible refine hK _ _ ?_ ?_;(· kernel_rfl);clear hK K) | ((with_reducible first | refine aI ?_ ?_ | refine ai ?_ ?_);(· decide)) | (with_reducible refine bU tk0 cm ?_ ?_;(· kernel_rfl)) | (with_reducible refine br ?_ ?_;(· (try and_intros) <;> first | omega | assumption | (simp only [List.length_append,List.length_map,List.length_cons,List.length_nil] <;> omega))) | (with_reducible refine ac (h2) ?_) | (with_reducible refine bg (ii) ?_))
   refine bi [2,6,7] (by simp only [go_sem,seval];exact rfl) ?_
   refine dd (ih (f,_,s3) ⟨hgo,by simp only;omega,(by simp only [List.length_append,List.length_cons,List.length_nil];omega)⟩ (by simp only;omega)) ?_
   simp only [uZ,oN,pcW,asA,coA,exA,List.cons_append,List.nil_append,List.append_nil,List.length_append,List.length_cons,List.length_nil]
end Go.Proofs.YtkjnkkmokojnpaaGreatDoor

/- Letters, digits, numbers, names: scan's and the document's, in K. Names and numbers: scan's and the document's, in K. Tokens as data. No program is in sight, but for the trees. Programs as data, and their trees; the parser's state. Structs of many fields, read as arguments (printed by gen_struct.py). No program is in sight. Laid variables and arguments: texts, numbers. Names: scan's and the document's, in K. -/
import Derived.Test.YtkjnkkmokojnpaaGreatDoorZ5
import Derived.Test.YtkjnkkmokojnpaaGreatDoorZ4
import Derived.LaidLaws
import Derived.LaidHandle
import Derived.LaidMore
namespace Go.Proofs.YtkjnkkmokojnpaaGreatDoor
set_option linter.unusedSimpArgs false
set_option linter.unusedVariables false
open Go.RowKit
def gQ (c : UInt8) : Bool:=decide (c.toNat = 95) || (decide (97≤c.toNat) && decide (c.toNat≤122)) || (decide (65≤c.toNat) && decide (c.toNat≤90))
def gE (c : UInt8) : Bool:=decide (48≤c.toNat) && decide (c.toNat≤57)
def lettersL : List UInt8:=[65,66,67,68,69,70,71,72,73,74,75,76,77,78,79,80,81,82,83,84,85,86,87,88,89,90,97,98,99,100,101,102,103,104,105,106,107,108,109,110,111,112,113,114,115,116,117,118,119,120,121,122,95]
def digitsL : List UInt8:=[48,49,50,51,52,53,54,55,56,57]
def wordL : List UInt8:=lettersL ++ digitsL
theorem pM (c : UInt8) : lettersL.contains c = gQ c:=by
 have h : ∀ n : Fin 256,lettersL.contains (UInt8.ofNat n.val) = gQ (UInt8.ofNat n.val):=by decide +kernel
 have:=h ⟨c.toNat,c.toNat_lt⟩
 simpa using this
theorem w7 (c : UInt8) : digitsL.contains c = gE c:=by
 have h : ∀ n : Fin 256,digitsL.contains (UInt8.ofNat n.val) = gE (UInt8.ofNat n.val):=by decide +kernel
 have:=h ⟨c.toNat,c.toNat_lt⟩
 simpa using this
theorem uS (c : UInt8) : wordL.contains c = (gQ c || gE c):=by
 rw [← pM,← w7]
 unfold wordL
 simp
theorem tM : ∀ c ∈ lettersL,c.toNat < 128:=by decide +kernel
theorem Br : ∀ c ∈ digitsL,c.toNat < 128:=by decide +kernel
theorem vF : ∀ c ∈ wordL,c.toNat < 128:=by decide +kernel
def vD : List UInt8→Nat
 | []=>0
 | c :: r=>if gQ c then 1 + (r.takeWhile fun c=>gQ c || gE c).length else 0
theorem among_pos {some r : List UInt8} : 0 < dz some r ↔ ∃ c t,r = c :: t∧some.contains c = true:=by
 unfold dz
 cases r with
 | nil=>simp
 | cons c t =>
  rw [List.takeWhile_cons]
  by_cases h : some.contains c = true
  ·rw [if_pos h];simp;exact List.contains_iff_mem.1 h
  ·rw [if_neg h];simp;exact fun e=>h (List.contains_iff_mem.2 e)
theorem vE (r : List UInt8) : vD r = if 0 < dz lettersL r then dz wordL r else 0:=by
 cases r with
 | nil=>simp [vD,dz]
 | cons c t =>
  by_cases h : gQ c = true
  ·have h1 : 0 < dz lettersL (c :: t):=among_pos.2 ⟨c,t,rfl,by rw [pM];exact h⟩
   rw [if_pos h1]
   show (if gQ c then 1 + (t.takeWhile fun c=>gQ c || gE c).length else 0) = dz wordL (c :: t)
   unfold dz
   have e : (fun c=>wordL.contains c) = fun c=>gQ c || gE c:=funext uS
   rw [if_pos h,e,List.takeWhile_cons,if_pos (by simp [h]),List.length_cons];omega
  ·have h1 : ¬ 0 < dz lettersL (c :: t):=fun e=>by
    obtain ⟨c',t',e1,e2⟩:=among_pos.1 e
    cases e1
    rw [pM] at e2;exact h e2
   rw [if_neg h1]
   show (if gQ c then 1 + (t.takeWhile fun c=>gQ c || gE c).length else 0) = 0
   rw [if_neg h]
theorem rL {r : List UInt8} {n : Nat} (hn : n≤r.length) (h : ∀ j (hj : j < r.length),j < n→(gQ r[j] || (decide (0 < j) && gE r[j])) = true) (he : ∀ hj : n < r.length,(gQ r[n] || (decide (0 < n) && gE r[n])) = false) : vD r = n:=by
 cases r with
 | nil=>simp at hn;subst hn;rfl
 | cons c t =>
  cases n with
  | zero =>
   have:=he (by simp)
   simp at this
   simp [vD,this]
  | succ n =>
   have h0:=h 0 (by simp) (by omega)
   simp at h0
   show (if gQ c then 1 + (t.takeWhile fun c=>gQ c || gE c).length else 0) = n + 1
   rw [if_pos h0]
   have e1 : ∀ (t : List UInt8) (n : Nat),n≤t.length→(∀ j (hj : j < t.length),j < n→(gQ t[j] || gE t[j]) = true)→(∀ hj : n < t.length,(gQ t[n] || gE t[n]) = false)→(t.takeWhile fun c=>gQ c || gE c).length = n:=by
    intro t
    induction t with
    | nil=>intro n hn _ _;simp at hn;subst hn;rfl
    | cons x t ih =>
     intro n hn hh hx
     cases n with
     | zero=>have:=hx (by simp);simp only [List.getElem_cons_zero] at this;rw [List.takeWhile_cons,if_neg (by rw [this];simp)];rfl
     | succ n =>
      have:=hh 0 (by simp) (by omega)
      simp only [List.getElem_cons_zero] at this
      rw [List.takeWhile_cons,if_pos this,List.length_cons,ih n (by simpa using hn) (fun j hj hjn=>hh (j + 1) (Nat.succ_lt_succ hj) (by omega)) (fun hj=>hx (Nat.succ_lt_succ hj))]
   rw [e1 t n (by simpa using hn) (fun j hj hjn=>by simpa using h (j + 1) (Nat.succ_lt_succ hj) (by omega)) (fun hj=>by simpa using he (Nat.succ_lt_succ hj))]
   omega
abbrev byA (c : UInt8) : AV:=.c (.int .u8 (c.toNat : Int))
def fX : Nat→List Nat
 | 0=>[0]
 | 1=>[0]
 | _=>[]
set_option maxRecDepth 100000 in
set_option maxHeartbeats 4000000 in
theorem zU (c : UInt8) : AFn Tryz.prog 136 [byA c] [] (.c (.bool (gQ c))) []:=by
 refine aC [] Tryz.func136 rfl Tryz.ntmps136 (Nat.le_of_ble_eq_true rfl) (Nat.le_of_ble_eq_true rfl) fun w0 G0 B0 Pr hB0=>?_
 simp only [aJ,aB,List.cons_append,List.nil_append]
 repeat' (first | (with_reducible refine hY _ ?_;clear hY Y) | ((with_reducible first | refine ar rfl (ay fun K' hK'=>aa ?_) | refine hK' _ (ab fun Y hY=>aa ?_) | refine ba rfl (ab fun Y hY=>aa ?_) | refine ab fun Y hY=>aa ?_ | refine ay fun K' hK'=>aa ?_ | refine ae tk0 fX (ab fun Y hY=>aa ?_) | refine aa ?_ | refine aq ?_);(try clear hK' K');(try dsimp only [aop]);try simp only [go_sem,seval,fX,Tryz.results136]) | (with_reducible first | refine ag ?_ | refine aW rfl ?_ | refine aK ?_ | refine fU ?_ | refine dc ?_ ?_ | refine aj ?_ | refine am ?_ | refine aF fun K hK=>?_ | refine aA ?_) | (with_reducible refine hK _ ?_;clear hK K) | ((with_reducible refine aI ?_ ?_);(· decide)) | ((with_reducible refine ci (fun hc=>?_) (fun hc=>?_)) <;> (try simp only [decide_eq_true_eq,decide_eq_false_iff_not,Bool.not_true,Bool.not_false,Bool.not_eq_true',Bool.not_eq_false'] at hc) <;> (try (exfalso;omega))))
 all_goals (refine congrArg (fun b=>AV.c (Value.bool b)) ?_;rw [Bool.eq_iff_iff];simp [gQ];omega)
def gf : Nat→List Nat
 | 0=>[0]
 | 1=>[0]
 | _=>[]
set_option maxRecDepth 100000 in
set_option maxHeartbeats 4000000 in
theorem Bs (c : UInt8) : AFn Tryz.prog 134 [byA c] [] (.c (.bool (gE c))) []:=by
 refine aC [] Tryz.func134 rfl Tryz.ntmps134 (Nat.le_of_ble_eq_true rfl) (Nat.le_of_ble_eq_true rfl) fun w0 G0 B0 Pr hB0=>?_
 simp only [aJ,aB,List.cons_append,List.nil_append]
 repeat' (first | (with_reducible refine hY _ ?_;clear hY Y) | ((with_reducible first | refine ar rfl (ay fun K' hK'=>aa ?_) | refine hK' _ (ab fun Y hY=>aa ?_) | refine ba rfl (ab fun Y hY=>aa ?_) | refine ab fun Y hY=>aa ?_ | refine ay fun K' hK'=>aa ?_ | refine ae tk0 gf (ab fun Y hY=>aa ?_) | refine aa ?_ | refine aq ?_);(try clear hK' K');(try dsimp only [aop]);try simp only [go_sem,seval,gf,Tryz.results134]) | (with_reducible first | refine ag ?_ | refine aW rfl ?_ | refine aK ?_ | refine dc ?_ ?_ | refine aj ?_ | refine am ?_ | refine aF fun K hK=>?_ | refine aA ?_) | (with_reducible refine hK _ ?_;clear hK K) | ((with_reducible refine aI ?_ ?_);(· decide)) | ((with_reducible refine ci (fun hc=>?_) (fun hc=>?_)) <;> (try simp only [decide_eq_true_eq,decide_eq_false_iff_not,Bool.not_true,Bool.not_false,Bool.not_eq_true',Bool.not_eq_false'] at hc) <;> (try (exfalso;omega))))
 all_goals (refine congrArg (fun b=>AV.c (Value.bool b)) ?_;rw [Bool.eq_iff_iff];simp [gE];omega)
theorem Bw {l : List UInt8} {i : Nat} (h : i < l.length) : l.getD i 0 = l[i]:=by
 rw [List.getD_eq_getElem?_getD,List.getElem?_eq_getElem h];rfl
def bS : Nat→List Nat
 | 0=>[0,1]
 | 1=>[0,1]
 | 2=>[0,1,5]
 | 3=>[0,1,5]
 | 4=>[5]
 | _=>[]
set_option maxRecDepth 100000 in
set_option maxHeartbeats 4000000 in
theorem EP (l : List UInt8) (a : Nat) (ha : a≤l.length) (hl : l.length≤4611686018427387904) : AFn Tryz.prog 120 [bs l,.c (.int .i64 (a : Int))] [] (.c (.int .i64 (vD (l.drop a) : Int))) []:=by
 refine aC [] Tryz.func120 rfl Tryz.ntmps120 (Nat.le_of_ble_eq_true rfl) (Nat.le_of_ble_eq_true rfl) fun w0 G0 B0 Pr hB0=>?_
 simp only [aJ,aB,List.cons_append,List.nil_append]
 repeat' (first | (with_reducible refine hY _ ?_;clear hY Y) | ((with_reducible first | refine ar rfl (ay fun K' hK'=>aa ?_) | refine hK' _ (ab fun Y hY=>aa ?_) | refine ae tk0 bS (ab fun Y hY=>aa ?_));(try clear hK' K');(try dsimp only [aop]);try simp only [go_sem,seval,bS,Tryz.results120]) | (with_reducible first | refine ag ?_ | refine aj ?_ | refine am ?_ | refine aF fun K hK=>?_ | refine ap ?_ | refine bW ?_) | (with_reducible refine hK _ ?_;clear hK K))
 refine b9 (α:=Nat) (fun k=>[(0,bs l),(1,.c (.int .i64 (a : Int))),(5,.c (.int .i64 (k : Int)))])
  (fun k=>a + k≤l.length∧∀ j (hj : j < (l.drop a).length),j < k→(gQ (l.drop a)[j] || (decide (0 < j) && gE (l.drop a)[j])) = true) (fun k=>l.length - k) 0 [0,1,5] ?_ ⟨by omega,fun j _ h=>absurd h (by omega)⟩ ?_
 ·simp only [go_sem,seval] <;> rfl
 rintro k ⟨hk,hall⟩ ih
 have hw1 : IntKind.i64.wrap ((a : Int) + (k : Int)) = ((a + k : Nat) : Int):=by rw [bZ (by omega) (by omega)];omega
 by_cases hlt : a + k < l.length
 ·have hlt' : (((a + k : Nat) : Int) < (l.length : Int)) = True:=by simp;omega
  have hkw : IntKind.i64.wrap ((k : Int) + 1) = ((k + 1 : Nat) : Int):=by rw [bZ (by omega) (by omega)];rfl
  have hat:=Bw hlt
  have hd : ∀ (hj : k < (l.drop a).length),(l.drop a)[k] = l[a + k]:=fun hj=>by simp
  have hd2 : ∀ j (hj : j < (l.drop a).length),j = k→(l.drop a)[j] = l[a + k]:=fun j hj e=>by subst e;exact hd hj
  generalize l[a + k] = c at *
  have hlc:=zU c
  have hdc:=Bs c
  by_cases hc1 : gQ c = true
  ·rw [hc1] at hlc
   repeat' (first | (with_reducible refine hY _ ?_;clear hY Y) | ((with_reducible first | refine ar rfl (ay fun K' hK'=>aa ?_) | refine hK' _ (ab fun Y hY=>aa ?_) | refine ba rfl (ab fun Y hY=>aa ?_) | refine ab fun Y hY=>aa ?_ | refine ay fun K' hK'=>aa ?_ | refine ae tk0 bS (ab fun Y hY=>aa ?_) | refine aa ?_);(try clear hK' K');(try dsimp only [aop]);try simp only [go_sem,seval,bS,Tryz.results120,hw1,hlt',hat]) | (with_reducible first | refine ag ?_ | refine aW rfl ?_ | refine aK ?_ | refine fU ?_ | refine dc ?_ ?_ | refine aj ?_ | refine am ?_ | refine aF fun K hK=>?_ | refine ax ?_ | refine aR ?_ | refine ap ?_ | refine aD ?_) | (with_reducible refine hK _ ?_;clear hK K) | ((with_reducible first | refine aI ?_ ?_ | refine ai ?_ ?_);(· decide)) | (with_reducible refine br ?_ ?_;(· (try and_intros) <;> first | omega | assumption | (simp only [List.length_append,List.length_map,List.length_cons,List.length_nil] <;> omega))) | (with_reducible refine ac (hlc) ?_))
   refine bi [0,1,5] (by simp only [go_sem,seval];exact rfl) ?_
   rw [hkw]
   exact ih (k + 1) ⟨by omega,fun j hj hjk=>by
    by_cases e : j = k
    ·rw [hd2 j hj e,hc1];rfl
    ·exact hall j hj (by omega)⟩ (by omega)
  ·have hc1':=Bool.eq_false_iff.2 hc1
   rw [hc1'] at hlc
   by_cases hk0 : 0 < k
   ·have hk0' : ((0 : Int) < (k : Int)) = True:=by simp;omega
    by_cases hc2 : gE c = true
    ·rw [hc2] at hdc
     repeat' (first | (with_reducible refine hY _ ?_;clear hY Y) | ((with_reducible first | refine ar rfl (ay fun K' hK'=>aa ?_) | refine hK' _ (ab fun Y hY=>aa ?_) | refine ba rfl (ab fun Y hY=>aa ?_) | refine ab fun Y hY=>aa ?_ | refine ay fun K' hK'=>aa ?_ | refine ae tk0 bS (ab fun Y hY=>aa ?_) | refine aa ?_);(try clear hK' K');(try dsimp only [aop]);try simp only [go_sem,seval,bS,Tryz.results120,hw1,hlt',hat,hk0']) | (with_reducible first | refine ag ?_ | refine aK ?_ | refine aj ?_ | refine am ?_ | refine aF fun K hK=>?_ | refine ax ?_ | refine aR ?_ | refine ap ?_ | refine aD ?_) | (with_reducible refine hK _ ?_;clear hK K) | ((with_reducible first | refine aI ?_ ?_ | refine ai ?_ ?_);(· decide)) | (with_reducible refine br ?_ ?_;(· (try and_intros) <;> first | omega | assumption | (simp only [List.length_append,List.length_map,List.length_cons,List.length_nil] <;> omega))) | (with_reducible refine ac (hlc) ?_) | (with_reducible refine ac (hdc) ?_))
     refine bi [0,1,5] (by simp only [go_sem,seval];exact rfl) ?_
     rw [hkw]
     exact ih (k + 1) ⟨by omega,fun j hj hjk=>by
      by_cases e : j = k
      ·rw [hd2 j hj e,hc1',hc2];simp;omega
      ·exact hall j hj (by omega)⟩ (by omega)
    ·have hc2':=Bool.eq_false_iff.2 hc2
     rw [hc2'] at hdc
     repeat' (first | (with_reducible refine hY _ ?_;clear hY Y) | ((with_reducible first | refine ar rfl (ay fun K' hK'=>aa ?_) | refine hK' _ (ab fun Y hY=>aa ?_) | refine ba rfl (ab fun Y hY=>aa ?_) | refine ab fun Y hY=>aa ?_ | refine ay fun K' hK'=>aa ?_ | refine ae tk0 bS (ab fun Y hY=>aa ?_) | refine aa ?_ | refine aq ?_);(try clear hK' K');(try dsimp only [aop]);try simp only [go_sem,seval,bS,Tryz.results120,hw1,hlt',hat,hk0']) | (with_reducible first | refine ag ?_ | refine aK ?_ | refine aj ?_ | refine am ?_ | refine aF fun K hK=>?_ | refine av ?_ | refine cf ?_ | refine bI ?_ | refine aA ?_ | refine bH ?_) | (with_reducible refine hK _ ?_;clear hK K) | ((with_reducible first | refine aI ?_ ?_ | refine ai ?_ ?_);(· decide)) | (with_reducible refine br ?_ ?_;(· (try and_intros) <;> first | omega | assumption | (simp only [List.length_append,List.length_map,List.length_cons,List.length_nil] <;> omega))) | (with_reducible refine ac (hlc) ?_) | (with_reducible refine ac (hdc) ?_))
     rw [rL (r:=l.drop a) (n:=k) (by simp;omega) hall (fun hj=>by rw [hd hj,hc1',hc2'];simp)]
   ·have hk0' : ((0 : Int) < (k : Int)) = False:=by simp;omega
    repeat' (first | (with_reducible refine hY _ ?_;clear hY Y) | ((with_reducible first | refine ar rfl (ay fun K' hK'=>aa ?_) | refine hK' _ (ab fun Y hY=>aa ?_) | refine ba rfl (ab fun Y hY=>aa ?_) | refine ab fun Y hY=>aa ?_ | refine ay fun K' hK'=>aa ?_ | refine ae tk0 bS (ab fun Y hY=>aa ?_) | refine aa ?_ | refine aq ?_);(try clear hK' K');(try dsimp only [aop]);try simp only [go_sem,seval,bS,Tryz.results120,hw1,hlt',hat,hk0']) | (with_reducible first | refine ag ?_ | refine aW rfl ?_ | refine aK ?_ | refine dc ?_ ?_ | refine aj ?_ | refine am ?_ | refine aF fun K hK=>?_ | refine av ?_ | refine cf ?_ | refine bI ?_ | refine aA ?_ | refine bH ?_) | (with_reducible refine hK _ ?_;clear hK K) | ((with_reducible first | refine aI ?_ ?_ | refine ai ?_ ?_);(· decide)) | (with_reducible refine br ?_ ?_;(· (try and_intros) <;> first | omega | assumption | (simp only [List.length_append,List.length_map,List.length_cons,List.length_nil] <;> omega))) | (with_reducible refine ac (hlc) ?_))
    rw [rL (r:=l.drop a) (n:=k) (by simp;omega) hall (fun hj=>by rw [hd hj,hc1'];simp;omega)]
 ·have hlt' : (((a + k : Nat) : Int) < (l.length : Int)) = False:=by simp;omega
  repeat' (first | (with_reducible refine hY _ ?_;clear hY Y) | ((with_reducible first | refine ar rfl (ay fun K' hK'=>aa ?_) | refine hK' _ (ab fun Y hY=>aa ?_) | refine ba rfl (ab fun Y hY=>aa ?_) | refine ab fun Y hY=>aa ?_ | refine ae tk0 bS (ab fun Y hY=>aa ?_) | refine aa ?_ | refine aq ?_);(try clear hK' K');(try dsimp only [aop]);try simp only [go_sem,seval,bS,Tryz.results120,hw1,hlt']) | (with_reducible first | refine ag ?_ | refine aW rfl ?_ | refine fU ?_ | refine dc ?_ ?_ | refine aj ?_ | refine am ?_ | refine aF fun K hK=>?_ | refine av ?_ | refine cf ?_ | refine bI ?_ | refine aA ?_ | refine bH ?_) | (with_reducible refine hK _ ?_;clear hK K) | ((with_reducible first | refine aI ?_ ?_ | refine ai ?_ ?_);(· decide)))
  rw [rL (r:=l.drop a) (n:=k) (by simp;omega) hall (fun hj=>absurd hj (by simp;omega))]
end Go.Proofs.YtkjnkkmokojnpaaGreatDoor
namespace Go.Proofs.YtkjnkkmokojnpaaGreatDoor
set_option linter.unusedSimpArgs false
set_option linter.unusedVariables false
open Go.RowKit
def leL (a b : List UInt8) : Bool:=Op.bytesLess a b || a == b
def zB : List UInt8:=[49,48,55,51,55,52,49,56,50,52]
def Ab (d : List UInt8) : Bool:=(!decide (((d.getD 0 0).toNat : Int) = 48) || decide (d.length = 1)) && (decide (d.length < 10) || (decide (d.length = 10) && leL d zB))
def ik : Nat→List Nat
 | 0=>[0]
 | 1=>[0]
 | _=>[]
set_option maxRecDepth 100000 in
set_option maxHeartbeats 4000000 in
theorem Ac (d : List UInt8) (hd : 0 < d.length) : AFn Tryz.prog 188 [bs d] [] (.c (.bool (Ab d))) []:=by
 have h0 : ((0 : Int) < (d.length : Int)) = True:=by simp;omega
 refine aC [] Tryz.func188 rfl Tryz.ntmps188 (Nat.le_of_ble_eq_true rfl) (Nat.le_of_ble_eq_true rfl) fun w0 G0 B0 Pr hB0=>?_
 simp only [aJ,aB,List.cons_append,List.nil_append]
 repeat' (first | (with_reducible refine hY _ ?_;clear hY Y) | ((with_reducible first | refine ar rfl (ay fun K' hK'=>aa ?_) | refine hK' _ (ab fun Y hY=>aa ?_) | refine ba rfl (ab fun Y hY=>aa ?_) | refine ab fun Y hY=>aa ?_ | refine ay fun K' hK'=>aa ?_ | refine ae tk0 ik (ab fun Y hY=>aa ?_) | refine aa ?_ | refine aq ?_);(try clear hK' K');(try dsimp only [aop]);try simp only [go_sem,seval,ik,Tryz.results188,h0]) | (with_reducible first | refine ag ?_ | refine aW rfl ?_ | refine aK ?_ | refine fU ?_ | refine dc ?_ ?_ | refine aj ?_ | refine am ?_ | refine aF fun K hK=>?_ | refine aA ?_) | (with_reducible refine hK _ ?_;clear hK K) | ((with_reducible refine aI ?_ ?_);(· decide)) | ((with_reducible refine ci (fun hc=>?_) (fun hc=>?_)) <;> (try simp only [decide_eq_true_eq,decide_eq_false_iff_not,Bool.not_true,Bool.not_false,Bool.not_eq_true',Bool.not_eq_false'] at hc) <;> (try (exfalso;omega))) | (with_reducible refine bg (bN _) ?_))
 all_goals (refine congrArg (fun b=>AV.c (Value.bool b)) ?_;rw [Bool.eq_iff_iff];unfold Ab leL zB;generalize d.getD 0 0 = c0 at *;generalize (Op.bytesLess d _ || d == _) = b;cases b <;> simp <;> omega)
theorem kc (some r : List UInt8) : dz some r≤r.length:=(List.takeWhile_sublist _).length_le
theorem iN : (ByteArray.mk #[65,66,67,68,69,70,71,72,73,74,75,76,77,78,79,80,81,82,83,84,85,86,87,88,89,90,97,98,99,100,101,102,103,104,105,106,107,108,109,110,111,112,113,114,115,116,117,118,119,120,121,122,95]) = ByteArray.mk lettersL.toArray:=rfl
theorem xD : (ByteArray.mk #[65,66,67,68,69,70,71,72,73,74,75,76,77,78,79,80,81,82,83,84,85,86,87,88,89,90,97,98,99,100,101,102,103,104,105,106,107,108,109,110,111,112,113,114,115,116,117,118,119,120,121,122,95,48,49,50,51,52,53,54,55,56,57]) = ByteArray.mk wordL.toArray:=rfl
theorem pH : (ByteArray.mk #[48,49,50,51,52,53,54,55,56,57]) = ByteArray.mk digitsL.toArray:=rfl
end Go.Proofs.YtkjnkkmokojnpaaGreatDoor
namespace Go.Proofs.YtkjnkkmokojnpaaGreatDoor
set_option linter.unusedSimpArgs false
set_option linter.unusedVariables false
open Go.RowKit
structure Tok where
 kind : Nat
 at0 : Nat
 text : List UInt8
abbrev nd (t : Tok) : List AV:=[.c (.int .i64 (t.kind : Int)),.c (.int .i64 (t.at0 : Int)),bs t.text]
def uU : Tok:=⟨0,0,[]⟩
def opL : List (List UInt8):=[[58,61],[61,61],[33,61],[60,61],[38,38],[124,124],[40],[41],[123],[125],[91],[93],[44],[59],[46],[43],[45],[42],[60],[33],[38]]
def opS (r : List UInt8) : Option (List UInt8):=opL.find? (·.isPrefixOf r)
def jl (a : Nat) (r : List UInt8) : Tok × Nat :=
 if 0 < dz lettersL r then
  (if 32 < dz wordL r then (uU,2) else (⟨if keyL.contains (r.take (dz wordL r)) then 2 else 1,a,r.take (dz wordL r)⟩,0))
 else if 0 < dz digitsL r then
  (if !Ab (r.take (dz digitsL r)) || decide (0 < dz lettersL (r.drop (dz digitsL r))) then (uU,5) else (⟨3,a,r.take (dz digitsL r)⟩,0))
 else match opS r with
  | some o=>(⟨4,a,o⟩,0)
  | none=>(uU,10)
end Go.Proofs.YtkjnkkmokojnpaaGreatDoor
namespace Go.Proofs.YtkjnkkmokojnpaaGreatDoor
set_option linter.unusedSimpArgs false
set_option linter.unusedVariables false
open Go.RowKit
abbrev Wd:=List UInt8
abbrev inA (n : Int) : AV:=.c (.int .i64 n)
inductive Ex where
 | mk (kind : Nat) (n : Int) (name : Wd) (kids : List Ex)
mutual
def exA : Ex→List AV
 | .mk k n x ks=>[inA (k : Int),inA n,bs x,.sl (jU ks) ks.length .full]
def jU : List Ex→List AV
 | []=>[]
 | e :: r=>exA e ++ jU r
end
inductive Co where
 | mk (kind : Nat) (e : List Ex) (kids : List Co)
mutual
def coA : Co→List AV
 | .mk k e ks=>[inA (k : Int),.sl (jU e) e.length .full,.sl (xP ks) ks.length .full]
def xP : List Co→List AV
 | []=>[]
 | e :: r=>coA e ++ xP r
end
inductive As where
 | mk (kind : Nat) (c : Co) (e v : Ex) (field : Wd) (n : Int) (kids : List As)
mutual
def asA : As→List AV
 | .mk k c e v f n ks=>[inA (k : Int)] ++ coA c ++ exA e ++ exA v ++ [bs f,inA n,.sl (Bb ks) ks.length .full]
def Bb : List As→List AV
 | []=>[]
 | e :: r=>asA e ++ Bb r
end
inductive St where
 | mk (kind : Nat) (name field callee : Wd) (e v : Ex) (c : Co) (a : As) (args ghosts : List Ex) (fields : List Wd) (body els : List St)
structure Pc where
 name : Wd
 params : List Wd
 ghosts : List Wd
 pre : As
 post : As
 body : List St
theorem tr : ∀ e,(exA e).length = 4
 | .mk k n x ks=>by simp [exA]
theorem wJ : ∀ e,(coA e).length = 3
 | .mk k e ks=>by simp [coA]
theorem wF : ∀ e,(asA e).length = 15
 | .mk k c e v f n ks=>by simp [asA,wJ,tr]
theorem uI : ∀ l : List Ex,(jU l).length = l.length * 4
 | []=>rfl
 | e :: r=>by simp only [jU,List.length_append,List.length_cons,tr,uI r];omega
theorem uH : ∀ a b : List Ex,jU (a ++ b) = jU a ++ jU b
 | [],b=>rfl
 | e :: r,b=>by simp only [List.cons_append,jU,uH r b,List.append_assoc]
def exZ : Ex:=.mk 0 0 [] []
def coZ : Co:=.mk 0 [] []
def asZ : As:=.mk 0 coZ exZ exZ [] 0 []
def stZ : St:=.mk 0 [] [] [] exZ exZ coZ asZ [] [] [] [] []
def np : Option (Int × Nat)→AV
 | none=>.c .nilIface
 | some (a,e)=>.ifc 63 (.rf [inA a,.ifc 41 (inA (e : Int))] 0)
theorem eW : np none = .c .nilIface:=rfl
theorem kf (a : Int) (e : Nat) : np (some (a,e)) = .ifc 63 (.rf [inA a,.ifc 41 (inA (e : Int))] 0):=rfl
@[go_sem] theorem FQ (g : List (Nat × Nat)) (k : Nat) (o : Option (Int × Nat)) : ren g (k + 2) (np o) = np o:=by
 cases o <;> rfl
@[go_sem] theorem D7 (b k : Nat) (o : Option (Int × Nat)) : eP b (k + 2) (np o) = false:=by
 cases o <;> rfl
@[go_sem] theorem FP (o : Option (Int × Nat)) : (np o).one = true:=by
 cases o <;> rfl
@[go_sem] theorem EQ (o : Option (Int × Nat)) : fg (np o) = [np o]:=by
 cases o <;> rfl
@[go_sem] theorem E5 (ex : List Nat) (σ : bL) (k : Nat) (o : Option (Int × Nat)) : i8 ex σ (k + 2) (np o) = np o:=by
 cases o <;> rfl
@[go_sem] theorem ET (tk : Bool) (k : Nat) (o : Option (Int × Nat)) : names tk (k + 2) (np o) = []:=by
 cases o <;> rfl
def um (t : Tok) : Prop:=(t.kind = 1∨t.kind = 2∨t.kind = 3∨t.kind = 4)∧(t.kind = 3→(∀ c ∈ t.text,gE c = true)∧t.text.length≤10)∧(t.text = [42]→t.kind = 4)
structure PS where
 l : List Tok
 end0 : Int
 depth : Int
 err : Option (Int × Nat)
 ok : ∀ t ∈ l,um t
 short : l.length≤65536
abbrev pA (s : PS) : AV:=.bc [.sl (s.l.flatMap nd) s.l.length .none,inA s.end0,inA s.depth,np s.err] 98
def PS.at (s : PS) : Int:=match s.l with
 | []=>s.end0
 | t :: _=>(t.at0 : Int)
def PS.fail (s : PS) (e : Nat) : PS:=match s.err with
 | none=>{ s with err:=some (s.at,e) }
 | some _=>s
def PS.drop (s : PS) : PS:={ s with l:=s.l.tail,ok:=fun t h=>s.ok t (List.mem_of_mem_tail h),short:=Nat.le_trans (by simp) s.short }
def PS.is (s : PS) (w : Wd) : Bool:=match s.err,s.l with
 | none,t :: _=>(t.kind == 2 || t.kind == 4) && t.text == w
 | _,_=>false
def PS.take (s : PS) (w : Wd) : Bool × PS:=if s.is w then (true,s.drop) else (false,s)
def PS.due (s : PS) : List Wd→PS
 | []=>s
 | w :: r=>if s.is w then s.drop.due r else s.fail 11
def PS.enter (s : PS) : PS:=if 50≤s.depth then s.fail 4 else { s with depth:=IntKind.i64.wrap (s.depth + 1) }
def PS.leave (s : PS) : PS:={ s with depth:=IntKind.i64.wrap (s.depth - 1) }
def PS.open' (s : PS) (w : Wd) : PS:=(if s.is w then s.enter else s).due [w]
def PS.kind (s : PS) (k : Nat) : Bool:=match s.err,s.l with
 | none,t :: _=>t.kind == k
 | _,_=>false
def PS.word (s : PS) (k : Nat) : Wd × PS:=if s.kind k then ((s.l.headD uU).text,s.drop) else ([],s.fail 11)
def tp (n : Int) (c : UInt8) : Int:=10 * n + ((c.toNat : Int) - 48)
def oK (t : Wd) : Int:=t.foldl tp 0
def PS.number (s : PS) : Int × PS:=(oK (s.word 3).1,(s.word 3).2)
end Go.Proofs.YtkjnkkmokojnpaaGreatDoor
namespace Go.Proofs.YtkjnkkmokojnpaaGreatDoor
set_option linter.unusedSimpArgs false
set_option linter.unusedVariables false
open Go.RowKit Go.ChangeShapes Go.WideShapes
section
variable {H : Type} {enc : TypeId × Value→H} {P : Program} {w : World} {base : Nat} {spare : Nat→Bool} {held : Bool}
set_option maxHeartbeats 4000000 in
theorem rZ {α0 α1 α2 : Type} {t fuel n0 n1 n2 : Nat} {f0 f1 f2 : Field} {A0 : α0→List AV} {A1 : α1→List AV} {A2 : α2→List AV} {Ok0 : α0→Prop} {Ok1 : α1→Prop} {Ok2 : α2→Prop} (ht : P.underlying t = some (.struct #[f0,f1,f2])) (o0 : f0.offset = 0) (s0 : P.cellsOf f0.type = n0) (s1 : P.cellsOf f1.type = n1) (s2 : P.cellsOf f2.type = n2) (o1 : f1.offset = n0) (o2 : f2.offset = n0 + n1)  (st : P.cellsOf t = n0 + n1 + n2)
  (r0 : ∀ n,n < fuel→Reads enc P w base spare held f0.type A0 Ok0 n) (r1 : ∀ n,n < fuel→Reads enc P w base spare held f1.type A1 Ok1 n) (r2 : ∀ n,n < fuel→Reads enc P w base spare held f2.type A2 Ok2 n) :
  Reads enc P w base spare held t (fun p : α0 × α1 × α2=>A0 p.1 ++ (A1 p.2.1 ++ (A2 p.2.2))) (fun p=>Ok0 p.1∧Ok1 p.2.1∧Ok2 p.2.2) fuel:=fun cs x hx hw=>by
 obtain ⟨xs,n,hfuel,rfl,hl,hlen,hf⟩:=DataW.trod_struct ht hx
 have h0:=hf 0 f0 rfl
 have h1:=hf 1 f1 rfl
 have h2:=hf 2 f2 rfl
 match xs,hlen with
 | [y0,y1,y2],_ =>
 rw [o0,s0,List.drop_zero] at h0
 rw [o1,s1] at h1
 rw [o2,s2] at h2
 obtain ⟨a0,k0,p0⟩:=r0 n (by omega) _ _ h0 (weighs_struct ht hw 0 f0 y0.1 rfl rfl)
 obtain ⟨a1,k1,p1⟩:=r1 n (by omega) _ _ h1 (weighs_struct ht hw 1 f1 y1.1 rfl rfl)
 obtain ⟨a2,k2,p2⟩:=r2 n (by omega) _ _ h2 (weighs_struct ht hw 2 f2 y2.1 rfl rfl)
 refine ⟨(a0,a1,a2),⟨k0,k1,k2⟩,?_⟩
 have e2 : cs.drop (n0 + n1) = (cs.drop (n0 + n1)).take n2:=(List.take_of_length_le (by rw [List.length_drop];omega)).symm
 have e1 : cs.drop (n0) = (cs.drop (n0)).take n1 ++ cs.drop (n0 + n1):=by have h:=List.take_append_drop n1 (cs.drop (n0));rw [List.drop_drop] at h;exact h.symm
 have e0 : cs = cs.take n0 ++ cs.drop (n0):=(List.take_append_drop n0 cs).symm
 have q2:=p2
 rw [← e2] at q2
 have q1:=PCRel.append p1 q2
 rw [← e1] at q1
 have q0:=PCRel.append p0 q1
 rw [← e0] at q0
 exact q0
set_option maxHeartbeats 4000000 in
theorem sa {α0 α1 α2 α3 : Type} {t fuel n0 n1 n2 n3 : Nat} {f0 f1 f2 f3 : Field} {A0 : α0→List AV} {A1 : α1→List AV} {A2 : α2→List AV} {A3 : α3→List AV} {Ok0 : α0→Prop} {Ok1 : α1→Prop} {Ok2 : α2→Prop} {Ok3 : α3→Prop} (ht : P.underlying t = some (.struct #[f0,f1,f2,f3])) (o0 : f0.offset = 0) (s0 : P.cellsOf f0.type = n0) (s1 : P.cellsOf f1.type = n1) (s2 : P.cellsOf f2.type = n2) (s3 : P.cellsOf f3.type = n3) (o1 : f1.offset = n0) (o2 : f2.offset = n0 + n1) (o3 : f3.offset = n0 + n1 + n2)  (st : P.cellsOf t = n0 + n1 + n2 + n3)
  (r0 : ∀ n,n < fuel→Reads enc P w base spare held f0.type A0 Ok0 n) (r1 : ∀ n,n < fuel→Reads enc P w base spare held f1.type A1 Ok1 n) (r2 : ∀ n,n < fuel→Reads enc P w base spare held f2.type A2 Ok2 n) (r3 : ∀ n,n < fuel→Reads enc P w base spare held f3.type A3 Ok3 n) :
  Reads enc P w base spare held t (fun p : α0 × α1 × α2 × α3=>A0 p.1 ++ (A1 p.2.1 ++ (A2 p.2.2.1 ++ (A3 p.2.2.2)))) (fun p=>Ok0 p.1∧Ok1 p.2.1∧Ok2 p.2.2.1∧Ok3 p.2.2.2) fuel:=fun cs x hx hw=>by
 obtain ⟨xs,n,hfuel,rfl,hl,hlen,hf⟩:=DataW.trod_struct ht hx
 have h0:=hf 0 f0 rfl
 have h1:=hf 1 f1 rfl
 have h2:=hf 2 f2 rfl
 have h3:=hf 3 f3 rfl
 match xs,hlen with
 | [y0,y1,y2,y3],_ =>
 rw [o0,s0,List.drop_zero] at h0
 rw [o1,s1] at h1
 rw [o2,s2] at h2
 rw [o3,s3] at h3
 obtain ⟨a0,k0,p0⟩:=r0 n (by omega) _ _ h0 (weighs_struct ht hw 0 f0 y0.1 rfl rfl)
 obtain ⟨a1,k1,p1⟩:=r1 n (by omega) _ _ h1 (weighs_struct ht hw 1 f1 y1.1 rfl rfl)
 obtain ⟨a2,k2,p2⟩:=r2 n (by omega) _ _ h2 (weighs_struct ht hw 2 f2 y2.1 rfl rfl)
 obtain ⟨a3,k3,p3⟩:=r3 n (by omega) _ _ h3 (weighs_struct ht hw 3 f3 y3.1 rfl rfl)
 refine ⟨(a0,a1,a2,a3),⟨k0,k1,k2,k3⟩,?_⟩
 have e3 : cs.drop (n0 + n1 + n2) = (cs.drop (n0 + n1 + n2)).take n3:=(List.take_of_length_le (by rw [List.length_drop];omega)).symm
 have e2 : cs.drop (n0 + n1) = (cs.drop (n0 + n1)).take n2 ++ cs.drop (n0 + n1 + n2):=by have h:=List.take_append_drop n2 (cs.drop (n0 + n1));rw [List.drop_drop] at h;exact h.symm
 have e1 : cs.drop (n0) = (cs.drop (n0)).take n1 ++ cs.drop (n0 + n1):=by have h:=List.take_append_drop n1 (cs.drop (n0));rw [List.drop_drop] at h;exact h.symm
 have e0 : cs = cs.take n0 ++ cs.drop (n0):=(List.take_append_drop n0 cs).symm
 have q3:=p3
 rw [← e3] at q3
 have q2:=PCRel.append p2 q3
 rw [← e2] at q2
 have q1:=PCRel.append p1 q2
 rw [← e1] at q1
 have q0:=PCRel.append p0 q1
 rw [← e0] at q0
 exact q0
set_option maxHeartbeats 4000000 in
theorem sb {α0 α1 α2 α3 α4 α5 : Type} {t fuel n0 n1 n2 n3 n4 n5 : Nat} {f0 f1 f2 f3 f4 f5 : Field} {A0 : α0→List AV} {A1 : α1→List AV} {A2 : α2→List AV} {A3 : α3→List AV} {A4 : α4→List AV} {A5 : α5→List AV} {Ok0 : α0→Prop} {Ok1 : α1→Prop} {Ok2 : α2→Prop} {Ok3 : α3→Prop} {Ok4 : α4→Prop} {Ok5 : α5→Prop} (ht : P.underlying t = some (.struct #[f0,f1,f2,f3,f4,f5])) (o0 : f0.offset = 0) (s0 : P.cellsOf f0.type = n0) (s1 : P.cellsOf f1.type = n1) (s2 : P.cellsOf f2.type = n2) (s3 : P.cellsOf f3.type = n3) (s4 : P.cellsOf f4.type = n4) (s5 : P.cellsOf f5.type = n5) (o1 : f1.offset = n0) (o2 : f2.offset = n0 + n1) (o3 : f3.offset = n0 + n1 + n2) (o4 : f4.offset = n0 + n1 + n2 + n3) (o5 : f5.offset = n0 + n1 + n2 + n3 + n4)  (st : P.cellsOf t = n0 + n1 + n2 + n3 + n4 + n5)
  (r0 : ∀ n,n < fuel→Reads enc P w base spare held f0.type A0 Ok0 n) (r1 : ∀ n,n < fuel→Reads enc P w base spare held f1.type A1 Ok1 n) (r2 : ∀ n,n < fuel→Reads enc P w base spare held f2.type A2 Ok2 n) (r3 : ∀ n,n < fuel→Reads enc P w base spare held f3.type A3 Ok3 n) (r4 : ∀ n,n < fuel→Reads enc P w base spare held f4.type A4 Ok4 n) (r5 : ∀ n,n < fuel→Reads enc P w base spare held f5.type A5 Ok5 n) :
  Reads enc P w base spare held t (fun p : α0 × α1 × α2 × α3 × α4 × α5=>A0 p.1 ++ (A1 p.2.1 ++ (A2 p.2.2.1 ++ (A3 p.2.2.2.1 ++ (A4 p.2.2.2.2.1 ++ (A5 p.2.2.2.2.2)))))) (fun p=>Ok0 p.1∧Ok1 p.2.1∧Ok2 p.2.2.1∧Ok3 p.2.2.2.1∧Ok4 p.2.2.2.2.1∧Ok5 p.2.2.2.2.2) fuel:=fun cs x hx hw=>by
 obtain ⟨xs,n,hfuel,rfl,hl,hlen,hf⟩:=DataW.trod_struct ht hx
 have h0:=hf 0 f0 rfl
 have h1:=hf 1 f1 rfl
 have h2:=hf 2 f2 rfl
 have h3:=hf 3 f3 rfl
 have h4:=hf 4 f4 rfl
 have h5:=hf 5 f5 rfl
 match xs,hlen with
 | [y0,y1,y2,y3,y4,y5],_ =>
 rw [o0,s0,List.drop_zero] at h0
 rw [o1,s1] at h1
 rw [o2,s2] at h2
 rw [o3,s3] at h3
 rw [o4,s4] at h4
 rw [o5,s5] at h5
 obtain ⟨a0,k0,p0⟩:=r0 n (by omega) _ _ h0 (weighs_struct ht hw 0 f0 y0.1 rfl rfl)
 obtain ⟨a1,k1,p1⟩:=r1 n (by omega) _ _ h1 (weighs_struct ht hw 1 f1 y1.1 rfl rfl)
 obtain ⟨a2,k2,p2⟩:=r2 n (by omega) _ _ h2 (weighs_struct ht hw 2 f2 y2.1 rfl rfl)
 obtain ⟨a3,k3,p3⟩:=r3 n (by omega) _ _ h3 (weighs_struct ht hw 3 f3 y3.1 rfl rfl)
 obtain ⟨a4,k4,p4⟩:=r4 n (by omega) _ _ h4 (weighs_struct ht hw 4 f4 y4.1 rfl rfl)
 obtain ⟨a5,k5,p5⟩:=r5 n (by omega) _ _ h5 (weighs_struct ht hw 5 f5 y5.1 rfl rfl)
 refine ⟨(a0,a1,a2,a3,a4,a5),⟨k0,k1,k2,k3,k4,k5⟩,?_⟩
 have e5 : cs.drop (n0 + n1 + n2 + n3 + n4) = (cs.drop (n0 + n1 + n2 + n3 + n4)).take n5:=(List.take_of_length_le (by rw [List.length_drop];omega)).symm
 have e4 : cs.drop (n0 + n1 + n2 + n3) = (cs.drop (n0 + n1 + n2 + n3)).take n4 ++ cs.drop (n0 + n1 + n2 + n3 + n4):=by have h:=List.take_append_drop n4 (cs.drop (n0 + n1 + n2 + n3));rw [List.drop_drop] at h;exact h.symm
 have e3 : cs.drop (n0 + n1 + n2) = (cs.drop (n0 + n1 + n2)).take n3 ++ cs.drop (n0 + n1 + n2 + n3):=by have h:=List.take_append_drop n3 (cs.drop (n0 + n1 + n2));rw [List.drop_drop] at h;exact h.symm
 have e2 : cs.drop (n0 + n1) = (cs.drop (n0 + n1)).take n2 ++ cs.drop (n0 + n1 + n2):=by have h:=List.take_append_drop n2 (cs.drop (n0 + n1));rw [List.drop_drop] at h;exact h.symm
 have e1 : cs.drop (n0) = (cs.drop (n0)).take n1 ++ cs.drop (n0 + n1):=by have h:=List.take_append_drop n1 (cs.drop (n0));rw [List.drop_drop] at h;exact h.symm
 have e0 : cs = cs.take n0 ++ cs.drop (n0):=(List.take_append_drop n0 cs).symm
 have q5:=p5
 rw [← e5] at q5
 have q4:=PCRel.append p4 q5
 rw [← e4] at q4
 have q3:=PCRel.append p3 q4
 rw [← e3] at q3
 have q2:=PCRel.append p2 q3
 rw [← e2] at q2
 have q1:=PCRel.append p1 q2
 rw [← e1] at q1
 have q0:=PCRel.append p0 q1
 rw [← e0] at q0
 exact q0
set_option maxHeartbeats 4000000 in
theorem sc {α0 α1 α2 α3 α4 α5 α6 : Type} {t fuel n0 n1 n2 n3 n4 n5 n6 : Nat} {f0 f1 f2 f3 f4 f5 f6 : Field} {A0 : α0→List AV} {A1 : α1→List AV} {A2 : α2→List AV} {A3 : α3→List AV} {A4 : α4→List AV} {A5 : α5→List AV} {A6 : α6→List AV} {Ok0 : α0→Prop} {Ok1 : α1→Prop} {Ok2 : α2→Prop} {Ok3 : α3→Prop} {Ok4 : α4→Prop} {Ok5 : α5→Prop} {Ok6 : α6→Prop} (ht : P.underlying t = some (.struct #[f0,f1,f2,f3,f4,f5,f6])) (o0 : f0.offset = 0) (s0 : P.cellsOf f0.type = n0) (s1 : P.cellsOf f1.type = n1) (s2 : P.cellsOf f2.type = n2) (s3 : P.cellsOf f3.type = n3) (s4 : P.cellsOf f4.type = n4) (s5 : P.cellsOf f5.type = n5) (s6 : P.cellsOf f6.type = n6) (o1 : f1.offset = n0) (o2 : f2.offset = n0 + n1) (o3 : f3.offset = n0 + n1 + n2) (o4 : f4.offset = n0 + n1 + n2 + n3) (o5 : f5.offset = n0 + n1 + n2 + n3 + n4) (o6 : f6.offset = n0 + n1 + n2 + n3 + n4 + n5)  (st : P.cellsOf t = n0 + n1 + n2 + n3 + n4 + n5 + n6)
  (r0 : ∀ n,n < fuel→Reads enc P w base spare held f0.type A0 Ok0 n) (r1 : ∀ n,n < fuel→Reads enc P w base spare held f1.type A1 Ok1 n) (r2 : ∀ n,n < fuel→Reads enc P w base spare held f2.type A2 Ok2 n) (r3 : ∀ n,n < fuel→Reads enc P w base spare held f3.type A3 Ok3 n) (r4 : ∀ n,n < fuel→Reads enc P w base spare held f4.type A4 Ok4 n) (r5 : ∀ n,n < fuel→Reads enc P w base spare held f5.type A5 Ok5 n) (r6 : ∀ n,n < fuel→Reads enc P w base spare held f6.type A6 Ok6 n) :
  Reads enc P w base spare held t (fun p : α0 × α1 × α2 × α3 × α4 × α5 × α6=>A0 p.1 ++ (A1 p.2.1 ++ (A2 p.2.2.1 ++ (A3 p.2.2.2.1 ++ (A4 p.2.2.2.2.1 ++ (A5 p.2.2.2.2.2.1 ++ (A6 p.2.2.2.2.2.2))))))) (fun p=>Ok0 p.1∧Ok1 p.2.1∧Ok2 p.2.2.1∧Ok3 p.2.2.2.1∧Ok4 p.2.2.2.2.1∧Ok5 p.2.2.2.2.2.1∧Ok6 p.2.2.2.2.2.2) fuel:=fun cs x hx hw=>by
 obtain ⟨xs,n,hfuel,rfl,hl,hlen,hf⟩:=DataW.trod_struct ht hx
 have h0:=hf 0 f0 rfl
 have h1:=hf 1 f1 rfl
 have h2:=hf 2 f2 rfl
 have h3:=hf 3 f3 rfl
 have h4:=hf 4 f4 rfl
 have h5:=hf 5 f5 rfl
 have h6:=hf 6 f6 rfl
 match xs,hlen with
 | [y0,y1,y2,y3,y4,y5,y6],_ =>
 rw [o0,s0,List.drop_zero] at h0
 rw [o1,s1] at h1
 rw [o2,s2] at h2
 rw [o3,s3] at h3
 rw [o4,s4] at h4
 rw [o5,s5] at h5
 rw [o6,s6] at h6
 obtain ⟨a0,k0,p0⟩:=r0 n (by omega) _ _ h0 (weighs_struct ht hw 0 f0 y0.1 rfl rfl)
 obtain ⟨a1,k1,p1⟩:=r1 n (by omega) _ _ h1 (weighs_struct ht hw 1 f1 y1.1 rfl rfl)
 obtain ⟨a2,k2,p2⟩:=r2 n (by omega) _ _ h2 (weighs_struct ht hw 2 f2 y2.1 rfl rfl)
 obtain ⟨a3,k3,p3⟩:=r3 n (by omega) _ _ h3 (weighs_struct ht hw 3 f3 y3.1 rfl rfl)
 obtain ⟨a4,k4,p4⟩:=r4 n (by omega) _ _ h4 (weighs_struct ht hw 4 f4 y4.1 rfl rfl)
 obtain ⟨a5,k5,p5⟩:=r5 n (by omega) _ _ h5 (weighs_struct ht hw 5 f5 y5.1 rfl rfl)
 obtain ⟨a6,k6,p6⟩:=r6 n (by omega) _ _ h6 (weighs_struct ht hw 6 f6 y6.1 rfl rfl)
 refine ⟨(a0,a1,a2,a3,a4,a5,a6),⟨k0,k1,k2,k3,k4,k5,k6⟩,?_⟩
 have e6 : cs.drop (n0 + n1 + n2 + n3 + n4 + n5) = (cs.drop (n0 + n1 + n2 + n3 + n4 + n5)).take n6:=(List.take_of_length_le (by rw [List.length_drop];omega)).symm
 have e5 : cs.drop (n0 + n1 + n2 + n3 + n4) = (cs.drop (n0 + n1 + n2 + n3 + n4)).take n5 ++ cs.drop (n0 + n1 + n2 + n3 + n4 + n5):=by have h:=List.take_append_drop n5 (cs.drop (n0 + n1 + n2 + n3 + n4));rw [List.drop_drop] at h;exact h.symm
 have e4 : cs.drop (n0 + n1 + n2 + n3) = (cs.drop (n0 + n1 + n2 + n3)).take n4 ++ cs.drop (n0 + n1 + n2 + n3 + n4):=by have h:=List.take_append_drop n4 (cs.drop (n0 + n1 + n2 + n3));rw [List.drop_drop] at h;exact h.symm
 have e3 : cs.drop (n0 + n1 + n2) = (cs.drop (n0 + n1 + n2)).take n3 ++ cs.drop (n0 + n1 + n2 + n3):=by have h:=List.take_append_drop n3 (cs.drop (n0 + n1 + n2));rw [List.drop_drop] at h;exact h.symm
 have e2 : cs.drop (n0 + n1) = (cs.drop (n0 + n1)).take n2 ++ cs.drop (n0 + n1 + n2):=by have h:=List.take_append_drop n2 (cs.drop (n0 + n1));rw [List.drop_drop] at h;exact h.symm
 have e1 : cs.drop (n0) = (cs.drop (n0)).take n1 ++ cs.drop (n0 + n1):=by have h:=List.take_append_drop n1 (cs.drop (n0));rw [List.drop_drop] at h;exact h.symm
 have e0 : cs = cs.take n0 ++ cs.drop (n0):=(List.take_append_drop n0 cs).symm
 have q6:=p6
 rw [← e6] at q6
 have q5:=PCRel.append p5 q6
 rw [← e5] at q5
 have q4:=PCRel.append p4 q5
 rw [← e4] at q4
 have q3:=PCRel.append p3 q4
 rw [← e3] at q3
 have q2:=PCRel.append p2 q3
 rw [← e2] at q2
 have q1:=PCRel.append p1 q2
 rw [← e1] at q1
 have q0:=PCRel.append p0 q1
 rw [← e0] at q0
 exact q0
set_option maxHeartbeats 4000000 in
theorem rj {α0 α1 α2 α3 α4 α5 α6 α7 α8 α9 α10 α11 α12 : Type} {t fuel n0 n1 n2 n3 n4 n5 n6 n7 n8 n9 n10 n11 n12 : Nat} {f0 f1 f2 f3 f4 f5 f6 f7 f8 f9 f10 f11 f12 : Field} {A0 : α0→List AV} {A1 : α1→List AV} {A2 : α2→List AV} {A3 : α3→List AV} {A4 : α4→List AV} {A5 : α5→List AV} {A6 : α6→List AV} {A7 : α7→List AV} {A8 : α8→List AV} {A9 : α9→List AV} {A10 : α10→List AV} {A11 : α11→List AV} {A12 : α12→List AV} {Ok0 : α0→Prop} {Ok1 : α1→Prop} {Ok2 : α2→Prop} {Ok3 : α3→Prop} {Ok4 : α4→Prop} {Ok5 : α5→Prop} {Ok6 : α6→Prop} {Ok7 : α7→Prop} {Ok8 : α8→Prop} {Ok9 : α9→Prop} {Ok10 : α10→Prop} {Ok11 : α11→Prop} {Ok12 : α12→Prop} (ht : P.underlying t = some (.struct #[f0,f1,f2,f3,f4,f5,f6,f7,f8,f9,f10,f11,f12])) (o0 : f0.offset = 0) (s0 : P.cellsOf f0.type = n0) (s1 : P.cellsOf f1.type = n1) (s2 : P.cellsOf f2.type = n2) (s3 : P.cellsOf f3.type = n3) (s4 : P.cellsOf f4.type = n4) (s5 : P.cellsOf f5.type = n5) (s6 : P.cellsOf f6.type = n6) (s7 : P.cellsOf f7.type = n7) (s8 : P.cellsOf f8.type = n8) (s9 : P.cellsOf f9.type = n9) (s10 : P.cellsOf f10.type = n10) (s11 : P.cellsOf f11.type = n11) (s12 : P.cellsOf f12.type = n12) (o1 : f1.offset = n0) (o2 : f2.offset = n0 + n1) (o3 : f3.offset = n0 + n1 + n2) (o4 : f4.offset = n0 + n1 + n2 + n3) (o5 : f5.offset = n0 + n1 + n2 + n3 + n4) (o6 : f6.offset = n0 + n1 + n2 + n3 + n4 + n5) (o7 : f7.offset = n0 + n1 + n2 + n3 + n4 + n5 + n6) (o8 : f8.offset = n0 + n1 + n2 + n3 + n4 + n5 + n6 + n7) (o9 : f9.offset = n0 + n1 + n2 + n3 + n4 + n5 + n6 + n7 + n8) (o10 : f10.offset = n0 + n1 + n2 + n3 + n4 + n5 + n6 + n7 + n8 + n9) (o11 : f11.offset = n0 + n1 + n2 + n3 + n4 + n5 + n6 + n7 + n8 + n9 + n10) (o12 : f12.offset = n0 + n1 + n2 + n3 + n4 + n5 + n6 + n7 + n8 + n9 + n10 + n11)  (st : P.cellsOf t = n0 + n1 + n2 + n3 + n4 + n5 + n6 + n7 + n8 + n9 + n10 + n11 + n12)
  (r0 : ∀ n,n < fuel→Reads enc P w base spare held f0.type A0 Ok0 n) (r1 : ∀ n,n < fuel→Reads enc P w base spare held f1.type A1 Ok1 n) (r2 : ∀ n,n < fuel→Reads enc P w base spare held f2.type A2 Ok2 n) (r3 : ∀ n,n < fuel→Reads enc P w base spare held f3.type A3 Ok3 n) (r4 : ∀ n,n < fuel→Reads enc P w base spare held f4.type A4 Ok4 n) (r5 : ∀ n,n < fuel→Reads enc P w base spare held f5.type A5 Ok5 n) (r6 : ∀ n,n < fuel→Reads enc P w base spare held f6.type A6 Ok6 n) (r7 : ∀ n,n < fuel→Reads enc P w base spare held f7.type A7 Ok7 n) (r8 : ∀ n,n < fuel→Reads enc P w base spare held f8.type A8 Ok8 n) (r9 : ∀ n,n < fuel→Reads enc P w base spare held f9.type A9 Ok9 n) (r10 : ∀ n,n < fuel→Reads enc P w base spare held f10.type A10 Ok10 n) (r11 : ∀ n,n < fuel→Reads enc P w base spare held f11.type A11 Ok11 n) (r12 : ∀ n,n < fuel→Reads enc P w base spare held f12.type A12 Ok12 n) :
  Reads enc P w base spare held t (fun p : α0 × α1 × α2 × α3 × α4 × α5 × α6 × α7 × α8 × α9 × α10 × α11 × α12=>A0 p.1 ++ (A1 p.2.1 ++ (A2 p.2.2.1 ++ (A3 p.2.2.2.1 ++ (A4 p.2.2.2.2.1 ++ (A5 p.2.2.2.2.2.1 ++ (A6 p.2.2.2.2.2.2.1 ++ (A7 p.2.2.2.2.2.2.2.1 ++ (A8 p.2.2.2.2.2.2.2.2.1 ++ (A9 p.2.2.2.2.2.2.2.2.2.1 ++ (A10 p.2.2.2.2.2.2.2.2.2.2.1 ++ (A11 p.2.2.2.2.2.2.2.2.2.2.2.1 ++ (A12 p.2.2.2.2.2.2.2.2.2.2.2.2))))))))))))) (fun p=>Ok0 p.1∧Ok1 p.2.1∧Ok2 p.2.2.1∧Ok3 p.2.2.2.1∧Ok4 p.2.2.2.2.1∧Ok5 p.2.2.2.2.2.1∧Ok6 p.2.2.2.2.2.2.1∧Ok7 p.2.2.2.2.2.2.2.1∧Ok8 p.2.2.2.2.2.2.2.2.1∧Ok9 p.2.2.2.2.2.2.2.2.2.1∧Ok10 p.2.2.2.2.2.2.2.2.2.2.1∧Ok11 p.2.2.2.2.2.2.2.2.2.2.2.1∧Ok12 p.2.2.2.2.2.2.2.2.2.2.2.2) fuel:=fun cs x hx hw=>by
 obtain ⟨xs,n,hfuel,rfl,hl,hlen,hf⟩:=DataW.trod_struct ht hx
 have h0:=hf 0 f0 rfl
 have h1:=hf 1 f1 rfl
 have h2:=hf 2 f2 rfl
 have h3:=hf 3 f3 rfl
 have h4:=hf 4 f4 rfl
 have h5:=hf 5 f5 rfl
 have h6:=hf 6 f6 rfl
 have h7:=hf 7 f7 rfl
 have h8:=hf 8 f8 rfl
 have h9:=hf 9 f9 rfl
 have h10:=hf 10 f10 rfl
 have h11:=hf 11 f11 rfl
 have h12:=hf 12 f12 rfl
 match xs,hlen with
 | [y0,y1,y2,y3,y4,y5,y6,y7,y8,y9,y10,y11,y12],_ =>
 rw [o0,s0,List.drop_zero] at h0
 rw [o1,s1] at h1
 rw [o2,s2] at h2
 rw [o3,s3] at h3
 rw [o4,s4] at h4
 rw [o5,s5] at h5
 rw [o6,s6] at h6
 rw [o7,s7] at h7
 rw [o8,s8] at h8
 rw [o9,s9] at h9
 rw [o10,s10] at h10
 rw [o11,s11] at h11
 rw [o12,s12] at h12
 obtain ⟨a0,k0,p0⟩:=r0 n (by omega) _ _ h0 (weighs_struct ht hw 0 f0 y0.1 rfl rfl)
 obtain ⟨a1,k1,p1⟩:=r1 n (by omega) _ _ h1 (weighs_struct ht hw 1 f1 y1.1 rfl rfl)
 obtain ⟨a2,k2,p2⟩:=r2 n (by omega) _ _ h2 (weighs_struct ht hw 2 f2 y2.1 rfl rfl)
 obtain ⟨a3,k3,p3⟩:=r3 n (by omega) _ _ h3 (weighs_struct ht hw 3 f3 y3.1 rfl rfl)
 obtain ⟨a4,k4,p4⟩:=r4 n (by omega) _ _ h4 (weighs_struct ht hw 4 f4 y4.1 rfl rfl)
 obtain ⟨a5,k5,p5⟩:=r5 n (by omega) _ _ h5 (weighs_struct ht hw 5 f5 y5.1 rfl rfl)
 obtain ⟨a6,k6,p6⟩:=r6 n (by omega) _ _ h6 (weighs_struct ht hw 6 f6 y6.1 rfl rfl)
 obtain ⟨a7,k7,p7⟩:=r7 n (by omega) _ _ h7 (weighs_struct ht hw 7 f7 y7.1 rfl rfl)
 obtain ⟨a8,k8,p8⟩:=r8 n (by omega) _ _ h8 (weighs_struct ht hw 8 f8 y8.1 rfl rfl)
 obtain ⟨a9,k9,p9⟩:=r9 n (by omega) _ _ h9 (weighs_struct ht hw 9 f9 y9.1 rfl rfl)
 obtain ⟨a10,k10,p10⟩:=r10 n (by omega) _ _ h10 (weighs_struct ht hw 10 f10 y10.1 rfl rfl)
 obtain ⟨a11,k11,p11⟩:=r11 n (by omega) _ _ h11 (weighs_struct ht hw 11 f11 y11.1 rfl rfl)
 obtain ⟨a12,k12,p12⟩:=r12 n (by omega) _ _ h12 (weighs_struct ht hw 12 f12 y12.1 rfl rfl)
 refine ⟨(a0,a1,a2,a3,a4,a5,a6,a7,a8,a9,a10,a11,a12),⟨k0,k1,k2,k3,k4,k5,k6,k7,k8,k9,k10,k11,k12⟩,?_⟩
 have e12 : cs.drop (n0 + n1 + n2 + n3 + n4 + n5 + n6 + n7 + n8 + n9 + n10 + n11) = (cs.drop (n0 + n1 + n2 + n3 + n4 + n5 + n6 + n7 + n8 + n9 + n10 + n11)).take n12:=(List.take_of_length_le (by rw [List.length_drop];omega)).symm
 have e11 : cs.drop (n0 + n1 + n2 + n3 + n4 + n5 + n6 + n7 + n8 + n9 + n10) = (cs.drop (n0 + n1 + n2 + n3 + n4 + n5 + n6 + n7 + n8 + n9 + n10)).take n11 ++ cs.drop (n0 + n1 + n2 + n3 + n4 + n5 + n6 + n7 + n8 + n9 + n10 + n11):=by have h:=List.take_append_drop n11 (cs.drop (n0 + n1 + n2 + n3 + n4 + n5 + n6 + n7 + n8 + n9 + n10));rw [List.drop_drop] at h;exact h.symm
 have e10 : cs.drop (n0 + n1 + n2 + n3 + n4 + n5 + n6 + n7 + n8 + n9) = (cs.drop (n0 + n1 + n2 + n3 + n4 + n5 + n6 + n7 + n8 + n9)).take n10 ++ cs.drop (n0 + n1 + n2 + n3 + n4 + n5 + n6 + n7 + n8 + n9 + n10):=by have h:=List.take_append_drop n10 (cs.drop (n0 + n1 + n2 + n3 + n4 + n5 + n6 + n7 + n8 + n9));rw [List.drop_drop] at h;exact h.symm
 have e9 : cs.drop (n0 + n1 + n2 + n3 + n4 + n5 + n6 + n7 + n8) = (cs.drop (n0 + n1 + n2 + n3 + n4 + n5 + n6 + n7 + n8)).take n9 ++ cs.drop (n0 + n1 + n2 + n3 + n4 + n5 + n6 + n7 + n8 + n9):=by have h:=List.take_append_drop n9 (cs.drop (n0 + n1 + n2 + n3 + n4 + n5 + n6 + n7 + n8));rw [List.drop_drop] at h;exact h.symm
 have e8 : cs.drop (n0 + n1 + n2 + n3 + n4 + n5 + n6 + n7) = (cs.drop (n0 + n1 + n2 + n3 + n4 + n5 + n6 + n7)).take n8 ++ cs.drop (n0 + n1 + n2 + n3 + n4 + n5 + n6 + n7 + n8):=by have h:=List.take_append_drop n8 (cs.drop (n0 + n1 + n2 + n3 + n4 + n5 + n6 + n7));rw [List.drop_drop] at h;exact h.symm
 have e7 : cs.drop (n0 + n1 + n2 + n3 + n4 + n5 + n6) = (cs.drop (n0 + n1 + n2 + n3 + n4 + n5 + n6)).take n7 ++ cs.drop (n0 + n1 + n2 + n3 + n4 + n5 + n6 + n7):=by have h:=List.take_append_drop n7 (cs.drop (n0 + n1 + n2 + n3 + n4 + n5 + n6));rw [List.drop_drop] at h;exact h.symm
 have e6 : cs.drop (n0 + n1 + n2 + n3 + n4 + n5) = (cs.drop (n0 + n1 + n2 + n3 + n4 + n5)).take n6 ++ cs.drop (n0 + n1 + n2 + n3 + n4 + n5 + n6):=by have h:=List.take_append_drop n6 (cs.drop (n0 + n1 + n2 + n3 + n4 + n5));rw [List.drop_drop] at h;exact h.symm
 have e5 : cs.drop (n0 + n1 + n2 + n3 + n4) = (cs.drop (n0 + n1 + n2 + n3 + n4)).take n5 ++ cs.drop (n0 + n1 + n2 + n3 + n4 + n5):=by have h:=List.take_append_drop n5 (cs.drop (n0 + n1 + n2 + n3 + n4));rw [List.drop_drop] at h;exact h.symm
 have e4 : cs.drop (n0 + n1 + n2 + n3) = (cs.drop (n0 + n1 + n2 + n3)).take n4 ++ cs.drop (n0 + n1 + n2 + n3 + n4):=by have h:=List.take_append_drop n4 (cs.drop (n0 + n1 + n2 + n3));rw [List.drop_drop] at h;exact h.symm
 have e3 : cs.drop (n0 + n1 + n2) = (cs.drop (n0 + n1 + n2)).take n3 ++ cs.drop (n0 + n1 + n2 + n3):=by have h:=List.take_append_drop n3 (cs.drop (n0 + n1 + n2));rw [List.drop_drop] at h;exact h.symm
 have e2 : cs.drop (n0 + n1) = (cs.drop (n0 + n1)).take n2 ++ cs.drop (n0 + n1 + n2):=by have h:=List.take_append_drop n2 (cs.drop (n0 + n1));rw [List.drop_drop] at h;exact h.symm
 have e1 : cs.drop (n0) = (cs.drop (n0)).take n1 ++ cs.drop (n0 + n1):=by have h:=List.take_append_drop n1 (cs.drop (n0));rw [List.drop_drop] at h;exact h.symm
 have e0 : cs = cs.take n0 ++ cs.drop (n0):=(List.take_append_drop n0 cs).symm
 have q12:=p12
 rw [← e12] at q12
 have q11:=PCRel.append p11 q12
 rw [← e11] at q11
 have q10:=PCRel.append p10 q11
 rw [← e10] at q10
 have q9:=PCRel.append p9 q10
 rw [← e9] at q9
 have q8:=PCRel.append p8 q9
 rw [← e8] at q8
 have q7:=PCRel.append p7 q8
 rw [← e7] at q7
 have q6:=PCRel.append p6 q7
 rw [← e6] at q6
 have q5:=PCRel.append p5 q6
 rw [← e5] at q5
 have q4:=PCRel.append p4 q5
 rw [← e4] at q4
 have q3:=PCRel.append p3 q4
 rw [← e3] at q3
 have q2:=PCRel.append p2 q3
 rw [← e2] at q2
 have q1:=PCRel.append p1 q2
 rw [← e1] at q1
 have q0:=PCRel.append p0 q1
 rw [← e0] at q0
 exact q0
end
end Go.Proofs.YtkjnkkmokojnpaaGreatDoor
namespace Go.Proofs.YtkjnkkmokojnpaaGreatDoor
set_option linter.unusedSimpArgs false
set_option linter.unusedVariables false
open Go.RowKit Go.ChangeShapes Go.WideShapes
theorem sC {H : Type} {enc : TypeId × Value→H} {P : Program} {w : World} {base : Nat} {spare : Nat→Bool} {held : Bool} {t e fuel : Nat} {cs : List Value} {p : List MemPlace} {ks : List (List UInt8)}
  (ht : P.underlying t = some (.slice e)) (he : P.underlying e = some .string) (hs : P.cellsOf e = 1)
  (h : DataW.trod enc P w base spare held fuel t cs = some (.slice (ks.map fun k=>.lit (.string k)) [],p)) : PCRel (j0 w) cs [.sl (ks.map bs) ks.length .none]:=by
 rcases DataW.trod_slice ht h with ⟨rfl,hx⟩ | ⟨a,len,cap,elems,rest,n,hfuel,rfl,hx,hb,hl,hm,hlen,hel,hsp,hns⟩
 ·cases hx
 simp only [Prod.mk.injEq,DataW.slice.injEq] at hx
 obtain ⟨⟨hx1,_⟩,_⟩:=hx
 have hkl : ks.length = len:=by rw [← hlen];simpa using congrArg List.length hx1
 have hone : ∀ i (hi : i < ks.length),w.cell? (a.add i) = some (.string ⟨ks[i].toArray⟩):=fun i hi=>by
  have h1:=hel i (by omega)
  have hi' : i < elems.length:=by omega
  rw [List.getElem?_eq_getElem hi',Option.bind_eq_some_iff] at h1
  obtain ⟨cs',hc',h2⟩:=h1
  obtain ⟨_,hcl,hcc⟩:=World.cells?_some hc'
  obtain ⟨s,e1,e2,_⟩:=DataW.trod_string he h2
  have h3:=congrArg (fun l=>l[i]?) hx1
  simp only [List.getElem?_map,List.getElem?_eq_getElem hi',List.getElem?_eq_getElem hi,Option.map_some,e2,Option.some.injEq,DataW.lit.injEq,Lit.string.injEq] at h3
  have h4:=hcc 0 (by rw [hs];decide)
  rw [hs,Nat.mul_one] at h4
  have h5 : (a.add i).add 0 = a.add i:=by unfold Addr.add;simp
  rw [h5,e1] at h4
  rw [h4,h3];rfl
 refine rg ?_ rfl
 rcases Nat.eq_zero_or_pos len with h0 | h0
 ·have : ks = []:=List.length_eq_zero_iff.1 (by omega)
  subst this
  subst h0
  exact .sl (some a) 0 0 0 cap .none [] (fun _=>undef) (.inl rfl) hl (by simp) (.inl ⟨rfl,rfl⟩) (fun j h=>by simp at h) (fun j h=>by simp at h)
 have hspot : a.spot = none:=by
  have:=hone 0 (by omega)
  simp only [Addr.add,if_true] at this
  exact reads_slice.spot_none this
 obtain ⟨b,o,sp⟩:=a
 simp only at hspot
 subst hspot
 rw [hkl]
 refine .sl (some ⟨b,o,none⟩) b o len cap .none (ks.map bs) (fun j=>.string ⟨(ks.getD j []).toArray⟩) (.inl rfl) hl (fun e=>by cases e) (.inr rfl) (fun j hj=>?_) fun j hj=>?_
 ·have hj' : j < ks.length:=by simpa using hj
  have:=hone j hj'
  rw [oq] at this
  have e : ks.getD j [] = ks[j]:=by rw [List.getD_eq_getElem?_getD,List.getElem?_eq_getElem hj'];rfl
  rw [e]
  exact uk this rfl
 ·have hj' : j < ks.length:=by simpa using hj
  have e : ks.getD j [] = ks[j]:=by rw [List.getD_eq_getElem?_getD,List.getElem?_eq_getElem hj'];rfl
  rw [e,List.getElem_map]
  exact .c _
theorem wk {w : World} {g : Nat} {v : Value} {x : AV} (hc : w.cell? ⟨g,0,none⟩ = some v) (h1 : v.oneCell' = true) (h : PRel (j0 w) v x) : PRel (j0 w) (.pointer (some ⟨g,0,none⟩)) (.rf [x] 0) :=
 .rf g 0 0 [x] (fun _=>v) (fun j hj=>by
  obtain rfl : j = 0:=by simpa using hj
  exact uk hc h1) fun j hj=>by
  obtain rfl : j = 0:=by simpa using hj
  exact h
theorem mQ {H : Type} {enc : TypeId × Value→H} {w : World} {base : Nat} {spare : Nat→Bool} {held : Bool} (fuel : Nat) : Reads enc Tryz.prog w base spare held 9 (fun l : List UInt8=>[bs l]) (fun l=>l.length≤140737488351232) fuel :=
 (tU Tryz.underlying9 fuel).map (fun s=>s.data.toList) (fun s=>by cases s;simp) fun s h=>by simpa using h
theorem x9 {H : Type} {enc : TypeId × Value→H} {w : World} {base : Nat} {spare : Nat→Bool} {held : Bool} (fuel : Nat) : Reads enc Tryz.prog w base spare held 3 (fun z : Int=>[.c (.int .i64 z)]) (fun z=>-9223372036854775808≤z∧z≤9223372036854775807) fuel:=ya Tryz.underlying3 fuel
end Go.Proofs.YtkjnkkmokojnpaaGreatDoor
namespace Go.Proofs.YtkjnkkmokojnpaaGreatDoor
set_option linter.unusedSimpArgs false
set_option linter.unusedVariables false
open Go.RowKit
def dQ (x : List UInt8) : Bool:=decide (x.length≤32) && (decide (0 < dz lettersL x) && (decide (dz wordL x = x.length) && !keyL.contains x))
def iP : Nat→List Nat
 | 0=>[0]
 | 1=>[0]
 | _=>[]
set_option maxRecDepth 100000 in
set_option maxHeartbeats 4000000 in
theorem ja (x : List UInt8) (hl : x.length≤4611686018427387904) : AFn Tryz.prog 42 [bs x] [] (.c (.bool (dQ x))) []:=by
 have h1:=rl x lettersL tM 0 (Nat.zero_le _) hl
 have h2:=rl x wordL vF 0 (Nat.zero_le _) hl
 have h3:=DN x
 rw [List.drop_zero] at h1 h2
 simp only [Int.ofNat_zero,Int.natCast_zero,Int.cast_ofNat_Int] at h1 h2
 refine aC [] Tryz.func42 rfl Tryz.ntmps42 (Nat.le_of_ble_eq_true rfl) (Nat.le_of_ble_eq_true rfl) fun w0 G0 B0 Pr hB0=>?_
 simp only [aJ,aB,List.cons_append,List.nil_append]
 repeat' (first | (with_reducible refine hY _ ?_;clear hY Y) | ((with_reducible first | refine ar rfl (ay fun K' hK'=>aa ?_) | refine hK' _ (ab fun Y hY=>aa ?_) | refine ba rfl (ab fun Y hY=>aa ?_) | refine ab fun Y hY=>aa ?_ | refine ay fun K' hK'=>aa ?_ | refine ae tk0 iP (ab fun Y hY=>aa ?_) | refine aa ?_ | refine aq ?_);(try clear hK' K');(try dsimp only [aop]);try simp only [go_sem,seval,iP,Tryz.results42,iN,xD]) | (with_reducible first | refine ag ?_ | refine aW rfl ?_ | refine aK ?_ | refine dc ?_ ?_ | refine aj ?_ | refine am ?_ | refine aF fun K hK=>?_ | refine aA ?_) | (with_reducible refine hK _ ?_;clear hK K) | ((with_reducible refine aI ?_ ?_);(· decide)) | ((with_reducible refine ci (fun hc=>?_) (fun hc=>?_)) <;> (try simp only [decide_eq_true_eq,decide_eq_false_iff_not,Bool.not_true,Bool.not_false,Bool.not_eq_true',Bool.not_eq_false'] at hc) <;> (try (exfalso;omega))) | (with_reducible refine ac (h1) ?_) | (with_reducible refine ac (h2) ?_) | (with_reducible refine ac (h3) ?_))
 all_goals (refine congrArg (fun b=>AV.c (Value.bool b)) ?_;rw [Bool.eq_iff_iff];unfold dQ;generalize keyL.contains x = b;cases b <;> simp <;> omega)
def gq : Nat→List Nat
 | 0=>[0]
 | 1=>[0]
 | 2=>[0,3]
 | _=>[]
set_option maxRecDepth 100000 in
set_option maxHeartbeats 4000000 in
theorem kU (x : List UInt8) (hl : x.length≤4611686018427387904) : AFn Tryz.prog 48 [bs x] [] (.c (.bool (dQ x))) []:=by
 have h1:=EP x 0 (Nat.zero_le _) hl
 have h3:=Eo x
 rw [List.drop_zero] at h1
 simp only [Int.ofNat_zero,Int.natCast_zero,Int.cast_ofNat_Int] at h1
 have hw:=vE x
 have hle:=kc lettersL x
 refine aC [] Tryz.func48 rfl Tryz.ntmps48 (Nat.le_of_ble_eq_true rfl) (Nat.le_of_ble_eq_true rfl) fun w0 G0 B0 Pr hB0=>?_
 simp only [aJ,aB,List.cons_append,List.nil_append]
 repeat' (first | (with_reducible refine hY _ ?_;clear hY Y) | ((with_reducible first | refine ar rfl (ay fun K' hK'=>aa ?_) | refine hK' _ (ab fun Y hY=>aa ?_) | refine ba rfl (ab fun Y hY=>aa ?_) | refine ab fun Y hY=>aa ?_ | refine ay fun K' hK'=>aa ?_ | refine ae tk0 gq (ab fun Y hY=>aa ?_) | refine aa ?_ | refine aq ?_);(try clear hK' K');(try dsimp only [aop]);try simp only [go_sem,seval,gq,Tryz.results48]) | (with_reducible first | refine ag ?_ | refine aW rfl ?_ | refine aK ?_ | refine dc ?_ ?_ | refine aj ?_ | refine am ?_ | refine aF fun K hK=>?_ | refine aA ?_) | (with_reducible refine hK _ ?_;clear hK K) | ((with_reducible refine aI ?_ ?_);(· decide)) | ((with_reducible refine ci (fun hc=>?_) (fun hc=>?_)) <;> (try simp only [decide_eq_true_eq,decide_eq_false_iff_not,Bool.not_true,Bool.not_false,Bool.not_eq_true',Bool.not_eq_false'] at hc) <;> (try (exfalso;omega))) | (with_reducible refine ac (h1) ?_) | (with_reducible refine ac (h3) ?_))
 all_goals (clear h1 h3;split at hw)
 all_goals (refine congrArg (fun b=>AV.c (Value.bool b)) ?_;rw [Bool.eq_iff_iff];unfold dQ;generalize keyL.contains x = b;cases b <;> simp <;> omega)
end Go.Proofs.YtkjnkkmokojnpaaGreatDoor

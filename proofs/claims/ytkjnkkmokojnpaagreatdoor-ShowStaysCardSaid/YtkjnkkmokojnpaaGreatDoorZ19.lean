/- The parser, as functions of its state. No program is in sight, but for the trees. The parser in K: tokens. The parser's number: a range over a text, in the world; then in K. The parser in K: names, expressions. -/
import Derived.Test.YtkjnkkmokojnpaaGreatDoorZ6
import Derived.Test.YtkjnkkmokojnpaaGreatDoorZ5
namespace Go.Proofs.YtkjnkkmokojnpaaGreatDoor
set_option linter.unusedSimpArgs false
set_option linter.unusedVariables false
open Go.RowKit
def PS.mu (s : PS) : Nat:=match s.err with
 | none=>s.l.length + 1
 | some _=>0
def FU : Nat:=70000
theorem jy (s : PS) : s.mu < FU:=by
 have:=s.short
 unfold PS.mu FU;split <;> omega
theorem kN (s : PS) (e : Nat) : (s.fail e).mu≤s.mu:=by
 obtain ⟨l,e0,d,er,ok,sh⟩:=s
 cases er
 ·exact Nat.zero_le _
 ·exact Nat.le_refl _
theorem nI {s : PS} {w : Wd} (h : s.is w = true) : s.err = none∧∃ t r,s.l = t :: r:=by
 unfold PS.is at h
 split at h
 ·rename_i t r h1 h2;exact ⟨h1,t,r,h2⟩
 ·cases h
theorem jn {s : PS} {k : Nat} (h : s.kind k = true) : s.err = none∧∃ t r,s.l = t :: r∧t.kind = k:=by
 unfold PS.kind at h
 split at h
 ·rename_i t r h1 h2;exact ⟨h1,t,r,h2,by simpa using h⟩
 ·cases h
theorem tN {s : PS} (h : s.err = none) {t : Tok} {r : List Tok} (hl : s.l = t :: r) : s.drop.mu + 1 = s.mu:=by
 unfold PS.drop PS.mu
 simp only [h,hl,List.tail_cons,List.length_cons]
theorem dI {s : PS} {w : Wd} (h : s.is w = true) : s.drop.mu + 1 = s.mu:=by
 obtain ⟨h1,t,r,h2⟩:=nI h
 exact tN h1 h2
theorem dF (s : PS) : s.drop.mu≤s.mu:=by
 unfold PS.drop PS.mu;simp only;split <;> simp
theorem w8 (s : PS) (w : Wd) : (s.take w).2.mu≤s.mu:=by
 unfold PS.take;split
 ·exact dF s
 ·exact Nat.le_refl _
theorem da : ∀ (ws : List Wd) (s : PS),(s.due ws).mu≤s.mu
 | [],s=>Nat.le_refl _
 | w :: r,s=>by
  unfold PS.due;split
  ·exact Nat.le_trans (da r _) (dF s)
  ·exact kN s 11
theorem nN (s : PS) : s.enter.mu≤s.mu:=by
 unfold PS.enter;split
 ·exact kN s 4
 ·exact Nat.le_refl _
theorem kk (s : PS) : s.leave.mu≤s.mu:=Nat.le_refl _
theorem zI {s : PS} {w : Wd} (h : s.is w = true) : s.enter.err = none→s.enter.is w = true∧s.enter.l = s.l:=by
 unfold PS.enter
 split
 ·unfold PS.fail
  rw [(nI h).1]
  intro h;cases h
 ·intro _;exact ⟨h,rfl⟩
theorem jj (s : PS) (w : Wd) : (s.open' w).mu≤s.mu:=by
 unfold PS.open'
 refine Nat.le_trans (da _ _) ?_
 split
 ·exact nN s
 ·exact Nat.le_refl _
theorem kO {s : PS} {w : Wd} (h : s.is w = true) : (s.open' w).mu < s.mu:=by
 have h0 : 0 < s.mu:=by have:=dI h;omega
 unfold PS.open'
 rw [if_pos h]
 unfold PS.due
 split
 ·rename_i h1
  have:=dI h1
  have:=nN s
  unfold PS.due;omega
 ·rename_i h1
  have h2 : s.enter.err ≠ none:=fun e=>h1 (zI h e).1
  have h3 : (s.enter.fail 11).mu = 0:=by
   unfold PS.fail PS.mu
   cases h4 : s.enter.err with
   | none=>exact absurd h4 h2
   | some x=>simp [h4]
  omega
theorem gY (s : PS) (k : Nat) : (s.word k).2.mu≤s.mu:=by
 unfold PS.word;split
 ·exact dF s
 ·exact kN s 11
theorem mb (s : PS) : s.number.2.mu≤s.mu:=gY s 3
theorem mL {s : PS} {k : Nat} (h : s.kind k = true) : (s.word k).2.mu < s.mu:=by
 obtain ⟨h1,t,r,h2,_⟩:=jn h
 unfold PS.word;rw [if_pos h]
 have:=tN h1 h2
 simp only;omega
def mR {α : Type} (w : Wd) (g : PS→α × PS) : Nat→List α→PS→List α × PS
 | 0,out,s=>(out,s)
 | f + 1,out,s=>if s.is w then mR w g f (out ++ [(g s.drop).1]) (g s.drop).2 else (out,s)
def ll {α : Type} (w : Wd) (mk : α→α→α) (g : PS→α × PS) : Nat→α→PS→α × PS
 | 0,out,s=>(out,s)
 | f + 1,out,s=>if s.is w then ll w mk g f (mk out (g s.drop).1) (g s.drop).2 else (out,s)
theorem pS {α : Type} {w : Wd} {g : PS→α × PS} (hg : ∀ s,(g s).2.mu≤s.mu) : ∀ (f : Nat) (out : List α) (s : PS),(mR w g f out s).2.mu≤s.mu
 | 0,out,s=>Nat.le_refl _
 | f + 1,out,s=>by
  unfold mR;split
  ·exact Nat.le_trans (pS hg f _ _) (Nat.le_trans (hg _) (dF s))
  ·exact Nat.le_refl _
theorem nF {α : Type} {w : Wd} {mk : α→α→α} {g : PS→α × PS} (hg : ∀ s,(g s).2.mu≤s.mu) : ∀ (f : Nat) (out : α) (s : PS),(ll w mk g f out s).2.mu≤s.mu
 | 0,out,s=>Nat.le_refl _
 | f + 1,out,s=>by
  unfold ll;split
  ·exact Nat.le_trans (nF hg f _ _) (Nat.le_trans (hg _) (dF s))
  ·exact Nat.le_refl _
def PS.names (s : PS) (u : Wd) : List Wd × PS:=if s.is u then ([],s) else mR [44] (fun s=>s.word 1) FU [(s.word 1).1] (s.word 1).2
def oz (prod : PS→Ex × PS) : Nat→Ex→PS→Ex × PS
 | 0,e,s=>(e,s)
 | f + 1,e,s=>if s.is [43] || s.is [45] then oz prod f (.mk (if s.is [45] then 3 else 2) 0 [] [e,(prod s.drop).1]) (prod s.drop).2 else (e,s)
def qz (prod : PS→Ex × PS) (s : PS) : Ex × PS:=oz prod FU (prod s).1 (prod s).2
def PS.times (s : PS) : Bool:=match s.l with
 | _ :: t :: _=>t.kind == 4 && t.text == [42]
 | _=>false
def jH (prod : PS→Ex × PS) (sign : Int) (s : PS) : Ex × PS :=
 let s1:=if s.times then s.enter else s
 let n:=IntKind.i64.wrap (sign * s1.number.1)
 if s.times then
  let r:=prod (s1.number.2.due [[42]])
  (.mk 4 n [] [r.1],r.2.leave)
 else (.mk 0 n [] [],s1.number.2)
def u2 (prod : PS→Ex × PS) (s : PS) : Ex × PS :=
 let m:=s.is [45]
 let s1:=(s.take [45]).2
 if m && !s1.kind 3 then (exZ,s1.fail 11)
 else if s1.kind 3 then jH prod (if m then -1 else 1) s1
 else if s1.is [40] then
  let p:=qz prod (s1.open' [40])
  (p.1,(p.2.due [[41]]).leave)
 else (.mk 1 0 (s1.word 1).1 [],(s1.word 1).2)
def xp : Nat→PS→Ex × PS
 | 0,s=>(exZ,s)
 | f + 1,s=>u2 (xp f) s
def fG (s : PS) : Ex × PS:=qz (xp FU) s
theorem sx {g : PS→Ex × PS} (hg : ∀ s,(g s).2.mu≤s.mu) : ∀ (f : Nat) (out : Ex) (s : PS),(oz g f out s).2.mu≤s.mu
 | 0,out,s=>Nat.le_refl _
 | f + 1,out,s=>by
  unfold oz;split
  ·exact Nat.le_trans (sx hg f _ _) (Nat.le_trans (hg _) (dF s))
  ·exact Nat.le_refl _
theorem uE {g : PS→Ex × PS} (hg : ∀ s,(g s).2.mu≤s.mu) (s : PS) : (qz g s).2.mu≤s.mu:=Nat.le_trans (sx hg _ _ _) (hg s)
theorem vU {g : PS→Ex × PS} (hg : ∀ s,(g s).2.mu≤s.mu) (k : Int) (s : PS) : (jH g k s).2.mu≤s.mu:=by
 unfold jH
 simp only
 split
 ·exact Nat.le_trans (kk _) (Nat.le_trans (hg _) (Nat.le_trans (da _ _) (Nat.le_trans (mb _) (nN s))))
 ·exact mb _
theorem Al {g : PS→Ex × PS} (hg : ∀ s,(g s).2.mu≤s.mu) (s : PS) : (u2 g s).2.mu≤s.mu:=by
 have h1:=w8 s [45]
 unfold u2
 simp only
 split
 ·exact Nat.le_trans (kN _ _) h1
 ·split
  ·exact Nat.le_trans (vU hg _ _) h1
  ·split
   ·exact Nat.le_trans (kk _) (Nat.le_trans (da _ _) (Nat.le_trans (uE hg _) (Nat.le_trans (jj _ _) h1)))
   ·exact Nat.le_trans (gY _ _) h1
theorem nW : ∀ (f : Nat) (s : PS),(xp f s).2.mu≤s.mu
 | 0,s=>Nat.le_refl _
 | f + 1,s=>Al (nW f) s
theorem gS (s : PS) : (fG s).2.mu≤s.mu:=uE (nW FU) s
def PS.exprs (s : PS) (u : Wd) : List Ex × PS:=if s.is u then ([],s) else mR [44] fG FU [(fG s).1] (fG s).2
def uo (one : PS→Co × PS) (s : PS) : Co × PS:=ll [38,38] (fun a b=>.mk 7 [] [a,b]) one FU (one s).1 (one s).2
def qt (one : PS→Co × PS) (s : PS) : Co × PS:=ll [124,124] (fun a b=>.mk 8 [] [a,b]) (uo one) FU (uo one s).1 (uo one s).2
def PS.cmp (s : PS) : Nat × PS :=
 if s.is [61,61] then (2,s.drop) else if s.is [33,61] then (3,s.drop) else if s.is [60] then (4,s.drop) else if s.is [60,61] then (5,s.drop) else (2,s.fail 11)
def js (one : PS→Co × PS) (s : PS) : Co × PS :=
 let p:=qt one (s.open' [91])
 (p.1,(p.2.due [[93]]).leave)
def Ae (one : PS→Co × PS) (s : PS) : Co × PS :=
 if s.is [33] then
  let p:=one (s.open' [33])
  (.mk 6 [] [p.1],p.2.leave)
 else if s.is [91] then js one s
 else if s.is [116,114,117,101] then (coZ,s.drop)
 else if s.is [102,97,108,115,101] then (.mk 1 [] [],s.drop)
 else
  let p:=fG s
  let c:=p.2.cmp
  let q:=fG c.2
  (.mk c.1 [p.1,q.1] [],q.2)
def Ad : Nat→PS→Co × PS
 | 0,s=>(coZ,s)
 | f + 1,s=>Ae (Ad f) s
def lB (s : PS) : Co × PS:=qt (Ad FU) s
def lA (s : PS) : Co × PS:=js (Ad FU) s
theorem Ei (s : PS) : s.cmp.2.mu≤s.mu:=by
 unfold PS.cmp
 repeat' split
 all_goals first | exact dF s | exact kN s 11
theorem sY {g : PS→Co × PS} (hg : ∀ s,(g s).2.mu≤s.mu) (s : PS) : (uo g s).2.mu≤s.mu:=Nat.le_trans (nF hg _ _ _) (hg s)
theorem uu {g : PS→Co × PS} (hg : ∀ s,(g s).2.mu≤s.mu) (s : PS) : (qt g s).2.mu≤s.mu:=Nat.le_trans (nF (sY hg) _ _ _) (sY hg s)
theorem pf {g : PS→Co × PS} (hg : ∀ s,(g s).2.mu≤s.mu) (s : PS) : (js g s).2.mu≤s.mu :=
 Nat.le_trans (kk _) (Nat.le_trans (da _ _) (Nat.le_trans (uu hg _) (jj _ _)))
theorem Cd {g : PS→Co × PS} (hg : ∀ s,(g s).2.mu≤s.mu) (s : PS) : (Ae g s).2.mu≤s.mu:=by
 unfold Ae
 simp only
 split
 ·exact Nat.le_trans (kk _) (Nat.le_trans (hg _) (jj _ _))
 ·split
  ·exact pf hg s
  ·split
   ·exact dF s
   ·split
    ·exact dF s
    ·exact Nat.le_trans (gS _) (Nat.le_trans (Ei _) (gS s))
theorem me : ∀ (f : Nat) (s : PS),(Ad f s).2.mu≤s.mu
 | 0,s=>Nat.le_refl _
 | f + 1,s=>Cd (me f) s
theorem gR (s : PS) : (lB s).2.mu≤s.mu:=uu (me FU) s
theorem ut (s : PS) : (lA s).2.mu≤s.mu:=pf (me FU) s
end Go.Proofs.YtkjnkkmokojnpaaGreatDoor
namespace Go.Proofs.YtkjnkkmokojnpaaGreatDoor
set_option linter.unusedSimpArgs false
set_option linter.unusedVariables false
open Go.RowKit
def eH : Nat→List Nat
 | 0=>[0]
 | 1=>[0]
 | 2=>[0]
 | 3=>[0]
 | _=>[]
set_option maxRecDepth 100000 in
set_option maxHeartbeats 4000000 in
theorem FV (s : PS) : AFn Tryz.prog 217 [.loc 20000 0] [pA s] (inA s.at) [pA s]:=by
 refine aC [] Tryz.func217 rfl Tryz.ntmps217 (Nat.le_of_ble_eq_true rfl) (Nat.le_of_ble_eq_true rfl) fun w0 G0 B0 Pr hB0=>?_
 simp only [aJ,aB,List.cons_append,List.nil_append,pA]
 obtain ⟨l,e0,d,er,ok,sh⟩:=s
 cases l with
 | nil =>
  repeat' (first | (with_reducible refine hY _ ?_;clear hY Y) | ((with_reducible first | refine ar rfl (ay fun K' hK'=>aa ?_) | refine hK' _ (ab fun Y hY=>aa ?_) | refine ab fun Y hY=>aa ?_ | refine ae tk0 eH (ab fun Y hY=>aa ?_) | refine aa ?_ | refine aq ?_);(try clear hK' K');(try dsimp only [aop]);try simp only [go_sem,seval,-Int.reduceNatCast,-Int.reduceNatCast',eH,Tryz.results217]) | (with_reducible first | refine ag ?_ | refine aj ?_ | refine am ?_ | refine aF fun K hK=>?_ | refine aZ ?_ | refine aA ?_) | (with_reducible refine hK _ ?_;clear hK K) | ((with_reducible refine ai ?_ ?_);(· decide)) | ((with_reducible refine fu (fun hc=>?_) (fun hc=>?_)) <;> (try simp only [decide_eq_true_eq,decide_eq_false_iff_not,Bool.not_true,Bool.not_false,Bool.not_eq_true',Bool.not_eq_false'] at hc) <;> (try (exfalso;omega))))
  all_goals first | rfl | exact ⟨rfl,rfl⟩
 | cons t r =>
  have hl0 : ((r.length : Int) + 1 = 0) = False:=eq_false (by omega)
  repeat' (first | (with_reducible refine hY _ ?_;clear hY Y) | ((with_reducible first | refine ar rfl (ay fun K' hK'=>aa ?_) | refine hK' _ (ab fun Y hY=>aa ?_) | refine ab fun Y hY=>aa ?_ | refine ae tk0 eH (ab fun Y hY=>aa ?_) | refine aa ?_ | refine aq ?_);(try clear hK' K');(try dsimp only [aop]);try simp only [go_sem,seval,-Int.reduceNatCast,-Int.reduceNatCast',eH,Tryz.results217,hl0]) | (with_reducible first | refine ag ?_ | refine aj ?_ | refine am ?_ | refine aF fun K hK=>?_ | refine aD ?_ | refine aA ?_) | (with_reducible refine hK _ ?_;clear hK K) | ((with_reducible refine ai ?_ ?_);(· decide)) | ((with_reducible refine fu (fun hc=>?_) (fun hc=>?_)) <;> (try simp only [decide_eq_true_eq,decide_eq_false_iff_not,Bool.not_true,Bool.not_false,Bool.not_eq_true',Bool.not_eq_false'] at hc) <;> (try (exfalso;omega))) | (with_reducible refine br ?_ ?_;(· (try and_intros) <;> first | omega | assumption | (simp only [List.length_append,List.length_map,List.length_cons,List.length_nil] <;> omega))))
  all_goals first | rfl | exact ⟨rfl,rfl⟩
def ei : Nat→List Nat
 | 0=>[0,1]
 | 1=>[0,1]
 | _=>[]
set_option maxRecDepth 100000 in
set_option maxHeartbeats 4000000 in
theorem mH (s : PS) (e : Nat) : AFn Tryz.prog 190 [.loc 20000 0,.ifc 41 (inA (e : Int))] [pA s] (.tup []) [pA (s.fail e)]:=by
 have h1:=FV s
 unfold PS.fail
 refine aC [] Tryz.func190 rfl Tryz.ntmps190 (Nat.le_of_ble_eq_true rfl) (Nat.le_of_ble_eq_true rfl) fun w0 G0 B0 Pr hB0=>?_
 simp only [aJ,aB,List.cons_append,List.nil_append,pA]
 obtain ⟨l,e0,d,er,ok,sh⟩:=s
 cases er with
 | none =>
  simp only [pA,eW] at h1 ⊢
  repeat' (first | (with_reducible refine hY _ ?_;clear hY Y) | ((with_reducible first | refine ar rfl (ay fun K' hK'=>aa ?_) | refine hK' _ (ab fun Y hY=>aa ?_) | refine ab fun Y hY=>aa ?_ | refine ae tk0 ei (ab fun Y hY=>aa ?_) | refine aa ?_ | refine dw ?_);(try clear hK' K');(try dsimp only [aop]);try simp only [go_sem,seval,-Int.reduceNatCast,-Int.reduceNatCast',ei,Tryz.results190]) | (with_reducible first | refine ag ?_ | refine aj ?_ | refine am ?_ | refine aF fun K hK=>?_ | refine ax ?_) | (with_reducible refine hK _ ?_;clear hK K) | ((with_reducible refine ai ?_ ?_);(· decide)) | (with_reducible refine ac (h1) ?_) | (with_reducible refine bg (ii) ?_))
  all_goals first | rfl | exact ⟨rfl,rfl⟩
 | some x =>
  obtain ⟨a,c⟩:=x
  simp only [kf]
  repeat' (first | (with_reducible refine hY _ ?_;clear hY Y) | ((with_reducible first | refine ar rfl (ay fun K' hK'=>aa ?_) | refine hK' _ (ab fun Y hY=>aa ?_) | refine ab fun Y hY=>aa ?_ | refine ae tk0 ei (ab fun Y hY=>aa ?_) | refine aa ?_ | refine dw ?_);(try clear hK' K');(try dsimp only [aop]);try simp only [go_sem,seval,-Int.reduceNatCast,-Int.reduceNatCast',ei,Tryz.results190]) | (with_reducible first | refine ag ?_ | refine aj ?_ | refine am ?_ | refine aF fun K hK=>?_ | refine av ?_ | refine aD ?_) | (with_reducible refine hK _ ?_;clear hK K) | ((with_reducible refine ai ?_ ?_);(· decide)))
  all_goals first | rfl | exact ⟨rfl,rfl⟩
def dD : Nat→List Nat
 | 0=>[0,1]
 | 1=>[0,1]
 | _=>[]
set_option maxRecDepth 100000 in
set_option maxHeartbeats 4000000 in
theorem qJ (s : PS) (w : Wd) : AFn Tryz.prog 192 [.loc 20000 0,bs w] [pA s] (.c (.bool (s.is w))) [pA s]:=by
 refine aC [] Tryz.func192 rfl Tryz.ntmps192 (Nat.le_of_ble_eq_true rfl) (Nat.le_of_ble_eq_true rfl) fun w0 G0 B0 Pr hB0=>?_
 simp only [aJ,aB,List.cons_append,List.nil_append,pA]
 obtain ⟨l,e0,d,er,ok,sh⟩:=s
 cases er with
 | some x =>
  obtain ⟨a,c⟩:=x
  simp only [kf]
  repeat' (first | (with_reducible refine hY _ ?_;clear hY Y) | ((with_reducible first | refine ar rfl (ay fun K' hK'=>aa ?_) | refine hK' _ (ab fun Y hY=>aa ?_) | refine ba rfl (ab fun Y hY=>aa ?_) | refine ab fun Y hY=>aa ?_ | refine ae tk0 dD (ab fun Y hY=>aa ?_) | refine aa ?_ | refine aq ?_);(try clear hK' K');(try dsimp only [aop]);try simp only [go_sem,seval,-Int.reduceNatCast,-Int.reduceNatCast',dD,Tryz.results192]) | (with_reducible first | refine ag ?_ | refine aW rfl ?_ | refine fU ?_ | refine dc ?_ ?_ | refine aj ?_ | refine am ?_ | refine aF fun K hK=>?_ | refine aA ?_) | (with_reducible refine hK _ ?_;clear hK K) | ((with_reducible refine aI ?_ ?_);(· decide)))
  all_goals first | rfl | exact ⟨rfl,rfl⟩
 | none =>
  simp only [eW]
  cases l with
  | nil =>
   repeat' (first | (with_reducible refine hY _ ?_;clear hY Y) | ((with_reducible first | refine ar rfl (ay fun K' hK'=>aa ?_) | refine hK' _ (ab fun Y hY=>aa ?_) | refine ba rfl (ab fun Y hY=>aa ?_) | refine ab fun Y hY=>aa ?_ | refine ay fun K' hK'=>aa ?_ | refine ae tk0 dD (ab fun Y hY=>aa ?_) | refine aa ?_ | refine aq ?_);(try clear hK' K');(try dsimp only [aop]);try simp only [go_sem,seval,-Int.reduceNatCast,-Int.reduceNatCast',dD,Tryz.results192]) | (with_reducible first | refine ag ?_ | refine aW rfl ?_ | refine aK ?_ | refine fU ?_ | refine dc ?_ ?_ | refine aj ?_ | refine am ?_ | refine aF fun K hK=>?_ | refine aA ?_) | (with_reducible refine hK _ ?_;clear hK K) | ((with_reducible refine aI ?_ ?_);(· decide)) | (with_reducible refine bg (ii) ?_))
   all_goals first | rfl | exact ⟨rfl,rfl⟩
  | cons t r =>
   have hl0 : ((0 : Int) < (r.length : Int) + 1) = True:=eq_true (by omega)
   obtain ⟨kd,a0,tx⟩:=t
   have e : PS.is ⟨⟨kd,a0,tx⟩ :: r,e0,d,none,ok,sh⟩ w = ((kd == 2 || kd == 4) && tx == w):=rfl
   rw [e]
   generalize hb : (tx == w) = b
   repeat' (first | (with_reducible refine hY _ ?_;clear hY Y) | ((with_reducible first | refine ar rfl (ay fun K' hK'=>aa ?_) | refine hK' _ (ab fun Y hY=>aa ?_) | refine ba rfl (ab fun Y hY=>aa ?_) | refine ab fun Y hY=>aa ?_ | refine ay fun K' hK'=>aa ?_ | refine ae tk0 dD (ab fun Y hY=>aa ?_) | refine aa ?_ | refine aq ?_);(try clear hK' K');(try dsimp only [aop]);try simp only [go_sem,seval,-Int.reduceNatCast,-Int.reduceNatCast',dD,Tryz.results192,hl0,hb]) | (with_reducible first | refine ag ?_ | refine aW rfl ?_ | refine aK ?_ | refine dc ?_ ?_ | refine aj ?_ | refine am ?_ | refine aF fun K hK=>?_ | refine aA ?_) | (with_reducible refine hK _ ?_;clear hK K) | ((with_reducible refine aI ?_ ?_);(· decide)) | ((with_reducible refine ci (fun hc=>?_) (fun hc=>?_)) <;> (try simp only [decide_eq_true_eq,decide_eq_false_iff_not,Bool.not_true,Bool.not_false,Bool.not_eq_true',Bool.not_eq_false'] at hc) <;> (try (exfalso;omega))) | (with_reducible refine br ?_ ?_;(· (try and_intros) <;> first | omega | assumption | (simp only [List.length_append,List.length_map,List.length_cons,List.length_nil] <;> omega))) | (with_reducible refine bg (ii) ?_) | (with_reducible refine bg (bN _) ?_))
   all_goals ((first | refine congrArg (fun b=>AV.c (Value.bool b)) ?_ | refine ⟨congrArg (fun b=>AV.c (Value.bool b)) ?_,rfl⟩);rw [Bool.eq_iff_iff];simp;omega)
def dr : Nat→List Nat
 | 0=>[0,1]
 | 1=>[0,1]
 | _=>[]
set_option maxRecDepth 100000 in
set_option maxHeartbeats 4000000 in
theorem wc (s : PS) (k : Nat) : AFn Tryz.prog 218 [.loc 20000 0,inA (k : Int)] [pA s] (.c (.bool (s.kind k))) [pA s]:=by
 refine aC [] Tryz.func218 rfl Tryz.ntmps218 (Nat.le_of_ble_eq_true rfl) (Nat.le_of_ble_eq_true rfl) fun w0 G0 B0 Pr hB0=>?_
 simp only [aJ,aB,List.cons_append,List.nil_append,pA]
 obtain ⟨l,e0,d,er,ok,sh⟩:=s
 cases er with
 | some x =>
  obtain ⟨a,c⟩:=x
  simp only [kf]
  repeat' (first | (with_reducible refine hY _ ?_;clear hY Y) | ((with_reducible first | refine ar rfl (ay fun K' hK'=>aa ?_) | refine hK' _ (ab fun Y hY=>aa ?_) | refine ba rfl (ab fun Y hY=>aa ?_) | refine ab fun Y hY=>aa ?_ | refine ae tk0 dr (ab fun Y hY=>aa ?_) | refine aa ?_ | refine aq ?_);(try clear hK' K');(try dsimp only [aop]);try simp only [go_sem,seval,-Int.reduceNatCast,-Int.reduceNatCast',dr,Tryz.results218]) | (with_reducible first | refine ag ?_ | refine aW rfl ?_ | refine dc ?_ ?_ | refine aj ?_ | refine am ?_ | refine aF fun K hK=>?_ | refine aA ?_) | (with_reducible refine hK _ ?_;clear hK K) | ((with_reducible refine aI ?_ ?_);(· decide)))
  all_goals first | rfl | exact ⟨rfl,rfl⟩
 | none =>
  simp only [eW]
  cases l with
  | nil =>
   repeat' (first | (with_reducible refine hY _ ?_;clear hY Y) | ((with_reducible first | refine ar rfl (ay fun K' hK'=>aa ?_) | refine hK' _ (ab fun Y hY=>aa ?_) | refine ba rfl (ab fun Y hY=>aa ?_) | refine ab fun Y hY=>aa ?_ | refine ay fun K' hK'=>aa ?_ | refine ae tk0 dr (ab fun Y hY=>aa ?_) | refine aa ?_ | refine aq ?_);(try clear hK' K');(try dsimp only [aop]);try simp only [go_sem,seval,-Int.reduceNatCast,-Int.reduceNatCast',dr,Tryz.results218]) | (with_reducible first | refine ag ?_ | refine aW rfl ?_ | refine aK ?_ | refine dc ?_ ?_ | refine aj ?_ | refine am ?_ | refine aF fun K hK=>?_ | refine aA ?_) | (with_reducible refine hK _ ?_;clear hK K) | ((with_reducible refine aI ?_ ?_);(· decide)) | (with_reducible refine bg (ii) ?_))
   all_goals first | rfl | exact ⟨rfl,rfl⟩
  | cons t r =>
   have hl0 : ((0 : Int) < (r.length : Int) + 1) = True:=eq_true (by omega)
   obtain ⟨kd,a0,tx⟩:=t
   have e : PS.kind ⟨⟨kd,a0,tx⟩ :: r,e0,d,none,ok,sh⟩ k = (kd == k):=rfl
   rw [e]
   repeat' (first | (with_reducible refine hY _ ?_;clear hY Y) | ((with_reducible first | refine ar rfl (ay fun K' hK'=>aa ?_) | refine hK' _ (ab fun Y hY=>aa ?_) | refine ba rfl (ab fun Y hY=>aa ?_) | refine ab fun Y hY=>aa ?_ | refine ay fun K' hK'=>aa ?_ | refine ae tk0 dr (ab fun Y hY=>aa ?_) | refine aa ?_ | refine aq ?_);(try clear hK' K');(try dsimp only [aop]);try simp only [go_sem,seval,-Int.reduceNatCast,-Int.reduceNatCast',dr,Tryz.results218,hl0]) | (with_reducible first | refine ag ?_ | refine aK ?_ | refine aj ?_ | refine am ?_ | refine aF fun K hK=>?_ | refine aA ?_) | (with_reducible refine hK _ ?_;clear hK K) | ((with_reducible refine aI ?_ ?_);(· decide)) | ((with_reducible refine ci (fun hc=>?_) (fun hc=>?_)) <;> (try simp only [decide_eq_true_eq,decide_eq_false_iff_not,Bool.not_true,Bool.not_false,Bool.not_eq_true',Bool.not_eq_false'] at hc) <;> (try (exfalso;omega))) | (with_reducible refine br ?_ ?_;(· (try and_intros) <;> first | omega | assumption | (simp only [List.length_append,List.length_map,List.length_cons,List.length_nil] <;> omega))) | (with_reducible refine bg (ii) ?_))
   all_goals ((first | refine congrArg (fun b=>AV.c (Value.bool b)) ?_ | refine ⟨congrArg (fun b=>AV.c (Value.bool b)) ?_,rfl⟩);rw [Bool.eq_iff_iff];simp;omega)
def eq : Nat→List Nat
 | 0=>[0,1]
 | 1=>[0,1]
 | 2=>[]
 | 3=>[0]
 | 4=>[]
 | _=>[]
set_option maxRecDepth 100000 in
set_option maxHeartbeats 4000000 in
theorem lR (s : PS) (w : Wd) : AFn Tryz.prog 189 [.loc 20000 0,bs w] [pA s] (.c (.bool (s.take w).1)) [pA (s.take w).2]:=by
 have h1:=qJ s w
 refine aC [] Tryz.func189 rfl Tryz.ntmps189 (Nat.le_of_ble_eq_true rfl) (Nat.le_of_ble_eq_true rfl) fun w0 G0 B0 Pr hB0=>?_
 simp only [aJ,aB,List.cons_append,List.nil_append,pA]
 unfold PS.take
 by_cases h : s.is w = true
 ·rw [if_pos h]
  rw [h] at h1
  obtain ⟨he,t,r,hl⟩:=nI h
  obtain ⟨l,e0,d,er,ok,sh⟩:=s
  simp only at he hl
  subst he
  subst hl
  simp only [pA,go_sem,seval,-Int.reduceNatCast,-Int.reduceNatCast'] at h1
  have hlr : (1 : Int)≤(r.length : Int) + 1:=by omega
  have hlr2 : (r.flatMap nd).length = r.length * 3:=jv (f:=nd) (k:=3) (fun _=>rfl) r
  repeat' (first | (with_reducible refine hY _ ?_;clear hY Y) | ((with_reducible first | refine ar rfl (ay fun K' hK'=>aa ?_) | refine hK' _ (ab fun Y hY=>aa ?_) | refine ab fun Y hY=>aa ?_ | refine ae tk0 eq (ab fun Y hY=>aa ?_) | refine aa ?_ | refine aq ?_);(try clear hK' K');(try dsimp only [aop]);try simp only [go_sem,seval,-Int.reduceNatCast,-Int.reduceNatCast',eq,Tryz.results189,hlr,hlr2]) | (with_reducible first | refine ag ?_ | refine aj ?_ | refine am ?_ | refine aF fun K hK=>?_ | refine av ?_ | refine aD ?_ | refine aA ?_) | (with_reducible refine hK _ ?_;clear hK K) | ((with_reducible refine ai ?_ ?_);(· decide)) | (with_reducible refine br ?_ ?_;(· (try and_intros) <;> first | omega | assumption | (simp only [List.length_append,List.length_map,List.length_cons,List.length_nil] <;> omega))) | (with_reducible refine ac (h1) ?_))
  all_goals first | rfl | exact ⟨rfl,rfl⟩
 ·rw [if_neg h]
  rw [Bool.eq_false_iff.2 h] at h1
  repeat' (first | (with_reducible refine hY _ ?_;clear hY Y) | ((with_reducible first | refine ar rfl (ay fun K' hK'=>aa ?_) | refine hK' _ (ab fun Y hY=>aa ?_) | refine ab fun Y hY=>aa ?_ | refine ae tk0 eq (ab fun Y hY=>aa ?_) | refine aa ?_ | refine aq ?_);(try clear hK' K');(try dsimp only [aop]);try simp only [go_sem,seval,-Int.reduceNatCast,-Int.reduceNatCast',eq,Tryz.results189]) | (with_reducible first | refine ag ?_ | refine aj ?_ | refine am ?_ | refine aF fun K hK=>?_ | refine ax ?_ | refine aZ ?_ | refine aA ?_) | (with_reducible refine hK _ ?_;clear hK K) | ((with_reducible refine ai ?_ ?_);(· decide)) | (with_reducible refine ac (h1) ?_))
def dZ : Nat→List Nat
 | 0=>[0]
 | 1=>[0]
 | 2=>[0]
 | _=>[]
set_option maxRecDepth 100000 in
set_option maxHeartbeats 4000000 in
theorem wQ (s : PS) : AFn Tryz.prog 225 [.loc 20000 0] [pA s] (.tup []) [pA s.enter]:=by
 have h1:=mH s 4
 unfold PS.enter
 refine aC [] Tryz.func225 rfl Tryz.ntmps225 (Nat.le_of_ble_eq_true rfl) (Nat.le_of_ble_eq_true rfl) fun w0 G0 B0 Pr hB0=>?_
 simp only [aJ,aB,List.cons_append,List.nil_append,pA]
 by_cases h : 50≤s.depth
 ·rw [if_pos h]
  repeat' (first | (with_reducible refine hY _ ?_;clear hY Y) | ((with_reducible first | refine ar rfl (ay fun K' hK'=>aa ?_) | refine hK' _ (ab fun Y hY=>aa ?_) | refine ab fun Y hY=>aa ?_ | refine ae tk0 dZ (ab fun Y hY=>aa ?_) | refine aa ?_ | refine aq ?_);(try clear hK' K');(try dsimp only [aop]);try simp only [go_sem,seval,-Int.reduceNatCast,-Int.reduceNatCast',dZ,Tryz.results225,h]) | (with_reducible first | refine ag ?_ | refine aj ?_ | refine am ?_ | refine aF fun K hK=>?_ | refine ax ?_ | refine aZ ?_ | refine aA ?_) | (with_reducible refine hK _ ?_;clear hK K) | ((with_reducible refine ai ?_ ?_);(· decide)) | (with_reducible refine ac (h1) ?_))
 ·rw [if_neg h]
  repeat' (first | (with_reducible refine hY _ ?_;clear hY Y) | ((with_reducible first | refine ar rfl (ay fun K' hK'=>aa ?_) | refine hK' _ (ab fun Y hY=>aa ?_) | refine ab fun Y hY=>aa ?_ | refine ae tk0 dZ (ab fun Y hY=>aa ?_) | refine aa ?_ | refine dw ?_);(try clear hK' K');(try dsimp only [aop]);try simp only [go_sem,seval,-Int.reduceNatCast,-Int.reduceNatCast',dZ,Tryz.results225,h]) | (with_reducible first | refine ag ?_ | refine aj ?_ | refine am ?_ | refine aF fun K hK=>?_ | refine av ?_ | refine aD ?_) | (with_reducible refine hK _ ?_;clear hK K) | ((with_reducible refine ai ?_ ?_);(· decide)))
  all_goals first | rfl | exact ⟨rfl,rfl⟩
def ga : Nat→List Nat
 | 0=>[0]
 | _=>[]
set_option maxRecDepth 100000 in
set_option maxHeartbeats 4000000 in
theorem kM (s : PS) : AFn Tryz.prog 196 [.loc 20000 0] [pA s] (.tup []) [pA s.leave]:=by
 refine aC [] Tryz.func196 rfl Tryz.ntmps196 (Nat.le_of_ble_eq_true rfl) (Nat.le_of_ble_eq_true rfl) fun w0 G0 B0 Pr hB0=>?_
 simp only [aJ,aB,List.cons_append,List.nil_append,pA]
 repeat' (first | (with_reducible refine hY _ ?_;clear hY Y) | ((with_reducible first | refine ar rfl (ay fun K' hK'=>aa ?_) | refine hK' _ (ab fun Y hY=>aa ?_) | refine ae tk0 ga (ab fun Y hY=>aa ?_) | refine aa ?_ | refine dw ?_);(try clear hK' K');(try dsimp only [aop]);try simp only [go_sem,seval,-Int.reduceNatCast,-Int.reduceNatCast',ga,Tryz.results196]) | (with_reducible first | refine ag ?_ | refine aF fun K hK=>?_) | (with_reducible refine hK _ ?_;clear hK K))
 all_goals first | rfl | exact ⟨rfl,rfl⟩
def cR : Nat→List Nat
 | 0=>[0,1]
 | 1=>[0,6,7,8]
 | 2=>[0,6,7,8]
 | 3=>[0,5,6,7,8]
 | 4=>[0]
 | 5=>[0,6,7,8]
 | _=>[]
set_option maxRecDepth 100000 in
set_option maxHeartbeats 4000000 in
theorem sv (s : PS) (ws : List Wd) (o : Own) (hw : ws.length≤1000) : AFn Tryz.prog 129 [.loc 20000 0,.sl (ws.map bs) ws.length o] [pA s] (.tup []) [pA (s.due ws)]:=by
 obtain ⟨R,hR⟩ : ∃ R,R = s.due ws:=⟨_,rfl⟩
 rw [← hR]
 refine aC [] Tryz.func129 rfl Tryz.ntmps129 (Nat.le_of_ble_eq_true rfl) (Nat.le_of_ble_eq_true rfl) fun w0 G0 B0 Pr hB0=>?_
 simp only [aJ,aB,List.cons_append,List.nil_append]
 repeat' (first | (with_reducible refine hY _ ?_;clear hY Y) | ((with_reducible first | refine ar rfl (ay fun K' hK'=>aa ?_) | refine hK' _ (ab fun Y hY=>aa ?_) | refine ae tk0 cR (ab fun Y hY=>aa ?_));(try clear hK' K');(try dsimp only [aop]);try simp only [go_sem,seval,-Int.reduceNatCast,-Int.reduceNatCast',cR,Tryz.results129]) | (with_reducible first | refine ag ?_ | refine aj ?_ | refine am ?_ | refine aF fun K hK=>?_ | refine ap ?_ | refine bW ?_) | (with_reducible refine hK _ ?_;clear hK K))
 refine b9 (α:=Nat × PS) (fun p=>[(0,.loc 20000 0),(6,.sl (ws.map bs) ws.length o),(7,inA (ws.length : Int)),(8,inA (p.1 : Int)),(20000,pA p.2)])
  (fun p=>p.1≤ws.length∧p.2.due (ws.drop p.1) = R) (fun p=>ws.length - p.1) (0,s) [0,6,7,8] ?_ ⟨Nat.zero_le _,hR.symm⟩ ?_
 ·simp only [go_sem,seval,-Int.reduceNatCast,-Int.reduceNatCast'] <;> rfl
 rintro ⟨k,s1⟩ ⟨hk,hgo⟩ ih
 simp only at ih hk hgo ⊢
 clear hR
 by_cases hlt : k < ws.length
 ·have hlt' : ((k : Int) < (ws.length : Int)) = True:=eq_true (by omega)
  have hkw : IntKind.i64.wrap ((k : Int) + 1) = ((k + 1 : Nat) : Int):=by rw [bZ (by omega) (by omega)];rfl
  have hat:=lI (f:=bs) (l:=ws) (i:=k) hlt
  rw [List.drop_eq_getElem_cons hlt] at hgo
  generalize ws[k] = w at *
  have h1:=lR s1 w
  have h2:=mH s1 11
  unfold PS.take at h1
  unfold PS.due at hgo
  by_cases h : s1.is w = true
  ·rw [if_pos h] at h1 hgo
   simp only at h1
   repeat' (first | (with_reducible refine hY _ ?_;clear hY Y) | ((with_reducible first | refine ar rfl (ay fun K' hK'=>aa ?_) | refine hK' _ (ab fun Y hY=>aa ?_) | refine ab fun Y hY=>aa ?_ | refine ae tk0 cR (ab fun Y hY=>aa ?_) | refine aa ?_);(try clear hK' K');(try dsimp only [aop]);try simp only [go_sem,seval,-Int.reduceNatCast,-Int.reduceNatCast',cR,Tryz.results129,hlt',hat,hkw]) | (with_reducible first | refine ag ?_ | refine aj ?_ | refine am ?_ | refine aF fun K hK=>?_ | refine ax ?_ | refine av ?_ | refine aR ?_ | refine ap ?_ | refine aD ?_) | (with_reducible refine hK _ ?_;clear hK K) | ((with_reducible refine ai ?_ ?_);(· decide)) | (with_reducible refine br ?_ ?_;(· (try and_intros) <;> first | omega | assumption | (simp only [List.length_append,List.length_map,List.length_cons,List.length_nil] <;> omega))) | (with_reducible refine ac (h1) ?_))
   refine bi [0,6,7,8] (by simp only [go_sem,seval,-Int.reduceNatCast,-Int.reduceNatCast'];exact rfl) ?_
   exact ih (k + 1,s1.drop) ⟨by simp only;omega,hgo⟩ (by simp only;omega)
  ·rw [if_neg h] at h1 hgo
   simp only at h1
   rw [← hgo]
   repeat' (first | (with_reducible refine hY _ ?_;clear hY Y) | ((with_reducible first | refine ar rfl (ay fun K' hK'=>aa ?_) | refine hK' _ (ab fun Y hY=>aa ?_) | refine ab fun Y hY=>aa ?_ | refine ae tk0 cR (ab fun Y hY=>aa ?_) | refine aa ?_ | refine aq ?_);(try clear hK' K');(try dsimp only [aop]);try simp only [go_sem,seval,-Int.reduceNatCast,-Int.reduceNatCast',cR,Tryz.results129,hlt',hat,hkw]) | (with_reducible first | refine ag ?_ | refine aj ?_ | refine am ?_ | refine aF fun K hK=>?_ | refine ax ?_ | refine aZ ?_ | refine bh ?_ | refine ap ?_ | refine aD ?_ | refine aA ?_) | (with_reducible refine hK _ ?_;clear hK K) | ((with_reducible refine ai ?_ ?_);(· decide)) | (with_reducible refine br ?_ ?_;(· (try and_intros) <;> first | omega | assumption | (simp only [List.length_append,List.length_map,List.length_cons,List.length_nil] <;> omega))) | (with_reducible refine ac (h1) ?_) | (with_reducible refine ac (h2) ?_))
 ·have hlt' : ((k : Int) < (ws.length : Int)) = False:=eq_false (by omega)
  rw [List.drop_of_length_le (by omega)] at hgo
  unfold PS.due at hgo
  rw [← hgo]
  repeat' (first | (with_reducible refine hY _ ?_;clear hY Y) | ((with_reducible first | refine ar rfl (ay fun K' hK'=>aa ?_) | refine hK' _ (ab fun Y hY=>aa ?_) | refine ab fun Y hY=>aa ?_ | refine ae tk0 cR (ab fun Y hY=>aa ?_) | refine aa ?_ | refine dw ?_);(try clear hK' K');(try dsimp only [aop]);try simp only [go_sem,seval,-Int.reduceNatCast,-Int.reduceNatCast',cR,Tryz.results129,hlt']) | (with_reducible first | refine ag ?_ | refine aj ?_ | refine am ?_ | refine aF fun K hK=>?_ | refine av ?_ | refine cf ?_ | refine bI ?_ | refine bH ?_) | (with_reducible refine hK _ ?_;clear hK K) | ((with_reducible refine ai ?_ ?_);(· decide)))
def ep : Nat→List Nat
 | 0=>[0,1]
 | 1=>[0,1]
 | 2=>[0,1]
 | _=>[]
set_option maxRecDepth 100000 in
set_option maxHeartbeats 4000000 in
theorem qX (s : PS) (w : Wd) : AFn Tryz.prog 194 [.loc 20000 0,bs w] [pA s] (.tup []) [pA (s.open' w)]:=by
 have h1:=qJ s w
 have h2:=wQ s
 have h3:=sv (if s.is w then s.enter else s) [w] .full (by simp)
 simp only [List.map_cons,List.map_nil,List.length_cons,List.length_nil] at h3
 unfold PS.open'
 refine aC [] Tryz.func194 rfl Tryz.ntmps194 (Nat.le_of_ble_eq_true rfl) (Nat.le_of_ble_eq_true rfl) fun w0 G0 B0 Pr hB0=>?_
 simp only [aJ,aB,List.cons_append,List.nil_append]
 by_cases h : s.is w = true
 ·rw [if_pos h] at h3 ⊢
  rw [h] at h1
  repeat' (first | (with_reducible refine hY _ ?_;clear hY Y) | ((with_reducible first | refine ar rfl (ay fun K' hK'=>aa ?_) | refine hK' _ (ab fun Y hY=>aa ?_) | refine ab fun Y hY=>aa ?_ | refine ae tk0 ep (ab fun Y hY=>aa ?_) | refine aa ?_ | refine dw ?_);(try clear hK' K');(try dsimp only [aop]);try simp only [go_sem,seval,-Int.reduceNatCast,-Int.reduceNatCast',ep,Tryz.results194]) | (with_reducible first | refine ag ?_ | refine aj ?_ | refine am ?_ | refine aF fun K hK=>?_ | refine ax ?_) | (with_reducible refine hK _ ?_;clear hK K) | ((with_reducible refine ai ?_ ?_);(· decide)) | (with_reducible refine ac (h1) ?_) | (with_reducible refine ac (h2) ?_) | (with_reducible refine ac (h3) ?_))
 ·rw [if_neg h] at h3 ⊢
  rw [Bool.eq_false_iff.2 h] at h1
  repeat' (first | (with_reducible refine hY _ ?_;clear hY Y) | ((with_reducible first | refine ar rfl (ay fun K' hK'=>aa ?_) | refine hK' _ (ab fun Y hY=>aa ?_) | refine ab fun Y hY=>aa ?_ | refine ae tk0 ep (ab fun Y hY=>aa ?_) | refine aa ?_ | refine dw ?_);(try clear hK' K');(try dsimp only [aop]);try simp only [go_sem,seval,-Int.reduceNatCast,-Int.reduceNatCast',ep,Tryz.results194]) | (with_reducible first | refine ag ?_ | refine aj ?_ | refine am ?_ | refine aF fun K hK=>?_ | refine av ?_ | refine aD ?_) | (with_reducible refine hK _ ?_;clear hK K) | ((with_reducible refine ai ?_ ?_);(· decide)) | (with_reducible refine ac (h1) ?_) | (with_reducible refine ac (h3) ?_))
def et : Nat→List Nat
 | 0=>[0,1]
 | 1=>[0,1]
 | 2=>[0]
 | 3=>[]
 | 4=>[0]
 | 5=>[0,5]
 | 6=>[5]
 | _=>[]
set_option maxRecDepth 100000 in
set_option maxHeartbeats 4000000 in
theorem AU (s : PS) (k : Nat) : AFn Tryz.prog 191 [.loc 20000 0,inA (k : Int)] [pA s] (bs (s.word k).1) [pA (s.word k).2]:=by
 have h1:=wc s k
 have h2:=mH s 11
 unfold PS.word
 refine aC [] Tryz.func191 rfl Tryz.ntmps191 (Nat.le_of_ble_eq_true rfl) (Nat.le_of_ble_eq_true rfl) fun w0 G0 B0 Pr hB0=>?_
 simp only [aJ,aB,List.cons_append,List.nil_append,pA]
 by_cases h : s.kind k = true
 ·rw [if_pos h]
  rw [h] at h1
  obtain ⟨he,t,r,hl,_⟩:=jn h
  obtain ⟨l,e0,d,er,ok,sh⟩:=s
  simp only at he hl
  subst he
  subst hl
  simp only [pA,go_sem,seval,-Int.reduceNatCast,-Int.reduceNatCast'] at h1
  have hlr : (1 : Int)≤(r.length : Int) + 1:=by omega
  have hlr0 : (0 : Int) < (r.length : Int) + 1:=by omega
  have hlr2 : (r.flatMap nd).length = r.length * 3:=jv (f:=nd) (k:=3) (fun _=>rfl) r
  repeat' (first | (with_reducible refine hY _ ?_;clear hY Y) | ((with_reducible first | refine ar rfl (ay fun K' hK'=>aa ?_) | refine hK' _ (ab fun Y hY=>aa ?_) | refine ab fun Y hY=>aa ?_ | refine ae tk0 et (ab fun Y hY=>aa ?_) | refine aa ?_ | refine aq ?_);(try clear hK' K');(try dsimp only [aop]);try simp only [go_sem,seval,-Int.reduceNatCast,-Int.reduceNatCast',et,Tryz.results191,hlr,hlr0,hlr2]) | (with_reducible first | refine ag ?_ | refine aj ?_ | refine am ?_ | refine aF fun K hK=>?_ | refine av ?_ | refine aD ?_ | refine aA ?_) | (with_reducible refine hK _ ?_;clear hK K) | ((with_reducible refine ai ?_ ?_);(· decide)) | (with_reducible refine br ?_ ?_;(· (try and_intros) <;> first | omega | assumption | (simp only [List.length_append,List.length_map,List.length_cons,List.length_nil] <;> omega))) | (with_reducible refine ac (h1) ?_))
  all_goals first | rfl | exact ⟨rfl,rfl⟩
 ·rw [if_neg h]
  rw [Bool.eq_false_iff.2 h] at h1
  repeat' (first | (with_reducible refine hY _ ?_;clear hY Y) | ((with_reducible first | refine ar rfl (ay fun K' hK'=>aa ?_) | refine hK' _ (ab fun Y hY=>aa ?_) | refine ab fun Y hY=>aa ?_ | refine ae tk0 et (ab fun Y hY=>aa ?_) | refine aa ?_ | refine aq ?_);(try clear hK' K');(try dsimp only [aop]);try simp only [go_sem,seval,-Int.reduceNatCast,-Int.reduceNatCast',et,Tryz.results191]) | (with_reducible first | refine ag ?_ | refine aj ?_ | refine am ?_ | refine aF fun K hK=>?_ | refine ax ?_ | refine aZ ?_ | refine aA ?_) | (with_reducible refine hK _ ?_;clear hK K) | ((with_reducible refine ai ?_ ?_);(· decide)) | (with_reducible refine ac (h1) ?_) | (with_reducible refine ac (h2) ?_))
def gn : Nat→List Nat
 | 0=>[0]
 | 1=>[0]
 | _=>[]
set_option maxRecDepth 100000 in
set_option maxHeartbeats 4000000 in
theorem kP (s : PS) : AFn Tryz.prog 130 [.loc 20000 0] [pA s] (bs (s.word 1).1) [pA (s.word 1).2]:=by
 have h1:=AU s 1
 refine aC [] Tryz.func130 rfl Tryz.ntmps130 (Nat.le_of_ble_eq_true rfl) (Nat.le_of_ble_eq_true rfl) fun w0 G0 B0 Pr hB0=>?_
 simp only [aJ,aB,List.cons_append,List.nil_append]
 repeat' (first | (with_reducible refine hY _ ?_;clear hY Y) | ((with_reducible first | refine ar rfl (ay fun K' hK'=>aa ?_) | refine hK' _ (ab fun Y hY=>aa ?_) | refine ae tk0 gn (ab fun Y hY=>aa ?_) | refine aa ?_ | refine aq ?_);(try clear hK' K');(try dsimp only [aop]);try simp only [go_sem,seval,-Int.reduceNatCast,-Int.reduceNatCast',gn,Tryz.results130]) | (with_reducible first | refine ag ?_ | refine aj ?_ | refine am ?_ | refine aF fun K hK=>?_ | refine aA ?_) | (with_reducible refine hK _ ?_;clear hK K) | (with_reducible refine ac (h1) ?_))
end Go.Proofs.YtkjnkkmokojnpaaGreatDoor
namespace Go.Proofs.YtkjnkkmokojnpaaGreatDoor
set_option linter.unusedSimpArgs false
set_option linter.unusedVariables false
open Go.RowKit Go.Extern
theorem wN {c : UInt8} (h : gE c = true) : 48≤c.toNat∧c.toNat≤57:=by
 unfold gE at h;simpa using h
theorem sF {t : Wd} {k : Nat} (h : k < t.length) : oK (t.take (k + 1)) = tp (oK (t.take k)) t[k]:=by
 unfold oK
 rw [List.take_succ_eq_append_getElem h,List.foldl_append];rfl
theorem qV {t : Wd} (hd : ∀ c ∈ t,gE c = true) : ∀ k,k≤t.length→0≤oK (t.take k)∧oK (t.take k) < 10 ^ k
 | 0,_=>by simp [oK]
 | k + 1,h=>by
  have ih:=qV hd k (by omega)
  have h1:=wN (hd t[k] (List.getElem_mem _))
  rw [sF h]
  unfold tp
  rw [Int.pow_succ]
  omega
theorem Ak {k : Nat} (h : k≤10) : (10 : Int) ^ k≤10000000000:=by
 have : (10 : Nat) ^ k≤10 ^ 10:=Nat.pow_le_pow_right (by decide) h
 have h2 : ((10 ^ k : Nat) : Int)≤((10 ^ 10 : Nat) : Int):=by omega
 simpa using h2
set_option maxRecDepth 100000 in
set_option maxHeartbeats 4000000 in
theorem we (w : World) (ptr : Value) (Post : World→Prop) (t : Wd) (hd : ∀ c ∈ t,gE c = true) (hl : t.length≤10)
  (hw : Calls Tryz.prog 191 #[ptr,.int .i64 3] w fun e w1=>e = .returned (.string ⟨t.toArray⟩)∧Post w1) :
  Calls Tryz.prog 221 #[ptr] w fun e w'=>e = .returned (.int .i64 (oK t))∧∃ w1,Post w1∧Below w1.heap.size w1 w':=by
 generalize hT : (ByteArray.mk t.toArray) = T at *
 have hts : T.size = t.length:=by rw [← hT];rfl
 have hget : ∀ j (hj : j < T.size) (hj' : j < t.length),T[j] = t[j]:=fun j hj hj'=>by subst hT;rfl
 go_enter Tryz.func221,Tryz.ntmps221
 go_wp2_with (first | (go_at_call 191;refine hw.mono ?_;rintro e w1 ⟨rfl,hP⟩) | fail)
 go_loopw [3] (fun v w'=>∃ pos : Nat,w' = w1.iter T pos∧pos≤t.length∧v = .int .i64 (oK (t.take pos))) (fun _ w'=>T.size - w'.iterPos w1.heap.size)
 case atStart=>exact ⟨0,rfl,Nat.zero_le _,rfl⟩
 case round =>
  obtain ⟨pos,rfl,hpos,rfl⟩:=hrel
  by_cases hp : pos < T.size
  ·have hp' : pos < t.length:=by omega
   have hnx : ∀ ty,(Instr.next (.pointer (Option.some ⟨w1.heap.size,0,none⟩)) true ty).run Tryz.prog (w1.iter T pos) = _:=fun ty=>run_next_any w1 T pos ty hp
   have hdg:=wN (hd t[pos] (List.getElem_mem _))
   have hb1:=qV hd pos (by omega)
   have hb2:=Ak (k:=pos) (by omega)
   rw [decode_ascii T pos hp (by rw [hget pos hp hp'];omega),hget pos hp hp'] at hnx
   have hw1' : IntKind.i64.wrap (10 * oK (t.take pos)) = 10 * oK (t.take pos):=by rw [bZ (by omega) (by omega)]
   have hw2' : IntKind.i32.wrap (((t[pos]).toNat : Int) - 48) = ((t[pos]).toNat : Int) - 48:=by rw [IntKind.wrap_i32];omega
   have hw3' : IntKind.i64.wrap (((t[pos]).toNat : Int) - 48) = ((t[pos]).toNat : Int) - 48:=by rw [bZ (by omega) (by omega)]
   have hw4' : IntKind.i64.wrap (10 * oK (t.take pos) + (((t[pos]).toNat : Int) - 48)) = oK (t.take (pos + 1)):=by
    rw [sF hp'];unfold tp;rw [bZ (by omega) (by omega)]
   go_wp2
   go_roundw
   case rel=>exact ⟨pos + 1,rfl,by omega,rfl⟩
   case measure =>
    simp
    omega
  ·have hnx : ∀ ty,(Instr.next (.pointer (Option.some ⟨w1.heap.size,0,none⟩)) true ty).run Tryz.prog (w1.iter T pos) = _:=fun ty=>run_next_end w1 T pos ty hp
   go_wp2
   go_ret
   have e : t.take pos = t:=List.take_of_length_le (by omega)
   rw [e]
   exact ⟨rfl,w1,hP,kI _ _ _⟩
theorem BSim.below {P : Program} {Pr : Nat→Prop} {G : Gh} {B : Nat→AV} {w w' : World} (h : BSim P Pr G B w) (hb : Below w.heap.size w w') : BSim P Pr G B w' :=
 ⟨fun b o v hz=>by
   have:=h.agree b o v hz
   exact ⟨(hb.cell (p:=⟨b,o,none⟩) (World.block_lt_of_cell? w ⟨b,o,none⟩ this.1)).trans this.1,this.2⟩,
  fun k g hg=>by
   obtain ⟨h1,h2,h3⟩:=h.box k g hg
   have hlt : g < w.heap.size:=by
    rcases h3 with ⟨cs,ty,_,⟨_,c,h4,_⟩ | ⟨_,es,ck,h4,_⟩⟩ | ⟨n,e,_,c,h4,_⟩ <;> exact (Array.getElem?_eq_some_iff.1 h4).1
   exact ⟨h1,h2,h3.step (.refl _ _) rfl rfl (hb.block g hlt) fun _=>rfl⟩,
  h.real,h.inj,h.gl⟩
theorem Dq (s : PS) : (∀ c ∈ (s.word 3).1,gE c = true)∧(s.word 3).1.length≤10:=by
 unfold PS.word
 split
 ·rename_i h
  obtain ⟨_,t,r,hl,hk⟩:=jn h
  have:=(s.ok t (by rw [hl];simp)).2.1 hk
  rw [hl]
  exact this
 ·exact ⟨fun c h=>by simp at h,by simp⟩
theorem qW (s : PS) : AFn Tryz.prog 221 [.loc 20000 0] [pA s] (inA s.number.1) [pA s.number.2]:=fun w G vs hst hX hvs hargs=>by
 have h0:=hargs 0 (by simp)
 have e0 : vs = #[vs.getD 0 undef]:=by
  cases vs with
  | mk l =>
   match l,hvs with
   | [v0],_=>rfl
 generalize vs.getD 0 undef = ptr at *
 subst e0
 have hk:=Dq s
 have hw:=AU s 3 w G #[ptr,.int .i64 3] hst hX (by simp) (fun j hj=>by
  match j,hj with
  | 0,_=>exact h0
  | 1,_=>exact .p (.c _))
 refine (we w ptr (fun w1=>∃ G',BSim Tryz.prog (fun b=>b < w.heap.size∧∀ k,G.γ k ≠ some b) G' (cY [pA (s.word 3).2]) w1 ∧
   WStep (fun b=>b < w.heap.size∧∀ k,G.γ k ≠ some b) w w1∧BStep G (cY [pA s]) G' (cY [pA (s.word 3).2]) ∧
   ∀ b o,b < w.heap.size→(∀ k,G.γ k ≠ some b)→G'.Z b o = G.Z b o) (s.word 3).1 hk.1 hk.2 (hw.mono fun e w1 ⟨v,G',he,hv,h1,h2,h3,h4⟩=>?_)).mono ?_
 ·refine ⟨?_,G',h1,h2,h3,h4⟩
  rw [he,ee hv]
 ·rintro e w' ⟨rfl,w1,⟨G',h1,h2,h3,h4⟩,hb⟩
  exact ⟨_,G',rfl,.p (.c _),h1.below hb,⟨hb.os.trans h2.os,hb.tape.trans h2.tape,hb.output.trans h2.output,Nat.le_trans h2.size hb.size,
   fun b hp hlt=>(hb.block b (Nat.lt_of_lt_of_le hlt h2.size)).trans (h2.block b hp hlt)⟩,h3,h4⟩
end Go.Proofs.YtkjnkkmokojnpaaGreatDoor
namespace Go.Proofs.YtkjnkkmokojnpaaGreatDoor
set_option linter.unusedSimpArgs false
set_option linter.unusedVariables false
open Go.RowKit
def cK : Nat→List Nat
 | 0=>[0,1]
 | 1=>[0,1]
 | 2=>[]
 | 3=>[0]
 | 4=>[0,5]
 | 5=>[0,5]
 | 6=>[5]
 | _=>[]
set_option maxRecDepth 100000 in
set_option maxHeartbeats 4000000 in
theorem w9 (s : PS) (u : Wd) : AFn Tryz.prog 131 [.loc 20000 0,bs u] [pA s] (.sl ((s.names u).1.map bs) (s.names u).1.length .none) [pA (s.names u).2]:=by
 have h1:=qJ s u
 have h2:=kP s
 unfold PS.names
 by_cases h : s.is u = true
 ·rw [if_pos h]
  rw [h] at h1
  refine iA (r:=.sl [] 0 .full) ?_ 1 rfl
  refine aC [] Tryz.func131 rfl Tryz.ntmps131 (Nat.le_of_ble_eq_true rfl) (Nat.le_of_ble_eq_true rfl) fun w0 G0 B0 Pr hB0=>?_
  simp only [aJ,aB,List.cons_append,List.nil_append]
  repeat' (first | (with_reducible refine hY _ ?_;clear hY Y) | ((with_reducible first | refine ar rfl (ay fun K' hK'=>aa ?_) | refine hK' _ (ab fun Y hY=>aa ?_) | refine ab fun Y hY=>aa ?_ | refine ae tk0 cK (ab fun Y hY=>aa ?_) | refine aa ?_ | refine aq ?_);(try clear hK' K');(try dsimp only [aop]);try simp only [go_sem,seval,cK,Tryz.results131]) | (with_reducible first | refine ag ?_ | refine aj ?_ | refine am ?_ | refine aF fun K hK=>?_ | refine ax ?_ | refine aZ ?_ | refine aA ?_) | (with_reducible refine hK _ ?_;clear hK K) | ((with_reducible refine ai ?_ ?_);(· decide)) | (with_reducible refine ac (h1) ?_))
 rw [if_neg h]
 rw [Bool.eq_false_iff.2 h] at h1
 obtain ⟨R,hR⟩ : ∃ R,R = mR [44] (fun s : PS=>s.word 1) FU [(s.word 1).1] (s.word 1).2:=⟨_,rfl⟩
 rw [← hR]
 have hm0:=jy (s.word 1).2
 generalize s.word 1 = q at *
 refine aC [] Tryz.func131 rfl Tryz.ntmps131 (Nat.le_of_ble_eq_true rfl) (Nat.le_of_ble_eq_true rfl) fun w0 G0 B0 Pr hB0=>?_
 simp only [aJ,aB,List.cons_append,List.nil_append]
 repeat' (first | (with_reducible refine hY _ ?_;clear hY Y) | ((with_reducible first | refine ar rfl (ay fun K' hK'=>aa ?_) | refine hK' _ (ab fun Y hY=>aa ?_) | refine ab fun Y hY=>aa ?_ | refine ae tk0 cK (ab fun Y hY=>aa ?_) | refine aa ?_);(try clear hK' K');(try dsimp only [aop]);try simp only [go_sem,seval,cK,Tryz.results131]) | (with_reducible first | refine ag ?_ | refine aj ?_ | refine am ?_ | refine aF fun K hK=>?_ | refine av ?_ | refine ap ?_ | refine aD ?_ | refine bW ?_) | (with_reducible refine hK _ ?_;clear hK K) | ((with_reducible refine ai ?_ ?_);(· decide)) | (with_reducible refine ac (h1) ?_) | (with_reducible refine ac (h2) ?_))
 refine jS (nh (b:=10018) (t:=5) 9 (by decide) (by decide) rfl rfl) ?_
 refine b9 (α:=Nat × List Wd × PS) (fun p=>[(0,.loc 20000 0),(5,.sl (p.2.1.map bs) p.2.1.length (.tok 10018)),(10018,.bt p.2.1.length 9),(20000,pA p.2.2)])
  (fun p=>mR [44] (fun s : PS=>s.word 1) p.1 p.2.1 p.2.2 = R∧p.2.2.mu < p.1∧p.2.1.length + p.1≤80000) (fun p=>p.1) (FU,[q.1],q.2) [0,5] ?_ ⟨hR.symm,hm0,(by simp [FU])⟩ ?_
 ·simp only [go_sem,seval] <;> rfl
 rintro ⟨f,out,s1⟩ ⟨hgo,hmu,hlen⟩ ih
 simp only at ih hgo hmu hlen ⊢
 obtain ⟨f,rfl⟩ : ∃ f',f = f' + 1:=⟨f - 1,by omega⟩
 rw [mR] at hgo
 have h3:=lR s1 [44]
 have h4:=kP s1.drop
 have hm1:=gY s1.drop 1
 unfold PS.take at h3
 by_cases hc : s1.is [44] = true
 ·have hm2:=dI hc
  rw [if_pos hc] at hgo h3
  simp only at h3
  generalize s1.drop.word 1 = q2 at *
  repeat' (first | (with_reducible refine hY _ ?_;clear hY Y) | ((with_reducible first | refine ar rfl (ay fun K' hK'=>aa ?_) | refine hK' _ (ab fun Y hY=>aa ?_) | refine ab fun Y hY=>aa ?_ | refine ae tk0 cK (ab fun Y hY=>aa ?_) | refine aa ?_);(try clear hK' K');(try dsimp only [aop]);try simp only [go_sem,seval,cK,Tryz.results131,List.length_map]) | (with_reducible first | refine ag ?_ | refine aj ?_ | refine am ?_ | refine aF fun K hK=>?_ | refine ax ?_ | refine aR ?_ | refine ap ?_ | refine aD ?_) | (with_reducible refine hK _ ?_;clear hK K) | ((with_reducible refine ai ?_ ?_);(· decide)) | (with_reducible refine br ?_ ?_;(· (try and_intros) <;> first | omega | assumption | (simp only [List.length_append,List.length_map,List.length_cons,List.length_nil] <;> omega))) | (with_reducible refine ac (h3) ?_) | (with_reducible refine ac (h4) ?_))
  refine bi [0,5] (by simp only [go_sem,seval];exact rfl) ?_
  refine dd (ih (f,out ++ [q2.1],q2.2) ⟨hgo,by simp only;omega,(by simp only [List.length_append,List.length_cons,List.length_nil];omega)⟩ (by simp only;omega)) ?_
  simp
 ·rw [if_neg hc] at hgo h3
  simp only at h3
  subst hgo
  repeat' (first | (with_reducible refine hY _ ?_;clear hY Y) | ((with_reducible first | refine ar rfl (ay fun K' hK'=>aa ?_) | refine hK' _ (ab fun Y hY=>aa ?_) | refine ab fun Y hY=>aa ?_ | refine ae tk0 cK (ab fun Y hY=>aa ?_) | refine aa ?_ | refine aq ?_);(try clear hK' K');(try dsimp only [aop]);try simp only [go_sem,seval,cK,Tryz.results131]) | (with_reducible first | refine ag ?_ | refine aj ?_ | refine am ?_ | refine aF fun K hK=>?_ | refine av ?_ | refine cf ?_ | refine bI ?_ | refine aA ?_ | refine bH ?_) | (with_reducible refine hK _ ?_;clear hK K) | ((with_reducible refine ai ?_ ?_);(· decide)) | (with_reducible refine ac (h3) ?_))
theorem xh (s : PS) : pA s.drop = .bc [.sl (s.drop.l.flatMap nd) s.drop.l.length .none,inA s.end0,inA s.depth,np s.err] 98:=rfl
theorem wO {s : PS} {w : Wd} (h : s.is w = true) : (s.l.flatMap nd).drop 3 = s.drop.l.flatMap nd:=by
 obtain ⟨_,t,r,hl⟩:=nI h
 unfold PS.drop
 simp only [hl];rfl
theorem uC {s : PS} {w : Wd} (h : s.is w = true) : s.l.length - 1 = s.drop.l.length:=by
 unfold PS.drop;simp
theorem wP {s : PS} {w : Wd} (h : s.is w = true) : ((1 : Int)≤(s.l.length : Int)) = True:=by
 obtain ⟨_,t,r,hl⟩:=nI h
 exact eq_true (by rw [hl,List.length_cons];omega)
def ExK (f : FuncId) (B : Nat) (g : PS→Ex × PS) : Prop:=∀ s : PS,s.mu < B→AFn Tryz.prog f [.loc 20000 0] [pA s] (.agg (exA (g s).1)) [pA (g s).2]
def dq : Nat→List Nat
 | 0=>[0]
 | 1=>[0,2]
 | 2=>[0,2,3]
 | 3=>[0,2,3]
 | 4=>[0,2,3,4]
 | 5=>[0,2,3]
 | 6=>[0,2,3,4]
 | 7=>[0,2,3,4]
 | 8=>[0,2,3,4,5]
 | 9=>[2,3]
 | _=>[]
set_option maxRecDepth 100000 in
set_option maxHeartbeats 4000000 in
theorem KR {B : Nat} {g : PS→Ex × PS} (hg : ExK 247 B g) (hmu : ∀ s,(g s).2.mu≤s.mu) : ExK 222 B (qz g):=by
 intro s hs
 obtain ⟨R,hR⟩ : ∃ R,R = qz g s:=⟨_,rfl⟩
 rw [← hR]
 unfold qz at hR
 have h1:=hg s hs
 have hm0:=jy (g s).2
 have hm1:=hmu s
 generalize g s = q at *
 obtain ⟨⟨k0,n0,x0,ks0⟩,s0⟩:=q
 simp only [exA] at h1
 refine aC [] Tryz.func222 rfl Tryz.ntmps222 (Nat.le_of_ble_eq_true rfl) (Nat.le_of_ble_eq_true rfl) fun w0 G0 B0 Pr hB0=>?_
 simp only [aJ,aB,List.cons_append,List.nil_append]
 repeat' (first | (with_reducible refine hY _ ?_;clear hY Y) | ((with_reducible first | refine ar rfl (ay fun K' hK'=>aa ?_) | refine hK' _ (ab fun Y hY=>aa ?_) | refine ae tk0 dq (ab fun Y hY=>aa ?_) | refine aa ?_);(try clear hK' K');(try dsimp only [aop]);try simp only [go_sem,seval,dq,Tryz.results222]) | (with_reducible first | refine ag ?_ | refine aj ?_ | refine am ?_ | refine aF fun K hK=>?_ | refine ap ?_ | refine bW ?_) | (with_reducible refine hK _ ?_;clear hK K) | (with_reducible refine ac (h1) ?_))
 refine b9 (α:=Nat × Ex × PS) (fun p=>[(0,.loc 20000 0),(2,.loc 10002 0),(3,.loc 10003 0),(10002,.bc (exA exZ) 47),(10003,.bc (exA p.2.1) 47),(20000,pA p.2.2)])
  (fun p=>oz g p.1 p.2.1 p.2.2 = R∧p.2.2.mu < p.1∧p.2.2.mu < B) (fun p=>p.1) (FU,.mk k0 n0 x0 ks0,s0) [0,2,3] ?_ ⟨hR.symm,hm0,Nat.lt_of_le_of_lt hm1 hs⟩ ?_
 ·simp only [go_sem,seval] <;> rfl
 rintro ⟨f,⟨k1,n1,x1,ks1⟩,s1⟩ ⟨hgo,hmf,hmB⟩ ih
 simp only [exA,exZ,jU] at ih hgo hmf hmB ⊢
 obtain ⟨f,rfl⟩ : ∃ f',f = f' + 1:=⟨f - 1,by omega⟩
 rw [oz] at hgo
 have h2:=qJ s1 [43]
 have h3:=qJ s1 [45]
 by_cases hc : (s1.is [43] || s1.is [45]) = true
 ·rw [if_pos hc] at hgo
  have hc' : ∃ w,s1.is w = true:=by
   rcases Bool.or_eq_true _ _ |>.mp hc with h | h
   ·exact ⟨_,h⟩
   ·exact ⟨_,h⟩
  obtain ⟨w,hw⟩:=hc'
  have hm2:=dI hw
  have hm3:=hmu s1.drop
  have h4:=hg s1.drop (by omega)
  have hd1:=wO hw
  have hd2:=uC hw
  have hd3:=wP hw
  have hd4:=jv (f:=nd) (k:=3) (fun _=>rfl) s1.l
  rw [xh] at h4
  generalize s1.drop = s2 at *
  generalize g s2 = q2 at *
  obtain ⟨⟨k2,n2,x2,ks2⟩,s3⟩:=q2
  simp only [exA] at h4 hgo hm3
  generalize s1.is [43] = b1 at *
  generalize s1.is [45] = b2 at *
  cases b1 <;> cases b2
  ·cases hc
  all_goals (
   repeat' (first | (with_reducible refine hY _ ?_;clear hY Y) | ((with_reducible first | refine ar rfl (ay fun K' hK'=>aa ?_) | refine hK' _ (ab fun Y hY=>aa ?_) | refine ba rfl (ab fun Y hY=>aa ?_) | refine ab fun Y hY=>aa ?_ | refine ay fun K' hK'=>aa ?_ | refine ae tk0 dq (ab fun Y hY=>aa ?_) | refine aa ?_);(try clear hK' K');(try dsimp only [aop]);try simp only [go_sem,seval,dq,Tryz.results222,hd1,hd2,hd3,hd4]) | (with_reducible first | refine ag ?_ | refine aW rfl ?_ | refine aK ?_ | refine dc ?_ ?_ | refine aj ?_ | refine am ?_ | refine aF fun K hK=>?_ | refine ax ?_ | refine av ?_ | refine aR ?_ | refine ap ?_ | refine aD ?_) | (with_reducible refine hK _ ?_;clear hK K) | ((with_reducible first | refine aI ?_ ?_ | refine ai ?_ ?_);(· decide)) | (with_reducible refine ac (h2) ?_) | (with_reducible refine ac (h3) ?_) | (with_reducible refine ac (h4) ?_))
   refine bi [0,2,3] (by simp only [go_sem,seval];exact rfl) ?_
   refine dd (ih (f,_,s3) ⟨hgo,by simp only;omega,by simp only;omega⟩ (by simp only;omega)) ?_
   rfl)
 ·rw [if_neg hc] at hgo
  have hc1 : s1.is [43] = false:=by cases h : s1.is [43] <;> simp [h] at hc ⊢
  have hc2 : s1.is [45] = false:=by cases h : s1.is [45] <;> simp [h] at hc ⊢
  rw [hc1] at h2
  rw [hc2] at h3
  rw [← hgo]
  repeat' (first | (with_reducible refine hY _ ?_;clear hY Y) | ((with_reducible first | refine ar rfl (ay fun K' hK'=>aa ?_) | refine hK' _ (ab fun Y hY=>aa ?_) | refine ba rfl (ab fun Y hY=>aa ?_) | refine ab fun Y hY=>aa ?_ | refine ay fun K' hK'=>aa ?_ | refine ae tk0 dq (ab fun Y hY=>aa ?_) | refine aa ?_ | refine aq ?_);(try clear hK' K');(try dsimp only [aop]);try simp only [go_sem,seval,dq,Tryz.results222]) | (with_reducible first | refine ag ?_ | refine aK ?_ | refine aj ?_ | refine am ?_ | refine aF fun K hK=>?_ | refine av ?_ | refine cf ?_ | refine bI ?_ | refine aA ?_ | refine bH ?_) | (with_reducible refine hK _ ?_;clear hK K) | ((with_reducible first | refine aI ?_ ?_ | refine ai ?_ ?_);(· decide)) | (with_reducible refine ac (h2) ?_) | (with_reducible refine ac (h3) ?_))
  all_goals first | rfl | exact ⟨rfl,rfl⟩
end Go.Proofs.YtkjnkkmokojnpaaGreatDoor

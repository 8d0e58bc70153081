/- K, an abstract machine: values as plain trees, boxes by name, sealed memory, tokens for rows that may grow. Here: the words, and what is kept from step to step. No program is in sight. K: what an operation asks and gives, as a tree of readings; the contract of a function; the operations' trees. No program is in sight. K: the operations' trees. No program is in sight. K: the operations that compute, sound. No program is in sight. K: conversions, interfaces, lengths, slicing, sound. No program is in sight. -/
import Derived.Test.YtkjnkkmokojnpaaGreatDoorRows
import Derived.WalkKit
import Derived.Deep.MidRow
import Derived.Laws.AppendOwn
import Derived.Laws.AppendOwnNone
import Derived.Below
import Derived.MapKept
import Derived.Laws.BytesArg
namespace Go.Proofs.YtkjnkkmokojnpaaGreatDoor
set_option linter.unusedSimpArgs false
set_option linter.unusedVariables false
open Go.RowKit
inductive Own where
 | none
 | full
 | tok (b : Nat)
inductive AV where
 | c (x : Value)
 | u
 | sl (cs : List AV) (n : Nat) (o : Own)
 | rf (cs : List AV) (off : Nat)
 | agg (cs : List AV)
 | tup (cs : List AV)
 | ifc (t : TypeId) (x : AV)
 | fn (f : Fn) (a b : List AV)
 | loc (b off : Nat)
 | arr (b off n e : Nat)
 | bc (cs : List AV) (ty : TypeId)
 | bt (n : Nat) (e : TypeId)
 | mp (b : Nat)
instance : Inhabited AV:=⟨.u⟩
def fY (l : List Nat) : AV:=.c (.string ⟨(l.map UInt8.ofNat).toArray⟩)
def DO : List AV:=[fY [112,114,111,99],fY [114,101,113,117,105,114,101,115],fY [101,110,115,117,114,101,115],fY [115,107,105,112],fY [112,117,116],fY [103,101,116],fY [110,101,119],fY [102,114,101,101],fY [105,102],fY [101,108,115,101],fY [119,104,105,108,101],fY [105,110,118,97,114,105,97,110,116],fY [97,115,115,101,114,116],fY [99,97,108,108],fY [116,114,117,101],fY [102,97,108,115,101],fY [101,109,112],fY [97,99,99],fY [112,116,115]]
def FZ : List AV:=[fY [58,61],fY [61,61],fY [33,61],fY [60,61],fY [38,38],fY [124,124],fY [40],fY [41],fY [123],fY [125],fY [91],fY [93],fY [44],fY [59],fY [46],fY [43],fY [45],fY [42],fY [60],fY [33],fY [38]]
def wU : Nat→Option (List AV):=fun g =>
 if g = 1 then some [.sl DO 19 .none] else
 if g = 2 then some [.sl FZ 21 .none] else none
def qF : Nat→Option (Array Value):=fun g=>if g = 4 then some (((List.range 20).map fun i=>Value.int .u64 ((10 ^ i : Nat) : Int)).toArray) else none
def isM (ty : TypeId) : Bool:=decide (1000000000≤ty)
abbrev bL:=List (Nat × AV)
def bj : bL→Nat→AV
 | [],_=>.u
 | (k,v) :: r,i=>if k = i then v else bj r i
def gh : bL→Nat→AV→bL
 | [],i,v=>[(i,v)]
 | (k,w) :: r,i,v=>if k = i then (i,v) :: r else if i < k then (i,v) :: (k,w) :: r else (k,w) :: gh r i v
def dT (m : bL) : List (Nat × AV)→bL
 | []=>m
 | (k,v) :: r=>dT (gh m k v) r
theorem eN (m : bL) (i j : Nat) (v : AV) : bj (gh m i v) j = if i = j then v else bj m j:=by
 induction m with
 | nil=>simp [gh,bj]
 | cons p r ih =>
  obtain ⟨k,w⟩:=p
  simp only [gh]
  split
  ·rename_i h;subst h;simp only [bj];split <;> rfl
  ·rename_i h
   split
   ·simp only [bj]
   ·simp only [bj,ih]
    split
    ·rename_i h1 h2;subst h2;rw [if_neg (fun e=>h e.symm)]
    ·rfl
abbrev jf:=Nat→Nat→Option Value
inductive PRel (Z : jf) : Value→AV→Prop
 | c (x) : PRel Z x (.c x)
 | u (x) : PRel Z x .u
 | sl (a : Option Addr) (b off n cap : Nat) (o : Own) (cs : List AV) (f : Nat→Value) (ho : o = .none∨(o = .full∧cap = n)) (hn : n≤cap) (ha : a = none→cap = 0)
   (hc : (n = 0∧cs = [])∨a = some ⟨b,off,none⟩) (hz : ∀ j,j < cs.length→Z b (off + j) = some (f j)) (hp : ∀ j (h : j < cs.length),PRel Z (f j) cs[j]) : PRel Z (.slice a n cap) (.sl cs n o)
 | rf (b off o : Nat) (cs : List AV) (f : Nat→Value) (hz : ∀ j,j < cs.length→Z b (off + j) = some (f j)) (hp : ∀ j (h : j < cs.length),PRel Z (f j) cs[j]) :
   PRel Z (.pointer (some ⟨b,off + o,none⟩)) (.rf cs o)
 | agg (vs : Array Value) (cs : List AV) (hs : vs.size = cs.length) (h1 : ∀ j,j < cs.length→(vs.getD j undef).oneCell' = true) (hp : ∀ j (h : j < cs.length),PRel Z (vs.getD j undef) cs[j]) : PRel Z (.agg vs) (.agg cs)
 | tup (vs : Array Value) (cs : List AV) (hs : vs.size = cs.length) (hp : ∀ j (h : j < cs.length),PRel Z (vs.getD j undef) cs[j]) : PRel Z (.tuple vs) (.tup cs)
 | ifc (t : TypeId) (v : Value) (x : AV) (h : PRel Z v x) : PRel Z (.iface t v) (.ifc t x)
 | fn (f : Fn) (va vb : Array Value) (a b : List AV) (ha : va.size = a.length) (hb : vb.size = b.length) (pa : ∀ j (h : j < a.length),PRel Z (va.getD j undef) a[j]) (pb : ∀ j (h : j < b.length),PRel Z (vb.getD j undef) b[j]) :
   PRel Z (.func f va vb) (.fn f a b)
def SealLe (Z Z' : jf) : Prop:=∀ b o v,Z b o = some v→Z' b o = some v
theorem SealLe.refl (Z : jf) : SealLe Z Z:=fun _ _ _ h=>h
theorem SealLe.trans {a b c : jf} (h : SealLe a b) (k : SealLe b c) : SealLe a c:=fun x o v hv=>k x o v (h x o v hv)
theorem PRel.mono {Z Z' : jf} (hZ : SealLe Z Z') {v : Value} {x : AV} (h : PRel Z v x) : PRel Z' v x:=by
 induction h with
 | c x=>exact .c x
 | u x=>exact .u x
 | sl a b off n cap o cs f ho hn ha hc hz hp ih=>exact .sl a b off n cap o cs f ho hn ha hc (fun j hj=>hZ _ _ _ (hz j hj)) ih
 | rf b off o cs f hz hp ih=>exact .rf b off o cs f (fun j hj=>hZ _ _ _ (hz j hj)) ih
 | agg vs cs hs h1 hp ih=>exact .agg vs cs hs h1 ih
 | tup vs cs hs hp ih=>exact .tup vs cs hs ih
 | ifc t v x h ih=>exact .ifc t v x ih
 | fn f va vb a b ha hb pa pb ia ib=>exact .fn f va vb a b ha hb ia ib
def Gl (Z : jf) : Prop:=∀ g cs,wU g = some cs→PRel Z (.pointer (some ⟨g,0,none⟩)) (.rf cs 0)
theorem Gl.mono {Z Z' : jf} (h : Gl Z) (hZ : SealLe Z Z') : Gl Z':=fun g cs hg=>(h g cs hg).mono hZ
def XP (w : World) (Pr : Nat→Prop) : Prop:=∀ g cs,qF g = some cs→(∃ ty fl,w.heap[g]? = some (.cells cs ty fl))∧Pr g
structure Gh where
 Z : jf
 γ : Nat→Option Nat
 κ : Nat→Nat
def oZ (G : Gh) (b : Nat) (a : Option Addr) (n cap : Nat) : Prop :=
 (G.γ b = none→cap = n)∧∀ g,G.γ b = some g→a = some ⟨g,0,none⟩∧cap = G.κ b
inductive VRel (G : Gh) (B : Nat→AV) : Value→AV→Prop
 | p {v : Value} {x : AV} (h : PRel G.Z v x) : VRel G B v x
 | tok (a : Option Addr) (n cap : Nat) (cs : List AV) (b tip : Nat) (e : TypeId) (h : PRel G.Z (.slice a n cap) (.sl cs n .none)) (hb : 10000≤b) (hB : B b = .bt tip e) (hn : n≤tip)
   (hk : n = tip→oZ G b a n cap) : VRel G B (.slice a n cap) (.sl cs n (.tok b))
 | loc (b off g : Nat) (cs : List AV) (ty : TypeId) (hb : 10000≤b) (hB : B b = .bc cs ty) (hg : G.γ b = some g) (hm : isM ty = false) : VRel G B (.pointer (some ⟨g,off,none⟩)) (.loc b off)
 | arr (b off n e cap g : Nat) (cs : List AV) (ty : TypeId) (hb : 10000≤b) (hB : B b = .bc cs ty) (hg : G.γ b = some g) (hn : n≤cap) (hm : isM ty = false) : VRel G B (.slice (some ⟨g,off,none⟩) n cap) (.arr b off n e)
 | mp (b g : Nat) (cs : List AV) (ty : TypeId) (hb : 10000≤b) (hB : B b = .bc cs ty) (hg : G.γ b = some g) (hm : isM ty = true) : VRel G B (.map (some g)) (.mp b)
 | agg (vs : Array Value) (cs : List AV) (hs : vs.size = cs.length) (h1 : ∀ j,j < cs.length→(vs.getD j undef).oneCell' = true) (hp : ∀ j (h : j < cs.length),VRel G B (vs.getD j undef) cs[j]) : VRel G B (.agg vs) (.agg cs)
 | tup (vs : Array Value) (cs : List AV) (hs : vs.size = cs.length) (hp : ∀ j (h : j < cs.length),VRel G B (vs.getD j undef) cs[j]) : VRel G B (.tuple vs) (.tup cs)
 | ifc (t : TypeId) (v : Value) (x : AV) (h : VRel G B v x) : VRel G B (.iface t v) (.ifc t x)
 | fn (f : Fn) (va vb : Array Value) (a b : List AV) (ha : va.size = a.length) (hb : vb.size = b.length) (pa : ∀ j (h : j < a.length),VRel G B (va.getD j undef) a[j]) (pb : ∀ j (h : j < b.length),VRel G B (vb.getD j undef) b[j]) :
   VRel G B (.func f va vb) (.fn f a b)
def BStep (G : Gh) (B : Nat→AV) (G' : Gh) (B' : Nat→AV) : Prop :=
 SealLe G.Z G'.Z∧∀ k,10000≤k→(∀ cs ty,B k = .bc cs ty→(∃ cs',B' k = .bc cs' ty)∧G'.γ k = G.γ k) ∧
  (∀ n e,B k = .bt n e→∃ n',B' k = .bt n' e∧(n < n'∨(n' = n∧G'.γ k = G.γ k∧G'.κ k = G.κ k)))
theorem BStep.refl (G : Gh) (B : Nat→AV) : BStep G B G B:=⟨.refl _,fun k _=>⟨fun cs ty h=>⟨⟨cs,h⟩,rfl⟩,fun n e h=>⟨n,h,.inr ⟨rfl,rfl,rfl⟩⟩⟩⟩
theorem BStep.congr {G : Gh} {B B' : Nat→AV} (h : ∀ k,10000≤k→B' k = B k) : BStep G B G B' :=
 ⟨.refl _,fun k hk=>⟨fun cs ty hc=>⟨⟨cs,(h k hk).trans hc⟩,rfl⟩,fun n e hc=>⟨n,(h k hk).trans hc,.inr ⟨rfl,rfl,rfl⟩⟩⟩⟩
theorem BStep.trans {G G' G'' : Gh} {B B' B'' : Nat→AV} (h : BStep G B G' B') (k : BStep G' B' G'' B'') : BStep G B G'' B'':=by
 refine ⟨h.1.trans k.1,fun i hi=>⟨fun cs ty hc=>?_,fun n e hc=>?_⟩⟩
 ·obtain ⟨⟨cs',h1⟩,h2⟩:=(h.2 i hi).1 cs ty hc
  obtain ⟨h3,h4⟩:=(k.2 i hi).1 cs' ty h1
  exact ⟨h3,h4.trans h2⟩
 ·obtain ⟨n',h1,h2⟩:=(h.2 i hi).2 n e hc
  obtain ⟨n'',h3,h4⟩:=(k.2 i hi).2 n' e h1
  refine ⟨n'',h3,?_⟩
  rcases h2 with h2 | ⟨rfl,h5,h6⟩ <;> rcases h4 with h4 | ⟨rfl,h7,h8⟩
  ·exact .inl (by omega)
  ·exact .inl h2
  ·exact .inl h4
  ·exact .inr ⟨rfl,h7.trans h5,h8.trans h6⟩
theorem VRel.step {G G' : Gh} {B B' : Nat→AV} (hs : BStep G B G' B') {v : Value} {x : AV} (h : VRel G B v x) : VRel G' B' v x:=by
 induction h with
 | p h=>exact .p (h.mono hs.1)
 | tok a n cap cs b tip e h hb hB hn hk =>
  obtain ⟨tip',h1,h2⟩:=(hs.2 b hb).2 tip e hB
  refine .tok a n cap cs b tip' e (h.mono hs.1) hb h1 (by omega) fun hnt=>?_
  rcases h2 with h2 | ⟨rfl,h3,h4⟩
  ·omega
  ·have:=hk hnt
   unfold oZ at *
   rw [h3,h4];exact this
 | loc b off g cs ty hb hB hg hm =>
  obtain ⟨⟨cs',h1⟩,h2⟩:=(hs.2 b hb).1 cs ty hB
  exact .loc b off g cs' ty hb h1 (h2.trans hg) hm
 | arr b off n e cap g cs ty hb hB hg hn hm =>
  obtain ⟨⟨cs',h1⟩,h2⟩:=(hs.2 b hb).1 cs ty hB
  exact .arr b off n e cap g cs' ty hb h1 (h2.trans hg) hn hm
 | mp b g cs ty hb hB hg hm =>
  obtain ⟨⟨cs',h1⟩,h2⟩:=(hs.2 b hb).1 cs ty hB
  exact .mp b g cs' ty hb h1 (h2.trans hg) hm
 | agg vs cs hs h1 hp ih=>exact .agg vs cs hs h1 ih
 | tup vs cs hs hp ih=>exact .tup vs cs hs ih
 | ifc t v x h ih=>exact .ifc t v x ih
 | fn f va vb a b ha hb pa pb ia ib=>exact .fn f va vb a b ha hb ia ib
def FitsC (c : Array Value) (cs : List AV) : Prop:=cs.length≤c.size
theorem FitsC.map {c : Array Value} {cs : List AV} (h : FitsC c cs) (f : AV→AV) : FitsC c (cs.map f):=by unfold FitsC;rw [List.length_map];exact h
def AY (G : Gh) (B : Nat→AV) (w : World) (g : Nat) (cs : List AV) (ty : TypeId) : Prop :=
 ∃ c,w.heap[g]? = some (.cells c ty (0,0))∧FitsC c cs∧(∀ o,G.Z g o = none) ∧
  ∀ j (h : j < cs.length),VRel G B (c.getD j undef) cs[j]∧(c.getD j undef).oneCell' = true
def gH (es : Array MapEntry) : List AV:=es.toList.flatMap fun e=>[.c e.key,.c e.val]
theorem wd {es : Array MapEntry} {x : AV} (h : x ∈ gH es) : ∃ v,x = .c v:=by
 unfold gH at h
 obtain ⟨e,_,he⟩:=List.mem_flatMap.1 h
 simp at he
 rcases he with rfl | rfl <;> exact ⟨_,rfl⟩
def MapAt (G : Gh) (w : World) (g : Nat) (cs : List AV) : Prop:=∃ es clock,w.heap[g]? = some (.map es clock)∧(∀ o,G.Z g o = none)∧cs = gH es∧MapKept.Stamped es clock
theorem MapAt.map {G : Gh} {w : World} {g : Nat} {cs : List AV} (h : MapAt G w g cs) (f : AV→AV) (hf : ∀ x,f (.c x) = .c x) : MapAt G w g (cs.map f):=by
 obtain ⟨es,clock,h1,h2,rfl,h4⟩:=h
 refine ⟨es,clock,h1,h2,?_,h4⟩
 unfold gH
 induction es.toList with
 | nil=>rfl
 | cons e r ih=>rw [List.flatMap_cons,List.map_append,ih];simp [hf]
def BxAt (G : Gh) (B : Nat→AV) (w : World) (g : Nat) (cs : List AV) (ty : TypeId) : Prop:=(isM ty = false∧AY G B w g cs ty)∨(isM ty = true∧MapAt G w g cs)
def DH (P : Program) (G : Gh) (w : World) (g cap n : Nat) (e : TypeId) : Prop :=
 ∃ c,w.heap[g]? = some (.cells c e (0,0))∧n≤cap∧cap≤maxLen∧c.size = cap * P.cellsOf e∧∀ o,n * P.cellsOf e≤o→G.Z g o = none
def BoxAt (P : Program) (G : Gh) (B : Nat→AV) (w : World) (k g : Nat) : Prop :=
 (∃ cs ty,B k = .bc cs ty∧BxAt G B w g cs ty)∨∃ n e,B k = .bt n e∧DH P G w g (G.κ k) n e
structure BSim (P : Program) (Pr : Nat→Prop) (G : Gh) (B : Nat→AV) (w : World) : Prop where
 agree : ∀ b o v,G.Z b o = some v→w.cell? ⟨b,o,none⟩ = some v∧v.oneCell' = true
 box : ∀ k g,G.γ k = some g→10000≤k∧¬ Pr g∧BoxAt P G B w k g
 real : ∀ k cs ty,10000≤k→B k = .bc cs ty→∃ g,G.γ k = some g
 inj : ∀ k k' g,G.γ k = some g→G.γ k' = some g→k = k'
 gl : Gl G.Z
theorem BxAt.to {G G' : Gh} {B B' : Nat→AV} {w w' : World} {g : Nat} {cs : List AV} {ty : TypeId} (h : BxAt G B w g cs ty) (f : AV→AV) (hf : ∀ x,f (.c x) = .c x) (hr : ∀ v x,VRel G B v x→VRel G' B' v (f x)) (hw : w'.heap[g]? = w.heap[g]?)
  (hz : ∀ o,G.Z g o = none→G'.Z g o = none) : BxAt G' B' w' g (cs.map f) ty:=by
 rcases h with ⟨hm,c,h2,h3,h4,h5⟩ | ⟨hm,h⟩
 ·refine .inl ⟨hm,c,hw.trans h2,h3.map f,fun o=>hz o (h4 o),fun j hj=>?_⟩
  rw [List.getElem_map]
  have:=h5 j (by simpa using hj)
  exact ⟨hr _ _ this.1,this.2⟩
 ·obtain ⟨es,clock,h1,h2,h3,h4⟩:=h.map f hf
  exact .inr ⟨hm,es,clock,hw.trans h1,fun o=>hz o (h2 o),h3,h4⟩
theorem BxAt.z {G : Gh} {B : Nat→AV} {w : World} {g : Nat} {cs : List AV} {ty : TypeId} (h : BxAt G B w g cs ty) : ∀ o,G.Z g o = none:=by
 rcases h with ⟨_,c,h2,h3,h4,h5⟩ | ⟨_,es,clock,h1,h2,h3⟩
 ·exact h4
 ·exact h2
theorem BoxAt.step {P : Program} {G G' : Gh} {B B' : Nat→AV} {w w' : World} {k g : Nat} (h : BoxAt P G B w k g) (hs : BStep G B G' B') (hB : B' k = B k) (hk : G'.κ k = G.κ k) (hw : w'.heap[g]? = w.heap[g]?)
  (hz : ∀ o,G'.Z g o = G.Z g o) : BoxAt P G' B' w' k g:=by
 rcases h with ⟨cs,ty,h1,h2⟩ | ⟨n,e,h1,c,h2,h3,h4,h5,h6⟩
 ·have:=h2.to id (fun _=>rfl) (fun _ _ h=>h.step hs) hw (fun o h=>(hz o).trans h)
  rw [List.map_id] at this
  exact .inl ⟨cs,ty,hB.trans h1,this⟩
 ·rw [← hk] at h3 h4 h5
  exact .inr ⟨n,e,hB.trans h1,c,hw.trans h2,h3,h4,h5,fun o ho=>(hz o).trans (h6 o ho)⟩
theorem BSim.congr {P : Program} {Pr : Nat→Prop} {G : Gh} {B B' : Nat→AV} {w : World} (h : BSim P Pr G B w) (hB : ∀ k,10000≤k→B' k = B k) : BSim P Pr G B' w :=
 ⟨h.agree,fun k g hk=>by
   obtain ⟨h1,h2,h3⟩:=h.box k g hk
   exact ⟨h1,h2,h3.step (.congr hB) (hB k h1) rfl rfl fun _=>rfl⟩,
  fun k cs ty hk hc=>h.real k cs ty hk ((hB k hk).symm.trans hc),h.inj,h.gl⟩
structure Env where
 P : Program
 N : Nat
 w0 : World
 G0 : Gh
 B0 : Nat→AV
 Pr : Nat→Prop
 hB0 : (∀ k,k < 20000→B0 k = .u)∧XP w0 Pr
structure Fr (E : Env) (w : World) : Prop where
 os : w.os = E.w0.os
 tape : w.tape = E.w0.tape
 output : w.output = E.w0.output
 size : E.w0.heap.size≤w.heap.size
 block : ∀ b,E.Pr b→b < E.w0.heap.size∧w.heap[b]? = E.w0.heap[b]?
structure Sim (E : Env) (σ : bL) (a : Act) (w : World) (G : Gh) : Prop where
 defers : a.defers = []
 tsize : a.tmps.size = E.N
 slots : ∀ t,t < 10000→VRel G (bj σ) (a.tmps.getD t undef) (bj σ t)
 st : BSim E.P E.Pr G (bj σ) w
 fr : Fr E w
 step : BStep E.G0 E.B0 G (bj σ)
 zp : ∀ b o,E.Pr b→G.Z b o = E.G0.Z b o
structure WStep (Pr : Nat→Prop) (w w' : World) : Prop where
 os : w'.os = w.os
 tape : w'.tape = w.tape
 output : w'.output = w.output
 size : w.heap.size≤w'.heap.size
 block : ∀ b,Pr b→b < w.heap.size→w'.heap[b]? = w.heap[b]?
theorem WStep.refl (Pr : Nat→Prop) (w : World) : WStep Pr w w:=⟨rfl,rfl,rfl,Nat.le_refl _,fun _ _ _=>rfl⟩
theorem Fr.next {E : Env} {w w' : World} (h : Fr E w) (hw : WStep E.Pr w w') : Fr E w' :=
 ⟨hw.os.trans h.os,hw.tape.trans h.tape,hw.output.trans h.output,Nat.le_trans h.size hw.size,fun b hb=>⟨(h.block b hb).1,(hw.block b hb (Nat.lt_of_lt_of_le (h.block b hb).1 h.size)).trans (h.block b hb).2⟩⟩
theorem Sim.put {E : Env} {σ σ' : bL} {a : Act} {w w' : World} {G G' : Gh} (h : Sim E σ a w G) {dst : Option Nat} {v : Value} {x : AV} (hd : ∀ d,dst = some d→d < E.N∧d < 10000)
  (hs : BStep G (bj σ) G' (bj σ')) (hst : BSim E.P E.Pr G' (bj σ') w') (hw : WStep E.Pr w w') (hzp : ∀ b o,E.Pr b→G'.Z b o = G.Z b o) (hx : VRel G' (bj σ') v x)
  (hm : ∀ t,t < 10000→bj σ' t = if some t = dst then x else bj σ t) : Sim E σ' (a.put dst v) w' G':=by
 refine ⟨?_,?_,fun t ht=>?_,hst,h.fr.next hw,h.step.trans hs,fun b o hb=>(hzp b o hb).trans (h.zp b o hb)⟩
 ·cases dst <;> simp [Act.put,h.defers]
 ·cases dst <;> simp [Act.put,h.tsize]
 ·rw [hm t ht]
  cases dst with
  | none=>simp only [Act.put];rw [if_neg (by simp)];exact (h.slots t ht).step hs
  | some d =>
   obtain ⟨hd1,hd2⟩:=hd d rfl
   by_cases htd : t = d
   ·subst htd
    rw [if_pos rfl]
    have : (a.put (some t) v).tmps.getD t undef = v:=by
     simp [Act.put,Array.getD,h.tsize,hd1]
    rw [this];exact hx
   ·rw [if_neg (by simpa using htd)]
    have : (a.put (some d) v).tmps.getD t undef = a.tmps.getD t undef:=by
     simp [Act.put,Array.getD_eq_getD_getElem?,Array.getElem?_setIfInBounds_ne (Ne.symm htd)]
    rw [this];exact (h.slots t ht).step hs
end Go.Proofs.YtkjnkkmokojnpaaGreatDoor
namespace Go.Proofs.YtkjnkkmokojnpaaGreatDoor
set_option linter.unusedSimpArgs false
set_option linter.unusedVariables false
open Go.RowKit
def cY (bxs : List AV) (k : Nat) : AV:=if 20000≤k then bxs.getD (k - 20000) .u else .u
def AFn (P : Program) (f : FuncId) (args bxs : List AV) (r : AV) (bxs' : List AV) : Prop :=
 ∀ (w : World) (G : Gh) (vs : Array Value),BSim P (fun b=>b < w.heap.size∧∀ k,G.γ k ≠ some b) G (cY bxs) w→XP w (fun b=>b < w.heap.size∧∀ k,G.γ k ≠ some b)→vs.size = args.length →
  (∀ j (h : j < args.length),VRel G (cY bxs) (vs.getD j undef) args[j]) →
  Calls P f vs w fun e w'=>∃ v G',e = .returned v∧VRel G' (cY bxs') v r∧BSim P (fun b=>b < w.heap.size∧∀ k,G.γ k ≠ some b) G' (cY bxs') w' ∧
   WStep (fun b=>b < w.heap.size∧∀ k,G.γ k ≠ some b) w w'∧BStep G (cY bxs) G' (cY bxs') ∧
   ∀ b o,b < w.heap.size→(∀ k,G.γ k ≠ some b)→G'.Z b o = G.Z b o
inductive TR where
 | done (d : List (Nat × AV))
 | rd (k : Nat) (f : AV→TR)
 | need (p : Prop) (t : TR)
 | ex (p : Value→Prop) (f : Value→TR)
 | call (f : FuncId) (args bxs : List AV) (k : AV→List AV→TR)
def TR.wp (P : Program) : TR→bL→(List Nat→List (Nat × AV)→Prop)→Prop
 | .done d,_,K=>K [] d
 | .rd k f,σ,K=>(f (bj σ k)).wp P σ fun R d=>K (k :: R) d
 | .need p t,σ,K=>p∧t.wp P σ K
 | .ex p f,σ,K=>∃ v,p v∧(f v).wp P σ K
 | .call f args bxs k,σ,K=>∃ r bxs',AFn P f args bxs r bxs'∧(k r bxs').wp P σ K
theorem TR.mono {P : Program} {K K' : List Nat→List (Nat × AV)→Prop} (hK : ∀ R d,K R d→K' R d) : ∀ {t : TR} {σ : bL},t.wp P σ K→t.wp P σ K'
 | .done d,_,h=>hK _ _ h
 | .rd k f,_,h=>TR.mono (K:=fun R d=>K (k :: R) d) (K':=fun R d=>K' (k :: R) d) (fun _ _=>hK _ _) (t:=f _) h
 | .need p t,_,h=>⟨h.1,TR.mono hK (t:=t) h.2⟩
 | .ex p f,_,⟨v,h1,h2⟩=>⟨v,h1,TR.mono hK (t:=f v) h2⟩
 | .call f args bxs k,_,⟨r,b,h1,h3⟩=>⟨r,b,h1,TR.mono hK (t:=k r b) h3⟩
theorem TR.frame {P : Program} : ∀ {t : TR} {σ : bL} {K : List Nat→List (Nat × AV)→Prop},t.wp P σ K →
  ∃ R d,K R d∧∀ σ',(∀ k ∈ R,bj σ' k = bj σ k)→t.wp P σ' fun R' d'=>R' = R∧d' = d
 | .done d,_,_,h=>⟨[],d,h,fun _ _=>⟨rfl,rfl⟩⟩
 | .rd k f,σ,K,h=>by
  obtain ⟨R,d,h1,h2⟩:=TR.frame (t:=f (bj σ k)) (K:=fun R d=>K (k :: R) d) h
  refine ⟨k :: R,d,h1,fun σ' hσ=>?_⟩
  have:=h2 σ' fun i hi=>hσ i (by simp [hi])
  show (f (bj σ' k)).wp P σ' _
  rw [hσ k (by simp)]
  exact TR.mono (fun R' d' ⟨h,h'⟩=>⟨by rw [h],h'⟩) this
 | .need p t,σ,K,h=>by
  obtain ⟨R,d,h1,h2⟩:=TR.frame (t:=t) h.2
  exact ⟨R,d,h1,fun σ' hσ=>⟨h.1,h2 σ' hσ⟩⟩
 | .ex p f,σ,K,⟨v,h0,h⟩=>by
  obtain ⟨R,d,h1,h2⟩:=TR.frame (t:=f v) h
  exact ⟨R,d,h1,fun σ' hσ=>⟨v,h0,h2 σ' hσ⟩⟩
 | .call f args bxs k,σ,K,⟨r,b,h1,h3⟩=>by
  obtain ⟨R,d,h4,h5⟩:=TR.frame (t:=k r b) h3
  exact ⟨R,d,h4,fun σ' hσ=>⟨r,b,h1,h5 σ' hσ⟩⟩
def cO (P : Program) (t : TypeId) : Option Nat:=(P.info? t).map (·.size)
def de (P : Program) (t : TypeId) : Bool:=match cO P t with | some (_ + 1)=>true | _=>false
def cj (P : Program) (t : TypeId) : Option Bool:=(P.underlying t).map fun | .struct _ | .array _ _=>true | _=>false
def bp (P : Program) (t : TypeId) : Option TypeId:=(P.underlying t).bind fun | .slice e=>some e | _=>none
def bG (P : Program) (t : TypeId) : Option (List Value):=(P.info? t).bind fun i=>i.zero.map fun z=>z.cells.toList
def bM (P : Program) (t : TypeId) (i : Nat) : Option (Nat × TypeId):=(P.underlying t).bind fun | .struct fs=>(fs[i]?).map fun f=>(f.offset,f.type) | _=>none
def bC (P : Program) (t : TypeId) : Option IntKind:=(P.underlying t).bind fun | .int k=>some k | _=>none
def bB (P : Program) (t : TypeId) : Bool:=match P.underlying t with | some .string=>true | _=>false
def aQ (P : Program) (t : TypeId) : Bool:=match P.underlying t with | some (.interface _)=>false | some _=>true | none=>false
def aV (P : Program) (t : TypeId) : Nat:=((P.info? t).map (·.bytes)).getD 0
def wV (g : Nat) : AV:=match wU g with | some cs=>.rf cs 0 | none=>.c (.pointer (some ⟨g,0,none⟩))
def ofV : Value→AV
 | .slice none 0 0=>.sl [] 0 .full
 | v=>.c v
def rdo (x : Operand) (f : AV→TR) : TR :=
 match x with
 | .tmp t=>.need (t < 10000) (.rd t f)
 | .const v=>f (ofV v)
 | .global g=>f (wV g)
 | .func i=>f (.fn (.func i) [] [])
def rdos : List Operand→(List AV→TR)→TR
 | [],f=>f []
 | x :: r,f=>rdo x fun v=>rdos r fun vs=>f (v :: vs)
def fB (o : Oper) (v : AV) : List (Nat × AV):=match o.dst with | none=>[] | some d=>[(d,v)]
def fh (N : Nat) (o : Oper) : Prop:=match o.dst with | none=>True | some d=>d < N∧d < 10000
def ret (N : Nat) (o : Oper) (v : AV) : TR:=.need (fh N o) (.done (fB o v))
def fail : TR:=.need False (.done [])
def AV.one : AV→Bool
 | .c x=>x.oneCell'
 | .sl .. | .rf .. | .ifc .. | .fn .. | .loc .. | .arr .. | .mp ..=>true
 | _=>false
def fg : AV→List AV
 | .agg cs=>cs
 | x=>[x]
def eG : List AV→Bool
 | []=>true
 | x :: r=>x.one && eG r
def fd : Nat→AV→Option AV
 | 0,_=>none
 | _ + 1,.c x=>some (.c x)
 | _ + 1,.sl cs n (.tok _)=>some (.sl cs n .none)
 | _ + 1,.sl cs n o=>some (.sl cs n o)
 | _ + 1,.rf cs o=>some (.rf cs o)
 | k + 1,.ifc t x=>(fd k x).map (.ifc t)
 | k + 1,.agg cs=>(cs.mapM (fd k)).map .agg
 | k + 1,.tup cs=>(cs.mapM (fd k)).map .tup
 | k + 1,.fn f a b=>match a.mapM (fd k),b.mapM (fd k) with | some a',some b'=>some (.fn f a' b') | _,_=>none
 | _,_=>none
end Go.Proofs.YtkjnkkmokojnpaaGreatDoor
namespace Go.Proofs.YtkjnkkmokojnpaaGreatDoor
set_option linter.unusedSimpArgs false
set_option linter.unusedVariables false
open Go.RowKit
def putAt (cs : List AV) (o : Nat) (vs : List AV) : List AV:=cs.take o ++ vs ++ cs.drop (o + vs.length)
def kLd (P : Program) (t : TypeId) (cs : List AV) (off : Nat) (f : AV→TR) : TR :=
 match cO P t,cj P t with
 | some n,some true=>.need (off + n≤cs.length) (f (.agg ((cs.drop off).take n)))
 | some _,some false=>.need (off < cs.length) (f (cs.getD off .u))
 | _,_=>fail
def qM (P : Program) (t : TypeId) (a : AV) (f : AV→TR) : TR :=
 match a with
 | .loc b off=>.rd b fun | .bc cs _=>kLd P t cs off f | _=>fail
 | .rf cs off=>kLd P t cs off f
 | _=>fail
def tK (P : Program) (N : Nat) (o : Oper) (t : TypeId) (a v : AV) : TR :=
 match a with
 | .loc b off=>.rd b fun
  | .bc cs ty=>.need (cO P t = some (fg v).length∧off + (fg v).length≤cs.length∧eG (fg v) = true∧fh N o) (.done ((b,.bc (putAt cs off (fg v)) ty) :: fB o .u))
  | _=>fail
 | _=>fail
def tw (P : Program) (N : Nat) (o : Oper) (t : TypeId) : TR :=
 match o.dst,bG P t with
 | some d,some z=>.need (fh N o) (.rd (10000 + d) fun | .u=>.need (eG (z.map ofV) = true∧isM t = false) (.done [(10000 + d,.bc (z.map ofV) t),(d,.loc (10000 + d) 0)]) | _=>fail)
 | _,_=>fail
def B3 (N : Nat) (o : Oper) (t : TypeId) (v : AV) : TR :=
 match o.dst with
 | some d=>.need (fh N o) (.rd (10000 + d) fun | .u=>.need (eG (fg v) = true∧isM t = false) (.done [(10000 + d,.bc (fg v) t),(d,.loc (10000 + d) 0)]) | _=>fail)
 | _=>fail
def tI (N : Nat) (o : Oper) (v : AV) : TR :=
 match v with
 | .loc b off=>ret N o (.loc b off)
 | .rf cs off=>ret N o (.rf cs off)
 | .fn (.func i) a b=>ret N o (.fn (.func i) a b)
 | .ifc t x=>ret N o (.ifc t x)
 | _=>fail
def kJ (P : Program) (N : Nat) (o : Oper) (s : TypeId) (a : AV) (i : Nat) : TR :=
 match bM P s i with
 | some (off,ft)=>.need (de P ft = true) (match a with
  | .loc b o'=>ret N o (.loc b (o' + off))
  | .rf cs o'=>ret N o (.rf cs (o' + off))
  | _=>fail)
 | none=>fail
def tE (P : Program) (N : Nat) (o : Oper) (s : TypeId) (a : AV) (i : Nat) : TR :=
 match bM P s i,a with
 | some (off,ft),.agg cs=>kLd P ft cs off fun v=>ret N o v
 | _,_=>fail
def kK (P : Program) (N : Nat) (o : Oper) (t : TypeId) (a i : AV) : TR :=
 match (bp P t).bind (cO P),a,i with
 | some sz,.sl cs n _,.c (.int _ z)=>.need (0≤z∧z < (n : Int)) (ret N o (.rf cs (z.toNat * sz)))
 | some sz,.arr b off n _,.c (.int _ z)=>.need (0≤z∧z < (n : Int)) (ret N o (.loc b (off + z.toNat * sz)))
 | _,_,_=>fail
def tF (P : Program) (N : Nat) (o : Oper) (t : TypeId) (a i : AV) : TR :=
 match bB P t,a,i with
 | true,.c (.string s),.c (.int _ z)=>.need (0≤z∧z < (s.size : Int)) (ret N o (.c (.int .u8 (s.data.toList.getD z.toNat 0).toNat)))
 | _,_,_=>fail
def qI (op : BinOp) (k : IntKind) (a b : Int) : Option Value :=
 match op with
 | .add=>some (.int k (k.wrap (a + b)))
 | .sub=>some (.int k (k.wrap (a - b)))
 | .mul=>some (.int k (k.wrap (a * b)))
 | .quo=>if b = 0 then none else some (.int k (k.wrap (a.tdiv b)))
 | .rem=>if b = 0 then none else some (.int k (a.tmod b))
 | .eql=>some (.bool (decide (a = b)))
 | .neq=>some (.bool (!decide (a = b)))
 | .lss=>some (.bool (decide (a < b)))
 | .leq=>some (.bool (decide (a≤b)))
 | .gtr=>some (.bool (decide (b < a)))
 | .geq=>some (.bool (decide (b≤a)))
 | .and=>some (.int k (bits .and k a b))
 | .or=>some (.int k (bits .or k a b))
 | .xor=>some (.int k (bits .xor k a b))
 | .shl=>if 0≤b then some (.int k (k.wrap (a * 2 ^ min b.toNat k.bits))) else none
 | .shr=>if 0≤b then some (.int k (a.fdiv (2 ^ min b.toNat k.bits))) else none
 | _=>none
def nG : BinOp→Bool
 | .shl | .shr=>true
 | _=>false
def lq : AV→Option Value
 | .c x=>some x
 | .ifc t x=>(lq x).map (.iface t)
 | _=>none
def l9 (P : Program) (N : Nat) (o : Oper) (op : BinOp) (t : TypeId) (x y : Operand) (vx vy : Value) : TR :=
 .ex (fun v=>∀ w,((do eqGuard op t x y vx vy;binOp op t vx vy) : Sem Value).run P w = .ok v w) fun v=>ret N o (.c v)
def kE (op : BinOp) : Option Bool :=
 match op with
 | .eql=>some true
 | .neq=>some false
 | _=>none
def pB (P : Program) (N : Nat) (o : Oper) (op : BinOp) (t : TypeId) (x y : Operand) (a b : AV) : TR :=
 match a,b with
 | .c (.int k z),.c (.int k' z')=>.need (k = k'∨nG op = true) (match qI op k z z' with | some v=>ret N o (.c v) | none=>fail)
 | .ifc _ _,.c .nilIface=>match kE op with | some r=>.need (aQ P t = false∧(P.underlying t).isSome = true) (ret N o (.c (.bool (!r)))) | none=>fail
 | .c .nilIface,.ifc _ _=>match kE op with | some r=>.need (aQ P t = false∧(P.underlying t).isSome = true) (ret N o (.c (.bool (!r)))) | none=>fail
 | a,b=>match lq a,lq b with
  | some vx,some vy=>l9 P N o op t x y vx vy
  | _,_=>fail
def kUn (N : Nat) (o : Oper) (op : UnOp) (a : AV) : TR :=
 match op,a with
 | .not,.c (.bool b)=>ret N o (.c (.bool (!b)))
 | .neg,.c (.int k n)=>ret N o (.c (.int k (k.wrap (0 - n))))
 | _,_=>fail
def sB (N : Nat) (o : Oper) (c : AV) (x y : AV) : TR :=
 match c with
 | .c (.bool b)=>ret N o (if b then x else y)
 | _=>fail
def lk (b : UInt8) : AV:=.c (.int .u8 (b.toNat : Int))
def ed : List AV→List UInt8
 | []=>[]
 | .c (.int _ z) :: r=>UInt8.ofNat z.toNat :: ed r
 | _ :: r=>0 :: ed r
def nK (P : Program) (N : Nat) (o : Oper) (src dst : TypeId) (a : AV) : TR :=
 match a with
 | .c (.int _ n)=>match bC P dst with | some k=>.need ((P.underlying src).isSome = true) (ret N o (.c (.int k (k.wrap n)))) | none=>fail
 | .c (.string s) =>
  if bB P dst then .need ((P.underlying src).isSome = true) (ret N o (.c (.string s)))
  else match bp P dst with
  | some e=>  .need (bB P src = true∧bC P e = some .u8) (ret N o (.sl (s.data.toList.map lk) s.size .none))
  | none=>fail
 | .sl cs n _=>match bp P src with
  | some e=>.need (bB P dst = true∧bC P e = some .u8∧n = cs.length∧cs = (ed cs).map lk) (ret N o (.c (.string ⟨(ed cs).toArray⟩)))
  | none=>fail
 | .arr b 0 n _=>match bp P src with
  | some e=>.rd b fun
   | .bc cs _=>.need (bB P dst = true∧bC P e = some .u8∧n = cs.length∧cs = (ed cs).map lk) (ret N o (.c (.string ⟨(ed cs).toArray⟩)))
   | _=>fail
  | none=>fail
 | _=>fail
def wb (P : Program) (N : Nat) (o : Oper) (t : TypeId) (a : AV) : TR:=.need (aQ P t = true) (ret N o (.ifc t a))
def ki (N : Nat) (o : Oper) (a : AV) (i : Nat) : TR :=
 match a with
 | .tup cs=>.need (i < cs.length) (ret N o (cs.getD i .u))
 | _=>fail
def qD (place : Nat→Option (Nat × Nat)) : List AV→List (Nat × AV)→Option (List AV)
 | cs,[]=>some cs
 | cs,(i,v) :: r=>match place i with
  | some (off,size)=>if (fg v).length = size∧off + size≤cs.length∧eG (fg v) = true then qD place (putAt cs off (fg v)) r else none
  | none=>none
def dW (P : Program) (t : TypeId) : Option (List (Nat × Nat)):=(P.underlying t).bind fun | .struct fs=>fs.toList.mapM fun f=>(P.info? f.type).map fun i=>(f.offset,i.size) | _=>none
def tC (P : Program) (N : Nat) (o : Oper) (t : TypeId) (parts : List (Nat × AV)) : TR :=
 match dW P t,bG P t with
 | some pl,some z=>match qD (fun i=>pl[i]?) (z.map ofV) parts with
  | some cs=>.need (eG (z.map ofV) = true) (ret N o (.agg cs))
  | none=>fail
 | _,_=>fail
def u4 (z : List AV) : Nat→List AV
 | 0=>[]
 | n + 1=>z ++ u4 z n
def jI (P : Program) (N : Nat) (o : Oper) (t : TypeId) (len : Nat) (parts : List (Nat × AV)) : TR :=
 match (bp P t),(bp P t).bind (cO P),(bp P t).bind (bG P) with
 | some e,some sz,some z=>match parts.mapM fun p=>(fd 4 p.2).map fun v=>(p.1,v) with
  | some ps=>match qD (fun i=>some (i * sz,sz)) (u4 (z.map ofV) len) ps with
   | some cs=>.need (eG (z.map ofV) = true∧z.length = sz∧len * sz≤16777216) (ret N o (.sl cs len .full))
   | none=>fail
  | none=>fail
 | _,_,_=>fail
def tG (P : Program) (N : Nat) (o : Oper) (e sz : Nat) (z : List Value) : AV→AV→TR
 | .c (.int _ n),.c (.int _ m)=>.need (n = m∧0≤n∧(aV P e : Int) * n≤281474976710656∧n≤9223372036854775807∧eG (z.map ofV) = true∧z.length = sz) (ret N o (.sl (u4 (z.map ofV) n.toNat) n.toNat .full))
 | _,_=>fail
def tH (P : Program) (N : Nat) (o : Oper) (e sz : Nat) (z : List Value) : AV→AV→TR
 | .c (.int _ n),.c (.int _ m)=>match o.dst with
  | some d=>.need (n = m∧0≤n∧(aV P e : Int) * n≤281474976710656∧n≤9223372036854775807∧eG (z.map ofV) = true∧z.length = sz∧fh N o∧isM e = false)
    (.rd (10000 + d) fun | .u=>.done [(10000 + d,.bc (u4 (z.map ofV) n.toNat) e),(d,.arr (10000 + d) 0 n.toNat e)] | _=>fail)
  | none=>fail
 | _,_=>fail
def zO (P : Program) (N : Nat) (o : Oper) (e sz : Nat) (z : List Value) (l c : AV) : Value→TR
 | .bool true=>tH P N o e sz z l c
 | _=>tG P N o e sz z l c
def kL (P : Program) (N : Nat) (o : Oper) (t : TypeId) (l c : AV) : TR :=
 match (bp P t),(bp P t).bind (cO P),(bp P t).bind (bG P) with
 | some e,some sz,some z=>.ex (fun v=>v = .bool true∨v = .bool false) fun v=>zO P N o e sz z l c v
 | _,_,_=>fail
def tJ (P : Program) (N : Nat) (o : Oper) (t : TypeId) (a : AV) (lo hi mx : Option AV) : TR :=
 match a with
 | .c (.string s)=>match bB P t,lo,hi,mx with
  | true,none,none,none=>ret N o (.c (.string (s.extract 0 s.size)))
  | true,some (.c (.int _ l)),none,none=>.need (0≤l∧l≤(s.size : Int)) (ret N o (.c (.string (s.extract l.toNat s.size))))
  | true,none,some (.c (.int _ h)),none=>.need (0≤h∧h≤(s.size : Int)) (ret N o (.c (.string (s.extract 0 h.toNat))))
  | true,some (.c (.int _ l)),some (.c (.int _ h)),none=>.need (0≤l∧l≤h∧h≤(s.size : Int)) (ret N o (.c (.string (s.extract l.toNat h.toNat))))
  | _,_,_,_=>fail
 | .sl cs n _=>match (bp P t).bind (cO P),lo,hi,mx with
  | some sz,some (.c (.int _ l)),none,none=>.need (0≤l∧l≤(n : Int)∧cs.length = n * sz) (ret N o (.sl (cs.drop (l.toNat * sz)) (n - l.toNat) .none))
  | some sz,none,some (.c (.int _ h)),none=>.need (0≤h∧h≤(n : Int)) (ret N o (.sl (cs.take (h.toNat * sz)) h.toNat .none))
  | some sz,some (.c (.int _ l)),some (.c (.int _ h)),none=>.need (0≤l∧l≤h∧h≤(n : Int)) (ret N o (.sl ((cs.drop (l.toNat * sz)).take ((h - l).toNat * sz)) (h - l).toNat .none))
  | some sz,none,some (.c (.int _ 0)),some (.c (.int _ 0))=>ret N o (.sl [] 0 .full)
  | _,_,_,_=>fail
 | _=>fail
def uO (P : Program) (N : Nat) (o : Oper) (t : TypeId) (a : AV) : TR :=
 match a with
 | .sl _ n _=>.need ((bp P t).isSome = true) (ret N o (.c (.int .i64 n)))
 | .arr _ _ n _=>.need ((bp P t).isSome = true) (ret N o (.c (.int .i64 n)))
 | .c (.string s)=>.need (bB P t = true) (ret N o (.c (.int .i64 s.size)))
 | _=>fail
def tB (d e n m : Nat) (cs news : List AV) (b : Nat) : AV→TR
 | .bt tip e'=>.need (tip = n∧e' = e) (.done [(b,.bt (n + m) e),(d,.sl (cs ++ news) (n + m) (.tok b))])
 | _=>fail
def qL (d e n m : Nat) (cs news : List AV) : AV→TR
 | .u=>.done [(10000 + d,.bt (n + m) e),(d,.sl (cs ++ news) (n + m) (.tok (10000 + d)))]
 | _=>fail
def tA (d e n m : Nat) (cs news : List AV) : Own→TR
 | .tok b=>.rd b (tB d e n m cs news b)
 | .full=>.rd (10000 + d) (qL d e n m cs news)
 | .none=>fail
def l8 (P : Program) (N : Nat) (o : Oper) (t : TypeId) (s : AV) (news : List AV) (m : Nat) : TR :=
 match o.dst,bp P t,s with
 | some d,some e,.sl cs n own=>match cO P e,bG P e with
  | some sz,some z=>.need (fh N o∧0 < sz∧z.length = sz∧cs.length = n * sz∧news.length = m * sz∧(n + m) * aV P e≤140737488355328∧n + m≤140737488355328) (tA d e n m cs news own)
  | _,_=>fail
 | _,_,_=>fail
def BU (P : Program) (N : Nat) (o : Oper) (t t' : TypeId) (s x : AV) : TR :=
 match x with
 | .sl news m _=>.need (t' = t) (l8 P N o t s news m)
 | .c (.string b)=>.need (bB P t' = true∧(bp P t).bind (bC P) = some .u8) (l8 P N o t s (b.data.toList.map lk) b.size)
 | _=>fail
def qS (n : Int) : List AV→Option AV
 | .c (.int _ k) :: v :: r=>if k = n then some v else qS n r
 | _=>none
def pk (q : IntKind) (n : Int) (x : AV) : List AV→List AV
 | .c (.int q' k) :: v :: r=>if k = n then .c (.int q' k) :: x :: r else .c (.int q' k) :: v :: pk q n x r
 | _=>[.c (.int q n),x]
def lF (q : IntKind) : List AV→Bool
 | []=>true
 | .c (.int q' _) :: _ :: r=>decide (q' = q) && lF q r
 | _=>false
def oH (P : Program) (t : TypeId) : Option (IntKind × TypeId):=(P.underlying t).bind fun | .map k e=>(bC P k).map fun q=>(q,e) | _=>none
def pZ (P : Program) (t : TypeId) : Option Value:=(P.info? t).bind fun i=>i.zero
def nL (P : Program) (N : Nat) (o : Oper) (t : TypeId) : TR :=
 match o.dst with
 | some d=>.need (fh N o) (.rd (10000 + d) fun | .u=>.done [(10000 + d,.bc [] (1000000000 + t)),(d,.mp (10000 + d))] | _=>fail)
 | none=>fail
def vX (ok : Bool) (z : Value) : Option AV→AV
 | some v=>if ok then .tup [v,.c (.bool true)] else v
 | none=>if ok then .tup [.c z,.c (.bool false)] else .c z
def pK (P : Program) (N : Nat) (o : Oper) (t : TypeId) (m k : AV) (ok : Bool) : TR :=
 match m,k,oH P t with
 | .mp b,.c (.int q n),some (q',e)=>match pZ P e with
  | some z=>.rd b fun
   | .bc cs _=>.need (q = q'∧lF q' cs = true) (ret N o (vX ok z (qS n cs)))
   | _=>fail
  | none=>fail
 | _,_,_=>fail
def pL (P : Program) (N : Nat) (o : Oper) (t : TypeId) (m k x : AV) : TR :=
 match m,k,x,oH P t with
 | .mp b,.c (.int q n),.c v,some (q',e)=>.rd b fun
  | .bc cs ty=>.need (q = q'∧lF q' cs = true∧fh N o) (.done ((b,.bc (pk q n (.c v) cs) ty) :: fB o .u))
  | _=>fail
 | _,_,_,_=>fail
def fV : List (Nat × Nat)→Nat→Option Nat
 | [],_=>none
 | (a,b) :: r,k=>if a = k then some b else fV r k
def ren (g : List (Nat × Nat)) : Nat→AV→AV
 | 0,_=>.u
 | k + 1,.sl cs n (.tok b)=>match fV g b with | some b'=>.sl cs n (.tok b') | none=>.sl cs n .none
 | k + 1,.loc b off=>match fV g b with | some b'=>.loc b' off | none=>.u
 | k + 1,.arr b off n e=>match fV g b with | some b'=>.arr b' off n e | none=>.u
 | _ + 1,.mp b=>match fV g b with | some b'=>.mp b' | none=>.u
 | k + 1,.agg cs=>.agg (cs.map (ren g k))
 | k + 1,.tup cs=>.tup (cs.map (ren g k))
 | k + 1,.ifc t x=>.ifc t (ren g k x)
 | k + 1,.fn f a b=>.fn f (a.map (ren g k)) (b.map (ren g k))
 | _ + 1,.c x=>.c x
 | _ + 1,.sl cs n .none=>.sl cs n .none
 | _ + 1,.sl cs n .full=>.sl cs n .full
 | _ + 1,.rf cs o=>.rf cs o
 | _ + 1,.u=>.u
 | _ + 1,.bc _ _=>.u
 | _ + 1,.bt _ _=>.u
def gI (g : List (Nat × Nat)) : AV→AV
 | .bc cs ty=>.bc (cs.map (ren g 4)) ty
 | x=>x
def names (tk : Bool) : Nat→AV→List Nat
 | 0,_=>[]
 | _ + 1,.sl _ _ (.tok b)=>if tk then [b] else []
 | _ + 1,.loc b _=>[b]
 | _ + 1,.arr b _ _ _=>[b]
 | _ + 1,.mp b=>[b]
 | k + 1,.agg cs=>cs.flatMap (names tk k)
 | k + 1,.tup cs=>cs.flatMap (names tk k)
 | k + 1,.ifc _ x=>names tk k x
 | k + 1,.fn _ a b=>a.flatMap (names tk k) ++ b.flatMap (names tk k)
 | k + 1,.bc cs _=>cs.flatMap (names tk k)
 | _,_=>[]
def un : List Nat→List Nat→List Nat
 | m,[]=>m
 | m,x :: r=>if m.contains x then un m r else un (m ++ [x]) r
def rdBoxes : List Nat→(List AV→TR)→TR
 | [],f=>f []
 | b :: r,f=>.need (10000≤b) (.rd b fun x=>rdBoxes r fun xs=>f (x :: xs))
def gather (tk : Bool) : Nat→List Nat→(List Nat→List AV→TR)→TR
 | 0,_,_=>fail
 | k + 1,ns,f=>rdBoxes ns fun bs=>if (un ns (bs.flatMap (names tk 4))).length = ns.length then f ns bs else gather tk k (un ns (bs.flatMap (names tk 4))) f
def cC (i : Nat) : List Nat→List (Nat × Nat)
 | []=>[]
 | b :: r=>(b,20000 + i) :: cC (i + 1) r
def fO (g : List (Nat × Nat)) : List (Nat × Nat):=g.map fun p=>(p.2,p.1)
def jb (g : List (Nat × Nat)) : List Nat→List AV→List (Nat × AV)
 | b :: r,x :: xs=>(b,gI g x) :: jb g r xs
 | _,_=>[]
def DM : AV→Bool
 | .bc _ _ | .bt _ _=>true
 | _=>false
def aL (P : Program) (f : FuncId) : Bool:=match P.funcs[f]? with | some fn=>fn.body.isSome && !(fn.name == "runtime.NumGoroutine") | none=>false
def wZ (o : Oper) (ns : List Nat) (r : AV) (bs : List AV) : TR:=.done (jb (fO (cC 0 ns)) ns bs ++ fB o (ren (fO (cC 0 ns)) 4 r))
def Ef (o : Oper) (ns : List Nat) (r : AV) (bs : List AV) : TR :=
 match o.dst with
 | some d=>.rd (10000 + d) fun | .u=>.need (ns.contains (10000 + d) = false∧bs.length = ns.length + 1) (wZ o (ns ++ [10000 + d]) r bs) | _=>fail
 | none=>fail
def w5 (P : Program) (N : Nat) (tk : Bool) (o : Oper) (f : FuncId) (args : List AV) : TR :=
 .need (aL P f = true∧fh N o) (gather tk 4 (un [] (args.flatMap (names tk 4))) fun ns bs =>
  .need (bs.all DM = true) (.call f (args.map (ren (cC 0 ns) 4)) (bs.map (gI (cC 0 ns))) fun r bs' =>
   if bs'.length = ns.length then wZ o ns r bs' else Ef o ns r bs'))
def Ed (P : Program) (N : Nat) (o : Oper) (f : FuncId) (args : List AV) : TR :=
 match args.mapM lq with
 | some vs=>.ex (fun v=>∀ w,(callFunc f vs.toArray).run P w = .ok (.value v) w) fun v=>ret N o (.c v)
 | none=>fail
def v8 (P : Program) (N : Nat) (tk : Bool) (o : Oper) (f : FuncId) (args : List AV) (b : Bool) : TR:=match b with | true=>w5 P N tk o f args | false=>Ed P N o f args
def tD (P : Program) (N : Nat) (tk : FuncId→Bool) (o : Oper) (v : AV) (args : List AV) : TR :=
 match v with
 | .fn (.func f) a b=>v8 P N (tk f) o f (a ++ args ++ b) (aL P f)
 | _=>fail
def rX : Option Operand→(Option AV→TR)→TR
 | none,f=>f none
 | some x,f=>rdo x fun v=>f (some v)
def aop (P : Program) (N : Nat) (tk : FuncId→Bool) (o : Oper) : TR :=
 match o.op with
 | .move x | .assign x=>rdo x fun v=>ret N o v
 | .pick c x y=>rdo c fun vc=>rdo x fun vx=>rdo y fun vy=>sB N o vc vx vy
 | .alloc t=>tw P N o t
 | .box t x=>rdo x fun v=>B3 N o t v
 | .load t p=>rdo p fun a=>qM P t a fun v=>ret N o v
 | .store t p x=>rdo p fun a=>rdo x fun v=>tK P N o t a v
 | .nilCheck x=>rdo x fun v=>tI N o v
 | .fieldAddr s x i=>rdo x fun v=>kJ P N o s v i
 | .field s x i=>rdo x fun v=>tE P N o s v i
 | .indexAddr t x i=>rdo x fun v=>rdo i fun j=>kK P N o t v j
 | .index t x i=>rdo x fun v=>rdo i fun j=>tF P N o t v j
 | .binOp op t x y _=>rdo x fun a=>rdo y fun b=>pB P N o op t x y a b
 | .unOp op _ x=>rdo x fun a=>kUn N o op a
 | .convert s d x=>rdo x fun a=>nK P N o s d a
 | .makeInterface t x=>rdo x fun a=>wb P N o t a
 | .extract x i=>rdo x fun a=>ki N o a i
 | .build t parts=>rdos (parts.toList.map (·.2)) fun vs=>tC P N o t ((parts.toList.map (·.1)).zip vs)
 | .buildSlice t len parts=>rdos (parts.toList.map (·.2)) fun vs=>jI P N o t len ((parts.toList.map (·.1)).zip vs)
 | .makeSlice t l c=>rdo l fun a=>rdo c fun b=>kL P N o t a b
 | .slice t x lo hi mx=>rdo x fun a=>rX lo fun l=>rX hi fun h=>rX mx fun m=>tJ P N o t a l h m
 | .makeMap t none=>nL P N o t
 | .lookup t m k ok=>rdo m fun a=>rdo k fun b=>pK P N o t a b ok
 | .mapUpdate t m k x | .insert t m k x=>rdo m fun a=>rdo k fun b=>rdo x fun c=>pL P N o t a b c
 | .makeFunc f a b=>rdos a.toList fun va=>rdos b.toList fun vb=>ret N o (.fn f va vb)
 | .call { callee:=.builtin .len,args:=args,argTypes:=ts }=>match args.toList,ts.toList with | [x],[t]=>rdo x fun a=>uO P N o t a | _,_=>fail
 | .call { callee:=.builtin .append,args:=args,argTypes:=ts }=>match args.toList,ts.toList with | [x,y],[t,t']=>rdo x fun a=>rdo y fun b=>BU P N o t t' a b | _,_=>fail
 | .call { callee:=.value f,args:=args,argTypes:=_ }=>rdo f fun v=>rdos args.toList fun vs=>tD P N tk o v vs
 | _=>fail
end Go.Proofs.YtkjnkkmokojnpaaGreatDoor
namespace Go.Proofs.YtkjnkkmokojnpaaGreatDoor
set_option linter.unusedSimpArgs false
set_option linter.unusedVariables false
open Go.RowKit
def Snd (P : Program) (σ : bL) (t : TR) (Goal : List (Nat × AV)→Prop) : Prop:=∀ K,t.wp P σ K→∃ R d,K R d∧Goal d
section
variable {P : Program} {σ : bL} {Goal : List (Nat × AV)→Prop}
theorem Snd.done {d : List (Nat × AV)} (h : Goal d) : Snd P σ (.done d) Goal:=fun K hK=>⟨[],d,hK,h⟩
theorem Snd.rd {k : Nat} {f : AV→TR} (h : Snd P σ (f (bj σ k)) Goal) : Snd P σ (.rd k f) Goal:=fun K hK=>by
 obtain ⟨R,d,h1,h2⟩:=h _ hK
 exact ⟨k :: R,d,h1,h2⟩
theorem Snd.need {p : Prop} {t : TR} (h : p→Snd P σ t Goal) : Snd P σ (.need p t) Goal:=fun K hK=>h hK.1 K hK.2
theorem Snd.fail : Snd P σ fail Goal:=fun K hK=>hK.1.elim
theorem Snd.ex {p : Value→Prop} {f : Value→TR} (h : ∀ v,p v→Snd P σ (f v) Goal) : Snd P σ (.ex p f) Goal:=fun K ⟨v,h1,h2⟩=>h v h1 K h2
theorem Snd.call {f : FuncId} {args bxs : List AV} {k : AV→List AV→TR} (h : ∀ r bs,AFn P f args bxs r bs→Snd P σ (k r bs) Goal) : Snd P σ (.call f args bxs k) Goal :=
 fun K ⟨r,bs,h1,h3⟩=>h r bs h1 K h3
end
def gz (E : Env) (o : Oper) (σ : bL) (a : Act) (w : World) (d : List (Nat × AV)) : Prop:=∀ Q,o.wp E.P a w (fun a' w'=>∃ G',Sim E (dT σ d) a' w' G') Q
section
variable {E : Env} {o : Oper} {σ : bL} {a : Act} {w : World} {G : Gh}
theorem xb (Z : jf) (v : Value) : PRel Z v (ofV v):=by
 unfold ofV
 split
 ·exact .sl none 0 0 0 0 .full [] (fun _=>undef) (.inr ⟨rfl,rfl⟩) (Nat.le_refl _) (fun _=>rfl) (.inl ⟨rfl,rfl⟩) (fun j h=>by simp at h) (fun j h=>by simp at h)
 ·exact .c v
theorem Snd.rdo (h : Sim E σ a w G) {x : Operand} {f : AV→TR} {Goal : List (Nat × AV)→Prop} (hf : ∀ y,VRel G (bj σ) (a.eval x) y→Snd E.P σ (f y) Goal) : Snd E.P σ (rdo x f) Goal:=by
 cases x with
 | tmp t=>exact .need fun ht=>.rd (hf _ (h.slots t ht))
 | const v=>exact hf _ (.p (xb _ v))
 | global g =>
  refine hf _ ?_
  unfold wV
  split
  ·rename_i cs hg;exact .p (h.st.gl g cs hg)
  ·exact .p (.c _)
 | func i=>exact hf _ (.p (.fn _ #[] #[] [] [] rfl rfl (fun j h=>by simp at h) (fun j h=>by simp at h)))
theorem Snd.rdos (h : Sim E σ a w G) {Goal : List (Nat × AV)→Prop} : ∀ {l : List Operand} {f : List AV→TR},
  (∀ ys,ys.length = l.length→(∀ j (h1 : j < l.length) (h2 : j < ys.length),VRel G (bj σ) (a.eval l[j]) ys[j])→Snd E.P σ (f ys) Goal)→Snd E.P σ (rdos l f) Goal
 | [],f,hf=>hf [] rfl (fun j h=>by simp at h)
 | x :: r,f,hf=>Snd.rdo h fun y hy=>Snd.rdos h fun ys hl hys=>hf (y :: ys) (by simp [hl]) fun j h1 h2=>by
  cases j with
  | zero=>exact hy
  | succ j=>exact hys j (by simpa using h1) (by simpa using h2)
theorem iD {d : Oper} {x : AV} (t : Nat) : bj (dT σ (fB d x)) t = if some t = d.dst then x else bj σ t:=by
 cases hd : d.dst with
 | none=>simp [fB,hd,dT]
 | some i =>
  simp only [fB,hd,dT,eN,Option.some.injEq]
  by_cases h : i = t
  ·subst h;simp
  ·rw [if_neg h,if_neg (fun e=>h e.symm)]
theorem io (hd : fh E.N o) (x : AV) : ∀ k,10000≤k→bj (dT σ (fB o x)) k = bj σ k:=fun k hk=>by
 rw [iD]
 split
 ·rename_i h
  unfold fh at hd
  rw [← h] at hd
  have h2 : k < 10000:=hd.2
  omega
 ·rfl
theorem kD (hd : fh E.N o) : ∀ d,o.dst = some d→d < E.N∧d < 10000:=fun d h=>by unfold fh at hd;rw [h] at hd;exact hd
theorem zz (h : Sim E σ a w G) (hd : fh E.N o) {v : Value} {x : AV} (hr : (execOp a.eval o).run E.P w = .ok (.value v) w) (hx : VRel G (bj σ) v x) : gz E o σ a w (fB o x):=fun Q=>by
 unfold Oper.wp
 rw [hr]
 exact ⟨G,h.put (kD hd) (.congr (io hd x)) (h.st.congr (io hd x)) (.refl _ _) (fun _ _ _=>rfl) (hx.step (.congr (io hd x))) fun t _=>iD t⟩
theorem cZ (h : Sim E σ a w G) {v : Value} {x : AV} (hr : (execOp a.eval o).run E.P w = .ok (.value v) w) (hx : VRel G (bj σ) v x) : Snd E.P σ (ret E.N o x) (gz E o σ a w) :=
 .need fun hd=>.done (zz h hd hr hx)
end
section
variable {G : Gh} {B : Nat→AV} {v : Value}
theorem ee {x : Value} (h : VRel G B v (.c x)) : v = x:=by
 cases h with
 | p h=>cases h;rfl
def SlAt (G : Gh) (cs : List AV) (n : Nat) (a : Option Addr) (cap b off : Nat) (f : Nat→Value) : Prop :=
 n≤cap∧(a = none→cap = 0)∧((n = 0∧cs = [])∨a = some ⟨b,off,none⟩)∧(∀ j,j < cs.length→G.Z b (off + j) = some (f j))∧∀ j (h : j < cs.length),PRel G.Z (f j) cs[j]
theorem gD {cs : List AV} {n : Nat} {o : Own} (h : VRel G B v (.sl cs n o)) : ∃ a cap b off f,v = .slice a n cap∧SlAt G cs n a cap b off f∧(o = .full→cap = n) ∧
  ∀ t,o = .tok t→10000≤t∧∃ tip e,B t = .bt tip e∧n≤tip∧(n = tip→oZ G t a n cap):=by
 cases h with
 | p h =>
  cases h with
  | sl a b off n cap o cs f ho hn ha hc hz hp=>exact ⟨a,cap,b,off,f,rfl,⟨hn,ha,hc,hz,hp⟩,fun e=>by subst e;simpa using ho,fun t e=>by subst e;simp at ho⟩
 | tok a n cap cs b tip e h hb hB hn hk =>
  cases h with
  | sl a b' off n cap o cs f ho hn' ha hc hz hp=>exact ⟨a,cap,b',off,f,rfl,⟨hn',ha,hc,hz,hp⟩,(fun h=>by cases h),(fun t h=>by cases h;exact ⟨hb,tip,e,hB,hn,hk⟩)⟩
theorem SlAt.rel {cs : List AV} {n : Nat} {a : Option Addr} {cap b off : Nat} {f : Nat→Value} (h : SlAt G cs n a cap b off f) : VRel G B (.slice a n cap) (.sl cs n .none) :=
 .p (.sl a b off n cap .none cs f (.inl rfl) h.1 h.2.1 h.2.2.1 h.2.2.2.1 h.2.2.2.2)
theorem SlAt.full {cs : List AV} {n : Nat} {a : Option Addr} {cap b off : Nat} {f : Nat→Value} (h : SlAt G cs n a cap b off f) (hc : cap = n) : VRel G B (.slice a n cap) (.sl cs n .full) :=
 .p (.sl a b off n cap .full cs f (.inr ⟨rfl,hc⟩) h.1 h.2.1 h.2.2.1 h.2.2.2.1 h.2.2.2.2)
def RfAt (G : Gh) (cs : List AV) (b off : Nat) (f : Nat→Value) : Prop:=(∀ j,j < cs.length→G.Z b (off + j) = some (f j))∧∀ j (h : j < cs.length),PRel G.Z (f j) cs[j]
theorem kH {cs : List AV} {o : Nat} (h : VRel G B v (.rf cs o)) : ∃ b off f,v = .pointer (some ⟨b,off + o,none⟩)∧RfAt G cs b off f:=by
 cases h with
 | p h =>
  cases h with
  | rf b off o cs f hz hp=>exact ⟨b,off,f,rfl,hz,hp⟩
theorem RfAt.rel {cs : List AV} {b off : Nat} {f : Nat→Value} (h : RfAt G cs b off f) (o : Nat) : VRel G B (.pointer (some ⟨b,off + o,none⟩)) (.rf cs o):=.p (.rf b off o cs f h.1 h.2)
theorem iJ {b off : Nat} (h : VRel G B v (.loc b off)) : ∃ g cs ty,v = .pointer (some ⟨g,off,none⟩)∧10000≤b∧B b = .bc cs ty∧G.γ b = some g∧isM ty = false:=by
 cases h with
 | p h=>cases h
 | loc b off g cs ty hb hB hg hm=>exact ⟨g,cs,ty,rfl,hb,hB,hg,hm⟩
theorem jh {b off n e : Nat} (h : VRel G B v (.arr b off n e)) : ∃ g cap cs ty,v = .slice (some ⟨g,off,none⟩) n cap∧n≤cap∧10000≤b∧B b = .bc cs ty∧G.γ b = some g∧isM ty = false:=by
 cases h with
 | p h=>cases h
 | arr b off n e cap g cs ty hb hB hg hn hm=>exact ⟨g,cap,cs,ty,rfl,hn,hb,hB,hg,hm⟩
theorem mI {b : Nat} (h : VRel G B v (.mp b)) : ∃ g cs ty,v = .map (some g)∧10000≤b∧B b = .bc cs ty∧G.γ b = some g∧isM ty = true:=by
 cases h with
 | p h=>cases h
 | mp b g cs ty hb hB hg hm=>exact ⟨g,cs,ty,rfl,hb,hB,hg,hm⟩
theorem iI {cs : List AV} (h : VRel G B v (.agg cs)) : ∃ vs : Array Value,v = .agg vs∧vs.size = cs.length∧(∀ j,j < cs.length→(vs.getD j undef).oneCell' = true)∧∀ j (h : j < cs.length),VRel G B (vs.getD j undef) cs[j]:=by
 cases h with
 | p h =>
  cases h with
  | agg vs cs hs h1 hp=>exact ⟨vs,rfl,hs,h1,fun j hj=>.p (hp j hj)⟩
 | agg vs cs hs h1 hp=>exact ⟨vs,rfl,hs,h1,hp⟩
theorem ji {cs : List AV} (h : VRel G B v (.tup cs)) : ∃ vs : Array Value,v = .tuple vs∧vs.size = cs.length∧∀ j (h : j < cs.length),VRel G B (vs.getD j undef) cs[j]:=by
 cases h with
 | p h =>
  cases h with
  | tup vs cs hs hp=>exact ⟨vs,rfl,hs,fun j hj=>.p (hp j hj)⟩
 | tup vs cs hs hp=>exact ⟨vs,rfl,hs,hp⟩
theorem gN {t : TypeId} {x : AV} (h : VRel G B v (.ifc t x)) : ∃ v',v = .iface t v'∧VRel G B v' x:=by
 cases h with
 | p h =>
  cases h with
  | ifc t v x h=>exact ⟨v,rfl,.p h⟩
 | ifc t v x h=>exact ⟨v,rfl,h⟩
theorem kG {f : Fn} {a b : List AV} (h : VRel G B v (.fn f a b)) : ∃ va vb : Array Value,v = .func f va vb∧va.size = a.length∧vb.size = b.length∧(∀ j (h : j < a.length),VRel G B (va.getD j undef) a[j]) ∧
  ∀ j (h : j < b.length),VRel G B (vb.getD j undef) b[j]:=by
 cases h with
 | p h =>
  cases h with
  | fn f va vb a b ha hb pa pb=>exact ⟨va,vb,rfl,ha,hb,fun j hj=>.p (pa j hj),fun j hj=>.p (pb j hj)⟩
 | fn f va vb a b ha hb pa pb=>exact ⟨va,vb,rfl,ha,hb,pa,pb⟩
theorem v6 {cs : List AV} {ty : TypeId} (h : VRel G B v (.bc cs ty)) : False:=by
 cases h with
 | p h=>cases h
theorem v7 {n : Nat} {e : TypeId} (h : VRel G B v (.bt n e)) : False:=by
 cases h with
 | p h=>cases h
theorem pJ : ∀ {x : AV} {y v : Value},VRel G B v x→lq x = some y→v = y
 | .c x,y,v,h,hv=>by simp [lq] at hv;subst hv;exact ee h
 | .ifc t x,y,v,h,hv=>by
  obtain ⟨v',rfl,h'⟩:=gN h
  simp only [lq,Option.map_eq_some_iff] at hv
  obtain ⟨z,hz,rfl⟩:=hv
  rw [pJ h' hz]
 | .u,_,_,_,hv | .sl ..,_,_,_,hv | .rf ..,_,_,_,hv | .agg _,_,_,_,hv | .tup _,_,_,_,hv | .fn ..,_,_,_,hv | .loc ..,_,_,_,hv | .arr ..,_,_,_,hv | .bc ..,_,_,_,hv | .bt ..,_,_,_,hv | .mp ..,_,_,_,hv=>by simp [lq] at hv
end
section
variable {P : Program} {w : World}
theorem gJ {t n : Nat} (h : cO P t = some n) : (sizeOf t).run P w = .ok n w:=by
 unfold cO at h
 cases hi : P.info? t with
 | none=>simp [hi] at h
 | some i=>simp [hi] at h;simp [sizeOf,typeInfo,hi,h]
theorem ef {t e : Nat} (h : bp P t = some e) : P.underlying t = some (.slice e):=by
 unfold bp at h
 cases hu : P.underlying t with
 | none=>simp [hu] at h
 | some d=>cases d <;> simp [hu] at h;rw [h]
theorem lj {t : Nat} {k : IntKind} (h : bC P t = some k) : P.underlying t = some (.int k):=by
 unfold bC at h
 cases hu : P.underlying t with
 | none=>simp [hu] at h
 | some d=>cases d <;> simp [hu] at h;rw [h]
theorem gP {t : Nat} (h : bB P t = true) : P.underlying t = some .string:=by
 unfold bB at h
 cases hu : P.underlying t with
 | none=>simp [hu] at h
 | some d=>cases d <;> simp [hu] at h;rfl
theorem sT {t i off ft : Nat} (h : bM P t i = some (off,ft)) : ∃ fs : Array Field,P.underlying t = some (.struct fs)∧∃ f,fs[i]? = some f∧f.offset = off∧f.type = ft:=by
 unfold bM at h
 cases hu : P.underlying t with
 | none=>simp [hu] at h
 | some d =>
  cases d <;> simp [hu] at h
  rename_i fs
  obtain ⟨f,h1,h2,h3⟩:=h
  exact ⟨fs,rfl,f,h1,h2,h3⟩
end
section
variable {E : Env} {o : Oper} {σ : bL} {a : Act} {w : World} {G : Gh}
theorem vj (h : Sim E σ a w G) {x : Operand} (ho : o.op = .move x∨o.op = .assign x) : Snd E.P σ (rdo x fun v=>ret E.N o v) (gz E o σ a w) :=
 .rdo h fun y hy=>cZ h (by rcases ho with ho | ho <;> simp [execOp,ho]) hy
theorem Az (h : Sim E σ a w G) {c x y : Operand} (ho : o.op = .pick c x y) : Snd E.P σ (rdo c fun vc=>rdo x fun vx=>rdo y fun vy=>sB E.N o vc vx vy) (gz E o σ a w) :=
 .rdo h fun vc hc=>.rdo h fun vx hx=>.rdo h fun vy hy=>by
  unfold sB
  split
  ·rename_i b
   have e:=ee hc
   refine cZ h (v:=if b then a.eval x else a.eval y) (by simp [execOp,ho,e,asBool]) ?_
   cases b
   ·exact hy
   ·exact hx
  ·exact .fail
theorem Cw (h : Sim E σ a w G) {x : Operand} (ho : o.op = .nilCheck x) : Snd E.P σ (rdo x fun v=>tI E.N o v) (gz E o σ a w) :=
 .rdo h fun v hv=>by
  unfold tI
  split
  ·obtain ⟨g,cs,ty,e,_⟩:=iJ hv
   exact cZ h (by simp [execOp,ho,e]) hv
  ·obtain ⟨b,off,f,e,_⟩:=kH hv
   exact cZ h (by simp [execOp,ho,e]) hv
  ·obtain ⟨va,vb,e,_⟩:=kG hv
   exact cZ h (by simp [execOp,ho,e]) hv
  ·obtain ⟨v',e,_⟩:=gN hv
   exact cZ h (by simp [execOp,ho,e]) hv
  ·exact .fail
theorem sd (h : Sim E σ a w G) {s : TypeId} {x : Operand} {i : Nat} (ho : o.op = .fieldAddr s x i) : Snd E.P σ (rdo x fun v=>kJ E.P E.N o s v i) (gz E o σ a w) :=
 .rdo h fun v hv=>by
  unfold kJ
  split
  ·rename_i off ft hf
   refine .need fun hnz=>?_
   obtain ⟨n,hn⟩ : ∃ n,cO E.P ft = some (n + 1):=by
    unfold de at hnz
    split at hnz
    ·rename_i n hn;exact ⟨n,hn⟩
    ·cases hnz
   obtain ⟨fs,hu,fl,h1,h2,h3⟩:=sT hf
   have hs:=gJ (P:=E.P) (w:=w) hn
   rw [← h3] at hs
   have hrun : ∀ b o',a.eval x = .pointer (some ⟨b,o',none⟩)→(execOp a.eval o).run E.P w = .ok (.value (.pointer (some ⟨b,o' + off,none⟩))) w:=fun b o' e=>by
    simp [execOp,ho,e,Instr.fieldAt,run_underlying hu,h1,Instr.sureAddr,fieldPlace,hs,h2,Addr.add_mid]
   split
   ·obtain ⟨g,cs,ty,e,h4,h5,h6,h7⟩:=iJ hv
    exact cZ h (hrun _ _ e) (.loc _ _ g cs ty h4 h5 h6 h7)
   ·obtain ⟨b,off',f,e,hr⟩:=kH hv
    have:=hrun _ _ e
    rw [Nat.add_assoc] at this
    exact cZ h this (hr.rel _)
   ·exact .fail
  ·exact .fail
theorem se (h : Sim E σ a w G) {t : TypeId} {x i : Operand} (ho : o.op = .indexAddr t x i) : Snd E.P σ (rdo x fun v=>rdo i fun j=>kK E.P E.N o t v j) (gz E o σ a w) :=
 .rdo h fun v hv=>.rdo h fun j hj=>by
  unfold kK
  split
  ·rename_i sz cs n own k z hsz
   refine .need fun ⟨h0,h1⟩=>?_
   obtain ⟨e,he,hsz⟩:=Option.bind_eq_some_iff.1 hsz
   obtain ⟨ad,cap,b,off,f,ev,⟨hn,ha,hc,hz,hp⟩,_⟩:=gD hv
   have ej:=ee hj
   rcases hc with ⟨hc,_⟩ | hc
   ·omega
   subst hc
   have hs:=gJ (P:=E.P) (w:=w) hsz
   refine cZ h (v:=.pointer (some ⟨b,off + z.toNat * sz,none⟩)) ?_ (RfAt.rel ⟨hz,hp⟩ _)
   simp [execOp,ho,ev,ej,Instr.indexAt,asIntOf,run_underlying (ef he),h0,h1,hs,Addr.add_mid]
  ·rename_i sz b off n e' k z hsz
   refine .need fun ⟨h0,h1⟩=>?_
   obtain ⟨e,he,hsz⟩:=Option.bind_eq_some_iff.1 hsz
   obtain ⟨g,cap,cs,ty,ev,hn,hb,hB,hg,hm⟩:=jh hv
   have ej:=ee hj
   have hs:=gJ (P:=E.P) (w:=w) hsz
   refine cZ h (v:=.pointer (some ⟨g,off + z.toNat * sz,none⟩)) ?_ (.loc _ _ g cs ty hb hB hg hm)
   simp [execOp,ho,ev,ej,Instr.indexAt,asIntOf,run_underlying (ef he),h0,h1,hs,Addr.add_mid]
  ·exact .fail
theorem yy (h : Sim E σ a w G) {t : TypeId} {x i : Operand} (ho : o.op = .index t x i) : Snd E.P σ (rdo x fun v=>rdo i fun j=>tF E.P E.N o t v j) (gz E o σ a w) :=
 .rdo h fun v hv=>.rdo h fun j hj=>by
  unfold tF
  split
  ·rename_i s k z hs
   refine .need fun ⟨h0,h1⟩=>?_
   have ev:=ee hv
   have ej:=ee hj
   have hlt : z.toNat < s.size:=by omega
   have hget : s[z.toNat]? = some (s.data.toList.getD z.toNat 0):=by
    have h2 : z.toNat < s.data.toList.length:=by simpa using hlt
    rw [List.getD_eq_getElem?_getD,List.getElem?_eq_getElem h2]
    simp [getElem?_pos,hlt];rfl
   refine cZ h (v:=.int .u8 (s.data.toList.getD z.toNat 0).toNat) ?_ (.p (.c _))
   simp [execOp,ho,ev,ej,Instr.index,asIntOf,run_underlying (gP hs),h0,hget]
  ·exact .fail
theorem wm {P : Program} {w : World} {op : BinOp} {t : TypeId} {k k' : IntKind} {x y : Int} {v : Value} (hk : k = k'∨nG op = true) (hv : qI op k x y = some v) : (binOp op t (.int k x) (.int k' y)).run P w = .ok v w:=by
 cases op <;> simp [qI,nG] at hk hv
 case shl | shr=>simp [binOp,Op.shift,show ¬ y < 0 by omega,hv.2]
 case quo | rem=>subst hk;simp [binOp,Op.intDiv,hv.1,hv.2]
 all_goals (subst hk;subst hv;simp [binOp,Op.intArith,Op.intBits,Op.intCmp])
 all_goals rfl
theorem rk {P : Program} {w : World} (t u : TypeId) (v : Value) {ms : Array (String × TypeId)} (hd : P.underlying t = some (.interface ms)) :
  (Op.equal t (.iface u v) .nilIface).run P w = .ok false w∧(Op.equal t .nilIface (.iface u v)).run P w = .ok false w:=by
 have h1 : ∀ d : Nat,(Op.equalIn (d + 1) t (.iface u v) .nilIface).run P w = .ok false w:=fun d=>by simp [Op.equalIn,run_underlying hd]
 have h2 : ∀ d : Nat,(Op.equalIn (d + 1) t .nilIface (.iface u v)).run P w = .ok false w:=fun d=>by simp [Op.equalIn,run_underlying hd]
 exact ⟨h1 9999,h2 9999⟩
theorem Ct (h : Sim E σ a w G) {op : BinOp} {t t' : TypeId} {x y : Operand} (ho : o.op = .binOp op t x y t') : Snd E.P σ (rdo x fun vx=>rdo y fun vy=>pB E.P E.N o op t x y vx vy) (gz E o σ a w) :=
 .rdo h fun vx hx=>.rdo h fun vy hy=>by
  unfold pB
  split
  ·rename_i k z k' z'
   refine .need fun hk=>?_
   have ex:=ee hx
   have ey:=ee hy
   split
   ·rename_i v hv
    refine cZ h (v:=v) ?_ (.p (.c _))
    have hg : ∀ w,(eqGuard op t x y (.int k z) (.int k' z')).run E.P w = .ok () w:=fun w=>by cases op <;> simp [eqGuard]
    simp [execOp,ho,ex,ey,hg,wm hk hv]
   ·exact .fail
  ·obtain ⟨v',ex,_⟩:=gN hx
   have ey:=ee hy
   split
   ·rename_i r hr
    refine .need fun ⟨hc,hs⟩=>?_
    obtain ⟨d,hd⟩:=Option.isSome_iff_exists.1 hs
    obtain ⟨ms,rfl⟩ : ∃ ms,d = .interface ms:=by cases d <;> simp [aQ,hd] at hc;exact ⟨_,rfl⟩
    refine cZ h (v:=.bool (!r)) ?_ (.p (.c _))
    have hq:=fun z=>rk (w:=w) t z v' hd
    cases op <;> simp [kE] at hr <;> subst hr <;> simp only [execOp,ho,ex,ey,eqGuard,binOp] <;> simp [(hq _).1,(hq _).2]
   ·exact .fail
  ·obtain ⟨v',ey,_⟩:=gN hy
   have ex:=ee hx
   split
   ·rename_i r hr
    refine .need fun ⟨hc,hs⟩=>?_
    obtain ⟨d,hd⟩:=Option.isSome_iff_exists.1 hs
    obtain ⟨ms,rfl⟩ : ∃ ms,d = .interface ms:=by cases d <;> simp [aQ,hd] at hc;exact ⟨_,rfl⟩
    refine cZ h (v:=.bool (!r)) ?_ (.p (.c _))
    have hq:=fun z=>rk (w:=w) t z v' hd
    cases op <;> simp [kE] at hr <;> subst hr <;> simp only [execOp,ho,ex,ey,eqGuard,binOp] <;> simp [(hq _).1,(hq _).2]
   ·exact .fail
  ·split
   ·rename_i v1 v2 h1 h2
    refine .ex fun v hv=>cZ h (v:=v) ?_ (.p (.c _))
    rw [← pJ hx h1,← pJ hy h2] at hv
    have:=hv w
    simp only [execOp,ho,Sem.run_bind] at this ⊢
    rw [this]
    rfl
   ·exact .fail
end
end Go.Proofs.YtkjnkkmokojnpaaGreatDoor
namespace Go.Proofs.YtkjnkkmokojnpaaGreatDoor
set_option linter.unusedSimpArgs false
set_option linter.unusedVariables false
open Go.RowKit
section
variable {E : Env} {o : Oper} {σ : bL} {a : Act} {w : World} {G : Gh}
theorem Er (h : Sim E σ a w G) {op : UnOp} {t : TypeId} {x : Operand} (ho : o.op = .unOp op t x) : Snd E.P σ (rdo x fun v=>kUn E.N o op v) (gz E o σ a w) :=
 .rdo h fun v hv=>by
  unfold kUn
  split
  ·have e:=ee hv
   exact cZ h (by simp [execOp,ho,e,Op.unary]) (.p (.c _))
  ·have e:=ee hv
   exact cZ h (by simp [execOp,ho,e,Op.unary,Op.intArith]) (.p (.c _))
  ·exact .fail
theorem yx (h : Sim E σ a w G) {t : TypeId} {x : Operand} (ho : o.op = .makeInterface t x) : Snd E.P σ (rdo x fun v=>wb E.P E.N o t v) (gz E o σ a w) :=
 .rdo h fun v hv=>.need fun hc=>by
  cases hu : E.P.underlying t with
  | none=>simp [aQ,hu] at hc
  | some d =>
   refine cZ h (v:=.iface t (a.eval x)) ?_ (.ifc _ _ _ hv)
   cases d <;> simp [aQ,hu] at hc <;> simp [execOp,ho,Instr.makeInterface,run_underlying hu]
theorem vg (h : Sim E σ a w G) {x : Operand} {i : Nat} (ho : o.op = .extract x i) : Snd E.P σ (rdo x fun v=>ki E.N o v i) (gz E o σ a w) :=
 .rdo h fun v hv=>by
  unfold ki
  split
  ·rename_i cs
   refine .need fun hi=>?_
   obtain ⟨vs,e,hs,hp⟩:=ji hv
   have:=hp i hi
   generalize hgv : vs.getD i undef = z at this
   have hg : vs[i]? = some z:=by
    rw [← hgv,Array.getD_eq_getD_getElem?,Array.getElem?_eq_getElem (by omega)];rfl
   refine cZ h (v:=z) (by simp only [execOp,ho,e,Instr.extract,hg];rfl) ?_
   rw [List.getD_eq_getElem?_getD,List.getElem?_eq_getElem hi]
   exact this
  ·exact .fail
theorem Cv (h : Sim E σ a w G) {t ty : TypeId} {x : Operand} {args : Array Operand} {ts : Array TypeId} (ha : args.toList = [x]) (ht : ts.toList = [t]) (ho : o.op = .call { callee:=.builtin .len,args:=args,argTypes:=ts }) :
  Snd E.P σ (rdo x fun v=>uO E.P E.N o t v) (gz E o σ a w):=by
 obtain rfl : args = #[x]:=by cases args;simp at ha;simp [ha]
 obtain rfl : ts = #[t]:=by cases ts;simp at ht;simp [ht]
 refine .rdo h fun v hv=>?_
 unfold uO
 split
 ·refine .need fun hs=>?_
  obtain ⟨e,he⟩:=Option.isSome_iff_exists.1 hs
  obtain ⟨ad,cap,b,off,f,ev,_⟩:=gD hv
  exact cZ h (by simp [execOp,ho,resolve,ev,invoke,builtin,Builtin.len_,run_underlying (ef he),goInt]) (.p (.c _))
 ·refine .need fun hs=>?_
  obtain ⟨e,he⟩:=Option.isSome_iff_exists.1 hs
  obtain ⟨g,cap,cs,ty,ev,_⟩:=jh hv
  exact cZ h (by simp [execOp,ho,resolve,ev,invoke,builtin,Builtin.len_,run_underlying (ef he),goInt]) (.p (.c _))
 ·refine .need fun hs=>?_
  have ev:=ee hv
  exact cZ h (by simp [execOp,ho,resolve,ev,invoke,builtin,Builtin.len_,run_underlying (gP hs),goInt]) (.p (.c _))
 ·exact .fail
theorem t6 (h : Sim E σ a w G) {f : Fn} {x y : Array Operand} (ho : o.op = .makeFunc f x y) :
  Snd E.P σ (rdos x.toList fun va=>rdos y.toList fun vb=>ret E.N o (.fn f va vb)) (gz E o σ a w) :=
 .rdos h fun va la ha=>.rdos h fun vb lb hb=>by
  refine cZ h (v:=.func f (x.map a.eval) (y.map a.eval)) (by simp [execOp,ho,Instr.makeFunc]) (.fn _ _ _ _ _ (by simp [la]) (by simp [lb]) (fun j hj=>?_) fun j hj=>?_)
  ·have h1 : j < x.size:=by simpa [la] using hj
   have:=ha j (by simpa using h1) hj
   simpa [Array.getD_eq_getD_getElem?,h1] using this
  ·have h1 : j < y.size:=by simpa [lb] using hj
   have:=hb j (by simpa using h1) hj
   simpa [Array.getD_eq_getD_getElem?,h1] using this
theorem mU {cs : List AV} {n : Nat} {ad : Option Addr} {cap b off : Nat} {f : Nat→Value} (h : SlAt G cs n ad cap b off f) {l hh sz m : Nat} (hl : l≤hh) (hn : hh≤n) (hc0 : cap = l→m = 0) :
  VRel G (bj σ) (.slice (if cap = l then ad else ad.map (·.add (l * sz))) (hh - l) (cap - l)) (.sl ((cs.drop (l * sz)).take m) (hh - l) .none):=by
 obtain ⟨h1,h2,h3,h4,h5⟩:=h
 by_cases hcl : cap = l
 ·rw [if_pos hcl]
  obtain rfl:=hc0 hcl
  have e : hh - l = 0:=by omega
  rw [e]
  refine .p (.sl ad b off 0 (cap - l) .none _ f (.inl rfl) (by omega) (fun _=>by omega) (.inl ⟨rfl,by simp⟩) (fun j hj=>by simp at hj) fun j hj=>by simp at hj)
 ·rw [if_neg hcl]
  rcases h3 with ⟨h3,h6⟩ | rfl
  ·subst h6
   simp only [List.drop_nil,List.take_nil]
   refine .p (.sl _ b off _ _ .none _ f (.inl rfl) (by omega) (fun e=>?_) (.inl ⟨by omega,rfl⟩) (fun j hj=>by simp at hj) fun j hj=>by simp at hj)
   have:=h2 (by simpa using e);omega
  ·simp only [Option.map_some,Addr.add_mid]
   refine .p (.sl _ b (off + l * sz) _ _ .none _ (fun j=>f (l * sz + j)) (.inl rfl) (by omega) (fun e=>by simp at e) (.inr rfl) (fun j hj=>?_) fun j hj=>?_)
   ·simp only [List.length_take,List.length_drop] at hj
    rw [Nat.add_assoc];exact h4 _ (by omega)
   ·simp only [List.length_take,List.length_drop] at hj
    have:=h5 (l * sz + j) (by omega)
    simpa using this
theorem yz (h : Sim E σ a w G) {t : TypeId} {x : Operand} {lo hi mx : Option Operand} (ho : o.op = .slice t x lo hi mx) :
  Snd E.P σ (rdo x fun v=>rX lo fun l=>rX hi fun hh=>rX mx fun m=>tJ E.P E.N o t v l hh m) (gz E o σ a w):=by
 have hopt : ∀ (y : Option Operand) (k : Option AV→TR),(∀ z : Option AV,(y = none→z = none)→(∀ p,y = some p→∃ q,z = some q∧VRel G (bj σ) (a.eval p) q)→Snd E.P σ (k z) (gz E o σ a w))→Snd E.P σ (rX y k) (gz E o σ a w):=fun y k hk=>by
  cases y with
  | none=>exact hk none (fun _=>rfl) (fun _ e=>by cases e)
  | some p=>exact Snd.rdo h fun q hq=>hk (some q) (fun e=>by cases e) (fun p' e=>by cases e;exact ⟨q,rfl,hq⟩)
 refine .rdo h fun v hv=>hopt lo _ fun zl l0 l1=>hopt hi _ fun zh h0 h1=>hopt mx _ fun zm m0 m1=>?_
 have hz : ∀ (y : Option Operand) (z : Option AV),(y = none→z = none)→(∀ p,y = some p→∃ q,z = some q∧VRel G (bj σ) (a.eval p) q) →
   (z = none→y = none)∧∀ k i,z = some (.c (.int k i))→y.map a.eval = some (.int k i):=fun y z e1 e2=>by
  cases y with
  | none=>exact ⟨fun _=>rfl,fun k i e=>by rw [e1 rfl] at e;cases e⟩
  | some p =>
   obtain ⟨q,rfl,hq⟩:=e2 p rfl
   exact ⟨(fun e=>by cases e),(fun k i e=>by cases e;rw [Option.map_some,ee hq])⟩
 obtain ⟨hl0,hl1⟩:=hz lo zl l0 l1
 obtain ⟨hh0,hh1⟩:=hz hi zh h0 h1
 obtain ⟨hm0,hm1⟩:=hz mx zm m0 m1
 unfold tJ
 split
 ·rename_i s
  have ev:=ee hv
  split
  ·rename_i hs
   obtain rfl:=hl0 rfl;obtain rfl:=hh0 rfl;obtain rfl:=hm0 rfl
   exact cZ h (v:=.string (s.extract 0 s.size)) (by simp [execOp,ho,ev,Instr.sliceAt,Instr.slice,run_underlying (gP hs),Instr.sliceBounds]) (.p (.c _))
  ·rename_i k l hs
   refine .need fun ⟨e1,e2⟩=>?_
   obtain rfl:=hh0 rfl;obtain rfl:=hm0 rfl
   have el:=hl1 _ _ rfl
   exact cZ h (v:=.string (s.extract l.toNat s.size)) (by simp [execOp,ho,ev,el,Instr.sliceAt,Instr.slice,run_underlying (gP hs),Instr.sliceBounds,Instr.sliceBound,asIntOf,e1,e2]) (.p (.c _))
  ·rename_i k l hs
   refine .need fun ⟨e1,e2⟩=>?_
   obtain rfl:=hl0 rfl;obtain rfl:=hm0 rfl
   have el:=hh1 _ _ rfl
   exact cZ h (v:=.string (s.extract 0 l.toNat)) (by simp [execOp,ho,ev,el,Instr.sliceAt,Instr.slice,run_underlying (gP hs),Instr.sliceBounds,Instr.sliceBound,asIntOf,e1,e2]) (.p (.c _))
  ·rename_i k l k' hh hs
   refine .need fun ⟨e1,e2,e3⟩=>?_
   obtain rfl:=hm0 rfl
   have el:=hl1 _ _ rfl
   have eh:=hh1 _ _ rfl
   have e4 : (0 : Int)≤hh:=by omega
   have e5 : l≤max hh 0:=by omega
   exact cZ h (v:=.string (s.extract l.toNat hh.toNat)) (by simp [execOp,ho,ev,el,eh,Instr.sliceAt,Instr.slice,run_underlying (gP hs),Instr.sliceBounds,Instr.sliceBound,asIntOf,e1,e2,e3,e4,e5]) (.p (.c _))
  ·exact .fail
 ·rename_i cs n own
  obtain ⟨ad,cap,b,off,f,ev,hsl,_⟩:=gD hv
  have hncap:=hsl.1
  split
  ·rename_i sz k l hsz
   refine .need fun ⟨e1,e2,e3⟩=>?_
   obtain ⟨e,he,hsz⟩:=Option.bind_eq_some_iff.1 hsz
   have hs:=gJ (P:=E.P) (w:=w) hsz
   obtain rfl:=hh0 rfl;obtain rfl:=hm0 rfl
   have el:=hl1 _ _ rfl
   refine cZ h (v:=.slice (if cap = l.toNat then ad else ad.map (·.add (l.toNat * sz))) (n - l.toNat) (cap - l.toNat)) (by simp [execOp,ho,ev,el,Instr.sliceAt,Instr.slice,run_underlying (ef he),hs,Instr.sliceBounds,Instr.sliceBound,asIntOf,e1,e2]) ?_
   have hle : l.toNat≤n:=by omega
   have hm : (n - l.toNat) * sz = cs.length - l.toNat * sz:=by rw [e3,Nat.sub_mul]
   have:=mU (σ:=σ) hsl (sz:=sz) (m:=(n - l.toNat) * sz) hle (Nat.le_refl _) (fun e=>by rw [show n - l.toNat = 0 by omega,Nat.zero_mul])
   rwa [List.take_of_length_le (by rw [List.length_drop,hm];exact Nat.le_refl _)] at this
  ·rename_i sz k l hsz
   refine .need fun ⟨e1,e2⟩=>?_
   obtain ⟨e,he,hsz⟩:=Option.bind_eq_some_iff.1 hsz
   have hs:=gJ (P:=E.P) (w:=w) hsz
   obtain rfl:=hl0 rfl;obtain rfl:=hm0 rfl
   have el:=hh1 _ _ rfl
   have e4 : l≤(cap : Int):=by omega
   refine cZ h (v:=.slice (if cap = 0 then ad else ad.map (·.add (0 * sz))) (l.toNat - 0) (cap - 0)) (by simp [execOp,ho,ev,el,Instr.sliceAt,Instr.slice,run_underlying (ef he),hs,Instr.sliceBounds,Instr.sliceBound,asIntOf,e1,e4]) ?_
   have:=mU (σ:=σ) hsl (l:=0) (hh:=l.toNat) (sz:=sz) (m:=l.toNat * sz) (Nat.zero_le _) (by omega) (fun e=>by rw [show l.toNat = 0 by omega,Nat.zero_mul])
   simp only [Nat.zero_mul,List.drop_zero,Nat.sub_zero] at this ⊢
   exact this
  ·rename_i sz k l k' hh hsz
   refine .need fun ⟨e1,e2,e3⟩=>?_
   obtain ⟨e,he,hsz⟩:=Option.bind_eq_some_iff.1 hsz
   have hs:=gJ (P:=E.P) (w:=w) hsz
   obtain rfl:=hm0 rfl
   have el:=hl1 _ _ rfl
   have eh:=hh1 _ _ rfl
   have e4 : (0 : Int)≤hh:=by omega
   have e5 : l≤max hh 0:=by omega
   have e6 : hh≤(cap : Int):=by omega
   have e7 : (hh - l).toNat = hh.toNat - l.toNat:=by omega
   rw [e7]
   refine cZ h (v:=.slice (if cap = l.toNat then ad else ad.map (·.add (l.toNat * sz))) (hh.toNat - l.toNat) (cap - l.toNat)) (by simp [execOp,ho,ev,el,eh,Instr.sliceAt,Instr.slice,run_underlying (ef he),hs,Instr.sliceBounds,Instr.sliceBound,asIntOf,e1,e4,e5,e6]) ?_
   exact mU (σ:=σ) hsl (sz:=sz) (m:=(hh.toNat - l.toNat) * sz) (by omega) (by omega) (fun e=>by rw [show hh.toNat - l.toNat = 0 by omega,Nat.zero_mul])
  ·rename_i sz k k' hsz
   obtain ⟨e,he,hsz⟩:=Option.bind_eq_some_iff.1 hsz
   have hs:=gJ (P:=E.P) (w:=w) hsz
   obtain rfl:=hl0 rfl
   have eh:=hh1 _ _ rfl
   have em:=hm1 _ _ rfl
   refine cZ h (v:=.slice ad 0 0) (by simp [execOp,ho,ev,eh,em,Instr.sliceAt,Instr.slice,run_underlying (ef he),hs,Instr.sliceBounds,Instr.sliceBound,asIntOf]) ?_
   exact .p (.sl ad b off 0 0 .full [] f (.inr ⟨rfl,rfl⟩) (Nat.le_refl _) (fun _=>rfl) (.inl ⟨rfl,rfl⟩) (fun j hj=>by simp at hj) fun j hj=>by simp at hj)
  ·exact .fail
 ·exact .fail
end
end Go.Proofs.YtkjnkkmokojnpaaGreatDoor

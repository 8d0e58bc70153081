/- K, an abstract machine: values as plain trees, boxes by name, sealed memory, tokens for rows that may grow. Here: the words, and what is kept from step to step. No program is in sight. K: what an operation asks and gives, as a tree of readings; the contract of a function; the operations' trees. No program is in sight. K: the operations' trees. No program is in sight. K: the operations that compute, sound. No program is in sight. K: conversions, interfaces, lengths, slicing, sound. No program is in sight. -/
import Derived.Test.YtmpdocplcgbpkaaGreatDoorRows
import Derived.WalkKit
import Derived.Deep.MidRow
import Derived.Laws.AppendOwn
import Derived.Laws.AppendOwnNone
import Derived.Below
import Derived.MapKept
import Derived.Laws.BytesArg
namespace Go.Proofs.YtmpdocplcgbpkaaGreatDoor
set_option linter.unusedSimpArgs false
set_option linter.unusedVariables false
open Go.RowKit
inductive Own where
 | none
 | full
 | tok (b : Nat)
inductive AV where
 | c (x : Value)
 | u
 | sl (cs : List AV) (n : Nat) (o : Own)
 | rf (cs : List AV) (off : Nat)
 | agg (cs : List AV)
 | tup (cs : List AV)
 | ifc (t : TypeId) (x : AV)
 | fn (f : Fn) (a b : List AV)
 | loc (b off : Nat)
 | arr (b off n e : Nat)
 | bc (cs : List AV) (ty : TypeId)
 | bt (n : Nat) (e : TypeId)
 | mp (b : Nat)
 | ow (b off n v : Nat)
 | lo (b off v : Nat)
 | br (cs : List AV) (v : Nat) (e : TypeId) (sz : Nat)
 | fo (rows : List AV)
instance : Inhabited AV:=⟨.u⟩
def tn : Nat→Option (List AV):=fun g =>
 if g = 0 then some [.ifc 158 (.agg [.c (.pointer (some ⟨1,35,none⟩))])] else none
def zT : Nat→Option (Array Value):=fun _=>none
def isM (ty : TypeId) : Bool:=decide (1000000000≤ty)
abbrev bv:=List (Nat × AV)
def be : bv→Nat→AV
 | [],_=>.u
 | (k,v) :: r,i=>if k = i then v else be r i
def cC : bv→Nat→AV→bv
 | [],i,v=>[(i,v)]
 | (k,w) :: r,i,v=>if k = i then (i,v) :: r else if i < k then (i,v) :: (k,w) :: r else (k,w) :: cC r i v
def ck (m : bv) : List (Nat × AV)→bv
 | []=>m
 | (k,v) :: r=>ck (cC m k v) r
theorem bO (m : bv) (i j : Nat) (v : AV) : be (cC m i v) j = if i = j then v else be m j:=by
 induction m with
 | nil=>simp [cC,be]
 | cons p r ih =>
  obtain ⟨k,w⟩:=p
  simp only [cC]
  split
  ·rename_i h;subst h;simp only [be];split <;> rfl
  ·rename_i h
   split
   ·simp only [be]
   ·simp only [be,ih]
    split
    ·rename_i h1 h2;subst h2;rw [if_neg (fun e=>h e.symm)]
    ·rfl
def enc (b i : Nat) : Nat:=1000000 + (i * 1000000 + b)
def df (k : Nat) : Nat:=(k - 1000000) % 1000000
def d7 (k : Nat) : Nat:=(k - 1000000) / 1000000
def gU (rows : List AV) (i : Nat) : AV:=match rows.getD i .u with | .br cs v e sz=>.br cs v e sz | _=>.u
def dv (x : AV) (i : Nat) : AV:=match x with | .fo rows=>gU rows i | _=>.u
def lk (B : Nat→AV) (k : Nat) : AV:=if k < 1000000 then B k else if 10000≤df k then dv (B (df k)) (d7 k) else .u
def lm (σ : bv) : Nat→AV:=lk (be σ)
def i7 : AV→Bool
 | .fo _=>true
 | _=>false
theorem gq (b i : Nat) : ¬ enc b i < 1000000:=by unfold enc;omega
theorem r9 (b i : Nat) : (enc b i < 1000000) = False:=eq_false (gq b i)
theorem fx {b : Nat} (i : Nat) (hb : b < 1000000) : df (enc b i) = b:=by
 unfold df enc
 rw [Nat.add_sub_cancel_left,Nat.mul_comm,Nat.mul_add_mod,Nat.mod_eq_of_lt hb]
theorem fY {b : Nat} (i : Nat) (hb : b < 1000000) : d7 (enc b i) = i:=by
 unfold d7 enc
 rw [Nat.add_sub_cancel_left];omega
theorem iD {k : Nat} (h : ¬ k < 1000000) : enc (df k) (d7 k) = k:=by unfold enc df d7;omega
theorem te (k : Nat) : df k < 1000000:=Nat.mod_lt _ (by decide)
theorem lJ (rows : List AV) (i : Nat) : gU rows i = .u∨∃ cs v e sz,gU rows i = .br cs v e sz∧rows[i]? = some (.br cs v e sz):=by
 unfold gU
 cases h : rows[i]? with
 | none=>rw [List.getD_eq_getElem?_getD,h];exact .inl rfl
 | some x =>
  rw [List.getD_eq_getElem?_getD,h]
  cases x <;> first | exact .inl rfl | exact .inr ⟨_,_,_,_,rfl,rfl⟩
theorem qQ (x : AV) (i : Nat) : dv x i = .u∨∃ rows cs v e sz,x = .fo rows∧dv x i = .br cs v e sz∧rows[i]? = some (.br cs v e sz):=by
 unfold dv
 split
 ·rename_i rows
  rcases lJ rows i with h | ⟨cs,v,e,sz,h,h2⟩
  ·exact .inl h
  ·exact .inr ⟨rows,cs,v,e,sz,rfl,h,h2⟩
 ·exact .inl rfl
theorem ca {B : Nat→AV} {k : Nat} (h : k < 1000000) : lk B k = B k:=if_pos h
theorem mH {B : Nat→AV} {b : Nat} (i : Nat) (hb : 10000≤b) (hb2 : b < 1000000) : lk B (enc b i) = dv (B b) i:=by
 unfold lk
 rw [if_neg (gq b i),fx i hb2,fY i hb2,if_pos hb]
theorem sy {B : Nat→AV} {k : Nat} (h : ¬ k < 1000000) : lk B k = .u∨∃ rows cs v e sz,10000≤df k∧B (df k) = .fo rows∧lk B k = .br cs v e sz∧rows[d7 k]? = some (.br cs v e sz):=by
 unfold lk
 rw [if_neg h]
 split
 ·rename_i h1
  rcases qQ (B (df k)) (d7 k) with h2 | ⟨rows,cs,v,e,sz,h2,h3,h4⟩
  ·exact .inl h2
  ·exact .inr ⟨rows,cs,v,e,sz,h1,h2,h3,h4⟩
 ·exact .inl rfl
theorem fI {B : Nat→AV} {k : Nat} {cs : List AV} {ty : TypeId} (h : lk B k = .bc cs ty) : k < 1000000∧B k = .bc cs ty:=by
 by_cases hk : k < 1000000
 ·exact ⟨hk,(ca hk).symm.trans h⟩
 ·rcases sy (B:=B) hk with e | ⟨_,_,_,_,_,_,_,e,_⟩ <;> rw [h] at e <;> cases e
theorem wF {B : Nat→AV} {k n : Nat} {ty : TypeId} (h : lk B k = .bt n ty) : k < 1000000∧B k = .bt n ty:=by
 by_cases hk : k < 1000000
 ·exact ⟨hk,(ca hk).symm.trans h⟩
 ·rcases sy (B:=B) hk with e | ⟨_,_,_,_,_,_,_,e,_⟩ <;> rw [h] at e <;> cases e
theorem mG {B B' : Nat→AV} (h : ∀ k,10000≤k→k < 1000000→B' k = B k) : ∀ k,10000≤k→lk B' k = lk B k:=fun k hk=>by
 unfold lk
 by_cases h1 : k < 1000000
 ·rw [if_pos h1,if_pos h1,h k hk h1]
 ·rw [if_neg h1,if_neg h1]
  by_cases h2 : 10000≤df k
  ·rw [if_pos h2,if_pos h2,h _ h2 (te k)]
  ·rw [if_neg h2,if_neg h2]
theorem mW {x : AV} (h : i7 x = false) (i : Nat) : dv x i = .u:=by
 cases x <;> first | rfl | cases h
theorem fA {B B' : Nat→AV} {b : Nat} {x : AV} (h : ∀ k,10000≤k→k < 1000000→B' k = if b = k then x else B k) (hb : b < 1000000) (h1 : i7 (B b) = false) (h2 : i7 x = false) : ∀ k,10000≤k→lk B' k = if b = k then x else lk B k:=fun k hk=>by
 by_cases hkb : k < 1000000
 ·rw [ca hkb,ca hkb,h k hk hkb]
 ·rw [if_neg (by omega)]
  unfold lk
  rw [if_neg hkb,if_neg hkb]
  by_cases h3 : 10000≤df k
  ·rw [if_pos h3,if_pos h3,h _ h3 (te k)]
   by_cases e : b = df k
   ·rw [if_pos e,← e,mW h1,mW h2]
   ·rw [if_neg e]
  ·rw [if_neg h3,if_neg h3]
abbrev fV:=Nat→Nat→Option Value
inductive PRel (Z : fV) : Value→AV→Prop
 | c (x) : PRel Z x (.c x)
 | u (x) : PRel Z x .u
 | sl (a : Option Addr) (b off n cap : Nat) (o : Own) (cs : List AV) (f : Nat→Value) (ho : o = .none∨(o = .full∧cap = n)) (hn : n≤cap) (ha : a = none→cap = 0)
   (hc : (n = 0∧cs = [])∨a = some ⟨b,off,none⟩) (hz : ∀ j,j < cs.length→Z b (off + j) = some (f j)) (hp : ∀ j (h : j < cs.length),PRel Z (f j) cs[j]) : PRel Z (.slice a n cap) (.sl cs n o)
 | rf (b off o : Nat) (cs : List AV) (f : Nat→Value) (hz : ∀ j,j < cs.length→Z b (off + j) = some (f j)) (hp : ∀ j (h : j < cs.length),PRel Z (f j) cs[j]) :
   PRel Z (.pointer (some ⟨b,off + o,none⟩)) (.rf cs o)
 | agg (vs : Array Value) (cs : List AV) (hs : vs.size = cs.length) (h1 : ∀ j,j < cs.length→(vs.getD j undef).oneCell' = true) (hp : ∀ j (h : j < cs.length),PRel Z (vs.getD j undef) cs[j]) : PRel Z (.agg vs) (.agg cs)
 | tup (vs : Array Value) (cs : List AV) (hs : vs.size = cs.length) (hp : ∀ j (h : j < cs.length),PRel Z (vs.getD j undef) cs[j]) : PRel Z (.tuple vs) (.tup cs)
 | ifc (t : TypeId) (v : Value) (x : AV) (h : PRel Z v x) : PRel Z (.iface t v) (.ifc t x)
 | fn (f : Fn) (va vb : Array Value) (a b : List AV) (ha : va.size = a.length) (hb : vb.size = b.length) (pa : ∀ j (h : j < a.length),PRel Z (va.getD j undef) a[j]) (pb : ∀ j (h : j < b.length),PRel Z (vb.getD j undef) b[j]) :
   PRel Z (.func f va vb) (.fn f a b)
def SealLe (Z Z' : fV) : Prop:=∀ b o v,Z b o = some v→Z' b o = some v
theorem SealLe.refl (Z : fV) : SealLe Z Z:=fun _ _ _ h=>h
theorem SealLe.trans {a b c : fV} (h : SealLe a b) (k : SealLe b c) : SealLe a c:=fun x o v hv=>k x o v (h x o v hv)
theorem PRel.mono {Z Z' : fV} (hZ : SealLe Z Z') {v : Value} {x : AV} (h : PRel Z v x) : PRel Z' v x:=by
 induction h with
 | c x=>exact .c x
 | u x=>exact .u x
 | sl a b off n cap o cs f ho hn ha hc hz hp ih=>exact .sl a b off n cap o cs f ho hn ha hc (fun j hj=>hZ _ _ _ (hz j hj)) ih
 | rf b off o cs f hz hp ih=>exact .rf b off o cs f (fun j hj=>hZ _ _ _ (hz j hj)) ih
 | agg vs cs hs h1 hp ih=>exact .agg vs cs hs h1 ih
 | tup vs cs hs hp ih=>exact .tup vs cs hs ih
 | ifc t v x h ih=>exact .ifc t v x ih
 | fn f va vb a b ha hb pa pb ia ib=>exact .fn f va vb a b ha hb ia ib
def Gl (Z : fV) : Prop:=∀ g cs,tn g = some cs→PRel Z (.pointer (some ⟨g,0,none⟩)) (.rf cs 0)
theorem Gl.mono {Z Z' : fV} (h : Gl Z) (hZ : SealLe Z Z') : Gl Z':=fun g cs hg=>(h g cs hg).mono hZ
def XP (w : World) (Pr : Nat→Prop) : Prop:=∀ g cs,zT g = some cs→(∃ ty fl,w.heap[g]? = some (.cells cs ty fl))∧Pr g
structure Gh where
 Z : fV
 γ : Nat→Option Nat
 κ : Nat→Nat
 β : Nat→Nat
def nr (G : Gh) (b off sz : Nat) (a : Option Addr) (cap : Nat) : Prop :=
 (G.γ b = none→cap = 0)∧∀ g,G.γ b = some g→off + cap * sz = G.κ b∧(cap = 0∨a = some ⟨g,G.β b + off,none⟩)
def lu (G : Gh) (b : Nat) (a : Option Addr) (n cap : Nat) : Prop :=
 (G.γ b = none→cap = n)∧∀ g,G.γ b = some g→a = some ⟨g,0,none⟩∧cap = G.κ b
inductive VRel (G : Gh) (B : Nat→AV) : Value→AV→Prop
 | p {v : Value} {x : AV} (h : PRel G.Z v x) : VRel G B v x
 | tok (a : Option Addr) (n cap : Nat) (cs : List AV) (b tip : Nat) (e : TypeId) (h : PRel G.Z (.slice a n cap) (.sl cs n .none)) (hb : 10000≤b) (hB : B b = .bt tip e) (hn : n≤tip)
   (hk : n = tip→lu G b a n cap) : VRel G B (.slice a n cap) (.sl cs n (.tok b))
 | loc (b off g : Nat) (cs : List AV) (ty : TypeId) (hb : 10000≤b) (hB : B b = .bc cs ty) (hg : G.γ b = some g) (hm : isM ty = false) : VRel G B (.pointer (some ⟨g,off,none⟩)) (.loc b off)
 | arr (b off n e cap g : Nat) (cs : List AV) (ty : TypeId) (hb : 10000≤b) (hB : B b = .bc cs ty) (hg : G.γ b = some g) (hn : n≤cap) (hm : isM ty = false) : VRel G B (.slice (some ⟨g,off,none⟩) n cap) (.arr b off n e)
 | mp (b g : Nat) (cs : List AV) (ty : TypeId) (hb : 10000≤b) (hB : B b = .bc cs ty) (hg : G.γ b = some g) (hm : isM ty = true) : VRel G B (.map (some g)) (.mp b)
 | ow (a : Option Addr) (n cap b off v : Nat) (cs : List AV) (v' : Nat) (e : TypeId) (sz : Nat) (hb : 10000≤b) (hB : B b = .br cs v' e sz) (hn : n≤cap) (ha : a = none→cap = 0) (hv : v≤v') (hk : v = v'→nr G b off sz a cap) : VRel G B (.slice a n cap) (.ow b off n v)
 | lo (g o b off v : Nat) (cs : List AV) (v' : Nat) (e : TypeId) (sz : Nat) (hb : 10000≤b) (hB : B b = .br cs v' e sz) (hv : v≤v') (hk : v = v'→G.γ b = some g∧o = G.β b + off) : VRel G B (.pointer (some ⟨g,o,none⟩)) (.lo b off v)
 | agg (vs : Array Value) (cs : List AV) (hs : vs.size = cs.length) (h1 : ∀ j,j < cs.length→(vs.getD j undef).oneCell' = true) (hp : ∀ j (h : j < cs.length),VRel G B (vs.getD j undef) cs[j]) : VRel G B (.agg vs) (.agg cs)
 | tup (vs : Array Value) (cs : List AV) (hs : vs.size = cs.length) (hp : ∀ j (h : j < cs.length),VRel G B (vs.getD j undef) cs[j]) : VRel G B (.tuple vs) (.tup cs)
 | ifc (t : TypeId) (v : Value) (x : AV) (h : VRel G B v x) : VRel G B (.iface t v) (.ifc t x)
 | fn (f : Fn) (va vb : Array Value) (a b : List AV) (ha : va.size = a.length) (hb : vb.size = b.length) (pa : ∀ j (h : j < a.length),VRel G B (va.getD j undef) a[j]) (pb : ∀ j (h : j < b.length),VRel G B (vb.getD j undef) b[j]) :
   VRel G B (.func f va vb) (.fn f a b)
def KStep (G G' : Gh) (k : Nat) (x y : AV) : Prop :=
 (∀ cs ty,x = .bc cs ty→(∃ cs',y = .bc cs' ty)∧G'.γ k = G.γ k) ∧
  (∀ n e,x = .bt n e→∃ n',y = .bt n' e∧(n < n'∨(n' = n∧G'.γ k = G.γ k∧G'.κ k = G.κ k))) ∧
  (∀ cs v e sz,x = .br cs v e sz→∃ cs' v',y = .br cs' v' e sz∧(v < v'∨(v' = v∧G'.γ k = G.γ k∧G'.κ k = G.κ k∧G'.β k = G.β k)))
def BStep (G : Gh) (B : Nat→AV) (G' : Gh) (B' : Nat→AV) : Prop :=
 SealLe G.Z G'.Z∧∀ k,10000≤k→KStep G G' k (B k) (B' k)
theorem KStep.u {G G' : Gh} {k : Nat} {x y : AV} (h : x = .u) : KStep G G' k x y:=by
 subst h;exact ⟨(fun _ _ h=>by cases h),(fun _ _ h=>by cases h),(fun _ _ _ _ h=>by cases h)⟩
theorem KStep.same {G G' : Gh} {k : Nat} {x y : AV} (h : y = x) (h1 : G'.γ k = G.γ k) (h2 : G'.κ k = G.κ k) (h3 : G'.β k = G.β k) : KStep G G' k x y:=by
 subst h;exact ⟨fun cs ty h=>⟨⟨cs,h⟩,h1⟩,fun n e h=>⟨n,h,.inr ⟨rfl,h1,h2⟩⟩,fun cs v e sz h=>⟨cs,v,h,.inr ⟨rfl,h1,h2,h3⟩⟩⟩
theorem KStep.bc {G G' : Gh} {k : Nat} {x y : AV} {cs cs' : List AV} {ty : TypeId} (h : x = .bc cs ty) (h' : y = .bc cs' ty) (h1 : G'.γ k = G.γ k) : KStep G G' k x y:=by
 subst h;subst h';exact ⟨(fun _ _ h=>by cases h;exact ⟨⟨cs',rfl⟩,h1⟩),(fun _ _ h=>by cases h),(fun _ _ _ _ h=>by cases h)⟩
theorem KStep.bt {G G' : Gh} {k : Nat} {x y : AV} {n n' : Nat} {e : TypeId} (h : x = .bt n e) (h' : y = .bt n' e) (h1 : n < n'∨(n' = n∧G'.γ k = G.γ k∧G'.κ k = G.κ k)) : KStep G G' k x y:=by
 subst h;subst h';exact ⟨(fun _ _ h=>by cases h),(fun _ _ h=>by cases h;exact ⟨n',rfl,h1⟩),(fun _ _ _ _ h=>by cases h)⟩
theorem KStep.br {G G' : Gh} {k : Nat} {x y : AV} {cs cs' : List AV} {v v' : Nat} {e : TypeId} {sz : Nat} (h : x = .br cs v e sz) (h' : y = .br cs' v' e sz) (h1 : v < v'∨(v' = v∧G'.γ k = G.γ k∧G'.κ k = G.κ k∧G'.β k = G.β k)) : KStep G G' k x y:=by
 subst h;subst h';exact ⟨(fun _ _ h=>by cases h),(fun _ _ h=>by cases h),(fun _ _ _ _ h=>by cases h;exact ⟨cs',v',rfl,h1⟩)⟩
theorem KStep.fo {G G' : Gh} {k : Nat} {x y : AV} (h : i7 x = true) : KStep G G' k x y:=by
 cases x with
 | fo rows=>exact ⟨(fun _ _ h=>by cases h),(fun _ _ h=>by cases h),(fun _ _ _ _ h=>by cases h)⟩
 | _=>cases h
theorem KStep.trans {G G' G'' : Gh} {i : Nat} {x y z : AV} (h : KStep G G' i x y) (k : KStep G' G'' i y z) : KStep G G'' i x z:=by
 refine ⟨fun cs ty hc=>?_,fun n e hc=>?_,fun cs v e sz hc=>?_⟩
 ·obtain ⟨⟨cs',h1⟩,h2⟩:=h.1 cs ty hc
  obtain ⟨h3,h4⟩:=k.1 cs' ty h1
  exact ⟨h3,h4.trans h2⟩
 ·obtain ⟨n',h1,h2⟩:=h.2.1 n e hc
  obtain ⟨n'',h3,h4⟩:=k.2.1 n' e h1
  refine ⟨n'',h3,?_⟩
  rcases h2 with h2 | ⟨rfl,h5,h6⟩ <;> rcases h4 with h4 | ⟨rfl,h7,h8⟩
  ·exact .inl (by omega)
  ·exact .inl h2
  ·exact .inl h4
  ·exact .inr ⟨rfl,h7.trans h5,h8.trans h6⟩
 ·obtain ⟨cs',v',h1,h2⟩:=h.2.2 cs v e sz hc
  obtain ⟨cs'',v'',h3,h4⟩:=k.2.2 cs' v' e sz h1
  refine ⟨cs'',v'',h3,?_⟩
  rcases h2 with h2 | ⟨rfl,h5,h6,h9⟩ <;> rcases h4 with h4 | ⟨rfl,h7,h8,h10⟩
  ·exact .inl (by omega)
  ·exact .inl h2
  ·exact .inl h4
  ·exact .inr ⟨rfl,h7.trans h5,h8.trans h6,h10.trans h9⟩
theorem BStep.congr {G : Gh} {B B' : Nat→AV} (h : ∀ k,10000≤k→B' k = B k) : BStep G B G B':=⟨.refl _,fun k hk=>.same (h k hk) rfl rfl rfl⟩
theorem BStep.refl (G : Gh) (B : Nat→AV) : BStep G B G B:=.congr fun _ _=>rfl
theorem BStep.trans {G G' G'' : Gh} {B B' B'' : Nat→AV} (h : BStep G B G' B') (k : BStep G' B' G'' B'') : BStep G B G'' B'':=⟨h.1.trans k.1,fun i hi=>(h.2 i hi).trans (k.2 i hi)⟩
theorem VRel.step {G G' : Gh} {B B' : Nat→AV} (hs : BStep G B G' B') {v : Value} {x : AV} (h : VRel G B v x) : VRel G' B' v x:=by
 induction h with
 | p h=>exact .p (h.mono hs.1)
 | tok a n cap cs b tip e h hb hB hn hk =>
  obtain ⟨tip',h1,h2⟩:=(hs.2 b hb).2.1 tip e hB
  refine .tok a n cap cs b tip' e (h.mono hs.1) hb h1 (by omega) fun hnt=>?_
  rcases h2 with h2 | ⟨rfl,h3,h4⟩
  ·omega
  ·have:=hk hnt
   unfold lu at *
   rw [h3,h4];exact this
 | loc b off g cs ty hb hB hg hm =>
  obtain ⟨⟨cs',h1⟩,h2⟩:=(hs.2 b hb).1 cs ty hB
  exact .loc b off g cs' ty hb h1 (h2.trans hg) hm
 | arr b off n e cap g cs ty hb hB hg hn hm =>
  obtain ⟨⟨cs',h1⟩,h2⟩:=(hs.2 b hb).1 cs ty hB
  exact .arr b off n e cap g cs' ty hb h1 (h2.trans hg) hn hm
 | mp b g cs ty hb hB hg hm =>
  obtain ⟨⟨cs',h1⟩,h2⟩:=(hs.2 b hb).1 cs ty hB
  exact .mp b g cs' ty hb h1 (h2.trans hg) hm
 | ow a n cap b off v cs v' e sz hb hB hn ha hv hk =>
  obtain ⟨cs',v'',h1,h2⟩:=(hs.2 b hb).2.2 cs v' e sz hB
  refine .ow a n cap b off v cs' v'' e sz hb h1 hn ha (by omega) fun hvv=>?_
  rcases h2 with h2 | ⟨rfl,h3,h4,h5⟩
  ·omega
  ·have:=hk hvv
   unfold nr at *
   rw [h3,h4,h5];exact this
 | lo g o b off v cs v' e sz hb hB hv hk =>
  obtain ⟨cs',v'',h1,h2⟩:=(hs.2 b hb).2.2 cs v' e sz hB
  refine .lo g o b off v cs' v'' e sz hb h1 (by omega) fun hvv=>?_
  rcases h2 with h2 | ⟨rfl,h3,h4,h5⟩
  ·omega
  ·have:=hk hvv
   rw [h3,h5];exact this
 | agg vs cs hs h1 hp ih=>exact .agg vs cs hs h1 ih
 | tup vs cs hs hp ih=>exact .tup vs cs hs ih
 | ifc t v x h ih=>exact .ifc t v x ih
 | fn f va vb a b ha hb pa pb ia ib=>exact .fn f va vb a b ha hb ia ib
def FitsC (c : Array Value) (cs : List AV) : Prop:=cs.length≤c.size
theorem FitsC.map {c : Array Value} {cs : List AV} (h : FitsC c cs) (f : AV→AV) : FitsC c (cs.map f):=by unfold FitsC;rw [List.length_map];exact h
def xx (G : Gh) (B : Nat→AV) (w : World) (g : Nat) (cs : List AV) (ty : TypeId) : Prop :=
 ∃ c,w.heap[g]? = some (.cells c ty (0,0))∧FitsC c cs∧(∀ o,G.Z g o = none) ∧
  ∀ j (h : j < cs.length),VRel G B (c.getD j undef) cs[j]∧(c.getD j undef).oneCell' = true
def dT (es : Array MapEntry) : List AV:=es.toList.flatMap fun e=>[.c e.key,.c e.val]
theorem mM {es : Array MapEntry} {x : AV} (h : x ∈ dT es) : ∃ v,x = .c v:=by
 unfold dT at h
 obtain ⟨e,_,he⟩:=List.mem_flatMap.1 h
 simp at he
 rcases he with rfl | rfl <;> exact ⟨_,rfl⟩
def MapAt (G : Gh) (w : World) (g : Nat) (cs : List AV) : Prop:=∃ es clock,w.heap[g]? = some (.map es clock)∧(∀ o,G.Z g o = none)∧cs = dT es∧MapKept.Stamped es clock
theorem MapAt.map {G : Gh} {w : World} {g : Nat} {cs : List AV} (h : MapAt G w g cs) (f : AV→AV) (hf : ∀ x,f (.c x) = .c x) : MapAt G w g (cs.map f):=by
 obtain ⟨es,clock,h1,h2,rfl,h4⟩:=h
 refine ⟨es,clock,h1,h2,?_,h4⟩
 unfold dT
 induction es.toList with
 | nil=>rfl
 | cons e r ih=>rw [List.flatMap_cons,List.map_append,ih];simp [hf]
def BxAt (G : Gh) (B : Nat→AV) (w : World) (g : Nat) (cs : List AV) (ty : TypeId) : Prop:=(isM ty = false∧xx G B w g cs ty)∨(isM ty = true∧MapAt G w g cs)
def zN (P : Program) (G : Gh) (w : World) (g cap n : Nat) (e : TypeId) : Prop :=
 ∃ c,w.heap[g]? = some (.cells c e (0,0))∧n≤cap∧cap≤maxLen∧c.size = cap * P.cellsOf e∧∀ o,n * P.cellsOf e≤o→G.Z g o = none
def OwnAt (P : Program) (G : Gh) (B : Nat→AV) (w : World) (k g : Nat) (cs : List AV) (e : TypeId) (sz : Nat) : Prop :=
 ∃ c,w.heap[g]? = some (.cells c e (0,0))∧c.size = G.β k + G.κ k∧sz = P.cellsOf e∧cs.length≤G.κ k∧(∀ o,G.Z g o = none) ∧
  ∀ j (h : j < cs.length),VRel G B (c.getD (G.β k + j) undef) cs[j]∧(c.getD (G.β k + j) undef).oneCell' = true
def BoxAt (P : Program) (G : Gh) (B : Nat→AV) (w : World) (k g : Nat) : Prop :=
 (∃ cs ty,B k = .bc cs ty∧BxAt G B w g cs ty)∨(∃ n e,B k = .bt n e∧zN P G w g (G.κ k) n e)∨∃ cs v e sz,B k = .br cs v e sz∧OwnAt P G B w k g cs e sz
structure BSim (P : Program) (Pr : Nat→Prop) (G : Gh) (B : Nat→AV) (w : World) : Prop where
 agree : ∀ b o v,G.Z b o = some v→w.cell? ⟨b,o,none⟩ = some v∧v.oneCell' = true
 box : ∀ k g,G.γ k = some g→10000≤k∧¬ Pr g∧BoxAt P G B w k g
 real : ∀ k cs ty,10000≤k→B k = .bc cs ty→∃ g,G.γ k = some g
 inj : ∀ k k' g,G.γ k = some g→G.γ k' = some g→k = k'
 gl : Gl G.Z
theorem BxAt.to {G G' : Gh} {B B' : Nat→AV} {w w' : World} {g : Nat} {cs : List AV} {ty : TypeId} (h : BxAt G B w g cs ty) (f : AV→AV) (hf : ∀ x,f (.c x) = .c x) (hr : ∀ v x,VRel G B v x→VRel G' B' v (f x)) (hw : w'.heap[g]? = w.heap[g]?)
  (hz : ∀ o,G.Z g o = none→G'.Z g o = none) : BxAt G' B' w' g (cs.map f) ty:=by
 rcases h with ⟨hm,c,h2,h3,h4,h5⟩ | ⟨hm,h⟩
 ·refine .inl ⟨hm,c,hw.trans h2,h3.map f,fun o=>hz o (h4 o),fun j hj=>?_⟩
  rw [List.getElem_map]
  have:=h5 j (by simpa using hj)
  exact ⟨hr _ _ this.1,this.2⟩
 ·obtain ⟨es,clock,h1,h2,h3,h4⟩:=h.map f hf
  exact .inr ⟨hm,es,clock,hw.trans h1,fun o=>hz o (h2 o),h3,h4⟩
theorem BxAt.z {G : Gh} {B : Nat→AV} {w : World} {g : Nat} {cs : List AV} {ty : TypeId} (h : BxAt G B w g cs ty) : ∀ o,G.Z g o = none:=by
 rcases h with ⟨_,c,h2,h3,h4,h5⟩ | ⟨_,es,clock,h1,h2,h3⟩
 ·exact h4
 ·exact h2
theorem OwnAt.to {P : Program} {G G' : Gh} {B B' : Nat→AV} {w w' : World} {k k' g : Nat} {cs : List AV} {e : TypeId} {sz : Nat} (h : OwnAt P G B w k g cs e sz) (f : AV→AV) (hr : ∀ v x,VRel G B v x→VRel G' B' v (f x)) (hw : w'.heap[g]? = w.heap[g]?)
  (hκ : G'.κ k' = G.κ k) (hβ : G'.β k' = G.β k) (hz : ∀ o,G.Z g o = none→G'.Z g o = none) : OwnAt P G' B' w' k' g (cs.map f) e sz:=by
 obtain ⟨c,h1,h2,h3,h4,h5,h6⟩:=h
 refine ⟨c,hw.trans h1,by rw [hκ,hβ];exact h2,h3,by rw [hκ,List.length_map];exact h4,fun o=>hz o (h5 o),fun j hj=>?_⟩
 rw [List.getElem_map,hβ]
 have:=h6 j (by simpa using hj)
 exact ⟨hr _ _ this.1,this.2⟩
theorem BoxAt.step {P : Program} {G G' : Gh} {B B' : Nat→AV} {w w' : World} {k g : Nat} (h : BoxAt P G B w k g) (hs : BStep G B G' B') (hB : B' k = B k) (hk : G'.κ k = G.κ k) (hβ : G'.β k = G.β k) (hw : w'.heap[g]? = w.heap[g]?)
  (hz : ∀ o,G'.Z g o = G.Z g o) : BoxAt P G' B' w' k g:=by
 rcases h with ⟨cs,ty,h1,h2⟩ | ⟨n,e,h1,c,h2,h3,h4,h5,h6⟩ | ⟨cs,v,e,sz,h1,h2⟩
 ·have:=h2.to id (fun _=>rfl) (fun _ _ h=>h.step hs) hw (fun o h=>(hz o).trans h)
  rw [List.map_id] at this
  exact .inl ⟨cs,ty,hB.trans h1,this⟩
 ·rw [← hk] at h3 h4 h5
  exact .inr (.inl ⟨n,e,hB.trans h1,c,hw.trans h2,h3,h4,h5,fun o ho=>(hz o).trans (h6 o ho)⟩)
 ·have:=h2.to (k':=k) id (fun _ _ h=>h.step hs) hw hk hβ (fun o h=>(hz o).trans h)
  rw [List.map_id] at this
  exact .inr (.inr ⟨cs,v,e,sz,hB.trans h1,this⟩)
theorem BoxAt.lt {P : Program} {G : Gh} {B : Nat→AV} {w : World} {k g : Nat} (h : BoxAt P G B w k g) : g < w.heap.size:=by
 rcases h with ⟨cs,ty,_,⟨_,c,h2,_⟩ | ⟨_,es,c,h2,_⟩⟩ | ⟨n,e,_,c,h2,_⟩ | ⟨cs,v,e,sz,_,c,h2,_⟩ <;> exact (Array.getElem?_eq_some_iff.1 h2).1
theorem BoxAt.not_fo {P : Program} {G : Gh} {B : Nat→AV} {w : World} {k g : Nat} (h : BoxAt P G B w k g) (hu : i7 (B k) = true) : False:=by
 rcases h with ⟨_,_,h1,_⟩ | ⟨_,_,h1,_⟩ | ⟨_,_,_,_,h1,_⟩ <;> rw [h1] at hu <;> cases hu
theorem BoxAt.not_u {P : Program} {G : Gh} {B : Nat→AV} {w : World} {k g : Nat} (h : BoxAt P G B w k g) (hu : B k = .u) : False:=by
 rcases h with ⟨_,_,h1,_⟩ | ⟨_,_,h1,_⟩ | ⟨_,_,_,_,h1,_⟩ <;> rw [hu] at h1 <;> cases h1
theorem BSim.congr {P : Program} {Pr : Nat→Prop} {G : Gh} {B B' : Nat→AV} {w : World} (h : BSim P Pr G B w) (hB : ∀ k,10000≤k→B' k = B k) : BSim P Pr G B' w :=
 ⟨h.agree,fun k g hk=>by
   obtain ⟨h1,h2,h3⟩:=h.box k g hk
   exact ⟨h1,h2,h3.step (.congr hB) (hB k h1) rfl rfl rfl fun _=>rfl⟩,
  fun k cs ty hk hc=>h.real k cs ty hk ((hB k hk).symm.trans hc),h.inj,h.gl⟩
structure Env where
 P : Program
 N : Nat
 w0 : World
 G0 : Gh
 B0 : Nat→AV
 Pr : Nat→Prop
 hB0 : (∀ k,k < 20000→B0 k = .u)∧XP w0 Pr
structure Fr (E : Env) (w : World) : Prop where
 os : w.os = E.w0.os
 tape : w.tape = E.w0.tape
 output : w.output = E.w0.output
 size : E.w0.heap.size≤w.heap.size
 block : ∀ b,E.Pr b→b < E.w0.heap.size∧w.heap[b]? = E.w0.heap[b]?
structure Sim (E : Env) (σ : bv) (a : Act) (w : World) (G : Gh) : Prop where
 defers : a.defers = []
 tsize : a.tmps.size = E.N
 slots : ∀ t,t < 10000→VRel G (lm σ) (a.tmps.getD t undef) (be σ t)
 st : BSim E.P E.Pr G (lm σ) w
 fr : Fr E w
 step : BStep E.G0 E.B0 G (lm σ)
 zp : ∀ b o,E.Pr b→G.Z b o = E.G0.Z b o
structure WStep (Pr : Nat→Prop) (w w' : World) : Prop where
 os : w'.os = w.os
 tape : w'.tape = w.tape
 output : w'.output = w.output
 size : w.heap.size≤w'.heap.size
 block : ∀ b,Pr b→b < w.heap.size→w'.heap[b]? = w.heap[b]?
theorem WStep.refl (Pr : Nat→Prop) (w : World) : WStep Pr w w:=⟨rfl,rfl,rfl,Nat.le_refl _,fun _ _ _=>rfl⟩
theorem Fr.next {E : Env} {w w' : World} (h : Fr E w) (hw : WStep E.Pr w w') : Fr E w' :=
 ⟨hw.os.trans h.os,hw.tape.trans h.tape,hw.output.trans h.output,Nat.le_trans h.size hw.size,fun b hb=>⟨(h.block b hb).1,(hw.block b hb (Nat.lt_of_lt_of_le (h.block b hb).1 h.size)).trans (h.block b hb).2⟩⟩
theorem Sim.put {E : Env} {σ σ' : bv} {a : Act} {w w' : World} {G G' : Gh} (h : Sim E σ a w G) {dst : Option Nat} {v : Value} {x : AV} (hd : ∀ d,dst = some d→d < E.N∧d < 10000)
  (hs : BStep G (lm σ) G' (lm σ')) (hst : BSim E.P E.Pr G' (lm σ') w') (hw : WStep E.Pr w w') (hzp : ∀ b o,E.Pr b→G'.Z b o = G.Z b o) (hx : VRel G' (lm σ') v x)
  (hm : ∀ t,t < 10000→be σ' t = if some t = dst then x else be σ t) : Sim E σ' (a.put dst v) w' G':=by
 refine ⟨?_,?_,fun t ht=>?_,hst,h.fr.next hw,h.step.trans hs,fun b o hb=>(hzp b o hb).trans (h.zp b o hb)⟩
 ·cases dst <;> simp [Act.put,h.defers]
 ·cases dst <;> simp [Act.put,h.tsize]
 ·rw [hm t ht]
  cases dst with
  | none=>simp only [Act.put];rw [if_neg (by simp)];exact (h.slots t ht).step hs
  | some d =>
   obtain ⟨hd1,hd2⟩:=hd d rfl
   by_cases htd : t = d
   ·subst htd
    rw [if_pos rfl]
    have : (a.put (some t) v).tmps.getD t undef = v:=by
     simp [Act.put,Array.getD,h.tsize,hd1]
    rw [this];exact hx
   ·rw [if_neg (by simpa using htd)]
    have : (a.put (some d) v).tmps.getD t undef = a.tmps.getD t undef:=by
     simp [Act.put,Array.getD_eq_getD_getElem?,Array.getElem?_setIfInBounds_ne (Ne.symm htd)]
    rw [this];exact (h.slots t ht).step hs
end Go.Proofs.YtmpdocplcgbpkaaGreatDoor
namespace Go.Proofs.YtmpdocplcgbpkaaGreatDoor
set_option linter.unusedSimpArgs false
set_option linter.unusedVariables false
open Go.RowKit
def dd (bxs : List AV) (k : Nat) : AV:=if 20000≤k then bxs.getD (k - 20000) .u else .u
def bP (bxs : List AV) : Nat→AV:=lk (dd bxs)
def AFn (P : Program) (f : FuncId) (args bxs : List AV) (r : AV) (bxs' : List AV) : Prop :=
 ∀ (w : World) (G : Gh) (vs : Array Value),BSim P (fun b=>b < w.heap.size∧∀ k,G.γ k ≠ some b) G (bP bxs) w→XP w (fun b=>b < w.heap.size∧∀ k,G.γ k ≠ some b)→vs.size = args.length →
  (∀ j (h : j < args.length),VRel G (bP bxs) (vs.getD j undef) args[j]) →
  Calls P f vs w fun e w'=>∃ v G',e = .returned v∧VRel G' (bP bxs') v r∧BSim P (fun b=>b < w.heap.size∧∀ k,G.γ k ≠ some b) G' (bP bxs') w' ∧
   WStep (fun b=>b < w.heap.size∧∀ k,G.γ k ≠ some b) w w'∧BStep G (bP bxs) G' (bP bxs') ∧
   ∀ b o,b < w.heap.size→(∀ k,G.γ k ≠ some b)→G'.Z b o = G.Z b o
inductive TR where
 | done (d : List (Nat × AV))
 | rd (k : Nat) (f : AV→TR)
 | need (p : Prop) (t : TR)
 | ex (p : Value→Prop) (f : Value→TR)
 | call (f : FuncId) (args bxs : List AV) (k : AV→List AV→TR)
def TR.wp (P : Program) : TR→bv→(List Nat→List (Nat × AV)→Prop)→Prop
 | .done d,_,K=>K [] d
 | .rd k f,σ,K=>(f (be σ k)).wp P σ fun R d=>K (k :: R) d
 | .need p t,σ,K=>p∧t.wp P σ K
 | .ex p f,σ,K=>∃ v,p v∧(f v).wp P σ K
 | .call f args bxs k,σ,K=>∃ r bxs',AFn P f args bxs r bxs'∧(k r bxs').wp P σ K
theorem TR.mono {P : Program} {K K' : List Nat→List (Nat × AV)→Prop} (hK : ∀ R d,K R d→K' R d) : ∀ {t : TR} {σ : bv},t.wp P σ K→t.wp P σ K'
 | .done d,_,h=>hK _ _ h
 | .rd k f,_,h=>TR.mono (K:=fun R d=>K (k :: R) d) (K':=fun R d=>K' (k :: R) d) (fun _ _=>hK _ _) (t:=f _) h
 | .need p t,_,h=>⟨h.1,TR.mono hK (t:=t) h.2⟩
 | .ex p f,_,⟨v,h1,h2⟩=>⟨v,h1,TR.mono hK (t:=f v) h2⟩
 | .call f args bxs k,_,⟨r,b,h1,h3⟩=>⟨r,b,h1,TR.mono hK (t:=k r b) h3⟩
theorem TR.frame {P : Program} : ∀ {t : TR} {σ : bv} {K : List Nat→List (Nat × AV)→Prop},t.wp P σ K →
  ∃ R d,K R d∧∀ σ',(∀ k ∈ R,be σ' k = be σ k)→t.wp P σ' fun R' d'=>R' = R∧d' = d
 | .done d,_,_,h=>⟨[],d,h,fun _ _=>⟨rfl,rfl⟩⟩
 | .rd k f,σ,K,h=>by
  obtain ⟨R,d,h1,h2⟩:=TR.frame (t:=f (be σ k)) (K:=fun R d=>K (k :: R) d) h
  refine ⟨k :: R,d,h1,fun σ' hσ=>?_⟩
  have:=h2 σ' fun i hi=>hσ i (by simp [hi])
  show (f (be σ' k)).wp P σ' _
  rw [hσ k (by simp)]
  exact TR.mono (fun R' d' ⟨h,h'⟩=>⟨by rw [h],h'⟩) this
 | .need p t,σ,K,h=>by
  obtain ⟨R,d,h1,h2⟩:=TR.frame (t:=t) h.2
  exact ⟨R,d,h1,fun σ' hσ=>⟨h.1,h2 σ' hσ⟩⟩
 | .ex p f,σ,K,⟨v,h0,h⟩=>by
  obtain ⟨R,d,h1,h2⟩:=TR.frame (t:=f v) h
  exact ⟨R,d,h1,fun σ' hσ=>⟨v,h0,h2 σ' hσ⟩⟩
 | .call f args bxs k,σ,K,⟨r,b,h1,h3⟩=>by
  obtain ⟨R,d,h4,h5⟩:=TR.frame (t:=k r b) h3
  exact ⟨R,d,h4,fun σ' hσ=>⟨r,b,h1,h5 σ' hσ⟩⟩
def bZ (P : Program) (t : TypeId) : Option Nat:=(P.info? t).map (·.size)
def cx (P : Program) (t : TypeId) : Bool:=match bZ P t with | some (_ + 1)=>true | _=>false
def bM (P : Program) (t : TypeId) : Option Bool:=(P.underlying t).map fun | .struct _ | .array _ _=>true | _=>false
def aT (P : Program) (t : TypeId) : Option TypeId:=(P.underlying t).bind fun | .slice e=>some e | _=>none
def bw (P : Program) (t : TypeId) : Option (List Value):=(P.info? t).bind fun i=>i.zero.map fun z=>z.cells.toList
def bQ (P : Program) (t : TypeId) (i : Nat) : Option (Nat × TypeId):=(P.underlying t).bind fun | .struct fs=>(fs[i]?).map fun f=>(f.offset,f.type) | _=>none
def bo (P : Program) (t : TypeId) : Option IntKind:=(P.underlying t).bind fun | .int k=>some k | _=>none
def bm (P : Program) (t : TypeId) : Bool:=match P.underlying t with | some .string=>true | _=>false
def aI (P : Program) (t : TypeId) : Bool:=match P.underlying t with | some (.interface _)=>false | some _=>true | none=>false
def aP (P : Program) (t : TypeId) : Nat:=((P.info? t).map (·.bytes)).getD 0
def tp (g : Nat) : AV:=match tn g with | some cs=>.rf cs 0 | none=>.c (.pointer (some ⟨g,0,none⟩))
def ofV : Value→AV
 | .slice none 0 0=>.sl [] 0 .full
 | v=>.c v
def rdo (x : Operand) (f : AV→TR) : TR :=
 match x with
 | .tmp t=>.need (t < 10000) (.rd t f)
 | .const v=>f (ofV v)
 | .global g=>f (tp g)
 | .func i=>f (.fn (.func i) [] [])
def rdos : List Operand→(List AV→TR)→TR
 | [],f=>f []
 | x :: r,f=>rdo x fun v=>rdos r fun vs=>f (v :: vs)
def dn (o : Oper) (v : AV) : List (Nat × AV):=match o.dst with | none=>[] | some d=>[(d,v)]
def c9 (N : Nat) (o : Oper) : Prop:=match o.dst with | none=>True | some d=>d < N∧d < 10000
def ret (N : Nat) (o : Oper) (v : AV) : TR:=.need (c9 N o) (.done (dn o v))
def fail : TR:=.need False (.done [])
def AV.one : AV→Bool
 | .c x=>x.oneCell'
 | .sl .. | .rf .. | .ifc .. | .fn .. | .loc .. | .arr .. | .mp .. | .ow .. | .lo ..=>true
 | _=>false
def bX : AV→List AV
 | .agg cs=>cs
 | x=>[x]
def ee : List AV→Bool
 | []=>true
 | x :: r=>x.one && ee r
def cN : Nat→AV→Option AV
 | 0,_=>none
 | _ + 1,.c x=>some (.c x)
 | _ + 1,.sl cs n (.tok _)=>some (.sl cs n .none)
 | _ + 1,.sl cs n o=>some (.sl cs n o)
 | _ + 1,.rf cs o=>some (.rf cs o)
 | k + 1,.ifc t x=>(cN k x).map (.ifc t)
 | k + 1,.agg cs=>(cs.mapM (cN k)).map .agg
 | k + 1,.tup cs=>(cs.mapM (cN k)).map .tup
 | k + 1,.fn f a b=>match a.mapM (cN k),b.mapM (cN k) with | some a',some b'=>some (.fn f a' b') | _,_=>none
 | _,_=>none
end Go.Proofs.YtmpdocplcgbpkaaGreatDoor
namespace Go.Proofs.YtmpdocplcgbpkaaGreatDoor
set_option linter.unusedSimpArgs false
set_option linter.unusedVariables false
open Go.RowKit
def putAt (cs : List AV) (o : Nat) (vs : List AV) : List AV:=cs.take o ++ vs ++ cs.drop (o + vs.length)
def rdRow (k : Nat) (f : List AV→Nat→TypeId→Nat→(List AV→Nat→Nat × AV)→TR) : TR :=
 if k < 1000000 then .rd k fun
  | .br cs v e sz=>f cs v e sz fun cs' v'=>(k,.br cs' v' e sz)
  | _=>fail
 else .need (10000≤df k) (.rd (df k) fun
  | .fo rows=>(match gU rows (d7 k) with
   | .br cs v e sz=>f cs v e sz fun cs' v'=>(df k,.fo (rows.set (d7 k) (.br cs' v' e sz)))
   | _=>fail)
  | _=>fail)
def kLd (P : Program) (t : TypeId) (cs : List AV) (off : Nat) (f : AV→TR) : TR :=
 match bZ P t,bM P t with
 | some n,some true=>.need (off + n≤cs.length) (f (.agg ((cs.drop off).take n)))
 | some _,some false=>.need (off < cs.length) (f (cs.getD off .u))
 | _,_=>fail
def my (P : Program) (t : TypeId) (a : AV) (f : AV→TR) : TR :=
 match a with
 | .loc b off=>.rd b fun | .bc cs _=>kLd P t cs off f | _=>fail
 | .rf cs off=>kLd P t cs off f
 | .lo b off v=>rdRow b fun cs v' _ _ _=>.need (v = v') (kLd P t cs off f)
 | _=>fail
def pp (P : Program) (N : Nat) (o : Oper) (t : TypeId) (a v : AV) : TR :=
 match a with
 | .loc b off=>.rd b fun
  | .bc cs ty=>.need (bZ P t = some (bX v).length∧off + (bX v).length≤cs.length∧ee (bX v) = true∧c9 N o) (.done ((b,.bc (putAt cs off (bX v)) ty) :: dn o .u))
  | _=>fail
 | .lo b off vn=>rdRow b fun cs v' e sz wr=>.need (vn = v'∧bZ P t = some (bX v).length∧off + (bX v).length≤cs.length∧ee (bX v) = true∧c9 N o) (.done (wr (putAt cs off (bX v)) v' :: dn o .u))
 | _=>fail
def o8 (P : Program) (N : Nat) (o : Oper) (t : TypeId) : TR :=
 match o.dst,bw P t with
 | some d,some z=>.need (c9 N o) (.rd (10000 + d) fun | .u=>.need (ee (z.map ofV) = true∧isM t = false) (.done [(10000 + d,.bc (z.map ofV) t),(d,.loc (10000 + d) 0)]) | _=>fail)
 | _,_=>fail
def yt (N : Nat) (o : Oper) (t : TypeId) (v : AV) : TR :=
 match o.dst with
 | some d=>.need (c9 N o) (.rd (10000 + d) fun | .u=>.need (ee (bX v) = true∧isM t = false) (.done [(10000 + d,.bc (bX v) t),(d,.loc (10000 + d) 0)]) | _=>fail)
 | _=>fail
def nu (N : Nat) (o : Oper) (v : AV) : TR :=
 match v with
 | .loc b off=>ret N o (.loc b off)
 | .lo b off v=>ret N o (.lo b off v)
 | .rf cs off=>ret N o (.rf cs off)
 | .fn (.func i) a b=>ret N o (.fn (.func i) a b)
 | .ifc t x=>ret N o (.ifc t x)
 | _=>fail
def iL (P : Program) (N : Nat) (o : Oper) (s : TypeId) (a : AV) (i : Nat) : TR :=
 match bQ P s i with
 | some (off,ft)=>.need (cx P ft = true) (match a with
  | .loc b o'=>ret N o (.loc b (o' + off))
  | .lo b o' v=>ret N o (.lo b (o' + off) v)
  | .rf cs o'=>ret N o (.rf cs (o' + off))
  | _=>fail)
 | none=>fail
def ph (P : Program) (N : Nat) (o : Oper) (s : TypeId) (a : AV) (i : Nat) : TR :=
 match bQ P s i,a with
 | some (off,ft),.agg cs=>kLd P ft cs off fun v=>ret N o v
 | _,_=>fail
def iM (P : Program) (N : Nat) (o : Oper) (t : TypeId) (a i : AV) : TR :=
 match (aT P t).bind (bZ P),a,i with
 | some sz,.sl cs n _,.c (.int _ z)=>.need (0≤z∧z < (n : Int)) (ret N o (.rf cs (z.toNat * sz)))
 | some sz,.arr b off n _,.c (.int _ z)=>.need (0≤z∧z < (n : Int)) (ret N o (.loc b (off + z.toNat * sz)))
 | some sz,.ow b off n v,.c (.int _ z)=>rdRow b fun _ v' _ _ _=>.need (v = v'∧0≤z∧z < (n : Int)) (ret N o (.lo b (off + z.toNat * sz) v))
 | _,_,_=>fail
def pi (P : Program) (N : Nat) (o : Oper) (t : TypeId) (a i : AV) : TR :=
 match bm P t,a,i with
 | true,.c (.string s),.c (.int _ z)=>.need (0≤z∧z < (s.size : Int)) (ret N o (.c (.int .u8 (s.data.toList.getD z.toNat 0).toNat)))
 | _,_,_=>fail
def mv (op : BinOp) (k : IntKind) (a b : Int) : Option Value :=
 match op with
 | .add=>some (.int k (k.wrap (a + b)))
 | .sub=>some (.int k (k.wrap (a - b)))
 | .mul=>some (.int k (k.wrap (a * b)))
 | .quo=>if b = 0 then none else some (.int k (k.wrap (a.tdiv b)))
 | .rem=>if b = 0 then none else some (.int k (a.tmod b))
 | .eql=>some (.bool (decide (a = b)))
 | .neq=>some (.bool (!decide (a = b)))
 | .lss=>some (.bool (decide (a < b)))
 | .leq=>some (.bool (decide (a≤b)))
 | .gtr=>some (.bool (decide (b < a)))
 | .geq=>some (.bool (decide (b≤a)))
 | .and=>some (.int k (bits .and k a b))
 | .or=>some (.int k (bits .or k a b))
 | .xor=>some (.int k (bits .xor k a b))
 | .shl=>if 0≤b then some (.int k (k.wrap (a * 2 ^ min b.toNat k.bits))) else none
 | .shr=>if 0≤b then some (.int k (a.fdiv (2 ^ min b.toNat k.bits))) else none
 | _=>none
def kB : BinOp→Bool
 | .shl | .shr=>true
 | _=>false
def zD : AV→Option Value
 | .c x=>some x
 | _=>none
def gJ : AV→Option Value
 | .agg l=>(l.mapM zD).map fun xs=>.agg xs.toArray
 | .c x=>some x
 | .ifc t x=>(gJ x).map (.iface t)
 | _=>none
def iK (P : Program) (N : Nat) (o : Oper) (op : BinOp) (t : TypeId) (x y : Operand) (vx vy : Value) : TR :=
 .ex (fun v=>∀ w,((do eqGuard op t x y vx vy;binOp op t vx vy) : Sem Value).run P w = .ok v w) fun v=>ret N o (.c v)
def iE (op : BinOp) : Option Bool :=
 match op with
 | .eql=>some true
 | .neq=>some false
 | _=>none
def k7 (P : Program) (N : Nat) (o : Oper) (op : BinOp) (t : TypeId) (x y : Operand) (a b : AV) : TR :=
 match a,b with
 | .c (.int k z),.c (.int k' z')=>.need (k = k'∨kB op = true) (match mv op k z z' with | some v=>ret N o (.c v) | none=>fail)
 | .ifc _ _,.c .nilIface=>match iE op with | some r=>.need (aI P t = false∧(P.underlying t).isSome = true) (ret N o (.c (.bool (!r)))) | none=>fail
 | .c .nilIface,.ifc _ _=>match iE op with | some r=>.need (aI P t = false∧(P.underlying t).isSome = true) (ret N o (.c (.bool (!r)))) | none=>fail
 | a,b=>match gJ a,gJ b with
  | some vx,some vy=>iK P N o op t x y vx vy
  | _,_=>fail
def kUn (N : Nat) (o : Oper) (op : UnOp) (a : AV) : TR :=
 match op,a with
 | .not,.c (.bool b)=>ret N o (.c (.bool (!b)))
 | .neg,.c (.int k n)=>ret N o (.c (.int k (k.wrap (0 - n))))
 | _,_=>fail
def nT (N : Nat) (o : Oper) (c : AV) (x y : AV) : TR :=
 match c with
 | .c (.bool b)=>ret N o (if b then x else y)
 | _=>fail
def go (b : UInt8) : AV:=.c (.int .u8 (b.toNat : Int))
def ct : List AV→List UInt8
 | []=>[]
 | .c (.int _ z) :: r=>UInt8.ofNat z.toNat :: ct r
 | _ :: r=>0 :: ct r
def kC (P : Program) (N : Nat) (o : Oper) (src dst : TypeId) (a : AV) : TR :=
 match a with
 | .c (.int _ n)=>match bo P dst with | some k=>.need ((P.underlying src).isSome = true) (ret N o (.c (.int k (k.wrap n)))) | none=>fail
 | .c (.string s) =>
  if bm P dst then .need ((P.underlying src).isSome = true) (ret N o (.c (.string s)))
  else match aT P dst with
  | some e=>  .need (bm P src = true∧bo P e = some .u8) (ret N o (.sl (s.data.toList.map go) s.size .none))
  | none=>fail
 | .sl cs n _=>match aT P src with
  | some e=>.need (bm P dst = true∧bo P e = some .u8∧n = cs.length∧cs = (ct cs).map go) (ret N o (.c (.string ⟨(ct cs).toArray⟩)))
  | none=>fail
 | .arr b 0 n _=>match aT P src with
  | some e=>.rd b fun
   | .bc cs _=>.need (bm P dst = true∧bo P e = some .u8∧n = cs.length∧cs = (ct cs).map go) (ret N o (.c (.string ⟨(ct cs).toArray⟩)))
   | _=>fail
  | none=>fail
 | .ow b 0 n v=>match aT P src with
  | some e=>rdRow b fun cs v' _ _ _=>.need (v = v'∧bm P dst = true∧bo P e = some .u8∧n = cs.length∧cs = (ct cs).map go) (ret N o (.c (.string ⟨(ct cs).toArray⟩)))
  | none=>fail
 | _=>fail
def sr (P : Program) (N : Nat) (o : Oper) (t : TypeId) (a : AV) : TR:=.need (aI P t = true) (ret N o (.ifc t a))
def ik (N : Nat) (o : Oper) (a : AV) (i : Nat) : TR :=
 match a with
 | .tup cs=>.need (i < cs.length) (ret N o (cs.getD i .u))
 | _=>fail
def jg (place : Nat→Option (Nat × Nat)) : List AV→List (Nat × AV)→Option (List AV)
 | cs,[]=>some cs
 | cs,(i,v) :: r=>match place i with
  | some (off,size)=>if (bX v).length = size∧off + size≤cs.length∧ee (bX v) = true then jg place (putAt cs off (bX v)) r else none
  | none=>none
def cP (P : Program) (t : TypeId) : Option (List (Nat × Nat)):=(P.underlying t).bind fun | .struct fs=>fs.toList.mapM fun f=>(P.info? f.type).map fun i=>(f.offset,i.size) | _=>none
def pf (P : Program) (N : Nat) (o : Oper) (t : TypeId) (parts : List (Nat × AV)) : TR :=
 match cP P t,bw P t with
 | some pl,some z=>match jg (fun i=>pl[i]?) (z.map ofV) parts with
  | some cs=>.need (ee (z.map ofV) = true) (ret N o (.agg cs))
  | none=>fail
 | _,_=>fail
def jU (z : List AV) : Nat→List AV
 | 0=>[]
 | n + 1=>z ++ jU z n
def gQ (P : Program) (N : Nat) (o : Oper) (t : TypeId) (len : Nat) (parts : List (Nat × AV)) : TR :=
 match (aT P t),(aT P t).bind (bZ P),(aT P t).bind (bw P) with
 | some e,some sz,some z=>match parts.mapM fun p=>(cN 4 p.2).map fun v=>(p.1,v) with
  | some ps=>match jg (fun i=>some (i * sz,sz)) (jU (z.map ofV) len) ps with
   | some cs=>.need (ee (z.map ofV) = true∧z.length = sz∧len * sz≤16777216) (ret N o (.sl cs len .full))
   | none=>fail
  | none=>match jg (fun i=>some (i * sz,sz)) (jU (z.map ofV) len) parts,o.dst with
   | some cs,some d=>.need (c9 N o∧ee (z.map ofV) = true∧z.length = sz∧len * sz≤16777216) (.rd (10000 + d) fun | .u=>.done [(10000 + d,.br cs 0 e sz),(d,.ow (10000 + d) 0 len 0)] | _=>fail)
   | _,_=>fail
 | _,_,_=>fail
def pm (P : Program) (N : Nat) (o : Oper) (e sz : Nat) (z : List Value) : AV→AV→TR
 | .c (.int _ n),.c (.int _ m)=>.need (n = m∧0≤n∧(aP P e : Int) * n≤281474976710656∧n≤9223372036854775807∧ee (z.map ofV) = true∧z.length = sz) (ret N o (.sl (jU (z.map ofV) n.toNat) n.toNat .full))
 | _,_=>fail
def pn (P : Program) (N : Nat) (o : Oper) (e sz : Nat) (z : List Value) : AV→AV→TR
 | .c (.int _ n),.c (.int _ m)=>match o.dst with
  | some d=>.need (n = m∧0≤n∧(aP P e : Int) * n≤281474976710656∧n≤9223372036854775807∧ee (z.map ofV) = true∧z.length = sz∧c9 N o∧isM e = false)
    (.rd (10000 + d) fun | .u=>.done [(10000 + d,.bc (jU (z.map ofV) n.toNat) e),(d,.arr (10000 + d) 0 n.toNat e)] | _=>fail)
  | none=>fail
 | _,_=>fail
def ws (P : Program) (N : Nat) (o : Oper) (e sz : Nat) (z : List Value) (l c : AV) : Value→TR
 | .bool true=>pn P N o e sz z l c
 | _=>pm P N o e sz z l c
def iN (P : Program) (N : Nat) (o : Oper) (t : TypeId) (l c : AV) : TR :=
 match (aT P t),(aT P t).bind (bZ P),(aT P t).bind (bw P) with
 | some e,some sz,some z=>.ex (fun v=>v = .bool true∨v = .bool false) fun v=>ws P N o e sz z l c v
 | _,_,_=>fail
def l6 (N : Nat) (o : Oper) (b off n v sz : Nat) (p : Prop) (l h : Nat) : TR :=
 rdRow b fun _ v' _ sz' _=>.need (v = v'∧sz' = sz∧p) (ret N o (.ow b (off + l * sz) (h - l) v))
def po (P : Program) (N : Nat) (o : Oper) (t : TypeId) (a : AV) (lo hi mx : Option AV) : TR :=
 match a with
 | .c (.string s)=>match bm P t,lo,hi,mx with
  | true,none,none,none=>ret N o (.c (.string (s.extract 0 s.size)))
  | true,some (.c (.int _ l)),none,none=>.need (0≤l∧l≤(s.size : Int)) (ret N o (.c (.string (s.extract l.toNat s.size))))
  | true,none,some (.c (.int _ h)),none=>.need (0≤h∧h≤(s.size : Int)) (ret N o (.c (.string (s.extract 0 h.toNat))))
  | true,some (.c (.int _ l)),some (.c (.int _ h)),none=>.need (0≤l∧l≤h∧h≤(s.size : Int)) (ret N o (.c (.string (s.extract l.toNat h.toNat))))
  | _,_,_,_=>fail
 | .sl cs n _=>match (aT P t).bind (bZ P),lo,hi,mx with
  | some sz,some (.c (.int _ l)),none,none=>.need (0≤l∧l≤(n : Int)∧cs.length = n * sz) (ret N o (.sl (cs.drop (l.toNat * sz)) (n - l.toNat) .none))
  | some sz,none,some (.c (.int _ h)),none=>.need (0≤h∧h≤(n : Int)) (ret N o (.sl (cs.take (h.toNat * sz)) h.toNat .none))
  | some sz,some (.c (.int _ l)),some (.c (.int _ h)),none=>.need (0≤l∧l≤h∧h≤(n : Int)) (ret N o (.sl ((cs.drop (l.toNat * sz)).take ((h - l).toNat * sz)) (h - l).toNat .none))
  | some sz,none,some (.c (.int _ 0)),some (.c (.int _ 0))=>ret N o (.sl [] 0 .full)
  | _,_,_,_=>fail
 | .ow b off n v=>match (aT P t).bind (bZ P),lo,hi,mx with
  | some sz,some (.c (.int _ l)),none,none=>l6 N o b off n v sz (0≤l∧l≤(n : Int)) l.toNat n
  | some sz,none,some (.c (.int _ h)),none=>l6 N o b off n v sz (0≤h∧h≤(n : Int)) 0 h.toNat
  | some sz,some (.c (.int _ l)),some (.c (.int _ h)),none=>l6 N o b off n v sz (0≤l∧l≤h∧h≤(n : Int)) l.toNat h.toNat
  | _,_,_,_=>fail
 | _=>fail
def pj (P : Program) (N : Nat) (o : Oper) (t : TypeId) (a : AV) : TR :=
 match a with
 | .sl _ n _=>.need ((aT P t).isSome = true) (ret N o (.c (.int .i64 n)))
 | .arr _ _ n _=>.need ((aT P t).isSome = true) (ret N o (.c (.int .i64 n)))
 | .ow _ _ n _=>.need ((aT P t).isSome = true) (ret N o (.c (.int .i64 n)))
 | .c (.string s)=>.need (bm P t = true) (ret N o (.c (.int .i64 s.size)))
 | _=>fail
def kMM (N : Nat) (o : Oper) (b : Bool) (x y : AV) : TR :=
 match x,y with
 | .c (.int k m),.c (.int _ n)=>ret N o (.c (.int k (match b with | true=>if n > m then n else m | false=>if n < m then n else m)))
 | _,_=>fail
def pe (d e n m : Nat) (cs news : List AV) (b : Nat) : AV→TR
 | .bt tip e'=>.need (tip = n∧e' = e) (.done [(b,.bt (n + m) e),(d,.sl (cs ++ news) (n + m) (.tok b))])
 | _=>fail
def ij (d e n m : Nat) (cs news : List AV) : AV→TR
 | .u=>.done [(10000 + d,.bt (n + m) e),(d,.sl (cs ++ news) (n + m) (.tok (10000 + d)))]
 | _=>fail
def lY (d e m sz : Nat) (news : List AV) : AV→TR
 | .u=>.done [(10000 + d,.br news m e sz),(d,.ow (10000 + d) 0 m m)]
 | .fo rows=>.done [(10000 + d,.fo (rows ++ [.br news m e sz])),(d,.ow (enc (10000 + d) rows.length) 0 m m)]
 | _=>fail
def zX (d e n m sz : Nat) (cs news : List AV) : Value→TR
 | .bool true=>.need (n = 0∧cs = []) (.rd (10000 + d) (lY d e m sz news))
 | _=>.rd (10000 + d) (ij d e n m cs news)
def o9 (d e n m sz : Nat) (cs news : List AV) : Own→TR
 | .tok b=>.rd b (pe d e n m cs news b)
 | .full=>match cs with
  | []=>.ex (fun v=>v = .bool true∨v = .bool false) (zX d e n m sz cs news)
  | _=>.rd (10000 + d) (ij d e n m cs news)
 | .none=>fail
def dz (cs : List AV) (off k : Nat) : List AV:=if off = 0∧cs.length = k then cs else (cs.drop off).take k
def pd (d e n m off v sz b : Nat) (news : List AV) : TR :=
 rdRow b fun cs v' e' sz' wr=>.need (v' = v∧e' = e∧sz' = sz∧off + n * sz≤cs.length∧(0 < m∨(off = 0∧cs.length = n * sz))) (.done [wr (dz cs off (n * sz) ++ news) (v + m),(d,.ow b 0 (n + m) (v + m))])
def gP (P : Program) (N : Nat) (o : Oper) (t : TypeId) (s : AV) (news : List AV) (m : Nat) : TR :=
 match o.dst,aT P t,s with
 | some d,some e,.sl cs n own=>match bZ P e,bw P e with
  | some sz,some z=>.need (c9 N o∧0 < sz∧z.length = sz∧cs.length = n * sz∧news.length = m * sz∧(n + m) * aP P e≤140737488355328∧n + m≤140737488355328) (o9 d e n m sz cs news own)
  | _,_=>fail
 | some d,some e,.ow b off n v=>match bZ P e,bw P e with
  | some sz,some z=>.need (c9 N o∧0 < sz∧z.length = sz∧news.length = m * sz∧(n + m) * aP P e≤140737488355328∧n + m≤140737488355328) (pd d e n m off v sz b news)
  | _,_=>fail
 | _,_,_=>fail
def wt (P : Program) (N : Nat) (o : Oper) (t : TypeId) (s : AV) (b off m v : Nat) : TR :=
 rdRow b fun cs v' e' sz' _=>.need (v = v'∧(aT P t).bind (bZ P) = some sz'∧off + m * sz'≤cs.length) (match s with
  | .sl ..=>match (dz cs off (m * sz')).mapM (cN 4) with | some news=>gP P N o t s news m | none=>fail
  | _=>gP P N o t s (dz cs off (m * sz')) m)
def yh (P : Program) (N : Nat) (o : Oper) (t t' : TypeId) (s x : AV) : TR :=
 match x with
 | .ow b off m v=>.need (t' = t) (wt P N o t s b off m v)
 | .sl news m _=>.need (t' = t) (gP P N o t s news m)
 | .c (.string b)=>.need (bm P t' = true∧(aT P t).bind (bo P) = some .u8) (gP P N o t s (b.data.toList.map go) b.size)
 | _=>fail
def jq (n : Int) : List AV→Option AV
 | .c (.int _ k) :: v :: r=>if k = n then some v else jq n r
 | _=>none
def jV (q : IntKind) (n : Int) (x : AV) : List AV→List AV
 | .c (.int q' k) :: v :: r=>if k = n then .c (.int q' k) :: x :: r else .c (.int q' k) :: v :: jV q n x r
 | _=>[.c (.int q n),x]
def g7 (q : IntKind) : List AV→Bool
 | []=>true
 | .c (.int q' _) :: _ :: r=>decide (q' = q) && g7 q r
 | _=>false
def ld (P : Program) (t : TypeId) : Option (IntKind × TypeId):=(P.underlying t).bind fun | .map k e=>(bo P k).map fun q=>(q,e) | _=>none
def mf (P : Program) (t : TypeId) : Option Value:=(P.info? t).bind fun i=>i.zero
def kD (P : Program) (N : Nat) (o : Oper) (t : TypeId) : TR :=
 match o.dst with
 | some d=>.need (c9 N o) (.rd (10000 + d) fun | .u=>.done [(10000 + d,.bc [] (1000000000 + t)),(d,.mp (10000 + d))] | _=>fail)
 | none=>fail
def kZ (ok : Bool) (z : Value) : Option AV→AV
 | some v=>if ok then .tup [v,.c (.bool true)] else v
 | none=>if ok then .tup [.c z,.c (.bool false)] else .c z
def lZ (P : Program) (N : Nat) (o : Oper) (t : TypeId) (m k : AV) (ok : Bool) : TR :=
 match m,k,ld P t with
 | .mp b,.c (.int q n),some (q',e)=>match mf P e with
  | some z=>.rd b fun
   | .bc cs _=>.need (q = q'∧g7 q' cs = true) (ret N o (kZ ok z (jq n cs)))
   | _=>fail
  | none=>fail
 | _,_,_=>fail
def l5 (P : Program) (N : Nat) (o : Oper) (t : TypeId) (m k x : AV) : TR :=
 match m,k,x,ld P t with
 | .mp b,.c (.int q n),.c v,some (q',e)=>.rd b fun
  | .bc cs ty=>.need (q = q'∧g7 q' cs = true∧c9 N o) (.done ((b,.bc (jV q n (.c v) cs) ty) :: dn o .u))
  | _=>fail
 | _,_,_,_=>fail
def eo : List (Nat × Nat)→Nat→Option Nat
 | [],_=>none
 | (a,b) :: r,k=>if a = k then some b else eo r k
def f7 (g : List (Nat × Nat)) (k : Nat) : Option Nat:=if k < 1000000 then eo g k else (eo g (df k)).map fun b=>enc b (d7 k)
def ren (g : List (Nat × Nat)) : Nat→AV→AV
 | 0,_=>.u
 | k + 1,.sl cs n (.tok b)=>match eo g b with | some b'=>.sl cs n (.tok b') | none=>.sl cs n .none
 | k + 1,.loc b off=>match eo g b with | some b'=>.loc b' off | none=>.u
 | k + 1,.arr b off n e=>match eo g b with | some b'=>.arr b' off n e | none=>.u
 | _ + 1,.mp b=>match eo g b with | some b'=>.mp b' | none=>.u
 | k + 1,.agg cs=>.agg (cs.map (ren g k))
 | k + 1,.tup cs=>.tup (cs.map (ren g k))
 | k + 1,.ifc t x=>.ifc t (ren g k x)
 | k + 1,.fn f a b=>.fn f (a.map (ren g k)) (b.map (ren g k))
 | _ + 1,.c x=>.c x
 | _ + 1,.sl cs n .none=>.sl cs n .none
 | _ + 1,.sl cs n .full=>.sl cs n .full
 | _ + 1,.rf cs o=>.rf cs o
 | _ + 1,.u=>.u
 | _ + 1,.bc _ _=>.u
 | _ + 1,.bt _ _=>.u
 | _ + 1,.ow b off n v=>match f7 g b with | some b'=>.ow b' off n v | none=>.u
 | _ + 1,.lo b off v=>match f7 g b with | some b'=>.lo b' off v | none=>.u
 | _ + 1,.br _ _ _ _=>.u
 | _ + 1,.fo _=>.u
def dq (g : List (Nat × Nat)) : AV→AV
 | .bc cs ty=>.bc (cs.map (ren g 4)) ty
 | .br cs v e sz=>.br (cs.map (ren g 4)) v e sz
 | .fo rows=>.fo (rows.map fun | .br cs v e sz=>.br (cs.map (ren g 4)) v e sz | x=>x)
 | x=>x
def lx (k : Nat) : Nat:=if k < 1000000 then k else df k
def fJ (tk : Bool) : Nat→AV→List Nat
 | 0,_=>[]
 | _ + 1,.sl _ _ (.tok b)=>if tk then [b] else []
 | _ + 1,.loc b _=>[b]
 | _ + 1,.arr b _ _ _=>[b]
 | _ + 1,.mp b=>[b]
 | _ + 1,.ow b _ _ _=>[lx b]
 | _ + 1,.lo b _ _=>[lx b]
 | k + 1,.agg cs=>cs.flatMap (fJ tk k)
 | k + 1,.tup cs=>cs.flatMap (fJ tk k)
 | k + 1,.ifc _ x=>fJ tk k x
 | k + 1,.fn _ a b=>a.flatMap (fJ tk k) ++ b.flatMap (fJ tk k)
 | k + 1,.bc cs _=>cs.flatMap (fJ tk k)
 | k + 1,.br cs _ _ _=>cs.flatMap (fJ tk k)
 | k + 1,.fo rows=>rows.flatMap fun | .br cs _ _ _=>cs.flatMap (fJ tk k) | _=>[]
 | _,_=>[]
def pY : List Nat→List Nat→List Nat
 | m,[]=>m
 | m,x :: r=>if m.contains x then pY m r else pY (m ++ [x]) r
def rdBoxes : List Nat→(List AV→TR)→TR
 | [],f=>f []
 | b :: r,f=>.need (10000≤b∧b < 1000000) (.rd b fun x=>rdBoxes r fun xs=>f (x :: xs))
def gather (tk : Bool) : Nat→List Nat→(List Nat→List AV→TR)→TR
 | 0,_,_=>fail
 | k + 1,ns,f=>rdBoxes ns fun bs=>if (pY ns (bs.flatMap (fJ tk 4))).length = ns.length then f ns bs else gather tk k (pY ns (bs.flatMap (fJ tk 4))) f
def bJ (i : Nat) : List Nat→List (Nat × Nat)
 | []=>[]
 | b :: r=>(b,20000 + i) :: bJ (i + 1) r
def dL (g : List (Nat × Nat)) : List (Nat × Nat):=g.map fun p=>(p.2,p.1)
def gA (g : List (Nat × Nat)) : List Nat→List AV→List (Nat × AV)
 | b :: r,x :: xs=>(b,dq g x) :: gA g r xs
 | _,_=>[]
def zV : AV→Bool
 | .bc _ _ | .bt _ _ | .br _ _ _ _ | .fo _=>true
 | _=>false
def aM (P : Program) (f : FuncId) : Bool:=match P.funcs[f]? with | some fn=>fn.body.isSome && !(fn.name == "runtime.NumGoroutine") | none=>false
def tr (o : Oper) (ns : List Nat) (r : AV) (bs : List AV) : TR:=.done (gA (dL (bJ 0 ns)) ns bs ++ dn o (ren (dL (bJ 0 ns)) 4 r))
def AH (o : Oper) (ns : List Nat) (r : AV) (bs : List AV) : TR :=
 match o.dst with
 | some d=>.rd (10000 + d) fun | .u=>.need (ns.contains (10000 + d) = false∧bs.length = ns.length + 1) (tr o (ns ++ [10000 + d]) r bs) | _=>fail
 | none=>fail
def tt (P : Program) (N : Nat) (tk : Bool) (o : Oper) (f : FuncId) (args : List AV) : TR :=
 .need (aM P f = true∧c9 N o) (gather tk 4 (pY [] (args.flatMap (fJ tk 4))) fun ns bs =>
  .need (bs.all zV = true∧ns.length≤1000) (.call f (args.map (ren (bJ 0 ns) 4)) (bs.map (dq (bJ 0 ns))) fun r bs' =>
   if bs'.length = ns.length then tr o ns r bs' else AH o ns r bs'))
def AF (P : Program) (N : Nat) (o : Oper) (f : FuncId) (args : List AV) : TR :=
 match args.mapM gJ with
 | some vs=>.ex (fun v=>∀ w,(callFunc f vs.toArray).run P w = .ok (.value v) w) fun v=>ret N o (.c v)
 | none=>fail
def so (P : Program) (N : Nat) (tk : Bool) (o : Oper) (f : FuncId) (args : List AV) (b : Bool) : TR:=match b with | true=>tt P N tk o f args | false=>AF P N o f args
def pg (P : Program) (N : Nat) (tk : FuncId→Bool) (o : Oper) (v : AV) (args : List AV) : TR :=
 match v with
 | .fn (.func f) a b=>so P N (tk f) o f (a ++ args ++ b) (aM P f)
 | _=>fail
def nv : Option Operand→(Option AV→TR)→TR
 | none,f=>f none
 | some x,f=>rdo x fun v=>f (some v)
def aop (P : Program) (N : Nat) (tk : FuncId→Bool) (o : Oper) : TR :=
 match o.op with
 | .move x | .assign x=>rdo x fun v=>ret N o v
 | .pick c x y=>rdo c fun vc=>rdo x fun vx=>rdo y fun vy=>nT N o vc vx vy
 | .alloc t=>o8 P N o t
 | .box t x=>rdo x fun v=>yt N o t v
 | .load t p=>rdo p fun a=>my P t a fun v=>ret N o v
 | .store t p x=>rdo p fun a=>rdo x fun v=>pp P N o t a v
 | .nilCheck x=>rdo x fun v=>nu N o v
 | .fieldAddr s x i=>rdo x fun v=>iL P N o s v i
 | .field s x i=>rdo x fun v=>ph P N o s v i
 | .indexAddr t x i=>rdo x fun v=>rdo i fun j=>iM P N o t v j
 | .index t x i=>rdo x fun v=>rdo i fun j=>pi P N o t v j
 | .binOp op t x y _=>rdo x fun a=>rdo y fun b=>k7 P N o op t x y a b
 | .unOp op _ x=>rdo x fun a=>kUn N o op a
 | .convert s d x=>rdo x fun a=>kC P N o s d a
 | .makeInterface t x=>rdo x fun a=>sr P N o t a
 | .extract x i=>rdo x fun a=>ik N o a i
 | .build t parts=>rdos (parts.toList.map (·.2)) fun vs=>pf P N o t ((parts.toList.map (·.1)).zip vs)
 | .buildSlice t len parts=>rdos (parts.toList.map (·.2)) fun vs=>gQ P N o t len ((parts.toList.map (·.1)).zip vs)
 | .makeSlice t l c=>rdo l fun a=>rdo c fun b=>iN P N o t a b
 | .slice t x lo hi mx=>rdo x fun a=>nv lo fun l=>nv hi fun h=>nv mx fun m=>po P N o t a l h m
 | .makeMap t none=>kD P N o t
 | .lookup t m k ok=>rdo m fun a=>rdo k fun b=>lZ P N o t a b ok
 | .mapUpdate t m k x | .insert t m k x=>rdo m fun a=>rdo k fun b=>rdo x fun c=>l5 P N o t a b c
 | .makeFunc f a b=>rdos a.toList fun va=>rdos b.toList fun vb=>ret N o (.fn f va vb)
 | .call { callee:=.builtin .len,args:=args,argTypes:=ts }=>match args.toList,ts.toList with | [x],[t]=>rdo x fun a=>pj P N o t a | _,_=>fail
 | .call { callee:=.builtin .max,args:=args,argTypes:=_ }=>match args.toList with | [x,y]=>rdo x fun a=>rdo y fun b=>kMM N o true a b | _=>fail
 | .call { callee:=.builtin .min,args:=args,argTypes:=_ }=>match args.toList with | [x,y]=>rdo x fun a=>rdo y fun b=>kMM N o false a b | _=>fail
 | .call { callee:=.builtin .append,args:=args,argTypes:=ts }=>match args.toList,ts.toList with | [x,y],[t,t']=>rdo x fun a=>rdo y fun b=>yh P N o t t' a b | _,_=>fail
 | .call { callee:=.value f,args:=args,argTypes:=_ }=>rdo f fun v=>rdos args.toList fun vs=>pg P N tk o v vs
 | _=>fail
end Go.Proofs.YtmpdocplcgbpkaaGreatDoor
namespace Go.Proofs.YtmpdocplcgbpkaaGreatDoor
set_option linter.unusedSimpArgs false
set_option linter.unusedVariables false
open Go.RowKit
def Snd (P : Program) (σ : bv) (t : TR) (Goal : List (Nat × AV)→Prop) : Prop:=∀ K,t.wp P σ K→∃ R d,K R d∧Goal d
section
variable {P : Program} {σ : bv} {Goal : List (Nat × AV)→Prop}
theorem Snd.done {d : List (Nat × AV)} (h : Goal d) : Snd P σ (.done d) Goal:=fun K hK=>⟨[],d,hK,h⟩
theorem Snd.rd {k : Nat} {f : AV→TR} (h : Snd P σ (f (be σ k)) Goal) : Snd P σ (.rd k f) Goal:=fun K hK=>by
 obtain ⟨R,d,h1,h2⟩:=h _ hK
 exact ⟨k :: R,d,h1,h2⟩
theorem Snd.need {p : Prop} {t : TR} (h : p→Snd P σ t Goal) : Snd P σ (.need p t) Goal:=fun K hK=>h hK.1 K hK.2
theorem Snd.fail : Snd P σ fail Goal:=fun K hK=>hK.1.elim
theorem Snd.ex {p : Value→Prop} {f : Value→TR} (h : ∀ v,p v→Snd P σ (f v) Goal) : Snd P σ (.ex p f) Goal:=fun K ⟨v,h1,h2⟩=>h v h1 K h2
theorem Snd.call {f : FuncId} {args bxs : List AV} {k : AV→List AV→TR} (h : ∀ r bs,AFn P f args bxs r bs→Snd P σ (k r bs) Goal) : Snd P σ (.call f args bxs k) Goal :=
 fun K ⟨r,bs,h1,h3⟩=>h r bs h1 K h3
end
def d6 (E : Env) (o : Oper) (σ : bv) (a : Act) (w : World) (d : List (Nat × AV)) : Prop:=∀ Q,o.wp E.P a w (fun a' w'=>∃ G',Sim E (ck σ d) a' w' G') Q
section
variable {E : Env} {o : Oper} {σ : bv} {a : Act} {w : World} {G : Gh}
theorem tG (Z : fV) (v : Value) : PRel Z v (ofV v):=by
 unfold ofV
 split
 ·exact .sl none 0 0 0 0 .full [] (fun _=>undef) (.inr ⟨rfl,rfl⟩) (Nat.le_refl _) (fun _=>rfl) (.inl ⟨rfl,rfl⟩) (fun j h=>by simp at h) (fun j h=>by simp at h)
 ·exact .c v
theorem Snd.rdo (h : Sim E σ a w G) {x : Operand} {f : AV→TR} {Goal : List (Nat × AV)→Prop} (hf : ∀ y,VRel G (lm σ) (a.eval x) y→Snd E.P σ (f y) Goal) : Snd E.P σ (rdo x f) Goal:=by
 cases x with
 | tmp t=>exact .need fun ht=>.rd (hf _ (h.slots t ht))
 | const v=>exact hf _ (.p (tG _ v))
 | global g =>
  refine hf _ ?_
  unfold tp
  split
  ·rename_i cs hg;exact .p (h.st.gl g cs hg)
  ·exact .p (.c _)
 | func i=>exact hf _ (.p (.fn _ #[] #[] [] [] rfl rfl (fun j h=>by simp at h) (fun j h=>by simp at h)))
theorem Snd.rdos (h : Sim E σ a w G) {Goal : List (Nat × AV)→Prop} : ∀ {l : List Operand} {f : List AV→TR},
  (∀ ys,ys.length = l.length→(∀ j (h1 : j < l.length) (h2 : j < ys.length),VRel G (lm σ) (a.eval l[j]) ys[j])→Snd E.P σ (f ys) Goal)→Snd E.P σ (rdos l f) Goal
 | [],f,hf=>hf [] rfl (fun j h=>by simp at h)
 | x :: r,f,hf=>Snd.rdo h fun y hy=>Snd.rdos h fun ys hl hys=>hf (y :: ys) (by simp [hl]) fun j h1 h2=>by
  cases j with
  | zero=>exact hy
  | succ j=>exact hys j (by simpa using h1) (by simpa using h2)
theorem fq {d : Oper} {x : AV} (t : Nat) : be (ck σ (dn d x)) t = if some t = d.dst then x else be σ t:=by
 cases hd : d.dst with
 | none=>simp [dn,hd,ck]
 | some i =>
  simp only [dn,hd,ck,bO,Option.some.injEq]
  by_cases h : i = t
  ·subst h;simp
  ·rw [if_neg h,if_neg (fun e=>h e.symm)]
theorem wW (hd : c9 E.N o) (x : AV) : ∀ k,10000≤k→be (ck σ (dn o x)) k = be σ k:=fun k hk=>by
 rw [fq]
 split
 ·rename_i h
  unfold c9 at hd
  rw [← h] at hd
  have h2 : k < 10000:=hd.2
  omega
 ·rfl
theorem gT (hd : c9 E.N o) (x : AV) : ∀ k,10000≤k→lm (ck σ (dn o x)) k = lm σ k:=mG fun k hk _=>wW hd x k hk
theorem j9 (t : Nat) : ∀ (D : List (Nat × AV)) (σ σ' : bv),be σ' t = be σ t→be (ck σ' D) t = be (ck σ D) t
 | [],_,_,h=>h
 | (k,v) :: D,σ,σ',h=>j9 t D _ _ (by rw [bO,bO,h])
theorem pz : ∀ (D : List (Nat × AV)) (σ : bv),(∀ p ∈ D,p.1 < 10000)→∀ k,10000≤k→be (ck σ D) k = be σ k
 | [],_,_,_,_=>rfl
 | (i,v) :: D,σ,h,k,hk=>by
  show be (ck (cC σ i v) D) k = _
  rw [pz D _ (fun p hp=>h p (by simp [hp])) k hk,bO,if_neg (fun e : i = k=>by have : i < 10000:=h (i,v) (by simp);omega)]
def nE (σ : bv) (k : Nat) (e : TypeId) (sz : Nat) (wr : List AV→Nat→Nat × AV) : Prop:=∀ (cs' : List AV) (v' : Nat) (D : List (Nat × AV)),(∀ p ∈ D,p.1 < 10000) →
 (∀ t,t < 10000→be (ck σ (wr cs' v' :: D)) t = be (ck σ D) t)∧lm (ck σ (wr cs' v' :: D)) k = .br cs' v' e sz ∧
 ∀ j,10000≤j→j ≠ k→lm (ck σ (wr cs' v' :: D)) j = lm σ j∨i7 (lm σ j) = true∧i7 (lm (ck σ (wr cs' v' :: D)) j) = true
theorem mX {k : Nat} {cs : List AV} {v : Nat} {e sz : Nat} (hk : 10000≤k) (hr : k < 1000000) (hB : be σ k = .br cs v e sz) : nE σ k e sz fun cs' v'=>(k,.br cs' v' e sz):=fun cs' v' D hD=>by
 have hm : ∀ j,10000≤j→be (ck (cC σ k (.br cs' v' e sz)) D) j = if k = j then .br cs' v' e sz else be σ j:=fun j hj=>by rw [pz D _ hD j hj,bO]
 refine ⟨fun t ht=>j9 t D _ _ (by rw [bO,if_neg (by omega)]),?_,fun j hj hne=>.inl ?_⟩
 ·show lk _ k = _
  rw [ca hr]
  exact (hm k hk).trans (if_pos rfl)
 ·have:=fA (B:=be σ) (B':=be (ck (cC σ k (.br cs' v' e sz)) D)) (fun j hj _=>hm j hj) hr (by rw [hB];rfl) rfl j hj
  rw [if_neg (fun e=>hne e.symm)] at this
  exact this
theorem oi {k : Nat} {rows : List AV} {e sz : Nat} (h10 : 10000≤df k) (hr : ¬ k < 1000000) (hB : be σ (df k) = .fo rows) (hi : d7 k < rows.length) :
  nE σ k e sz fun cs' v'=>(df k,.fo (rows.set (d7 k) (.br cs' v' e sz))):=fun cs' v' D hD=>by
 have hm : ∀ j,10000≤j→be (ck (cC σ (df k) (.fo (rows.set (d7 k) (.br cs' v' e sz)))) D) j = if df k = j then .fo (rows.set (d7 k) (.br cs' v' e sz)) else be σ j:=fun j hj=>by rw [pz D _ hD j hj,bO]
 refine ⟨fun t ht=>j9 t D _ _ (by rw [bO,if_neg (by omega)]),?_,fun j hj hne=>?_⟩
 ·show lk _ k = _
  unfold lk
  rw [if_neg hr,if_pos h10]
  have:=hm (df k) h10
  rw [if_pos rfl] at this
  show dv (be (ck (cC σ (df k) (.fo (rows.set (d7 k) (.br cs' v' e sz)))) D) (df k)) _ = _
  rw [this]
  simp [dv,gU,List.getD_eq_getElem?_getD,hi]
 ·show lk (be (ck (cC σ (df k) (.fo (rows.set (d7 k) (.br cs' v' e sz)))) D)) j = lk (be σ) j∨_∧i7 (lk (be (ck (cC σ (df k) (.fo (rows.set (d7 k) (.br cs' v' e sz)))) D)) j) = true
  by_cases hj1 : j < 1000000
  ·rw [ca hj1,ca hj1,hm j hj]
   by_cases e1 : df k = j
   ·right
    rw [if_pos e1]
    refine ⟨?_,rfl⟩
    show i7 (lk (be σ) j) = true
    rw [ca hj1,← e1,hB];rfl
   ·left;rw [if_neg e1]
  ·left
   unfold lk
   rw [if_neg hj1,if_neg hj1]
   by_cases h2 : 10000≤df j
   ·rw [if_pos h2,if_pos h2,hm _ h2]
    by_cases e1 : df k = df j
    ·rw [if_pos e1,← e1,hB]
     have hne2 : d7 k ≠ d7 j:=fun e2=>hne (by rw [← iD hj1,← iD hr,← e1,← e2])
     simp only [dv,gU,List.getD_eq_getElem?_getD]
     rw [List.getElem?_set_ne hne2]
    ·rw [if_neg e1]
   ·rw [if_neg h2,if_neg h2]
theorem Snd.rdRow {P : Program} {k : Nat} {f : List AV→Nat→TypeId→Nat→(List AV→Nat→Nat × AV)→TR} {Goal : List (Nat × AV)→Prop} (hk : 10000≤k)
  (h : ∀ cs v e sz wr,lm σ k = .br cs v e sz→nE σ k e sz wr→Snd P σ (f cs v e sz wr) Goal) : Snd P σ (Go.Proofs.YtmpdocplcgbpkaaGreatDoor.rdRow k f) Goal:=by
 unfold Go.Proofs.YtmpdocplcgbpkaaGreatDoor.rdRow
 split
 ·rename_i hr
  refine .rd ?_
  split
  ·rename_i cs v e sz hB
   exact h cs v e sz _ ((ca hr).trans hB) (mX hk hr hB)
  ·exact .fail
 ·rename_i hr
  refine .need fun h10=>.rd ?_
  split
  ·rename_i rows hB
   split
   ·rename_i cs v e sz hrow
    have hi : d7 k < rows.length:=by
     rcases lJ rows (d7 k) with e1 | ⟨_,_,_,_,_,e2⟩
     ·rw [hrow] at e1;cases e1
     ·exact (List.getElem?_eq_some_iff.1 e2).1
    refine h cs v e sz _ ?_ (oi h10 hr hB hi)
    show lk (be σ) k = _
    unfold lk
    rw [if_neg hr,if_pos h10,hB];exact hrow
   ·exact .fail
  ·exact .fail
theorem gi (hd : c9 E.N o) : ∀ d,o.dst = some d→d < E.N∧d < 10000:=fun d h=>by unfold c9 at hd;rw [h] at hd;exact hd
theorem wj (h : Sim E σ a w G) (hd : c9 E.N o) {v : Value} {x : AV} (hr : (execOp a.eval o).run E.P w = .ok (.value v) w) (hx : VRel G (lm σ) v x) : d6 E o σ a w (dn o x):=fun Q=>by
 unfold Oper.wp
 rw [hr]
 exact ⟨G,h.put (gi hd) (.congr (gT hd x)) (h.st.congr (gT hd x)) (.refl _ _) (fun _ _ _=>rfl) (hx.step (.congr (gT hd x))) fun t _=>fq t⟩
theorem bU (h : Sim E σ a w G) {v : Value} {x : AV} (hr : (execOp a.eval o).run E.P w = .ok (.value v) w) (hx : VRel G (lm σ) v x) : Snd E.P σ (ret E.N o x) (d6 E o σ a w) :=
 .need fun hd=>.done (wj h hd hr hx)
end
section
variable {G : Gh} {B : Nat→AV} {v : Value}
theorem cI {x : Value} (h : VRel G B v (.c x)) : v = x:=by
 cases h with
 | p h=>cases h;rfl
def SlAt (G : Gh) (cs : List AV) (n : Nat) (a : Option Addr) (cap b off : Nat) (f : Nat→Value) : Prop :=
 n≤cap∧(a = none→cap = 0)∧((n = 0∧cs = [])∨a = some ⟨b,off,none⟩)∧(∀ j,j < cs.length→G.Z b (off + j) = some (f j))∧∀ j (h : j < cs.length),PRel G.Z (f j) cs[j]
theorem dR {cs : List AV} {n : Nat} {o : Own} (h : VRel G B v (.sl cs n o)) : ∃ a cap b off f,v = .slice a n cap∧SlAt G cs n a cap b off f∧(o = .full→cap = n) ∧
  ∀ t,o = .tok t→10000≤t∧∃ tip e,B t = .bt tip e∧n≤tip∧(n = tip→lu G t a n cap):=by
 cases h with
 | p h =>
  cases h with
  | sl a b off n cap o cs f ho hn ha hc hz hp=>exact ⟨a,cap,b,off,f,rfl,⟨hn,ha,hc,hz,hp⟩,fun e=>by subst e;simpa using ho,fun t e=>by subst e;simp at ho⟩
 | tok a n cap cs b tip e h hb hB hn hk =>
  cases h with
  | sl a b' off n cap o cs f ho hn' ha hc hz hp=>exact ⟨a,cap,b',off,f,rfl,⟨hn',ha,hc,hz,hp⟩,(fun h=>by cases h),(fun t h=>by cases h;exact ⟨hb,tip,e,hB,hn,hk⟩)⟩
theorem SlAt.rel {cs : List AV} {n : Nat} {a : Option Addr} {cap b off : Nat} {f : Nat→Value} (h : SlAt G cs n a cap b off f) : VRel G B (.slice a n cap) (.sl cs n .none) :=
 .p (.sl a b off n cap .none cs f (.inl rfl) h.1 h.2.1 h.2.2.1 h.2.2.2.1 h.2.2.2.2)
theorem SlAt.full {cs : List AV} {n : Nat} {a : Option Addr} {cap b off : Nat} {f : Nat→Value} (h : SlAt G cs n a cap b off f) (hc : cap = n) : VRel G B (.slice a n cap) (.sl cs n .full) :=
 .p (.sl a b off n cap .full cs f (.inr ⟨rfl,hc⟩) h.1 h.2.1 h.2.2.1 h.2.2.2.1 h.2.2.2.2)
def RfAt (G : Gh) (cs : List AV) (b off : Nat) (f : Nat→Value) : Prop:=(∀ j,j < cs.length→G.Z b (off + j) = some (f j))∧∀ j (h : j < cs.length),PRel G.Z (f j) cs[j]
theorem gk {cs : List AV} {o : Nat} (h : VRel G B v (.rf cs o)) : ∃ b off f,v = .pointer (some ⟨b,off + o,none⟩)∧RfAt G cs b off f:=by
 cases h with
 | p h =>
  cases h with
  | rf b off o cs f hz hp=>exact ⟨b,off,f,rfl,hz,hp⟩
theorem RfAt.rel {cs : List AV} {b off : Nat} {f : Nat→Value} (h : RfAt G cs b off f) (o : Nat) : VRel G B (.pointer (some ⟨b,off + o,none⟩)) (.rf cs o):=.p (.rf b off o cs f h.1 h.2)
theorem ff {b off : Nat} (h : VRel G B v (.loc b off)) : ∃ g cs ty,v = .pointer (some ⟨g,off,none⟩)∧10000≤b∧B b = .bc cs ty∧G.γ b = some g∧isM ty = false:=by
 cases h with
 | p h=>cases h
 | loc b off g cs ty hb hB hg hm=>exact ⟨g,cs,ty,rfl,hb,hB,hg,hm⟩
theorem gr {b off n e : Nat} (h : VRel G B v (.arr b off n e)) : ∃ g cap cs ty,v = .slice (some ⟨g,off,none⟩) n cap∧n≤cap∧10000≤b∧B b = .bc cs ty∧G.γ b = some g∧isM ty = false:=by
 cases h with
 | p h=>cases h
 | arr b off n e cap g cs ty hb hB hg hn hm=>exact ⟨g,cap,cs,ty,rfl,hn,hb,hB,hg,hm⟩
theorem jm {b : Nat} (h : VRel G B v (.mp b)) : ∃ g cs ty,v = .map (some g)∧10000≤b∧B b = .bc cs ty∧G.γ b = some g∧isM ty = true:=by
 cases h with
 | p h=>cases h
 | mp b g cs ty hb hB hg hm=>exact ⟨g,cs,ty,rfl,hb,hB,hg,hm⟩
theorem gj {b off n ver : Nat} (h : VRel G B v (.ow b off n ver)) : ∃ a cap cs v' e sz,v = .slice a n cap∧n≤cap∧(a = none→cap = 0)∧10000≤b∧B b = .br cs v' e sz∧ver≤v'∧(ver = v'→nr G b off sz a cap):=by
 cases h with
 | p h=>cases h
 | ow a n cap b off ver cs v' e sz hb hB hn ha hv hk=>exact ⟨a,cap,cs,v',e,sz,rfl,hn,ha,hb,hB,hv,hk⟩
theorem iJ {b off ver : Nat} (h : VRel G B v (.lo b off ver)) : ∃ g o cs v' e sz,v = .pointer (some ⟨g,o,none⟩)∧10000≤b∧B b = .br cs v' e sz∧ver≤v'∧(ver = v'→G.γ b = some g∧o = G.β b + off):=by
 cases h with
 | p h=>cases h
 | lo g o b off ver cs v' e sz hb hB hv hk=>exact ⟨g,o,cs,v',e,sz,rfl,hb,hB,hv,hk⟩
theorem si {cs : List AV} {ver : Nat} {e : TypeId} {sz : Nat} (h : VRel G B v (.br cs ver e sz)) : False:=by
 cases h with
 | p h=>cases h
theorem sk {rows : List AV} (h : VRel G B v (.fo rows)) : False:=by
 cases h with
 | p h=>cases h
theorem fe {cs : List AV} (h : VRel G B v (.agg cs)) : ∃ vs : Array Value,v = .agg vs∧vs.size = cs.length∧(∀ j,j < cs.length→(vs.getD j undef).oneCell' = true)∧∀ j (h : j < cs.length),VRel G B (vs.getD j undef) cs[j]:=by
 cases h with
 | p h =>
  cases h with
  | agg vs cs hs h1 hp=>exact ⟨vs,rfl,hs,h1,fun j hj=>.p (hp j hj)⟩
 | agg vs cs hs h1 hp=>exact ⟨vs,rfl,hs,h1,hp⟩
theorem gt {cs : List AV} (h : VRel G B v (.tup cs)) : ∃ vs : Array Value,v = .tuple vs∧vs.size = cs.length∧∀ j (h : j < cs.length),VRel G B (vs.getD j undef) cs[j]:=by
 cases h with
 | p h =>
  cases h with
  | tup vs cs hs hp=>exact ⟨vs,rfl,hs,fun j hj=>.p (hp j hj)⟩
 | tup vs cs hs hp=>exact ⟨vs,rfl,hs,hp⟩
theorem dk {t : TypeId} {x : AV} (h : VRel G B v (.ifc t x)) : ∃ v',v = .iface t v'∧VRel G B v' x:=by
 cases h with
 | p h =>
  cases h with
  | ifc t v x h=>exact ⟨v,rfl,.p h⟩
 | ifc t v x h=>exact ⟨v,rfl,h⟩
theorem g6 {f : Fn} {a b : List AV} (h : VRel G B v (.fn f a b)) : ∃ va vb : Array Value,v = .func f va vb∧va.size = a.length∧vb.size = b.length∧(∀ j (h : j < a.length),VRel G B (va.getD j undef) a[j]) ∧
  ∀ j (h : j < b.length),VRel G B (vb.getD j undef) b[j]:=by
 cases h with
 | p h =>
  cases h with
  | fn f va vb a b ha hb pa pb=>exact ⟨va,vb,rfl,ha,hb,fun j hj=>.p (pa j hj),fun j hj=>.p (pb j hj)⟩
 | fn f va vb a b ha hb pa pb=>exact ⟨va,vb,rfl,ha,hb,pa,pb⟩
theorem sh {cs : List AV} {ty : TypeId} (h : VRel G B v (.bc cs ty)) : False:=by
 cases h with
 | p h=>cases h
theorem sj {n : Nat} {e : TypeId} (h : VRel G B v (.bt n e)) : False:=by
 cases h with
 | p h=>cases h
theorem nZ : ∀ {l : List AV} {xs : List Value},l.mapM zD = some xs→l = xs.map AV.c
 | [],xs,h=>by simp at h;subst h;rfl
 | x :: l,xs,h=>by
  simp only [List.mapM_cons,Option.bind_eq_bind,Option.bind_eq_some_iff,Option.pure_def,Option.some.injEq] at h
  obtain ⟨u,hu,us,hus,rfl⟩:=h
  cases x <;> simp [zD] at hu
  subst hu
  rw [nZ hus];rfl
theorem lX : ∀ {x : AV} {y v : Value},VRel G B v x→gJ x = some y→v = y
 | .agg l,y,v,h,hv=>by
  obtain ⟨vs,rfl,hs,_,hp⟩:=fe h
  simp only [gJ,Option.map_eq_some_iff] at hv
  obtain ⟨xs,hx,rfl⟩:=hv
  have hl:=nZ hx
  subst hl
  congr 1
  apply Array.ext
  ·simpa using hs
  ·intro j h1 h2
   have h2' : j < xs.length:=by simpa using h2
   have:=hp j (by simpa using h2')
   rw [List.getElem_map] at this
   have:=cI this
   rw [Array.getD_eq_getD_getElem?,Array.getElem?_eq_getElem h1] at this
   simpa using this
 | .c x,y,v,h,hv=>by simp [gJ] at hv;subst hv;exact cI h
 | .ifc t x,y,v,h,hv=>by
  obtain ⟨v',rfl,h'⟩:=dk h
  simp only [gJ,Option.map_eq_some_iff] at hv
  obtain ⟨z,hz,rfl⟩:=hv
  rw [lX h' hz]
 | .u,_,_,_,hv | .sl ..,_,_,_,hv | .rf ..,_,_,_,hv | .tup _,_,_,_,hv | .fn ..,_,_,_,hv | .loc ..,_,_,_,hv | .arr ..,_,_,_,hv | .bc ..,_,_,_,hv | .bt ..,_,_,_,hv | .mp ..,_,_,_,hv | .ow ..,_,_,_,hv | .lo ..,_,_,_,hv | .br ..,_,_,_,hv | .fo ..,_,_,_,hv=>by simp [gJ] at hv
end
section
variable {P : Program} {w : World}
theorem dp {t n : Nat} (h : bZ P t = some n) : (sizeOf t).run P w = .ok n w:=by
 unfold bZ at h
 cases hi : P.info? t with
 | none=>simp [hi] at h
 | some i=>simp [hi] at h;simp [sizeOf,typeInfo,hi,h]
theorem cp {t e : Nat} (h : aT P t = some e) : P.underlying t = some (.slice e):=by
 unfold aT at h
 cases hu : P.underlying t with
 | none=>simp [hu] at h
 | some d=>cases d <;> simp [hu] at h;rw [h]
theorem fU {t : Nat} {k : IntKind} (h : bo P t = some k) : P.underlying t = some (.int k):=by
 unfold bo at h
 cases hu : P.underlying t with
 | none=>simp [hu] at h
 | some d=>cases d <;> simp [hu] at h;rw [h]
theorem dO {t : Nat} (h : bm P t = true) : P.underlying t = some .string:=by
 unfold bm at h
 cases hu : P.underlying t with
 | none=>simp [hu] at h
 | some d=>cases d <;> simp [hu] at h;rfl
theorem ox {t i off ft : Nat} (h : bQ P t i = some (off,ft)) : ∃ fs : Array Field,P.underlying t = some (.struct fs)∧∃ f,fs[i]? = some f∧f.offset = off∧f.type = ft:=by
 unfold bQ at h
 cases hu : P.underlying t with
 | none=>simp [hu] at h
 | some d =>
  cases d <;> simp [hu] at h
  rename_i fs
  obtain ⟨f,h1,h2,h3⟩:=h
  exact ⟨fs,rfl,f,h1,h2,h3⟩
end
section
variable {E : Env} {o : Oper} {σ : bv} {a : Act} {w : World} {G : Gh}
theorem qX (h : Sim E σ a w G) {x : Operand} (ho : o.op = .move x∨o.op = .assign x) : Snd E.P σ (rdo x fun v=>ret E.N o v) (d6 E o σ a w) :=
 .rdo h fun y hy=>bU h (by rcases ho with ho | ho <;> simp [execOp,ho]) hy
theorem xe (h : Sim E σ a w G) {c x y : Operand} (ho : o.op = .pick c x y) : Snd E.P σ (rdo c fun vc=>rdo x fun vx=>rdo y fun vy=>nT E.N o vc vx vy) (d6 E o σ a w) :=
 .rdo h fun vc hc=>.rdo h fun vx hx=>.rdo h fun vy hy=>by
  unfold nT
  split
  ·rename_i b
   have e:=cI hc
   refine bU h (v:=if b then a.eval x else a.eval y) (by simp [execOp,ho,e,asBool]) ?_
   cases b
   ·exact hy
   ·exact hx
  ·exact .fail
theorem zw (h : Sim E σ a w G) {x : Operand} (ho : o.op = .nilCheck x) : Snd E.P σ (rdo x fun v=>nu E.N o v) (d6 E o σ a w) :=
 .rdo h fun v hv=>by
  unfold nu
  split
  ·obtain ⟨g,cs,ty,e,_⟩:=ff hv
   exact bU h (by simp [execOp,ho,e]) hv
  ·obtain ⟨g,o,cs,v',e',sz,e,_⟩:=iJ hv
   exact bU h (by simp [execOp,ho,e]) hv
  ·obtain ⟨b,off,f,e,_⟩:=gk hv
   exact bU h (by simp [execOp,ho,e]) hv
  ·obtain ⟨va,vb,e,_⟩:=g6 hv
   exact bU h (by simp [execOp,ho,e]) hv
  ·obtain ⟨v',e,_⟩:=dk hv
   exact bU h (by simp [execOp,ho,e]) hv
  ·exact .fail
theorem nA (h : Sim E σ a w G) {s : TypeId} {x : Operand} {i : Nat} (ho : o.op = .fieldAddr s x i) : Snd E.P σ (rdo x fun v=>iL E.P E.N o s v i) (d6 E o σ a w) :=
 .rdo h fun v hv=>by
  unfold iL
  split
  ·rename_i off ft hf
   refine .need fun hnz=>?_
   obtain ⟨n,hn⟩ : ∃ n,bZ E.P ft = some (n + 1):=by
    unfold cx at hnz
    split at hnz
    ·rename_i n hn;exact ⟨n,hn⟩
    ·cases hnz
   obtain ⟨fs,hu,fl,h1,h2,h3⟩:=ox hf
   have hs:=dp (P:=E.P) (w:=w) hn
   rw [← h3] at hs
   have hrun : ∀ b o',a.eval x = .pointer (some ⟨b,o',none⟩)→(execOp a.eval o).run E.P w = .ok (.value (.pointer (some ⟨b,o' + off,none⟩))) w:=fun b o' e=>by
    simp [execOp,ho,e,Instr.fieldAt,run_underlying hu,h1,Instr.sureAddr,fieldPlace,hs,h2,Addr.add_mid]
   split
   ·obtain ⟨g,cs,ty,e,h4,h5,h6,h7⟩:=ff hv
    exact bU h (hrun _ _ e) (.loc _ _ g cs ty h4 h5 h6 h7)
   ·obtain ⟨g,o',cs,v',e',sz,e,h4,h5,h6,h7⟩:=iJ hv
    exact bU h (hrun _ _ e) (.lo g _ _ _ _ cs v' e' sz h4 h5 h6 fun hvv=>⟨(h7 hvv).1,by rw [(h7 hvv).2,Nat.add_assoc]⟩)
   ·obtain ⟨b,off',f,e,hr⟩:=gk hv
    have:=hrun _ _ e
    rw [Nat.add_assoc] at this
    exact bU h this (hr.rel _)
   ·exact .fail
  ·exact .fail
theorem nB (h : Sim E σ a w G) {t : TypeId} {x i : Operand} (ho : o.op = .indexAddr t x i) : Snd E.P σ (rdo x fun v=>rdo i fun j=>iM E.P E.N o t v j) (d6 E o σ a w) :=
 .rdo h fun v hv=>.rdo h fun j hj=>by
  unfold iM
  split
  ·rename_i sz cs n own k z hsz
   refine .need fun ⟨h0,h1⟩=>?_
   obtain ⟨e,he,hsz⟩:=Option.bind_eq_some_iff.1 hsz
   obtain ⟨ad,cap,b,off,f,ev,⟨hn,ha,hc,hz,hp⟩,_⟩:=dR hv
   have ej:=cI hj
   rcases hc with ⟨hc,_⟩ | hc
   ·omega
   subst hc
   have hs:=dp (P:=E.P) (w:=w) hsz
   refine bU h (v:=.pointer (some ⟨b,off + z.toNat * sz,none⟩)) ?_ (RfAt.rel ⟨hz,hp⟩ _)
   simp [execOp,ho,ev,ej,Instr.indexAt,asIntOf,run_underlying (cp he),h0,h1,hs,Addr.add_mid]
  ·rename_i sz b off n e' k z hsz
   refine .need fun ⟨h0,h1⟩=>?_
   obtain ⟨e,he,hsz⟩:=Option.bind_eq_some_iff.1 hsz
   obtain ⟨g,cap,cs,ty,ev,hn,hb,hB,hg,hm⟩:=gr hv
   have ej:=cI hj
   have hs:=dp (P:=E.P) (w:=w) hsz
   refine bU h (v:=.pointer (some ⟨g,off + z.toNat * sz,none⟩)) ?_ (.loc _ _ g cs ty hb hB hg hm)
   simp [execOp,ho,ev,ej,Instr.indexAt,asIntOf,run_underlying (cp he),h0,h1,hs,Addr.add_mid]
  ·rename_i sz b off n ver k z hsz
   obtain ⟨ad,cap,cs,v',e',sz',ev,hn,ha,hb,hB,hvv,hk⟩:=gj hv
   refine .rdRow hb fun cs2 v2 e2 sz2 wr hB2 _=>.need fun ⟨h2,h0,h1⟩=>?_
   rw [hB] at hB2;cases hB2
   obtain ⟨e,he,hsz⟩:=Option.bind_eq_some_iff.1 hsz
   have ej:=cI hj
   have hs:=dp (P:=E.P) (w:=w) hsz
   have hko:=hk h2
   cases hγ : G.γ b with
   | none=>have:=hko.1 hγ;omega
   | some g =>
    obtain ⟨_,h3⟩:=hko.2 g hγ
    have h3 : ad = some ⟨g,G.β b + off,none⟩:=h3.resolve_left (by omega)
    subst h3
    refine bU h (v:=.pointer (some ⟨g,G.β b + off + z.toNat * sz,none⟩)) ?_ (.lo g _ b _ ver cs v' e' sz' hb hB hvv fun _=>⟨hγ,Nat.add_assoc ..⟩)
    simp [execOp,ho,ev,ej,Instr.indexAt,asIntOf,run_underlying (cp he),h0,h1,hs,Addr.add_mid]
  ·exact .fail
theorem u9 (h : Sim E σ a w G) {t : TypeId} {x i : Operand} (ho : o.op = .index t x i) : Snd E.P σ (rdo x fun v=>rdo i fun j=>pi E.P E.N o t v j) (d6 E o σ a w) :=
 .rdo h fun v hv=>.rdo h fun j hj=>by
  unfold pi
  split
  ·rename_i s k z hs
   refine .need fun ⟨h0,h1⟩=>?_
   have ev:=cI hv
   have ej:=cI hj
   have hlt : z.toNat < s.size:=by omega
   have hget : s[z.toNat]? = some (s.data.toList.getD z.toNat 0):=by
    have h2 : z.toNat < s.data.toList.length:=by simpa using hlt
    rw [List.getD_eq_getElem?_getD,List.getElem?_eq_getElem h2]
    simp [getElem?_pos,hlt];rfl
   refine bU h (v:=.int .u8 (s.data.toList.getD z.toNat 0).toNat) ?_ (.p (.c _))
   simp [execOp,ho,ev,ej,Instr.index,asIntOf,run_underlying (dO hs),h0,hget]
  ·exact .fail
theorem sN {P : Program} {w : World} {op : BinOp} {t : TypeId} {k k' : IntKind} {x y : Int} {v : Value} (hk : k = k'∨kB op = true) (hv : mv op k x y = some v) : (binOp op t (.int k x) (.int k' y)).run P w = .ok v w:=by
 cases op <;> simp [mv,kB] at hk hv
 case shl | shr=>simp [binOp,Op.shift,show ¬ y < 0 by omega,hv.2]
 case quo | rem=>subst hk;simp [binOp,Op.intDiv,hv.1,hv.2]
 all_goals (subst hk;subst hv;simp [binOp,Op.intArith,Op.intBits,Op.intCmp])
 all_goals rfl
theorem mY {P : Program} {w : World} (t u : TypeId) (v : Value) {ms : Array (String × TypeId)} (hd : P.underlying t = some (.interface ms)) :
  (Op.equal t (.iface u v) .nilIface).run P w = .ok false w∧(Op.equal t .nilIface (.iface u v)).run P w = .ok false w:=by
 have h1 : ∀ d : Nat,(Op.equalIn (d + 1) t (.iface u v) .nilIface).run P w = .ok false w:=fun d=>by simp [Op.equalIn,run_underlying hd]
 have h2 : ∀ d : Nat,(Op.equalIn (d + 1) t .nilIface (.iface u v)).run P w = .ok false w:=fun d=>by simp [Op.equalIn,run_underlying hd]
 exact ⟨h1 9999,h2 9999⟩
theorem zr (h : Sim E σ a w G) {op : BinOp} {t t' : TypeId} {x y : Operand} (ho : o.op = .binOp op t x y t') : Snd E.P σ (rdo x fun vx=>rdo y fun vy=>k7 E.P E.N o op t x y vx vy) (d6 E o σ a w) :=
 .rdo h fun vx hx=>.rdo h fun vy hy=>by
  unfold k7
  split
  ·rename_i k z k' z'
   refine .need fun hk=>?_
   have ex:=cI hx
   have ey:=cI hy
   split
   ·rename_i v hv
    refine bU h (v:=v) ?_ (.p (.c _))
    have hg : ∀ w,(eqGuard op t x y (.int k z) (.int k' z')).run E.P w = .ok () w:=fun w=>by cases op <;> simp [eqGuard]
    simp [execOp,ho,ex,ey,hg,sN hk hv]
   ·exact .fail
  ·obtain ⟨v',ex,_⟩:=dk hx
   have ey:=cI hy
   split
   ·rename_i r hr
    refine .need fun ⟨hc,hs⟩=>?_
    obtain ⟨d,hd⟩:=Option.isSome_iff_exists.1 hs
    obtain ⟨ms,rfl⟩ : ∃ ms,d = .interface ms:=by cases d <;> simp [aI,hd] at hc;exact ⟨_,rfl⟩
    refine bU h (v:=.bool (!r)) ?_ (.p (.c _))
    have hq:=fun z=>mY (w:=w) t z v' hd
    cases op <;> simp [iE] at hr <;> subst hr <;> simp only [execOp,ho,ex,ey,eqGuard,binOp] <;> simp [(hq _).1,(hq _).2]
   ·exact .fail
  ·obtain ⟨v',ey,_⟩:=dk hy
   have ex:=cI hx
   split
   ·rename_i r hr
    refine .need fun ⟨hc,hs⟩=>?_
    obtain ⟨d,hd⟩:=Option.isSome_iff_exists.1 hs
    obtain ⟨ms,rfl⟩ : ∃ ms,d = .interface ms:=by cases d <;> simp [aI,hd] at hc;exact ⟨_,rfl⟩
    refine bU h (v:=.bool (!r)) ?_ (.p (.c _))
    have hq:=fun z=>mY (w:=w) t z v' hd
    cases op <;> simp [iE] at hr <;> subst hr <;> simp only [execOp,ho,ex,ey,eqGuard,binOp] <;> simp [(hq _).1,(hq _).2]
   ·exact .fail
  ·split
   ·rename_i v1 v2 h1 h2
    refine .ex fun v hv=>bU h (v:=v) ?_ (.p (.c _))
    rw [← lX hx h1,← lX hy h2] at hv
    have:=hv w
    simp only [execOp,ho,Sem.run_bind] at this ⊢
    rw [this]
    rfl
   ·exact .fail
end
end Go.Proofs.YtmpdocplcgbpkaaGreatDoor
namespace Go.Proofs.YtmpdocplcgbpkaaGreatDoor
set_option linter.unusedSimpArgs false
set_option linter.unusedVariables false
open Go.RowKit
section
variable {E : Env} {o : Oper} {σ : bv} {a : Act} {w : World} {G : Gh}
theorem A9 (h : Sim E σ a w G) {op : UnOp} {t : TypeId} {x : Operand} (ho : o.op = .unOp op t x) : Snd E.P σ (rdo x fun v=>kUn E.N o op v) (d6 E o σ a w) :=
 .rdo h fun v hv=>by
  unfold kUn
  split
  ·have e:=cI hv
   exact bU h (by simp [execOp,ho,e,Op.unary]) (.p (.c _))
  ·have e:=cI hv
   exact bU h (by simp [execOp,ho,e,Op.unary,Op.intArith]) (.p (.c _))
  ·exact .fail
theorem u7 (h : Sim E σ a w G) {t : TypeId} {x : Operand} (ho : o.op = .makeInterface t x) : Snd E.P σ (rdo x fun v=>sr E.P E.N o t v) (d6 E o σ a w) :=
 .rdo h fun v hv=>.need fun hc=>by
  cases hu : E.P.underlying t with
  | none=>simp [aI,hu] at hc
  | some d =>
   refine bU h (v:=.iface t (a.eval x)) ?_ (.ifc _ _ _ hv)
   cases d <;> simp [aI,hu] at hc <;> simp [execOp,ho,Instr.makeInterface,run_underlying hu]
theorem qV (h : Sim E σ a w G) {x : Operand} {i : Nat} (ho : o.op = .extract x i) : Snd E.P σ (rdo x fun v=>ik E.N o v i) (d6 E o σ a w) :=
 .rdo h fun v hv=>by
  unfold ik
  split
  ·rename_i cs
   refine .need fun hi=>?_
   obtain ⟨vs,e,hs,hp⟩:=gt hv
   have:=hp i hi
   generalize hgv : vs.getD i undef = z at this
   have hg : vs[i]? = some z:=by
    rw [← hgv,Array.getD_eq_getD_getElem?,Array.getElem?_eq_getElem (by omega)];rfl
   refine bU h (v:=z) (by simp only [execOp,ho,e,Instr.extract,hg];rfl) ?_
   rw [List.getD_eq_getElem?_getD,List.getElem?_eq_getElem hi]
   exact this
  ·exact .fail
theorem zu (h : Sim E σ a w G) {t ty : TypeId} {x : Operand} {args : Array Operand} {ts : Array TypeId} (ha : args.toList = [x]) (ht : ts.toList = [t]) (ho : o.op = .call { callee:=.builtin .len,args:=args,argTypes:=ts }) :
  Snd E.P σ (rdo x fun v=>pj E.P E.N o t v) (d6 E o σ a w):=by
 obtain rfl : args = #[x]:=by cases args;simp at ha;simp [ha]
 obtain rfl : ts = #[t]:=by cases ts;simp at ht;simp [ht]
 refine .rdo h fun v hv=>?_
 unfold pj
 split
 ·refine .need fun hs=>?_
  obtain ⟨e,he⟩:=Option.isSome_iff_exists.1 hs
  obtain ⟨ad,cap,b,off,f,ev,_⟩:=dR hv
  exact bU h (by simp [execOp,ho,resolve,ev,invoke,builtin,Builtin.len_,run_underlying (cp he),goInt]) (.p (.c _))
 ·refine .need fun hs=>?_
  obtain ⟨e,he⟩:=Option.isSome_iff_exists.1 hs
  obtain ⟨g,cap,cs,ty,ev,_⟩:=gr hv
  exact bU h (by simp [execOp,ho,resolve,ev,invoke,builtin,Builtin.len_,run_underlying (cp he),goInt]) (.p (.c _))
 ·refine .need fun hs=>?_
  obtain ⟨e,he⟩:=Option.isSome_iff_exists.1 hs
  obtain ⟨ad,cap,cs,v',e',sz',ev,_⟩:=gj hv
  exact bU h (by simp [execOp,ho,resolve,ev,invoke,builtin,Builtin.len_,run_underlying (cp he),goInt]) (.p (.c _))
 ·refine .need fun hs=>?_
  have ev:=cI hv
  exact bU h (by simp [execOp,ho,resolve,ev,invoke,builtin,Builtin.len_,run_underlying (dO hs),goInt]) (.p (.c _))
 ·exact .fail
theorem xd (h : Sim E σ a w G) {ts : Array TypeId} {x y : Operand} {args : Array Operand} {b : Bool} (ha : args.toList = [x,y]) (ho : o.op = .call { callee:=.builtin (match b with | true=>.max | false=>.min),args:=args,argTypes:=ts }) :
  Snd E.P σ (rdo x fun vx=>rdo y fun vy=>kMM E.N o b vx vy) (d6 E o σ a w):=by
 obtain rfl : args = #[x,y]:=by cases args;simp at ha;simp [ha]
 refine .rdo h fun vx hx=>.rdo h fun vy hy=>?_
 unfold kMM
 split
 ·have ex:=cI hx
  have ey:=cI hy
  cases b
  ·exact bU h (by simp [execOp,ho,resolve,ex,ey,invoke,builtin,Builtin.min_,Builtin.min2]) (.p (.c _))
  ·exact bU h (by simp [execOp,ho,resolve,ex,ey,invoke,builtin,Builtin.max_,Builtin.max2]) (.p (.c _))
 ·exact .fail
theorem pJ (h : Sim E σ a w G) {f : Fn} {x y : Array Operand} (ho : o.op = .makeFunc f x y) :
  Snd E.P σ (rdos x.toList fun va=>rdos y.toList fun vb=>ret E.N o (.fn f va vb)) (d6 E o σ a w) :=
 .rdos h fun va la ha=>.rdos h fun vb lb hb=>by
  refine bU h (v:=.func f (x.map a.eval) (y.map a.eval)) (by simp [execOp,ho,Instr.makeFunc]) (.fn _ _ _ _ _ (by simp [la]) (by simp [lb]) (fun j hj=>?_) fun j hj=>?_)
  ·have h1 : j < x.size:=by simpa [la] using hj
   have:=ha j (by simpa using h1) hj
   simpa [Array.getD_eq_getD_getElem?,h1] using this
  ·have h1 : j < y.size:=by simpa [lb] using hj
   have:=hb j (by simpa using h1) hj
   simpa [Array.getD_eq_getD_getElem?,h1] using this
theorem kg {cs : List AV} {n : Nat} {ad : Option Addr} {cap b off : Nat} {f : Nat→Value} (h : SlAt G cs n ad cap b off f) {l hh sz m : Nat} (hl : l≤hh) (hn : hh≤n) (hc0 : cap = l→m = 0) :
  VRel G (lm σ) (.slice (if cap = l then ad else ad.map (·.add (l * sz))) (hh - l) (cap - l)) (.sl ((cs.drop (l * sz)).take m) (hh - l) .none):=by
 obtain ⟨h1,h2,h3,h4,h5⟩:=h
 by_cases hcl : cap = l
 ·rw [if_pos hcl]
  obtain rfl:=hc0 hcl
  have e : hh - l = 0:=by omega
  rw [e]
  refine .p (.sl ad b off 0 (cap - l) .none _ f (.inl rfl) (by omega) (fun _=>by omega) (.inl ⟨rfl,by simp⟩) (fun j hj=>by simp at hj) fun j hj=>by simp at hj)
 ·rw [if_neg hcl]
  rcases h3 with ⟨h3,h6⟩ | rfl
  ·subst h6
   simp only [List.drop_nil,List.take_nil]
   refine .p (.sl _ b off _ _ .none _ f (.inl rfl) (by omega) (fun e=>?_) (.inl ⟨by omega,rfl⟩) (fun j hj=>by simp at hj) fun j hj=>by simp at hj)
   have:=h2 (by simpa using e);omega
  ·simp only [Option.map_some,Addr.add_mid]
   refine .p (.sl _ b (off + l * sz) _ _ .none _ (fun j=>f (l * sz + j)) (.inl rfl) (by omega) (fun e=>by simp at e) (.inr rfl) (fun j hj=>?_) fun j hj=>?_)
   ·simp only [List.length_take,List.length_drop] at hj
    rw [Nat.add_assoc];exact h4 _ (by omega)
   ·simp only [List.length_take,List.length_drop] at hj
    have:=h5 (l * sz + j) (by omega)
    simpa using this
theorem mR {b off ver sz : Nat} {ad : Option Addr} {cap : Nat} {cs : List AV} {v' : Nat} {e : TypeId} (hb : 10000≤b) (hB : lm σ b = .br cs v' e sz) (hvv : ver = v') (ha : ad = none→cap = 0) (hk : ver = v'→nr G b off sz ad cap) {l hh : Nat} (hl : l≤hh) (hn : hh≤cap) :
  VRel G (lm σ) (.slice (if cap = l then ad else ad.map (·.add (l * sz))) (hh - l) (cap - l)) (.ow b (off + l * sz) (hh - l) ver):=by
 refine .ow _ _ _ b _ ver cs v' e sz hb hB (by omega) (fun e=>?_) (by omega) fun _=>⟨fun hγ=>?_,fun g hγ=>?_⟩
 ·split at e
  ·omega
  ·have:=ha (by simpa using e);omega
 ·have:=(hk hvv).1 hγ;omega
 ·obtain ⟨h1,h2⟩:=(hk hvv).2 g hγ
  refine ⟨?_,?_⟩
  ·rw [← h1,Nat.add_assoc,← Nat.add_mul];congr 2;omega
  ·by_cases hc : cap = l
   ·exact .inl (by omega)
   ·right
    rw [if_neg hc]
    have h3:=h2.resolve_left (by omega)
    rw [h3]
    simp [Addr.add_mid,Nat.add_assoc]
theorem vd (h : Sim E σ a w G) {t : TypeId} {x : Operand} {lo hi mx : Option Operand} (ho : o.op = .slice t x lo hi mx) :
  Snd E.P σ (rdo x fun v=>nv lo fun l=>nv hi fun hh=>nv mx fun m=>po E.P E.N o t v l hh m) (d6 E o σ a w):=by
 have hopt : ∀ (y : Option Operand) (k : Option AV→TR),(∀ z : Option AV,(y = none→z = none)→(∀ p,y = some p→∃ q,z = some q∧VRel G (lm σ) (a.eval p) q)→Snd E.P σ (k z) (d6 E o σ a w))→Snd E.P σ (nv y k) (d6 E o σ a w):=fun y k hk=>by
  cases y with
  | none=>exact hk none (fun _=>rfl) (fun _ e=>by cases e)
  | some p=>exact Snd.rdo h fun q hq=>hk (some q) (fun e=>by cases e) (fun p' e=>by cases e;exact ⟨q,rfl,hq⟩)
 refine .rdo h fun v hv=>hopt lo _ fun zl l0 l1=>hopt hi _ fun zh h0 h1=>hopt mx _ fun zm m0 m1=>?_
 have hz : ∀ (y : Option Operand) (z : Option AV),(y = none→z = none)→(∀ p,y = some p→∃ q,z = some q∧VRel G (lm σ) (a.eval p) q) →
   (z = none→y = none)∧∀ k i,z = some (.c (.int k i))→y.map a.eval = some (.int k i):=fun y z e1 e2=>by
  cases y with
  | none=>exact ⟨fun _=>rfl,fun k i e=>by rw [e1 rfl] at e;cases e⟩
  | some p =>
   obtain ⟨q,rfl,hq⟩:=e2 p rfl
   exact ⟨(fun e=>by cases e),(fun k i e=>by cases e;rw [Option.map_some,cI hq])⟩
 obtain ⟨hl0,hl1⟩:=hz lo zl l0 l1
 obtain ⟨hh0,hh1⟩:=hz hi zh h0 h1
 obtain ⟨hm0,hm1⟩:=hz mx zm m0 m1
 unfold po
 split
 ·rename_i s
  have ev:=cI hv
  split
  ·rename_i hs
   obtain rfl:=hl0 rfl;obtain rfl:=hh0 rfl;obtain rfl:=hm0 rfl
   exact bU h (v:=.string (s.extract 0 s.size)) (by simp [execOp,ho,ev,Instr.sliceAt,Instr.slice,run_underlying (dO hs),Instr.sliceBounds]) (.p (.c _))
  ·rename_i k l hs
   refine .need fun ⟨e1,e2⟩=>?_
   obtain rfl:=hh0 rfl;obtain rfl:=hm0 rfl
   have el:=hl1 _ _ rfl
   exact bU h (v:=.string (s.extract l.toNat s.size)) (by simp [execOp,ho,ev,el,Instr.sliceAt,Instr.slice,run_underlying (dO hs),Instr.sliceBounds,Instr.sliceBound,asIntOf,e1,e2]) (.p (.c _))
  ·rename_i k l hs
   refine .need fun ⟨e1,e2⟩=>?_
   obtain rfl:=hl0 rfl;obtain rfl:=hm0 rfl
   have el:=hh1 _ _ rfl
   exact bU h (v:=.string (s.extract 0 l.toNat)) (by simp [execOp,ho,ev,el,Instr.sliceAt,Instr.slice,run_underlying (dO hs),Instr.sliceBounds,Instr.sliceBound,asIntOf,e1,e2]) (.p (.c _))
  ·rename_i k l k' hh hs
   refine .need fun ⟨e1,e2,e3⟩=>?_
   obtain rfl:=hm0 rfl
   have el:=hl1 _ _ rfl
   have eh:=hh1 _ _ rfl
   have e4 : (0 : Int)≤hh:=by omega
   have e5 : l≤max hh 0:=by omega
   exact bU h (v:=.string (s.extract l.toNat hh.toNat)) (by simp [execOp,ho,ev,el,eh,Instr.sliceAt,Instr.slice,run_underlying (dO hs),Instr.sliceBounds,Instr.sliceBound,asIntOf,e1,e2,e3,e4,e5]) (.p (.c _))
  ·exact .fail
 ·rename_i cs n own
  obtain ⟨ad,cap,b,off,f,ev,hsl,_⟩:=dR hv
  have hncap:=hsl.1
  split
  ·rename_i sz k l hsz
   refine .need fun ⟨e1,e2,e3⟩=>?_
   obtain ⟨e,he,hsz⟩:=Option.bind_eq_some_iff.1 hsz
   have hs:=dp (P:=E.P) (w:=w) hsz
   obtain rfl:=hh0 rfl;obtain rfl:=hm0 rfl
   have el:=hl1 _ _ rfl
   refine bU h (v:=.slice (if cap = l.toNat then ad else ad.map (·.add (l.toNat * sz))) (n - l.toNat) (cap - l.toNat)) (by simp [execOp,ho,ev,el,Instr.sliceAt,Instr.slice,run_underlying (cp he),hs,Instr.sliceBounds,Instr.sliceBound,asIntOf,e1,e2]) ?_
   have hle : l.toNat≤n:=by omega
   have hm : (n - l.toNat) * sz = cs.length - l.toNat * sz:=by rw [e3,Nat.sub_mul]
   have:=kg (σ:=σ) hsl (sz:=sz) (m:=(n - l.toNat) * sz) hle (Nat.le_refl _) (fun e=>by rw [show n - l.toNat = 0 by omega,Nat.zero_mul])
   rwa [List.take_of_length_le (by rw [List.length_drop,hm];exact Nat.le_refl _)] at this
  ·rename_i sz k l hsz
   refine .need fun ⟨e1,e2⟩=>?_
   obtain ⟨e,he,hsz⟩:=Option.bind_eq_some_iff.1 hsz
   have hs:=dp (P:=E.P) (w:=w) hsz
   obtain rfl:=hl0 rfl;obtain rfl:=hm0 rfl
   have el:=hh1 _ _ rfl
   have e4 : l≤(cap : Int):=by omega
   refine bU h (v:=.slice (if cap = 0 then ad else ad.map (·.add (0 * sz))) (l.toNat - 0) (cap - 0)) (by simp [execOp,ho,ev,el,Instr.sliceAt,Instr.slice,run_underlying (cp he),hs,Instr.sliceBounds,Instr.sliceBound,asIntOf,e1,e4]) ?_
   have:=kg (σ:=σ) hsl (l:=0) (hh:=l.toNat) (sz:=sz) (m:=l.toNat * sz) (Nat.zero_le _) (by omega) (fun e=>by rw [show l.toNat = 0 by omega,Nat.zero_mul])
   simp only [Nat.zero_mul,List.drop_zero,Nat.sub_zero] at this ⊢
   exact this
  ·rename_i sz k l k' hh hsz
   refine .need fun ⟨e1,e2,e3⟩=>?_
   obtain ⟨e,he,hsz⟩:=Option.bind_eq_some_iff.1 hsz
   have hs:=dp (P:=E.P) (w:=w) hsz
   obtain rfl:=hm0 rfl
   have el:=hl1 _ _ rfl
   have eh:=hh1 _ _ rfl
   have e4 : (0 : Int)≤hh:=by omega
   have e5 : l≤max hh 0:=by omega
   have e6 : hh≤(cap : Int):=by omega
   have e7 : (hh - l).toNat = hh.toNat - l.toNat:=by omega
   rw [e7]
   refine bU h (v:=.slice (if cap = l.toNat then ad else ad.map (·.add (l.toNat * sz))) (hh.toNat - l.toNat) (cap - l.toNat)) (by simp [execOp,ho,ev,el,eh,Instr.sliceAt,Instr.slice,run_underlying (cp he),hs,Instr.sliceBounds,Instr.sliceBound,asIntOf,e1,e4,e5,e6]) ?_
   exact kg (σ:=σ) hsl (sz:=sz) (m:=(hh.toNat - l.toNat) * sz) (by omega) (by omega) (fun e=>by rw [show hh.toNat - l.toNat = 0 by omega,Nat.zero_mul])
  ·rename_i sz k k' hsz
   obtain ⟨e,he,hsz⟩:=Option.bind_eq_some_iff.1 hsz
   have hs:=dp (P:=E.P) (w:=w) hsz
   obtain rfl:=hl0 rfl
   have eh:=hh1 _ _ rfl
   have em:=hm1 _ _ rfl
   refine bU h (v:=.slice ad 0 0) (by simp [execOp,ho,ev,eh,em,Instr.sliceAt,Instr.slice,run_underlying (cp he),hs,Instr.sliceBounds,Instr.sliceBound,asIntOf]) ?_
   exact .p (.sl ad b off 0 0 .full [] f (.inr ⟨rfl,rfl⟩) (Nat.le_refl _) (fun _=>rfl) (.inl ⟨rfl,rfl⟩) (fun j hj=>by simp at hj) fun j hj=>by simp at hj)
  ·exact .fail
 ·rename_i b off n ver
  obtain ⟨ad,cap,cs,v',e',sz',ev,hn,ha,hb,hB,hvv,hk⟩:=gj hv
  split
  ·rename_i sz k l hsz
   refine .rdRow hb fun cs2 v2 e2' sz2 wr hB2 _=>.need fun ⟨e0,e1,e2,e3⟩=>?_
   rw [hB] at hB2;cases hB2
   subst e1
   obtain ⟨e,he,hsz⟩:=Option.bind_eq_some_iff.1 hsz
   have hs:=dp (P:=E.P) (w:=w) hsz
   obtain rfl:=hh0 rfl;obtain rfl:=hm0 rfl
   have el:=hl1 _ _ rfl
   refine bU h (v:=.slice (if cap = l.toNat then ad else ad.map (·.add (l.toNat * sz'))) (n - l.toNat) (cap - l.toNat)) (by simp [execOp,ho,ev,el,Instr.sliceAt,Instr.slice,run_underlying (cp he),hs,Instr.sliceBounds,Instr.sliceBound,asIntOf,e2,e3]) ?_
   exact mR hb hB e0 ha hk (by omega) hn
  ·rename_i sz k l hsz
   refine .rdRow hb fun cs2 v2 e2' sz2 wr hB2 _=>.need fun ⟨e0,e1,e2,e3⟩=>?_
   rw [hB] at hB2;cases hB2
   subst e1
   obtain ⟨e,he,hsz⟩:=Option.bind_eq_some_iff.1 hsz
   have hs:=dp (P:=E.P) (w:=w) hsz
   obtain rfl:=hl0 rfl;obtain rfl:=hm0 rfl
   have el:=hh1 _ _ rfl
   have e4 : l≤(cap : Int):=by omega
   refine bU h (v:=.slice (if cap = 0 then ad else ad.map (·.add (0 * sz'))) (l.toNat - 0) (cap - 0)) (by simp [execOp,ho,ev,el,Instr.sliceAt,Instr.slice,run_underlying (cp he),hs,Instr.sliceBounds,Instr.sliceBound,asIntOf,e2,e4]) ?_
   exact mR hb hB e0 ha hk (Nat.zero_le _) (by omega)
  ·rename_i sz k l k' hh hsz
   refine .rdRow hb fun cs2 v2 e2' sz2 wr hB2 _=>.need fun ⟨e0,e1,e2,e3,e4⟩=>?_
   rw [hB] at hB2;cases hB2
   subst e1
   obtain ⟨e,he,hsz⟩:=Option.bind_eq_some_iff.1 hsz
   have hs:=dp (P:=E.P) (w:=w) hsz
   obtain rfl:=hm0 rfl
   have el:=hl1 _ _ rfl
   have eh:=hh1 _ _ rfl
   have e5 : (0 : Int)≤hh:=by omega
   have e6 : l≤max hh 0:=by omega
   have e7 : hh≤(cap : Int):=by omega
   refine bU h (v:=.slice (if cap = l.toNat then ad else ad.map (·.add (l.toNat * sz'))) (hh.toNat - l.toNat) (cap - l.toNat)) (by simp [execOp,ho,ev,el,eh,Instr.sliceAt,Instr.slice,run_underlying (cp he),hs,Instr.sliceBounds,Instr.sliceBound,asIntOf,e2,e5,e6,e7]) ?_
   exact mR hb hB e0 ha hk (by omega) (by omega)
  ·exact .fail
 ·exact .fail
end
end Go.Proofs.YtmpdocplcgbpkaaGreatDoor

/- K: a result may be told with less. No program is in sight. Lists laid side by side. No program is in sight. K: arguments that are read as data, as trees of sealed memory; from a contract in K to a call. No program is in sight. K: arguments may be told with less, deep down. No program is in sight. The number of an error, in K. Errors as the document tells them: their trees; contracts from the world. -/
import Derived.Test.YtmpdocplcgbpkaaGreatDoorZ6
import Derived.ProofKit
import Derived.SizedLaws
import Derived.Deep.Slices
import Derived.Deep.Strs
import Derived.WalkArith
import Derived.LaidEql
import Derived.Lib.IfaceEq
namespace Go.Proofs.YtmpdocplcgbpkaaGreatDoor
set_option linter.unusedSimpArgs false
set_option linter.unusedVariables false
open Go.RowKit
def wkA : Nat→AV→AV
 | 0,x=>x
 | _ + 1,.sl cs n .full=>.sl cs n .none
 | k + 1,.agg cs=>.agg (cs.map (wkA k))
 | k + 1,.tup cs=>.tup (cs.map (wkA k))
 | k + 1,.ifc t x=>.ifc t (wkA k x)
 | _ + 1,x=>x
theorem md {G : Gh} {B : Nat→AV} : ∀ (k : Nat) {x : AV} {v : Value},VRel G B v x→VRel G B v (wkA k x)
 | 0,x,v,h=>h
 | k + 1,.sl cs n .full,v,h=>by
  obtain ⟨ad,cap,b,off,f,rfl,hs,_⟩:=dR h
  exact hs.rel
 | k + 1,.agg cs,v,h=>by
  obtain ⟨vs,rfl,hs,h1,hp⟩:=fe h
  exact .agg vs _ (by simpa using hs) (fun j hj=>h1 j (by simpa using hj)) fun j hj=>by
   have hj' : j < cs.length:=by simpa using hj
   rw [List.getElem_map];exact md k (hp j hj')
 | k + 1,.tup cs,v,h=>by
  obtain ⟨vs,rfl,hs,hp⟩:=gt h
  exact .tup vs _ (by simpa using hs) fun j hj=>by
   have hj' : j < cs.length:=by simpa using hj
   rw [List.getElem_map];exact md k (hp j hj')
 | k + 1,.ifc t x,v,h=>by
  obtain ⟨v',rfl,h'⟩:=dk h
  exact .ifc t v' _ (md k h')
 | _ + 1,.sl cs n .none,v,h=>h
 | _ + 1,.sl cs n (.tok b),v,h=>h
 | _ + 1,.c _,v,h=>h
 | _ + 1,.u,v,h=>h
 | _ + 1,.rf _ _,v,h=>h
 | _ + 1,.fn _ _ _,v,h=>h
 | _ + 1,.loc _ _,v,h=>h
 | _ + 1,.arr _ _ _ _,v,h=>h
 | _ + 1,.bc _ _,v,h=>h
 | _ + 1,.bt _ _,v,h=>h
 | _ + 1,.mp _,v,h=>h
 | _ + 1,.ow _ _ _ _,v,h=>h
 | _ + 1,.lo _ _ _,v,h=>h
 | _ + 1,.br _ _ _ _,v,h=>h
theorem oL {P : Program} {f : FuncId} {args bxs bxs' : List AV} {r r' : AV} (h : AFn P f args bxs r bxs') (k : Nat) (e : wkA k r = r') : AFn P f args bxs r' bxs':=fun w G vs hst hX hvs hargs=>by
 refine (h w G vs hst hX hvs hargs).mono fun e' w' ⟨v,G',h1,h2,h3⟩=>⟨v,G',h1,e ▸ md k h2,h3⟩
end Go.Proofs.YtmpdocplcgbpkaaGreatDoor
namespace Go.Proofs.YtmpdocplcgbpkaaGreatDoor
set_option linter.unusedSimpArgs false
set_option linter.unusedVariables false
open Go.RowKit
theorem kY {α : Type} {f : α→List AV} {k : Nat} (hf : ∀ x,(f x).length = k) : ∀ l : List α,(l.flatMap f).length = l.length * k
 | []=>by simp
 | x :: l=>by rw [List.flatMap_cons,List.length_append,hf,kY hf l,List.length_cons,Nat.succ_mul];omega
theorem lE {α : Type} {f : α→List AV} {k : Nat} (hf : ∀ x,(f x).length = k) : ∀ {l : List α} {i : Nat} (h : i < l.length),((l.flatMap f).drop (i * k)).take k = f l[i]
 | x :: l,0,_=>by
  rw [Nat.zero_mul,List.drop_zero,List.flatMap_cons,List.take_append_of_le_length (by rw [hf];exact Nat.le_refl _),List.take_of_length_le (by rw [hf];exact Nat.le_refl _)];rfl
 | x :: l,i + 1,h=>by
  have:=lE hf (l:=l) (i:=i) (by simpa using h)
  rw [List.flatMap_cons,List.drop_append]
  have e : (i + 1) * k - (f x).length = i * k:=by rw [hf,Nat.succ_mul];omega
  rw [e,List.drop_of_length_le (by rw [hf,Nat.succ_mul];omega),List.nil_append,this];rfl
theorem sc {α : Type} {f : α→List AV} {k : Nat} (hf : ∀ x,(f x).length = k) {l : List α} {i : Nat} (h : i < l.length) (j : Nat) (hj : j < k) : (l.flatMap f).getD (i * k + j) .u = (f l[i]).getD j .u:=by
 have e:=congrArg (fun x=>x.getD j .u) (lE hf h)
 simp only [List.getD_eq_getElem?_getD] at e ⊢
 rw [← e,List.getElem?_take,if_pos hj,List.getElem?_drop]
theorem oX {α : Type} {f : α→List AV} {k : Nat} (hf : ∀ x,(f x).length = k) {l : List α} {i : Nat} (h : i < l.length) (hj : 0 < k) : (l.flatMap f).getD (i * k) .u = (f l[i]).getD 0 .u:=sc hf h 0 hj
theorem wH {α : Type} {f : α→AV} {l : List α} {i : Nat} (h : i < l.length) : (l.map f).getD i .u = f l[i]:=by
 rw [List.getD_eq_getElem?_getD,List.getElem?_map,List.getElem?_eq_getElem h];rfl
theorem mq {α : Type} (f : α→AV) : ∀ l : List α,l.map f = l.flatMap fun z=>[f z]
 | []=>rfl
 | x :: l=>by rw [List.map_cons,List.flatMap_cons,← mq f l];rfl
end Go.Proofs.YtmpdocplcgbpkaaGreatDoor
namespace Go.Proofs.YtmpdocplcgbpkaaGreatDoor
set_option linter.unusedSimpArgs false
set_option linter.unusedVariables false
open Go.RowKit Go.ChangeShapes Go.WideShapes
def i9 (w : World) : fV:=fun b o=>match w.cell? ⟨b,o,none⟩ with
 | some v=>if v.oneCell' = true then some v else none
 | none=>none
theorem uc {w : World} {b o : Nat} {v : Value} (h : w.cell? ⟨b,o,none⟩ = some v) (h1 : v.oneCell' = true) : i9 w b o = some v:=by
 unfold i9;rw [h];simp [h1]
theorem xw {w : World} {b o : Nat} {v : Value} (h : i9 w b o = some v) : w.cell? ⟨b,o,none⟩ = some v∧v.oneCell' = true:=by
 unfold i9 at h
 cases hc : w.cell? ⟨b,o,none⟩ with
 | none=>rw [hc] at h;cases h
 | some u =>
  rw [hc] at h
  by_cases h1 : u.oneCell' = true
  ·simp [h1] at h;subst h;exact ⟨rfl,h1⟩
  ·simp [h1] at h
def vA (w : World) : Gh:=⟨i9 w,fun _=>none,fun _=>0,fun _=>0⟩
def oI (w : World) (vs : List Value) (cs : List AV) : Prop:=vs.length = cs.length∧∀ j (h : j < cs.length),PRel (i9 w) (vs.getD j undef) cs[j]
theorem nF (b o n : Nat) : (⟨b,o,none⟩ : Addr).add n = ⟨b,o + n,none⟩:=by
 unfold Addr.add;split <;> simp_all
theorem xE {P : Program} {f : FuncId} {args : List AV} {x : Value} (h : AFn P f args [] (.c x) []) (w : World) (hgl : Gl (i9 w)) (vs : List Value) (hp : oI w vs args) (hX : ∀ g cs,zT g = some cs→∃ ty fl,w.heap[g]? = some (.cells cs ty fl):=by intro g cs h;cases h) :
  Calls P f vs.toArray w fun e w'=>e = .returned x∧Below w.heap.size w w':=by
 obtain ⟨hs,hp⟩:=hp
 have hst : BSim P (fun b=>b < w.heap.size∧∀ k,(vA w).γ k ≠ some b) (vA w) (bP []) w :=
  ⟨(fun b o v hv=>xw hv),(fun k g hk=>by cases hk),(fun k cs ty _ hc=>by
   have e : ∀ k,dd [] k = .u:=fun k=>fZ fun h=>by have h1:=h.1;have h2:=h.2;simp only [List.length_nil] at h2;omega
   have hc2:=(fI hc).2
   rw [e] at hc2;cases hc2),(fun k k' g hk=>by cases hk),hgl⟩
 refine (h w (vA w) vs.toArray hst (fun g cs hg=>⟨hX g cs hg,(let ⟨_,_,h⟩:=hX g cs hg;(Array.getElem?_eq_some_iff.1 h).1),fun k hk=>by cases hk⟩) (by simpa using hs) fun j hj=>?_).mono ?_
 ·have hj' : j < vs.length:=by omega
  have:=hp j hj
  simpa [Array.getD_eq_getD_getElem?,List.getD_eq_getElem?_getD,hj'] using VRel.p (G:=vA w) (B:=bP []) this
 ·rintro e w' ⟨v,G',rfl,h2,h3,h4,_⟩
  refine ⟨by rw [cI h2],h4.os,h4.tape,h4.output,h4.size,fun k hk=>h4.block k ⟨hk,fun i=>by simp [vA]⟩ hk⟩
def i8 {H : Type} (P : Program) (t : TypeId) (d : DataW H) : Prop:=∀ n ∈ d.weights P t,n≤140737488351232
theorem pR {H : Type} {P : Program} {t e : TypeId} (ht : P.underlying t = some (.slice e)) {elems spare : List (DataW H)} (h : i8 P t (.slice elems spare)) :
  (elems.length + spare.length) * P.bytesOf e≤140737488351232∧∀ d ∈ elems,i8 P e d:=by
 unfold i8 DataW.weights at h
 rw [ht] at h
 refine ⟨h _ (by simp),fun d hd n hn=>h n (by simp only [List.mem_cons,List.mem_append];exact .inr (.inl (mem_all hd hn)))⟩
where
 mem_all {H : Type} {P : Program} {e : TypeId} {l : List (DataW H)} {d : DataW H} (hd : d ∈ l) {n : Nat} (hn : n ∈ d.weights P e) : n ∈ DataW.weightsAll P e l:=by
  induction l with
  | nil=>cases hd
  | cons x l ih =>
   simp only [DataW.weightsAll,List.mem_append]
   rcases List.mem_cons.1 hd with rfl | h
   ·exact .inl hn
   ·exact .inr (ih h)
theorem weighs_struct {H : Type} {P : Program} {t : TypeId} {fs : Array Field} (ht : P.underlying t = some (.struct fs)) {parts : List (DataW H)} (h : i8 P t (.agg parts)) :
  ∀ (i : Nat) (f : Field) (d : DataW H),fs[i]? = some f→parts[i]? = some d→i8 P f.type d:=by
 unfold i8 DataW.weights at h
 rw [ht] at h
 intro i f d hf hd n hn
 exact h n (mem_each (by simpa using congrArg (Option.map (·.type)) hf) hd hn)
where
 mem_each {H : Type} {P : Program} : ∀ {ts : List TypeId} {l : List (DataW H)} {i : Nat} {t : TypeId} {d : DataW H} {n : Nat},ts[i]? = some t→l[i]? = some d→n ∈ d.weights P t→n ∈ DataW.weightsEach P ts l
  | [],_,_,_,_,_,h,_,_=>by simp at h
  | _ :: _,[],_,_,_,_,_,h,_=>by simp at h
  | _ :: _,_ :: _,0,_,_,_,h,h',hn=>by
   simp at h h';subst h;subst h'
   simp only [DataW.weightsEach,List.mem_append];exact .inl hn
  | _ :: ts,_ :: l,i + 1,_,_,_,h,h',hn=>by
   simp only [DataW.weightsEach,List.mem_append]
   exact .inr (mem_each (ts:=ts) (l:=l) (i:=i) (by simpa using h) (by simpa using h') hn)
theorem jx {H : Type} {P : Program} {ts : List TypeId} {ds : List (DataW H)} (h : (DataW.weightsEach P ts ds).all (·≤reachBytes) = true) {i : Nat} {t : TypeId} {d : DataW H} (ht : ts[i]? = some t) (hd : ds[i]? = some d) : i8 P t d:=by
 intro n hn
 have:=List.all_eq_true.1 h n (weighs_struct.mem_each ht hd hn)
 exact of_decide_eq_true this
theorem Ay {n : Int} (h : (Lit.int .i64 n).wf = true) : -9223372036854775808≤n∧n≤9223372036854775807:=by
 simpa [Lit.wf,IntKind.min,IntKind.max,IntKind.signed,IntKind.bits] using h
section
variable {H : Type} {enc : TypeId × Value→H} {P : Program} {w : World} {base : Nat} {spare : Nat→Bool} {held : Bool}
def Reads {α H : Type} (enc : TypeId × Value→H) (P : Program) (w : World) (base : Nat) (spare : Nat→Bool) (held : Bool) (t : TypeId) (A : α→List AV) (Ok : α→Prop) (fuel : Nat) : Prop :=
 ∀ cs x,DataW.trod enc P w base spare held fuel t cs = some x→i8 P t x.1→∃ y : α,Ok y∧PCRel (i9 w) cs (A y)
theorem sF {Z : fV} {v : Value} {x : AV} (h : PRel Z v x) (h1 : v.oneCell' = true) : PCRel Z [v] [x]:=⟨rfl,fun j hj=>by
 obtain rfl : j = 0:=by simpa using hj
 exact ⟨h,h1⟩⟩
theorem Reads.map {α β : Type} {t fuel : Nat} {A : α→List AV} {Ok : α→Prop} (h : Reads enc P w base spare held t A Ok fuel) {A' : β→List AV} {Ok' : β→Prop} (f : α→β) (hA : ∀ y,A' (f y) = A y) (hO : ∀ y,Ok y→Ok' (f y)) :
  Reads enc P w base spare held t A' Ok' fuel:=fun cs x hx hw=>by
 obtain ⟨y,h1,h2⟩:=h cs x hx hw
 exact ⟨f y,hO y h1,by rw [hA];exact h2⟩
theorem uS {t : TypeId} (ht : P.underlying t = some (.int .i64)) (fuel : Nat) : Reads enc P w base spare held t (fun z : Int=>[.c (.int .i64 z)]) (fun z=>-9223372036854775808≤z∧z≤9223372036854775807) fuel:=fun cs x hx _=>by
 obtain ⟨n,rfl,_,hw⟩:=DataW.trod_int ht hx
 exact ⟨n,Ay hw,sF (.c _) rfl⟩
theorem dX {α : Type} [Inhabited α] {t e s fuel : Nat} {A : α→List AV} {Ok : α→Prop} (ht : P.underlying t = some (.slice e)) (hs : P.cellsOf e = s) (hby : 0 < P.bytesOf e) (hsz : 0 < s) (hA : ∀ y,(A y).length = s)
  (he : ∀ n,n < fuel→Reads enc P w base spare held e A Ok n) : Reads enc P w base spare held t (fun l : List α=>[.sl (l.flatMap A) l.length .none]) (fun l=>(∀ y ∈ l,Ok y)∧l.length * P.bytesOf e≤140737488351232) fuel:=fun cs x h hw=>by
 rcases DataW.trod_slice ht h with ⟨rfl,rfl⟩ | ⟨a,len,cap,elems,rest,n,hfuel,rfl,rfl,hb,hl,hm,hlen,hel,hsp,hns⟩
 ·exact ⟨[],by simp,sF (.sl none 0 0 0 0 .none [] (fun _=>undef) (.inl rfl) (Nat.le_refl _) (fun _=>rfl) (.inl ⟨rfl,rfl⟩) (fun j h=>by simp at h) (fun j h=>by simp at h)) rfl⟩
 ·obtain ⟨hw1,hw2⟩:=pR ht hw
  rw [List.length_map,hlen] at hw1
  have hlen8 : len * P.bytesOf e≤140737488351232:=by
   have h2 : len * P.bytesOf e≤(len + (rest.map (·.1)).length) * P.bytesOf e:=Nat.mul_le_mul_right _ (by omega)
   omega
  have hone : ∀ i,i < len→∃ (y : α × List Value),Ok y.1∧PCRel (i9 w) y.2 (A y.1)∧∀ j (hj : j < y.2.length),w.cell? ((a.add (i * s)).add j) = some y.2[j]:=fun i hi=>by
   have h1:=hel i hi
   have hi' : i < elems.length:=by omega
   rw [List.getElem?_eq_getElem hi',Option.bind_eq_some_iff] at h1
   obtain ⟨cs',hc',h2⟩:=h1
   obtain ⟨_,hcl,hcc⟩:=World.cells?_some hc'
   rw [hs] at hcl
   obtain ⟨y,hy,hyc⟩:=he n (by omega) cs' _ h2 (hw2 _ (List.mem_map.2 ⟨_,List.getElem_mem hi',rfl⟩))
   refine ⟨(y,cs'),hy,hyc,fun j hj=>?_⟩
   have hj' : j < cs'.length:=hj
   have:=hcc j (by rw [hs];omega)
   rw [hs] at this
   rw [this,List.getElem?_eq_getElem hj]
  obtain ⟨f,hf⟩:=Go.Deep.choose_lt hone
  refine ⟨(List.range len).map fun i=>(f i).1,⟨fun y hy=>?_,by simpa using hlen8⟩,sF ?_ rfl⟩
  ·obtain ⟨i,hi,rfl⟩:=List.mem_map.1 hy
   exact (hf i (by simpa using hi)).1
  rcases Nat.eq_zero_or_pos len with h0 | h0
  ·subst h0
   exact .sl (some a) 0 0 0 cap .none [] (fun _=>undef) (.inl rfl) hl (by simp) (.inl ⟨rfl,rfl⟩) (fun j h=>by simp at h) (fun j h=>by simp at h)
  have hspot : a.spot = none:=by
   obtain ⟨_,g2,g3⟩:=hf 0 h0
   have hlen0 : 0 < (f 0).2.length:=by rw [g2.1,hA];exact hsz
   have:=g3 0 hlen0
   rw [Nat.zero_mul] at this
   simp only [Addr.add,if_true] at this
   exact spot_none this
  obtain ⟨b,o,sp⟩:=a
  simp only at hspot
  subst hspot
  have hcell : ∀ i,i < len→∀ j (hj : j < (f i).2.length),w.cell? ⟨b,o + (i * s + j),none⟩ = some (f i).2[j]:=fun i hi j hj=>by
   have:=(hf i hi).2.2 j hj
   rw [nF,nF,Nat.add_assoc] at this
   exact this
  have key : ∀ m,m≤len→(((List.range m).map fun i=>(f i).1).flatMap A).length = m * s∧∀ j (hj : j < (((List.range m).map fun i=>(f i).1).flatMap A).length),∃ v,i9 w b (o + j) = some v∧PRel (i9 w) v (((List.range m).map fun i=>(f i).1).flatMap A)[j]:=fun m=>by
   induction m with
   | zero=>exact fun _=>⟨by simp,fun j hj=>by simp at hj⟩
   | succ m ih =>
    intro hm
    obtain ⟨i1,i2⟩:=ih (by omega)
    obtain ⟨g1,g2,g3⟩:=hf m (by omega)
    refine ⟨?_,fun j hj=>?_⟩
    ·rw [List.range_succ,List.map_append,List.flatMap_append,List.length_append,i1]
     simp [hA,Nat.succ_mul]
    ·by_cases hjm : j < m * s
     ·obtain ⟨v,h1,h2⟩:=i2 j (by rw [i1];exact hjm)
      refine ⟨v,h1,?_⟩
      have e : (((List.range (m + 1)).map fun i=>(f i).1).flatMap A)[j] = (((List.range m).map fun i=>(f i).1).flatMap A)[j]'(by rw [i1];exact hjm):=by
       simp only [List.range_succ,List.map_append,List.flatMap_append]
       rw [List.getElem_append_left]
      rw [e];exact h2
     ·have hj2 : j < (m + 1) * s:=by
       have : (((List.range (m + 1)).map fun i=>(f i).1).flatMap A).length = (m + 1) * s:=by
        rw [List.range_succ,List.map_append,List.flatMap_append,List.length_append,i1]
        simp [hA,Nat.succ_mul]
       rw [this] at hj;exact hj
      have hjs : j - m * s < s:=by rw [Nat.succ_mul] at hj2;omega
      have hjl : j - m * s < (f m).2.length:=by rw [g2.1,hA];exact hjs
      have hjA : j - m * s < (A (f m).1).length:=by rw [hA];exact hjs
      have hc:=hcell m (by omega) (j - m * s) hjl
      rw [show m * s + (j - m * s) = j by omega] at hc
      obtain ⟨p1,p2⟩:=g2.2 (j - m * s) hjA
      have eg : (f m).2.getD (j - m * s) undef = (f m).2[j - m * s]:=by simp [List.getD_eq_getElem?_getD,hjl]
      rw [eg] at p1 p2
      refine ⟨_,uc hc p2,?_⟩
      have e : (((List.range (m + 1)).map fun i=>(f i).1).flatMap A)[j] = (A (f m).1)[j - m * s]:=by
       simp only [List.range_succ,List.map_append,List.flatMap_append,List.map_cons,List.map_nil,List.flatMap_cons,List.flatMap_nil,List.append_nil]
       rw [List.getElem_append_right (by rw [i1];omega)]
       simp only [i1]
      rw [e];exact p1
  obtain ⟨k1,k2⟩:=key len (Nat.le_refl _)
  obtain ⟨F,hF⟩:=Go.Deep.choose_lt (p:=fun j v=>i9 w b (o + j) = some v∧∀ hj : j < (((List.range len).map fun i=>(f i).1).flatMap A).length,PRel (i9 w) v (((List.range len).map fun i=>(f i).1).flatMap A)[j]) (n:=len * s) fun j hj=>by
   obtain ⟨v,h1,h2⟩:=k2 j (by rw [k1];exact hj)
   exact ⟨v,h1,fun _=>h2⟩
  have e2 : ((List.range len).map fun i=>(f i).1).length = len:=by simp
  rw [e2]
  exact .sl (some ⟨b,o,none⟩) b o len cap .none _ F (.inl rfl) hl (by simp) (.inr rfl) (fun j hj=>(hF j (by rw [← k1];exact hj)).1) fun j hj=>(hF j (by rw [← k1];exact hj)).2 hj
where
 spot_none {w : World} {a : Addr} {v : Value} (h : w.cell? a = some v) : a.spot = none:=by
  unfold World.cell? at h
  split at h
  ·split at h
   ·cases h
   ·rename_i hh;simpa using hh
  ·cases h
theorem ed {α β : Type} {t fuel n0 n1 : Nat} {f0 f1 : Field} {A : α→List AV} {B : β→List AV} {OkA : α→Prop} {OkB : β→Prop} (ht : P.underlying t = some (.struct #[f0,f1])) (o0 : f0.offset = 0) (s0 : P.cellsOf f0.type = n0) (o1 : f1.offset = n0)
  (s1 : P.cellsOf f1.type = n1) (st : P.cellsOf t = n0 + n1) (r0 : ∀ n,n < fuel→Reads enc P w base spare held f0.type A OkA n) (r1 : ∀ n,n < fuel→Reads enc P w base spare held f1.type B OkB n) :
  Reads enc P w base spare held t (fun p : α × β=>A p.1 ++ B p.2) (fun p=>OkA p.1∧OkB p.2) fuel:=fun cs x hx hw=>by
 obtain ⟨xs,n,hfuel,rfl,hl,hlen,hf⟩:=DataW.trod_struct ht hx
 have h0:=hf 0 f0 rfl
 have h1:=hf 1 f1 rfl
 match xs,hlen with
 | [y0,y1],_ =>
 rw [o0,s0,List.drop_zero] at h0
 rw [o1,s1] at h1
 obtain ⟨a,ha,pa⟩:=r0 n (by omega) _ _ h0 (weighs_struct ht hw 0 f0 y0.1 rfl rfl)
 obtain ⟨b,hb,pb⟩:=r1 n (by omega) _ _ h1 (weighs_struct ht hw 1 f1 y1.1 rfl rfl)
 refine ⟨(a,b),⟨ha,hb⟩,?_⟩
 have e : cs = cs.take n0 ++ (cs.drop n0).take n1:=by
  rw [List.take_of_length_le (l:=cs.drop n0) (by rw [List.length_drop];omega),List.take_append_drop]
 rw [e]
 exact PCRel.append pa pb
end
theorem yX (w : World) : oI w [] []:=⟨rfl,fun j h=>by simp at h⟩
theorem mU {w : World} {v : Value} {a : AV} {vs : List Value} {xs : List AV} (h : PRel (i9 w) v a) (k : oI w vs xs) : oI w (v :: vs) (a :: xs):=⟨by simp [k.1],fun j hj=>by
 cases j with
 | zero=>exact h
 | succ j=>exact k.2 j (by simpa using hj)⟩
theorem AO {Z : fV} {v : Value} {a : AV} (h : PCRel Z [v] [a]) : PRel Z v a:=(h.2 0 (by simp)).1
theorem wX {Z : fV} {vs : Array Value} {xs : List AV} (h : PCRel Z vs.toList xs) : PRel Z (.agg vs) (.agg xs):=by
 have e : ∀ j,vs.toList.getD j undef = vs.getD j undef:=fun j=>by simp [Array.getD_eq_getD_getElem?]
 exact .agg vs xs (by simpa using h.1) (fun j hj=>e j ▸ (h.2 j hj).2) fun j hj=>e j ▸ (h.2 j hj).1
end Go.Proofs.YtmpdocplcgbpkaaGreatDoor
namespace Go.Proofs.YtmpdocplcgbpkaaGreatDoor
set_option linter.unusedSimpArgs false
set_option linter.unusedVariables false
open Go.RowKit
def wkD : Nat→AV→AV
 | 0,x=>x
 | k + 1,.sl cs n .full=>.sl (cs.map (wkD k)) n .none
 | k + 1,.sl cs n .none=>.sl (cs.map (wkD k)) n .none
 | k + 1,.agg cs=>.agg (cs.map (wkD k))
 | k + 1,.tup cs=>.tup (cs.map (wkD k))
 | k + 1,.ifc t x=>.ifc t (wkD k x)
 | k + 1,.rf cs o=>.rf (cs.map (wkD k)) o
 | _ + 1,x=>x
theorem fD {Z : fV} : ∀ (k : Nat) {x : AV} {v : Value},PRel Z v x→PRel Z v (wkD k x)
 | 0,x,v,h=>h
 | k + 1,.sl cs n .full,v,h=>by
  cases h with
  | sl a b off n cap o cs f ho hn ha hc hz hp =>
   exact .sl a b off n cap .none _ f (.inl rfl) hn ha (hc.imp (fun ⟨h1,h2⟩=>⟨h1,by simp [h2]⟩) id) (fun j hj=>hz j (by simpa using hj)) fun j hj=>by
    rw [List.getElem_map];exact fD k (hp j (by simpa using hj))
 | k + 1,.sl cs n .none,v,h=>by
  cases h with
  | sl a b off n cap o cs f ho hn ha hc hz hp =>
   exact .sl a b off n cap .none _ f (.inl rfl) hn ha (hc.imp (fun ⟨h1,h2⟩=>⟨h1,by simp [h2]⟩) id) (fun j hj=>hz j (by simpa using hj)) fun j hj=>by
    rw [List.getElem_map];exact fD k (hp j (by simpa using hj))
 | k + 1,.agg cs,v,h=>by
  cases h with
  | agg vs cs hs h1 hp =>
   exact .agg vs _ (by simpa using hs) (fun j hj=>h1 j (by simpa using hj)) fun j hj=>by
    rw [List.getElem_map];exact fD k (hp j (by simpa using hj))
 | k + 1,.tup cs,v,h=>by
  cases h with
  | tup vs cs hs hp =>
   exact .tup vs _ (by simpa using hs) fun j hj=>by
    rw [List.getElem_map];exact fD k (hp j (by simpa using hj))
 | k + 1,.ifc t x,v,h=>by
  cases h with
  | ifc t v x h=>exact .ifc t v _ (fD k h)
 | k + 1,.rf cs o,v,h=>by
  cases h with
  | rf b off o cs f hz hp =>
   exact .rf b off o _ f (fun j hj=>hz j (by simpa using hj)) fun j hj=>by
    rw [List.getElem_map];exact fD k (hp j (by simpa using hj))
 | _ + 1,.sl cs n (.tok b),v,h=>h
 | _ + 1,.c _,v,h=>h
 | _ + 1,.u,v,h=>h
 | _ + 1,.fn _ _ _,v,h=>h
 | _ + 1,.loc _ _,v,h=>h
 | _ + 1,.arr _ _ _ _,v,h=>h
 | _ + 1,.bc _ _,v,h=>h
 | _ + 1,.bt _ _,v,h=>h
 | _ + 1,.mp _,v,h=>h
theorem kU {G : Gh} {B : Nat→AV} : ∀ (k : Nat) {x : AV} {v : Value},VRel G B v x→VRel G B v (wkD k x)
 | 0,x,v,h=>h
 | k + 1,.sl cs n .full,v,h=>by
  cases h with
  | p h=>exact .p (fD (k + 1) h)
 | k + 1,.sl cs n .none,v,h=>by
  cases h with
  | p h=>exact .p (fD (k + 1) h)
 | k + 1,.agg cs,v,h=>by
  obtain ⟨vs,rfl,hs,h1,hp⟩:=fe h
  exact .agg vs _ (by simpa using hs) (fun j hj=>h1 j (by simpa using hj)) fun j hj=>by
   have hj' : j < cs.length:=by simpa using hj
   rw [List.getElem_map];exact kU k (hp j hj')
 | k + 1,.tup cs,v,h=>by
  obtain ⟨vs,rfl,hs,hp⟩:=gt h
  exact .tup vs _ (by simpa using hs) fun j hj=>by
   have hj' : j < cs.length:=by simpa using hj
   rw [List.getElem_map];exact kU k (hp j hj')
 | k + 1,.ifc t x,v,h=>by
  obtain ⟨v',rfl,h'⟩:=dk h
  exact .ifc t v' _ (kU k h')
 | k + 1,.rf cs o,v,h=>by
  cases h with
  | p h=>exact .p (fD (k + 1) h)
 | _ + 1,.sl cs n (.tok b),v,h=>h
 | _ + 1,.c _,v,h=>h
 | _ + 1,.u,v,h=>h
 | _ + 1,.fn _ _ _,v,h=>h
 | _ + 1,.loc _ _,v,h=>h
 | _ + 1,.arr _ _ _ _,v,h=>h
 | _ + 1,.bc _ _,v,h=>h
 | _ + 1,.bt _ _,v,h=>h
 | _ + 1,.mp _,v,h=>h
 | _ + 1,.ow _ _ _ _,v,h=>h
 | _ + 1,.lo _ _ _,v,h=>h
 | _ + 1,.br _ _ _ _,v,h=>h
theorem hJ {P : Program} {f : FuncId} {args args' bxs bxs' : List AV} {r : AV} (k : Nat) (h : AFn P f args' bxs r bxs') (e : args.map (wkD k) = args') : AFn P f args bxs r bxs':=fun w G vs hst hX hvs hargs =>
 h w G vs hst hX (by rw [hvs,← e];simp) fun j hj=>by
  subst e
  have hj' : j < args.length:=by simpa using hj
  rw [List.getElem_map];exact kU k (hargs j hj')
end Go.Proofs.YtmpdocplcgbpkaaGreatDoor
namespace Go.Proofs.YtmpdocplcgbpkaaGreatDoor
set_option linter.unusedSimpArgs false
set_option linter.unusedVariables false
open Go.RowKit
def b9 (e : Nat) : AV:=if e = 0 then .c .nilIface else .ifc 50 (.c (.int .i64 (e : Int)))
theorem cR : b9 0 = .c .nilIface:=rfl
theorem cK {e : Nat} (h : e ≠ 0) : b9 e = .ifc 50 (.c (.int .i64 (e : Int))):=if_neg h
@[go_sem] theorem w4 (g : List (Nat × Nat)) (k e : Nat) : ren g (k + 2) (b9 e) = b9 e:=by
 unfold b9;split <;> rfl
@[go_sem] theorem zU (b k e : Nat) : cy b (k + 2) (b9 e) = false:=by
 unfold b9;split <;> rfl
@[go_sem] theorem Bt (e : Nat) : (b9 e).one = true:=by
 unfold b9;split <;> rfl
@[go_sem] theorem Ak (e : Nat) : bX (b9 e) = [b9 e]:=by
 unfold b9;split <;> rfl
@[go_sem] theorem Bk (ex : List Nat) (σ : bv) (k e : Nat) : eX ex σ (k + 2) (b9 e) = b9 e:=by
 unfold b9;split <;> rfl
@[go_sem] theorem AK (tk : Bool) (k e : Nat) : fJ tk (k + 2) (b9 e) = []:=by
 unfold b9;split <;> rfl
set_option maxRecDepth 100000 in
theorem dM : ∀ w,(((pure () : Sem Unit) >>= fun _=>binOp .eql 35 .nilIface .nilIface) : Sem Value).run Tryz.prog w = .ok (.bool true) w:=fun w=>by
 have ht:=Tryz.underlying35
 have h : ∀ d : Nat,(Op.equalIn (d + 2) 35 .nilIface .nilIface).run Tryz.prog w = .ok true w:=fun d=>by
  simp [Op.equalIn,run_underlying ht]
 have h2 : (binOp .eql 35 .nilIface .nilIface).run Tryz.prog w = .ok (.bool true) w:=by
  simp only [binOp]
  simp [Op.equal,Op.maxDepth,h 9998]
 rw [Sem.run_bind]
 exact h2
set_option maxRecDepth 100000 in
theorem cr : ∀ w,(((pure () : Sem Unit) >>= fun _=>binOp .neq 35 .nilIface .nilIface) : Sem Value).run Tryz.prog w = .ok (.bool false) w:=fun w=>by
 have ht:=Tryz.underlying35
 have h : ∀ d : Nat,(Op.equalIn (d + 2) 35 .nilIface .nilIface).run Tryz.prog w = .ok true w:=fun d=>by
  simp [Op.equalIn,run_underlying ht]
 have h2 : (binOp .neq 35 .nilIface .nilIface).run Tryz.prog w = .ok (.bool false) w:=by
  simp only [binOp]
  simp [Op.equal,Op.maxDepth,h 9998]
 rw [Sem.run_bind]
 exact h2
end Go.Proofs.YtmpdocplcgbpkaaGreatDoor
namespace Go.Proofs.YtmpdocplcgbpkaaGreatDoor
set_option linter.unusedSimpArgs false
set_option linter.unusedVariables false
open Go.RowKit
theorem ue {P : Program} {f : FuncId} {args : List AV} {x : Value}
  (h : ∀ (w : World) (G : Gh) (vs : Array Value),(∀ b o v,G.Z b o = some v→w.cell? ⟨b,o,none⟩ = some v∧v.oneCell' = true)→Gl G.Z→vs.size = args.length→(∀ j (h : j < args.length),VRel G (bP []) (vs.getD j undef) args[j]) →
   Calls P f vs w fun e w'=>e = .returned x∧Below w.heap.size w w') : AFn P f args [] (.c x) []:=fun w G vs hst hX hvs hargs=>by
 have hu : ∀ k,bP [] k = .u:=fun k=>by
  have e : ∀ k,dd [] k = .u:=fun k=>fZ fun h=>by have h1:=h.1;have h2:=h.2;simp only [List.length_nil] at h2;omega
  show lk (dd []) k = .u
  unfold lk
  rw [e,e]
  split
  ·rfl
  ·split <;> rfl
 have hγ : ∀ k,G.γ k = none:=fun k=>by
  cases hg : G.γ k with
  | none=>rfl
  | some g =>
   exact ((hst.box k g hg).2.2.not_u (hu k)).elim
 refine (h w G vs hst.agree hst.gl hvs hargs).mono fun e w' ⟨he,hb⟩=>⟨x,G,he,.p (.c x),⟨fun b o v hz=>?_,fun k g hk=>?_,fun k cs ty _ hc=>?_,fun k k' g hk=>?_,hst.gl⟩,⟨hb.os,hb.tape,hb.output,hb.size,fun b hp _=>hb.block b hp.1⟩,.refl _ _,fun _ _ _ _=>rfl⟩
 ·have:=hst.agree b o v hz
  exact ⟨(hb.cell (p:=⟨b,o,none⟩) (World.block_lt_of_cell? w ⟨b,o,none⟩ this.1)).trans this.1,this.2⟩
 ·rw [hγ] at hk;cases hk
 ·rw [hu] at hc;cases hc
 ·rw [hγ] at hk;cases hk
def iy (at0 : Int) (e : Nat) : AV:=.ifc 61 (.rf [.c (.int .i64 at0),b9 e] 0)
def eA (e : Nat) (at0 : Int) : AV:=if at0 < 0∨e = 0 then b9 e else iy at0 e
end Go.Proofs.YtmpdocplcgbpkaaGreatDoor

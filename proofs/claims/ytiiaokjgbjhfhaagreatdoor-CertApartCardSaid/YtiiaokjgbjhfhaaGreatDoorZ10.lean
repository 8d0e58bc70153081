/- K: a result may be told with less. No program is in sight. K: arguments that are read as data, as trees of sealed memory; from a contract in K to a call. No program is in sight. K: arguments may be told with less, deep down. No program is in sight. The number of an error, in K. -/
import Derived.Test.YtiiaokjgbjhfhaaGreatDoorZ6
import Derived.ProofKit
import Derived.SizedLaws
import Derived.Deep.Slices
import Derived.Deep.Strs
import Derived.WalkArith
import Derived.LaidEql
import Derived.Lib.IfaceEq
namespace Go.Proofs.YtiiaokjgbjhfhaaGreatDoor
set_option linter.unusedSimpArgs false
set_option linter.unusedVariables false
open Go.RowKit
end Go.Proofs.YtiiaokjgbjhfhaaGreatDoor
namespace Go.Proofs.YtiiaokjgbjhfhaaGreatDoor
set_option linter.unusedSimpArgs false
set_option linter.unusedVariables false
open Go.RowKit Go.ChangeShapes Go.WideShapes
def fz (w : World) : dY := fun b o => match w.cell? ⟨b,o,none⟩ with
 | some v => if v.oneCell' = true then some v else none
 | none => none
theorem mh {w : World} {b o : Nat} {v : Value} (h : w.cell? ⟨b,o,none⟩ = some v) (h1 : v.oneCell' = true) : fz w b o = some v := by
 unfold fz;rw [h];simp [h1]
theorem nT {w : World} {b o : Nat} {v : Value} (h : fz w b o = some v) : w.cell? ⟨b,o,none⟩ = some v ∧ v.oneCell' = true := by
 unfold fz at h
 cases hc : w.cell? ⟨b,o,none⟩ with
 | none => rw [hc] at h;cases h
 | some u =>
  rw [hc] at h
  by_cases h1 : u.oneCell' = true
  ·simp [h1] at h;subst h;exact ⟨rfl,h1⟩
  ·simp [h1] at h
def mR (w : World) : Gh := ⟨fz w,fun _ => none,fun _ => 0,fun _ => 0⟩
def ju (w : World) (vs : List Value) (cs : List AV) : Prop := vs.length = cs.length ∧ ∀ j (h : j < cs.length),PRel (fz w) (vs.getD j undef) cs[j]
theorem i7 (b o n : Nat) : (⟨b,o,none⟩ : Addr).add n = ⟨b,o + n,none⟩ := by
 unfold Addr.add;split <;> simp_all
theorem lD {P : Program} {f : FuncId} {args : List AV} {x : Value} (h : AFn P f args [] (.c x) []) (w : World) (hgl : Gl (fz w)) (vs : List Value) (hp : ju w vs args) (hX : ∀ g cs,pB g = some cs → ∃ ty fl,w.heap[g]? = some (.cells cs ty fl) := by intro g cs h;cases h) :
  Calls P f vs.toArray w fun e w' => e = .returned x ∧ Below w.heap.size w w' := by
 obtain ⟨hs,hp⟩ := hp
 have hst : BSim P (fun b => b < w.heap.size ∧ ∀ k,(mR w).γ k ≠ some b) (mR w) (bZ []) w :=
  ⟨(fun b o v hv => nT hv),(fun k g hk => by cases hk),(fun k cs ty _ hc => by
   have e : ∀ k,cJ [] k = .u := fun k => dP fun h => by have h1 := h.1;have h2 := h.2;simp only [List.length_nil] at h2;omega
   have hc2 := (dF hc).2
   rw [e] at hc2;cases hc2),(fun k k' g hk => by cases hk),hgl⟩
 refine (h w (mR w) vs.toArray hst (fun g cs hg => ⟨hX g cs hg,(let ⟨_,_,h⟩ := hX g cs hg;(Array.getElem?_eq_some_iff.1 h).1),fun k hk => by cases hk⟩) (by simpa using hs) fun j hj => ?_).mono ?_
 ·have hj' : j < vs.length := by omega
  have := hp j hj
  simpa [Array.getD_eq_getD_getElem?,List.getD_eq_getElem?_getD,hj'] using VRel.p (G := mR w) (B := bZ []) this
 ·rintro e w' ⟨v,G',rfl,h2,h3,h4,_⟩
  refine ⟨by rw [cr h2],h4.os,h4.tape,h4.output,h4.size,fun k hk => h4.block k ⟨hk,fun i => by simp [mR]⟩ hk⟩
def fy {H : Type} (P : Program) (t : TypeId) (d : DataW H) : Prop := ∀ n ∈ d.weights P t,n ≤ 140737488351232
theorem j7 {H : Type} {P : Program} {t e : TypeId} (ht : P.underlying t = some (.slice e)) {elems spare : List (DataW H)} (h : fy P t (.slice elems spare)) :
  (elems.length + spare.length) * P.bytesOf e ≤ 140737488351232 ∧ ∀ d ∈ elems,fy P e d := by
 unfold fy DataW.weights at h
 rw [ht] at h
 refine ⟨h _ (by simp),fun d hd n hn => h n (by simp only [List.mem_cons,List.mem_append];exact .inr (.inl (mem_all hd hn)))⟩
where
 mem_all {H : Type} {P : Program} {e : TypeId} {l : List (DataW H)} {d : DataW H} (hd : d ∈ l) {n : Nat} (hn : n ∈ d.weights P e) : n ∈ DataW.weightsAll P e l := by
  induction l with
  | nil => cases hd
  | cons x l ih =>
   simp only [DataW.weightsAll,List.mem_append]
   rcases List.mem_cons.1 hd with rfl | h
   ·exact .inl hn
   ·exact .inr (ih h)
theorem weighs_struct {H : Type} {P : Program} {t : TypeId} {fs : Array Field} (ht : P.underlying t = some (.struct fs)) {parts : List (DataW H)} (h : fy P t (.agg parts)) :
  ∀ (i : Nat) (f : Field) (d : DataW H),fs[i]? = some f → parts[i]? = some d → fy P f.type d := by
 unfold fy DataW.weights at h
 rw [ht] at h
 intro i f d hf hd n hn
 exact h n (mem_each (by simpa using congrArg (Option.map (·.type)) hf) hd hn)
where
 mem_each {H : Type} {P : Program} : ∀ {ts : List TypeId} {l : List (DataW H)} {i : Nat} {t : TypeId} {d : DataW H} {n : Nat},ts[i]? = some t → l[i]? = some d → n ∈ d.weights P t → n ∈ DataW.weightsEach P ts l
  | [],_,_,_,_,_,h,_,_ => by simp at h
  | _ :: _,[],_,_,_,_,_,h,_ => by simp at h
  | _ :: _,_ :: _,0,_,_,_,h,h',hn => by
   simp at h h';subst h;subst h'
   simp only [DataW.weightsEach,List.mem_append];exact .inl hn
  | _ :: ts,_ :: l,i + 1,_,_,_,h,h',hn => by
   simp only [DataW.weightsEach,List.mem_append]
   exact .inr (mem_each (ts := ts) (l := l) (i := i) (by simpa using h) (by simpa using h') hn)
theorem dS {H : Type} {P : Program} {ts : List TypeId} {ds : List (DataW H)} (h : (DataW.weightsEach P ts ds).all (· ≤ reachBytes) = true) {i : Nat} {t : TypeId} {d : DataW H} (ht : ts[i]? = some t) (hd : ds[i]? = some d) : fy P t d := by
 intro n hn
 have := List.all_eq_true.1 h n (weighs_struct.mem_each ht hd hn)
 exact of_decide_eq_true this
theorem p9 {n : Int} (h : (Lit.int .i64 n).wf = true) : -9223372036854775808 ≤ n ∧ n ≤ 9223372036854775807 := by
 simpa [Lit.wf,IntKind.min,IntKind.max,IntKind.signed,IntKind.bits] using h
section
variable {H : Type} {enc : TypeId × Value → H} {P : Program} {w : World} {base : Nat} {spare : Nat → Bool} {held : Bool}
def Reads {α H : Type} (enc : TypeId × Value → H) (P : Program) (w : World) (base : Nat) (spare : Nat → Bool) (held : Bool) (t : TypeId) (A : α → List AV) (Ok : α → Prop) (fuel : Nat) : Prop :=
 ∀ cs x,DataW.trod enc P w base spare held fuel t cs = some x → fy P t x.1 → ∃ y : α,Ok y ∧ PCRel (fz w) cs (A y)
theorem lg {Z : dY} {v : Value} {x : AV} (h : PRel Z v x) (h1 : v.oneCell' = true) : PCRel Z [v] [x] := ⟨rfl,fun j hj => by
 obtain rfl : j = 0 := by simpa using hj
 exact ⟨h,h1⟩⟩
theorem Reads.map {α β : Type} {t fuel : Nat} {A : α → List AV} {Ok : α → Prop} (h : Reads enc P w base spare held t A Ok fuel) {A' : β → List AV} {Ok' : β → Prop} (f : α → β) (hA : ∀ y,A' (f y) = A y) (hO : ∀ y,Ok y → Ok' (f y)) :
  Reads enc P w base spare held t A' Ok' fuel := fun cs x hx hw => by
 obtain ⟨y,h1,h2⟩ := h cs x hx hw
 exact ⟨f y,hO y h1,by rw [hA];exact h2⟩
theorem my {t : TypeId} (ht : P.underlying t = some (.int .i64)) (fuel : Nat) : Reads enc P w base spare held t (fun z : Int => [.c (.int .i64 z)]) (fun z => -9223372036854775808 ≤ z ∧ z ≤ 9223372036854775807) fuel := fun cs x hx _ => by
 obtain ⟨n,rfl,_,hw⟩ := DataW.trod_int ht hx
 exact ⟨n,p9 hw,lg (.c _) rfl⟩
theorem eB {α : Type} [Inhabited α] {t e s fuel : Nat} {A : α → List AV} {Ok : α → Prop} (ht : P.underlying t = some (.slice e)) (hs : P.cellsOf e = s) (hby : 0 < P.bytesOf e) (hsz : 0 < s) (hA : ∀ y,(A y).length = s)
  (he : ∀ n,n < fuel → Reads enc P w base spare held e A Ok n) : Reads enc P w base spare held t (fun l : List α => [.sl (l.flatMap A) l.length .none]) (fun l => (∀ y ∈ l,Ok y) ∧ l.length * P.bytesOf e ≤ 140737488351232) fuel := fun cs x h hw => by
 rcases DataW.trod_slice ht h with ⟨rfl,rfl⟩ | ⟨a,len,cap,elems,rest,n,hfuel,rfl,rfl,hb,hl,hm,hlen,hel,hsp,hns⟩
 ·exact ⟨[],by simp,lg (.sl none 0 0 0 0 .none [] (fun _ => undef) (.inl rfl) (Nat.le_refl _) (fun _ => rfl) (.inl ⟨rfl,rfl⟩) (fun j h => by simp at h) (fun j h => by simp at h)) rfl⟩
 ·obtain ⟨hw1,hw2⟩ := j7 ht hw
  rw [List.length_map,hlen] at hw1
  have hlen8 : len * P.bytesOf e ≤ 140737488351232 := by
   have h2 : len * P.bytesOf e ≤ (len + (rest.map (·.1)).length) * P.bytesOf e := Nat.mul_le_mul_right _ (by omega)
   omega
  have hone : ∀ i,i < len → ∃ (y : α × List Value),Ok y.1 ∧ PCRel (fz w) y.2 (A y.1) ∧ ∀ j (hj : j < y.2.length),w.cell? ((a.add (i * s)).add j) = some y.2[j] := fun i hi => by
   have h1 := hel i hi
   have hi' : i < elems.length := by omega
   rw [List.getElem?_eq_getElem hi',Option.bind_eq_some_iff] at h1
   obtain ⟨cs',hc',h2⟩ := h1
   obtain ⟨_,hcl,hcc⟩ := World.cells?_some hc'
   rw [hs] at hcl
   obtain ⟨y,hy,hyc⟩ := he n (by omega) cs' _ h2 (hw2 _ (List.mem_map.2 ⟨_,List.getElem_mem hi',rfl⟩))
   refine ⟨(y,cs'),hy,hyc,fun j hj => ?_⟩
   have hj' : j < cs'.length := hj
   have := hcc j (by rw [hs];omega)
   rw [hs] at this
   rw [this,List.getElem?_eq_getElem hj]
  obtain ⟨f,hf⟩ := Go.Deep.choose_lt hone
  refine ⟨(List.range len).map fun i => (f i).1,⟨fun y hy => ?_,by simpa using hlen8⟩,lg ?_ rfl⟩
  ·obtain ⟨i,hi,rfl⟩ := List.mem_map.1 hy
   exact (hf i (by simpa using hi)).1
  rcases Nat.eq_zero_or_pos len with h0 | h0
  ·subst h0
   exact .sl (some a) 0 0 0 cap .none [] (fun _ => undef) (.inl rfl) hl (by simp) (.inl ⟨rfl,rfl⟩) (fun j h => by simp at h) (fun j h => by simp at h)
  have hspot : a.spot = none := by
   obtain ⟨_,g2,g3⟩ := hf 0 h0
   have hlen0 : 0 < (f 0).2.length := by rw [g2.1,hA];exact hsz
   have := g3 0 hlen0
   rw [Nat.zero_mul] at this
   simp only [Addr.add,if_true] at this
   exact spot_none this
  obtain ⟨b,o,sp⟩ := a
  simp only at hspot
  subst hspot
  have hcell : ∀ i,i < len → ∀ j (hj : j < (f i).2.length),w.cell? ⟨b,o + (i * s + j),none⟩ = some (f i).2[j] := fun i hi j hj => by
   have := (hf i hi).2.2 j hj
   rw [i7,i7,Nat.add_assoc] at this
   exact this
  have key : ∀ m,m ≤ len → (((List.range m).map fun i => (f i).1).flatMap A).length = m * s ∧ ∀ j (hj : j < (((List.range m).map fun i => (f i).1).flatMap A).length),∃ v,fz w b (o + j) = some v ∧ PRel (fz w) v (((List.range m).map fun i => (f i).1).flatMap A)[j] := fun m => by
   induction m with
   | zero => exact fun _ => ⟨by simp,fun j hj => by simp at hj⟩
   | succ m ih =>
    intro hm
    obtain ⟨i1,i2⟩ := ih (by omega)
    obtain ⟨g1,g2,g3⟩ := hf m (by omega)
    refine ⟨?_,fun j hj => ?_⟩
    ·rw [List.range_succ,List.map_append,List.flatMap_append,List.length_append,i1]
     simp [hA,Nat.succ_mul]
    ·by_cases hjm : j < m * s
     ·obtain ⟨v,h1,h2⟩ := i2 j (by rw [i1];exact hjm)
      refine ⟨v,h1,?_⟩
      have e : (((List.range (m + 1)).map fun i => (f i).1).flatMap A)[j] = (((List.range m).map fun i => (f i).1).flatMap A)[j]'(by rw [i1];exact hjm) := by
       simp only [List.range_succ,List.map_append,List.flatMap_append]
       rw [List.getElem_append_left]
      rw [e];exact h2
     ·have hj2 : j < (m + 1) * s := by
       have : (((List.range (m + 1)).map fun i => (f i).1).flatMap A).length = (m + 1) * s := by
        rw [List.range_succ,List.map_append,List.flatMap_append,List.length_append,i1]
        simp [hA,Nat.succ_mul]
       rw [this] at hj;exact hj
      have hjs : j - m * s < s := by rw [Nat.succ_mul] at hj2;omega
      have hjl : j - m * s < (f m).2.length := by rw [g2.1,hA];exact hjs
      have hjA : j - m * s < (A (f m).1).length := by rw [hA];exact hjs
      have hc := hcell m (by omega) (j - m * s) hjl
      rw [show m * s + (j - m * s) = j by omega] at hc
      obtain ⟨p1,p2⟩ := g2.2 (j - m * s) hjA
      have eg : (f m).2.getD (j - m * s) undef = (f m).2[j - m * s] := by simp [List.getD_eq_getElem?_getD,hjl]
      rw [eg] at p1 p2
      refine ⟨_,mh hc p2,?_⟩
      have e : (((List.range (m + 1)).map fun i => (f i).1).flatMap A)[j] = (A (f m).1)[j - m * s] := by
       simp only [List.range_succ,List.map_append,List.flatMap_append,List.map_cons,List.map_nil,List.flatMap_cons,List.flatMap_nil,List.append_nil]
       rw [List.getElem_append_right (by rw [i1];omega)]
       simp only [i1]
      rw [e];exact p1
  obtain ⟨k1,k2⟩ := key len (Nat.le_refl _)
  obtain ⟨F,hF⟩ := Go.Deep.choose_lt (p := fun j v => fz w b (o + j) = some v ∧ ∀ hj : j < (((List.range len).map fun i => (f i).1).flatMap A).length,PRel (fz w) v (((List.range len).map fun i => (f i).1).flatMap A)[j]) (n := len * s) fun j hj => by
   obtain ⟨v,h1,h2⟩ := k2 j (by rw [k1];exact hj)
   exact ⟨v,h1,fun _ => h2⟩
  have e2 : ((List.range len).map fun i => (f i).1).length = len := by simp
  rw [e2]
  exact .sl (some ⟨b,o,none⟩) b o len cap .none _ F (.inl rfl) hl (by simp) (.inr rfl) (fun j hj => (hF j (by rw [← k1];exact hj)).1) fun j hj => (hF j (by rw [← k1];exact hj)).2 hj
where
 spot_none {w : World} {a : Addr} {v : Value} (h : w.cell? a = some v) : a.spot = none := by
  unfold World.cell? at h
  split at h
  ·split at h
   ·cases h
   ·rename_i hh;simpa using hh
  ·cases h
theorem f7 {α β : Type} {t fuel n0 n1 : Nat} {f0 f1 : Field} {A : α → List AV} {B : β → List AV} {OkA : α → Prop} {OkB : β → Prop} (ht : P.underlying t = some (.struct #[f0,f1])) (o0 : f0.offset = 0) (s0 : P.cellsOf f0.type = n0) (o1 : f1.offset = n0)
  (s1 : P.cellsOf f1.type = n1) (st : P.cellsOf t = n0 + n1) (r0 : ∀ n,n < fuel → Reads enc P w base spare held f0.type A OkA n) (r1 : ∀ n,n < fuel → Reads enc P w base spare held f1.type B OkB n) :
  Reads enc P w base spare held t (fun p : α × β => A p.1 ++ B p.2) (fun p => OkA p.1 ∧ OkB p.2) fuel := fun cs x hx hw => by
 obtain ⟨xs,n,hfuel,rfl,hl,hlen,hf⟩ := DataW.trod_struct ht hx
 have h0 := hf 0 f0 rfl
 have h1 := hf 1 f1 rfl
 match xs,hlen with
 | [y0,y1],_ =>
 rw [o0,s0,List.drop_zero] at h0
 rw [o1,s1] at h1
 obtain ⟨a,ha,pa⟩ := r0 n (by omega) _ _ h0 (weighs_struct ht hw 0 f0 y0.1 rfl rfl)
 obtain ⟨b,hb,pb⟩ := r1 n (by omega) _ _ h1 (weighs_struct ht hw 1 f1 y1.1 rfl rfl)
 refine ⟨(a,b),⟨ha,hb⟩,?_⟩
 have e : cs = cs.take n0 ++ (cs.drop n0).take n1 := by
  rw [List.take_of_length_le (l := cs.drop n0) (by rw [List.length_drop];omega),List.take_append_drop]
 rw [e]
 exact PCRel.append pa pb
end
theorem l6 (w : World) : ju w [] [] := ⟨rfl,fun j h => by simp at h⟩
theorem fN {w : World} {v : Value} {a : AV} {vs : List Value} {xs : List AV} (h : PRel (fz w) v a) (k : ju w vs xs) : ju w (v :: vs) (a :: xs) := ⟨by simp [k.1],fun j hj => by
 cases j with
 | zero => exact h
 | succ j => exact k.2 j (by simpa using hj)⟩
theorem iE {Z : dY} {v : Value} {a : AV} (h : PCRel Z [v] [a]) : PRel Z v a := (h.2 0 (by simp)).1
end Go.Proofs.YtiiaokjgbjhfhaaGreatDoor
namespace Go.Proofs.YtiiaokjgbjhfhaaGreatDoor
set_option linter.unusedSimpArgs false
set_option linter.unusedVariables false
open Go.RowKit
def wkD : Nat → AV → AV
 | 0,x => x
 | k + 1,.sl cs n .full => .sl (cs.map (wkD k)) n .none
 | k + 1,.sl cs n .none => .sl (cs.map (wkD k)) n .none
 | k + 1,.agg cs => .agg (cs.map (wkD k))
 | k + 1,.tup cs => .tup (cs.map (wkD k))
 | k + 1,.ifc t x => .ifc t (wkD k x)
 | k + 1,.rf cs o => .rf (cs.map (wkD k)) o
 | _ + 1,x => x
theorem dC {Z : dY} : ∀ (k : Nat) {x : AV} {v : Value},PRel Z v x → PRel Z v (wkD k x)
 | 0,x,v,h => h
 | k + 1,.sl cs n .full,v,h => by
  cases h with
  | sl a b off n cap o cs f ho hn ha hc hz hp =>
   exact .sl a b off n cap .none _ f (.inl rfl) hn ha (hc.imp (fun ⟨h1,h2⟩ => ⟨h1,by simp [h2]⟩) id) (fun j hj => hz j (by simpa using hj)) fun j hj => by
    rw [List.getElem_map];exact dC k (hp j (by simpa using hj))
 | k + 1,.sl cs n .none,v,h => by
  cases h with
  | sl a b off n cap o cs f ho hn ha hc hz hp =>
   exact .sl a b off n cap .none _ f (.inl rfl) hn ha (hc.imp (fun ⟨h1,h2⟩ => ⟨h1,by simp [h2]⟩) id) (fun j hj => hz j (by simpa using hj)) fun j hj => by
    rw [List.getElem_map];exact dC k (hp j (by simpa using hj))
 | k + 1,.agg cs,v,h => by
  cases h with
  | agg vs cs hs h1 hp =>
   exact .agg vs _ (by simpa using hs) (fun j hj => h1 j (by simpa using hj)) fun j hj => by
    rw [List.getElem_map];exact dC k (hp j (by simpa using hj))
 | k + 1,.tup cs,v,h => by
  cases h with
  | tup vs cs hs hp =>
   exact .tup vs _ (by simpa using hs) fun j hj => by
    rw [List.getElem_map];exact dC k (hp j (by simpa using hj))
 | k + 1,.ifc t x,v,h => by
  cases h with
  | ifc t v x h => exact .ifc t v _ (dC k h)
 | k + 1,.rf cs o,v,h => by
  cases h with
  | rf b off o cs f hz hp =>
   exact .rf b off o _ f (fun j hj => hz j (by simpa using hj)) fun j hj => by
    rw [List.getElem_map];exact dC k (hp j (by simpa using hj))
 | _ + 1,.sl cs n (.tok b),v,h => h
 | _ + 1,.c _,v,h => h
 | _ + 1,.u,v,h => h
 | _ + 1,.fn _ _ _,v,h => h
 | _ + 1,.loc _ _,v,h => h
 | _ + 1,.arr _ _ _ _,v,h => h
 | _ + 1,.bc _ _,v,h => h
 | _ + 1,.bt _ _,v,h => h
 | _ + 1,.mp _,v,h => h
theorem ic {G : Gh} {B : Nat → AV} : ∀ (k : Nat) {x : AV} {v : Value},VRel G B v x → VRel G B v (wkD k x)
 | 0,x,v,h => h
 | k + 1,.sl cs n .full,v,h => by
  cases h with
  | p h => exact .p (dC (k + 1) h)
 | k + 1,.sl cs n .none,v,h => by
  cases h with
  | p h => exact .p (dC (k + 1) h)
 | k + 1,.agg cs,v,h => by
  obtain ⟨vs,rfl,hs,h1,hp⟩ := dN h
  exact .agg vs _ (by simpa using hs) (fun j hj => h1 j (by simpa using hj)) fun j hj => by
   have hj' : j < cs.length := by simpa using hj
   rw [List.getElem_map];exact ic k (hp j hj')
 | k + 1,.tup cs,v,h => by
  obtain ⟨vs,rfl,hs,hp⟩ := fe h
  exact .tup vs _ (by simpa using hs) fun j hj => by
   have hj' : j < cs.length := by simpa using hj
   rw [List.getElem_map];exact ic k (hp j hj')
 | k + 1,.ifc t x,v,h => by
  obtain ⟨v',rfl,h'⟩ := da h
  exact .ifc t v' _ (ic k h')
 | k + 1,.rf cs o,v,h => by
  cases h with
  | p h => exact .p (dC (k + 1) h)
 | _ + 1,.sl cs n (.tok b),v,h => h
 | _ + 1,.c _,v,h => h
 | _ + 1,.u,v,h => h
 | _ + 1,.fn _ _ _,v,h => h
 | _ + 1,.loc _ _,v,h => h
 | _ + 1,.arr _ _ _ _,v,h => h
 | _ + 1,.bc _ _,v,h => h
 | _ + 1,.bt _ _,v,h => h
 | _ + 1,.mp _,v,h => h
 | _ + 1,.ow _ _ _ _,v,h => h
 | _ + 1,.lo _ _ _,v,h => h
 | _ + 1,.br _ _ _ _,v,h => h
theorem dA {P : Program} {f : FuncId} {args args' bxs bxs' : List AV} {r : AV} (k : Nat) (h : AFn P f args' bxs r bxs') (e : args.map (wkD k) = args') : AFn P f args bxs r bxs' := fun w G vs hst hX hvs hargs =>
 h w G vs hst hX (by rw [hvs,← e];simp) fun j hj => by
  subst e
  have hj' : j < args.length := by simpa using hj
  rw [List.getElem_map];exact ic k (hargs j hj')
end Go.Proofs.YtiiaokjgbjhfhaaGreatDoor
namespace Go.Proofs.YtiiaokjgbjhfhaaGreatDoor
set_option linter.unusedSimpArgs false
set_option linter.unusedVariables false
open Go.RowKit
def cS (e : Nat) : AV := if e = 0 then .c .nilIface else .ifc 49 (.c (.int .i64 (e : Int)))
theorem jy : cS 0 = .c .nilIface := rfl
theorem jc {e : Nat} (h : e ≠ 0) : cS e = .ifc 49 (.c (.int .i64 (e : Int))) := if_neg h
@[go_sem] theorem qX (g : List (Nat × Nat)) (k e : Nat) : ren g (k + 2) (cS e) = cS e := by
 unfold cS;split <;> rfl
@[go_sem] theorem pC (b k e : Nat) : cx b (k + 2) (cS e) = false := by
 unfold cS;split <;> rfl
@[go_sem] theorem qV (e : Nat) : (cS e).one = true := by
 unfold cS;split <;> rfl
@[go_sem] theorem pM (e : Nat) : bU (cS e) = [cS e] := by
 unfold cS;split <;> rfl
@[go_sem] theorem qK (ex : List Nat) (σ : bq) (k e : Nat) : dz ex σ (k + 2) (cS e) = cS e := by
 unfold cS;split <;> rfl
@[go_sem] theorem qp (tk : Bool) (k e : Nat) : dW tk (k + 2) (cS e) = [] := by
 unfold cS;split <;> rfl
theorem kV : (Tryz.prog.info? 49).map (fun i => i.comparable) = some true := by kernel_rfl
set_option maxRecDepth 100000 in
theorem km (a b : Int) : ∀ w,(((pure () : Sem Unit) >>= fun _ => binOp .eql 26 (.iface 49 (.int .i64 a)) (.iface 49 (.int .i64 b))) : Sem Value).run Tryz.prog w = .ok (.bool (a == b)) w := fun w => by
 have := Go.Lib.run_eql_iface_int w (k := .i64) a b Tryz.underlying26 kV Tryz.underlying49
 rw [Sem.run_bind]
 exact this
set_option maxRecDepth 100000 in
theorem lM : ∀ w,(((pure () : Sem Unit) >>= fun _ => binOp .eql 26 .nilIface .nilIface) : Sem Value).run Tryz.prog w = .ok (.bool true) w := fun w => by
 have ht := Tryz.underlying26
 have h : ∀ d : Nat,(Op.equalIn (d + 2) 26 .nilIface .nilIface).run Tryz.prog w = .ok true w := fun d => by
  simp [Op.equalIn,run_underlying ht]
 have h2 : (binOp .eql 26 .nilIface .nilIface).run Tryz.prog w = .ok (.bool true) w := by
  simp only [binOp]
  simp [Op.equal,Op.maxDepth,h 9998]
 rw [Sem.run_bind]
 exact h2
set_option maxRecDepth 100000 in
theorem cW : ∀ w,(((pure () : Sem Unit) >>= fun _ => binOp .neq 26 .nilIface .nilIface) : Sem Value).run Tryz.prog w = .ok (.bool false) w := fun w => by
 have ht := Tryz.underlying26
 have h : ∀ d : Nat,(Op.equalIn (d + 2) 26 .nilIface .nilIface).run Tryz.prog w = .ok true w := fun d => by
  simp [Op.equalIn,run_underlying ht]
 have h2 : (binOp .neq 26 .nilIface .nilIface).run Tryz.prog w = .ok (.bool false) w := by
  simp only [binOp]
  simp [Op.equal,Op.maxDepth,h 9998]
 rw [Sem.run_bind]
 exact h2
def bX : Nat → List Nat
 | 0 => [0]
 | 1 => [0]
 | 2 => []
 | 3 => [0]
 | 4 => [0,3]
 | 5 => [0,3]
 | 6 => [0,3]
 | 7 => [3]
 | 8 => []
 | _ => []
set_option maxRecDepth 100000 in
set_option maxHeartbeats 4000000 in
theorem kW (e : Nat) (he : e ≤ 16) : AFn Tryz.prog 9 [cS e] [] (.c (.int .i64 (e : Int))) [] := by
 by_cases h0 : e = 0
 ·subst h0
  rw [jy]
  refine bi [] Tryz.func9 rfl Tryz.ntmps9 (Nat.le_of_ble_eq_true rfl) (Nat.le_of_ble_eq_true rfl) fun w0 G0 B0 Pr hB0 => ?_
  simp only [bu,bf,List.cons_append,List.nil_append]
  repeat' (first | (with_reducible refine hY _ ?_;clear hY Y) | ((with_reducible first | refine aX rfl (aR fun K' hK' => aa ?_) | refine hK' _ (ab fun Y hY => aa ?_) | refine ab fun Y hY => aa ?_ | refine ae tk0 bX (ab fun Y hY => aa ?_) | refine aa ?_ | refine aA ?_);(try clear hK' K');(try dsimp only [aop]);try simp only [go_sem,↓reduceIte,Nat.reduceEqDiff,Nat.reduceLT,Nat.reduceLeDiff,Nat.reduceAdd,Nat.reduceSub,Nat.reduceMul,Nat.reduceBEq,Nat.reduceBNe,Nat.reducePow,Int.reduceToNat,Int.reduceLE,Int.reduceLT,Int.reduceMul,Int.reduceEq,Int.reducePow,Int.reduceAdd,Int.reduceSub,Int.reduceNeg,reduceCtorEq,bX,Tryz.results9]) | (with_reducible first | refine av ?_ | refine aO ?_ | refine aN ?_ | refine bj fun K hK => ?_ | refine ay ?_ | refine aQ ?_ | refine aP ?_) | (with_reducible refine hK _ ?_;clear hK K) | ((with_reducible refine ai ?_ ?_);(· decide)) | (with_reducible refine cI (lM) ?_))
  rfl
 rw [jc h0]
 refine bi [] Tryz.func9 rfl Tryz.ntmps9 (Nat.le_of_ble_eq_true rfl) (Nat.le_of_ble_eq_true rfl) fun w0 G0 B0 Pr hB0 => ?_
 simp only [bu,bf,List.cons_append,List.nil_append]
 repeat' (first | (with_reducible refine hY _ ?_;clear hY Y) | ((with_reducible first | refine aX rfl (aR fun K' hK' => aa ?_) | refine hK' _ (ab fun Y hY => aa ?_) | refine ab fun Y hY => aa ?_ | refine ae tk0 bX (ab fun Y hY => aa ?_));(try clear hK' K');(try dsimp only [aop]);try simp only [go_sem,↓reduceIte,Nat.reduceEqDiff,Nat.reduceLT,Nat.reduceLeDiff,Nat.reduceAdd,Nat.reduceSub,Nat.reduceMul,Nat.reduceBEq,Nat.reduceBNe,Nat.reducePow,Int.reduceToNat,Int.reduceLE,Int.reduceLT,Int.reduceMul,Int.reduceEq,Int.reducePow,Int.reduceAdd,Int.reduceSub,Int.reduceNeg,reduceCtorEq,bX,Tryz.results9]) | (with_reducible first | refine av ?_ | refine aO ?_ | refine aN ?_ | refine bj fun K hK => ?_ | refine az ?_ | refine aj ?_ | refine ax ?_ | refine aB ?_) | (with_reducible refine hK _ ?_;clear hK K) | ((with_reducible refine ai ?_ ?_);(· decide)))
 refine cq (α := Nat) (fun k => [(0,.ifc 49 (.c (.int .i64 (e : Int)))),(3,.c (.int .i64 (k : Int)))]) (fun k => 1 ≤ k ∧ k ≤ e) (fun k => 17 - k) 1 [0,3] ?_ ⟨Nat.le_refl _,by omega⟩ ?_
 ·simp only [go_sem,↓reduceIte,Nat.reduceEqDiff,Nat.reduceLT,Nat.reduceLeDiff,Nat.reduceAdd,Nat.reduceSub,Nat.reduceMul,Nat.reduceBEq,Nat.reduceBNe,Nat.reducePow,Int.reduceToNat,Int.reduceLE,Int.reduceLT,Int.reduceMul,Int.reduceEq,Int.reducePow,Int.reduceAdd,Int.reduceSub,Int.reduceNeg,reduceCtorEq] <;> rfl
 rintro k ⟨hk1,hk2⟩ ih
 have hk : (k : Int) ≤ 16 := by omega
 have hkw : IntKind.i64.wrap ((k : Int) + 1) = ((k + 1 : Nat) : Int) := by rw [bQ (by omega) (by omega)];rfl
 by_cases hke : k = e
 ·subst hke
  have hb : ((k : Int) == (k : Int)) = true := by simp
  repeat' (first | (with_reducible refine hY _ ?_;clear hY Y) | ((with_reducible first | refine aX rfl (aR fun K' hK' => aa ?_) | refine hK' _ (ab fun Y hY => aa ?_) | refine ab fun Y hY => aa ?_ | refine ae tk0 bX (ab fun Y hY => aa ?_) | refine aa ?_ | refine aA ?_);(try clear hK' K');(try dsimp only [aop]);try simp only [go_sem,↓reduceIte,Nat.reduceEqDiff,Nat.reduceLT,Nat.reduceLeDiff,Nat.reduceAdd,Nat.reduceSub,Nat.reduceMul,Nat.reduceBEq,Nat.reduceBNe,Nat.reducePow,Int.reduceToNat,Int.reduceLE,Int.reduceLT,Int.reduceMul,Int.reduceEq,Int.reducePow,Int.reduceAdd,Int.reduceSub,Int.reduceNeg,reduceCtorEq,bX,Tryz.results9,hk,hkw,hb]) | (with_reducible first | refine av ?_ | refine aO ?_ | refine aN ?_ | refine bj fun K hK => ?_ | refine ay ?_ | refine aQ ?_ | refine aD ?_ | refine aj ?_ | refine ax ?_ | refine aP ?_) | (with_reducible refine hK _ ?_;clear hK K) | ((with_reducible refine ai ?_ ?_);(· decide)) | (with_reducible refine cI (km _ _) ?_))
 ·have hb : ((e : Int) == (k : Int)) = false := by simp;omega
  repeat' (first | (with_reducible refine hY _ ?_;clear hY Y) | ((with_reducible first | refine aX rfl (aR fun K' hK' => aa ?_) | refine hK' _ (ab fun Y hY => aa ?_) | refine ab fun Y hY => aa ?_ | refine ae tk0 bX (ab fun Y hY => aa ?_) | refine aa ?_);(try clear hK' K');(try dsimp only [aop]);try simp only [go_sem,↓reduceIte,Nat.reduceEqDiff,Nat.reduceLT,Nat.reduceLeDiff,Nat.reduceAdd,Nat.reduceSub,Nat.reduceMul,Nat.reduceBEq,Nat.reduceBNe,Nat.reducePow,Int.reduceToNat,Int.reduceLE,Int.reduceLT,Int.reduceMul,Int.reduceEq,Int.reducePow,Int.reduceAdd,Int.reduceSub,Int.reduceNeg,reduceCtorEq,bX,Tryz.results9,hk,hkw,hb]) | (with_reducible first | refine av ?_ | refine aO ?_ | refine aN ?_ | refine bj fun K hK => ?_ | refine ay ?_ | refine az ?_ | refine aC ?_ | refine aj ?_ | refine ax ?_) | (with_reducible refine hK _ ?_;clear hK K) | ((with_reducible refine ai ?_ ?_);(· decide)) | (with_reducible refine cI (km _ _) ?_))
  refine bJ [0,3] (by simp only [go_sem,↓reduceIte,Nat.reduceEqDiff,Nat.reduceLT,Nat.reduceLeDiff,Nat.reduceAdd,Nat.reduceSub,Nat.reduceMul,Nat.reduceBEq,Nat.reduceBNe,Nat.reducePow,Int.reduceToNat,Int.reduceLE,Int.reduceLT,Int.reduceMul,Int.reduceEq,Int.reducePow,Int.reduceAdd,Int.reduceSub,Int.reduceNeg,reduceCtorEq];exact rfl) ?_
  exact ih (k + 1) ⟨by omega,by omega⟩ (by omega)
end Go.Proofs.YtiiaokjgbjhfhaaGreatDoor

/- Cut in K: slices.Clone of terms, maps.Keys, slices.Sorted: rows that the library makes, as sealed memory. -/
import Derived.Test.YtiiaokjgbjhfhaaGreatDoorZ13
import Derived.Test.YtiiaokjgbjhfhaaGreatDoorZ17
import Derived.WalkKit
import Derived.Deep.LoopGhost
import Derived.OwnWalkIn
import Derived.TacticsInMore
import Derived.RegionIn
import Derived.LoopNIn
import Derived.LoopIn
import Derived.Sort.LoopGhostIn
import Derived.Lib.Hide
import Derived.Lib.SliceRun
namespace Go.Proofs.YtiiaokjgbjhfhaaGreatDoor
set_option linter.unusedSimpArgs false
set_option linter.unusedVariables false
open Go.RowKit Go.Maps Go.Sort Go.Shelf
theorem kO {P : Program} {f : FuncId} {args bxs : List AV} {e sz n : Nat} {xs : List Value} (hx : xs.length = n * sz) (h1 : ∀ x ∈ xs,x.oneCell' = true)
  (h : ∀ (w : World) (G : Gh) (vs : Array Value),BSim P (fun b => b < w.heap.size ∧ ∀ k,G.γ k ≠ some b) G (bZ bxs) w → vs.size = args.length → (∀ j (h : j < args.length),VRel G (bZ bxs) (vs.getD j undef) args[j]) →
   Calls P f vs w fun o w' => ∃ v,o = .returned v ∧ w'.ownsRow w.heap.size e sz v n xs ∧ Below w.heap.size w w') : AFn P f args bxs (.sl (xs.map .c) n .none) bxs := fun w G vs hst hX hvs hargs => by
 have hbl : ∀ k g,G.γ k = some g → g < w.heap.size := fun k g hg => by
  exact (hst.box k g hg).2.2.lt
 have hz0 : ∀ b o,w.heap.size ≤ b → G.Z b o = none := fun b o hb => by
  cases hz : G.Z b o with
  | none => rfl
  | some v => have := World.block_lt_of_cell? w ⟨b,o,none⟩ (hst.agree b o v hz).1;simp at this;omega
 refine (h w G vs hst hvs hargs).mono fun o w' ⟨v,ho,hrow,hb⟩ => ?_
 have hkeep : ∀ b o v,G.Z b o = some v → w'.cell? ⟨b,o,none⟩ = some v ∧ v.oneCell' = true := fun b o v hz => by
  have := hst.agree b o v hz
  exact ⟨(hb.cell (p := ⟨b,o,none⟩) (World.block_lt_of_cell? w ⟨b,o,none⟩ this.1)).trans this.1,this.2⟩
 have hws : WStep (fun b => b < w.heap.size ∧ ∀ k,G.γ k ≠ some b) w w' := ⟨hb.os,hb.tape,hb.output,hb.size,fun b hp _ => hb.block b hp.1⟩
 rcases hrow.2 with ⟨rfl,rfl⟩ | ⟨g,cap,cur,rfl,r3,r4,r5,r6,r7,r8⟩
 ·have : xs = [] := List.eq_nil_of_length_eq_zero (by omega)
  subst this
  refine ⟨_,G,ho,.p (.sl none 0 0 0 0 .none [] (fun _ => undef) (.inl rfl) (Nat.le_refl _) (fun _ => rfl) (.inl ⟨rfl,rfl⟩) (fun j hj => absurd hj (Nat.not_lt_zero _)) fun j hj => absurd hj (Nat.not_lt_zero _)),⟨hkeep,fun k g hk => ?_,hst.real,hst.inj,hst.gl⟩,hws,.refl _ _,fun _ _ _ _ => rfl⟩
  obtain ⟨q1,q2,q3⟩ := hst.box k g hk
  exact ⟨q1,q2,q3.step (.refl _ _) rfl rfl rfl (hb.block g (hbl k g hk)) fun o => rfl⟩
 ·have hcell : ∀ j (hj : j < xs.length),w'.cell? ⟨g,j,none⟩ = some xs[j] := fun j hj => by
   have h2 : (cur.toList.take (n * sz))[j]? = xs[j]? := by rw [r8]
   rw [List.getElem?_take_of_lt (by omega),Array.getElem?_toList,List.getElem?_eq_getElem hj] at h2
   have h3 := Array.getElem?_eq_some_iff.1 h2
   obtain ⟨h3,h4⟩ := h3
   simp [World.cell?,r4,h3,h4]
  let Z' : dY := fun b o => if b = g then xs[o]? else G.Z b o
  have hle : SealLe G.Z Z' := fun b o v hz => by
   by_cases e : b = g
   ·rw [e,hz0 g o r3] at hz;cases hz
   ·show (if b = g then xs[o]? else G.Z b o) = some v
    rw [if_neg e];exact hz
  have hbs : BStep G (bZ bxs) ⟨Z',G.γ,G.κ,G.β⟩ (bZ bxs) := ⟨hle,fun k hk => .same rfl rfl rfl rfl⟩
  refine ⟨_,⟨Z',G.γ,G.κ,G.β⟩,ho,.p (.sl _ g 0 n cap .none _ (fun j => xs.getD j undef) (.inl rfl) r5 (fun hc => by cases hc) (.inr rfl) (fun j hj => ?_) fun j hj => ?_),⟨fun b o v hz => ?_,fun k g' hk => ?_,hst.real,hst.inj,hst.gl.mono hle⟩,hws,hbs,fun b o hb' _ => ?_⟩
  ·have hj' : j < xs.length := by simpa using hj
   show (if g = g then xs[0 + j]? else _) = _
   rw [if_pos rfl,Nat.zero_add,List.getElem?_eq_getElem hj',List.getD_eq_getElem?_getD,List.getElem?_eq_getElem hj'];rfl
  ·have hj' : j < xs.length := by simpa using hj
   rw [List.getElem_map,List.getD_eq_getElem?_getD,List.getElem?_eq_getElem hj']
   exact .c _
  ·have hz' : (if b = g then xs[o]? else G.Z b o) = some v := hz
   by_cases e : b = g
   ·rw [if_pos e] at hz'
    obtain ⟨h3,h4⟩ := List.getElem?_eq_some_iff.1 hz'
    subst e
    rw [← h4]
    exact ⟨hcell o h3,h1 _ (List.getElem_mem h3)⟩
   ·rw [if_neg e] at hz';exact hkeep b o v hz'
  ·obtain ⟨q1,q2,q3⟩ := hst.box k g' hk
   have hlt := hbl k g' hk
   exact ⟨q1,q2,q3.step hbs rfl rfl rfl (hb.block g' hlt) fun o => if_neg (by omega)⟩
  ·exact if_neg (by omega)
def eC : List Tm → List Value
 | [] => []
 | m :: r => .int .i64 m.1 :: .int .i64 m.2 :: eC r
theorem j6 : ∀ t : List Tm,(eC t).map AV.c = bx t
 | [] => rfl
 | m :: r => by rw [eC,List.map_cons,List.map_cons,j6 r];rfl
theorem jq (t : List Tm) : (eC t).length = t.length * 2 := by
 have := congrArg List.length (j6 t)
 rw [List.length_map,cu] at this;exact this
theorem gQ : ∀ t : List Tm,∀ x ∈ eC t,x.oneCell' = true
 | [],x,h => absurd h List.not_mem_nil
 | m :: r,x,h => by
  simp only [eC,List.mem_cons] at h
  rcases h with rfl | rfl | h
  ·rfl
  ·rfl
  ·exact gQ r x h
set_option maxHeartbeats 2000000 in
set_option maxRecDepth 100000 in
theorem kS (b off n c : Nat) (t : List Tm) (w : World) (hn : t.length = n) (hbig : n * 16 ≤ 140737488355328) (hc : ∀ j (h : j < (eC t).length),w.cell? ⟨b,off + j,none⟩ = some (eC t)[j]) :
  Calls Tryz.prog 18 #[.slice (some ⟨b,off,none⟩) n c] w fun e w' => ∃ v',e = .returned v' ∧ w'.ownsRow w.heap.size 57 2 v' n (eC t) ∧ Below w.heap.size w w' := by
 have hlen := jq t
 have hone := gQ t
 obtain ⟨i0,hi,hz0,hz1,hz2⟩ : ∃ i0,Tryz.prog.info? 57 = some i0 ∧ i0.zero = some (.agg #[.int .i64 0,.int .i64 0]) ∧ i0.size = 2 ∧ i0.bytes = 16 := ⟨_,rfl,rfl,rfl,rfl⟩
 have q22 : ∀ (w : World) (a : Option Addr) (n c n' c' : Nat),(binOp .eql 36 (.slice a n c) (.slice none n' c')).run Tryz.prog w = .ok (.bool a.isNone) w := fun w a n c n' c' => Lib.run_eql_slice_nil w _ _ a n c n' c' Tryz.underlying36
 have A : Aside (∀ j (h : j < (eC t).length),w.cell? ⟨b,off + j,none⟩ = some (eC t)[j]) := hc
 clear hc
 refine (callsIn_wide (n := 1)).1 ?_
 refine callsIn_of_wp Tryz.func18 rfl trivial ?_ rfl
 simp only [Tryz.ntmps18,List.size_toArray,List.length_cons,List.length_nil,Nat.reduceAdd,Nat.reduceSub,Array.replicate_succ,Array.replicate_zero,List.push_toArray,List.append_toArray,List.nil_append,List.cons_append]
 gi_wp2_with (gi_at_builtin;refine wpListIn_append_own _ rfl _ _ 36 rfl w.heap.size 57 i0 (.agg #[.int .i64 0,.int .i64 0]) 2 16 Tryz.underlying36 hi hz0 hz1 hz2 rfl (by decide) _ _ _ rfl (World.ownsRow_made w #[] 0 (Nat.le_refl _) (Nat.zero_le _) rfl) ⟨b,off,none⟩ n c (eC t) rfl ?qc1 ?qc2 ?qc3 ?qc4 ?qc5 ?qc6 ?_)
 case qc1 => omega
 case qc2 =>
  intro j u hj
  obtain ⟨hj1,hj2⟩ := List.getElem?_eq_some_iff.1 hj
  rw [Addr.add_lit]
  refine Lib.cell?_alloc_some _ ?_
  rw [A.out j hj1,hj2]
 case qc3 => exact hone
 case qc4 => unfold maxLen;omega
 case qc5 => omega
 case qc6 => simp
 intro v' w1 hown hgrow hnil
 gi_wp2
 go_ret
 refine ⟨v',rfl,by simpa using hown,?_⟩
 exact ((Below.refl _ w).alloc (Nat.le_refl _) _).grown hgrow (by simp) (by intro k hk;simp [Value.ownBlock] at hk;omega)
set_option maxHeartbeats 1000000 in
theorem kR (n c : Nat) (w : World) :
  Calls Tryz.prog 18 #[.slice none n c] w fun e w' => e = .returned (.slice none 0 0) ∧ w' = w := by
 have q22 : ∀ (w : World) (a : Option Addr) (n c n' c' : Nat),(binOp .eql 36 (.slice a n c) (.slice none n' c')).run Tryz.prog w = .ok (.bool a.isNone) w := fun w a n c n' c' => Lib.run_eql_slice_nil w _ _ a n c n' c' Tryz.underlying36
 refine (callsIn_wide (n := 1)).1 ?_
 refine callsIn_of_wp Tryz.func18 rfl trivial ?_ rfl
 simp only [Tryz.ntmps18,List.size_toArray,List.length_cons,List.length_nil,Nat.reduceAdd,Nat.reduceSub,Array.replicate_succ,Array.replicate_zero,List.push_toArray,List.append_toArray,List.nil_append,List.cons_append]
 gi_wp2
 go_ret
 exact ⟨rfl,rfl⟩
set_option maxHeartbeats 1000000 in
set_option maxRecDepth 100000 in
theorem kT (a : Addr) (c : Nat) (w : World) :
  Calls Tryz.prog 18 #[.slice (some a) 0 c] w fun e w' => ∃ v',e = .returned v' ∧ w'.ownsRow w.heap.size 57 2 v' 0 [] ∧ Below w.heap.size w w' := by
 obtain ⟨i0,hi,hz0,hz1,hz2⟩ : ∃ i0,Tryz.prog.info? 57 = some i0 ∧ i0.zero = some (.agg #[.int .i64 0,.int .i64 0]) ∧ i0.size = 2 ∧ i0.bytes = 16 := ⟨_,rfl,rfl,rfl,rfl⟩
 have q22 : ∀ (w : World) (a : Option Addr) (n c n' c' : Nat),(binOp .eql 36 (.slice a n c) (.slice none n' c')).run Tryz.prog w = .ok (.bool a.isNone) w := fun w a n c n' c' => Lib.run_eql_slice_nil w _ _ a n c n' c' Tryz.underlying36
 refine (callsIn_wide (n := 1)).1 ?_
 refine callsIn_of_wp Tryz.func18 rfl trivial ?_ rfl
 simp only [Tryz.ntmps18,List.size_toArray,List.length_cons,List.length_nil,Nat.reduceAdd,Nat.reduceSub,Array.replicate_succ,Array.replicate_zero,List.push_toArray,List.append_toArray,List.nil_append,List.cons_append]
 gi_wp2_with (gi_at_builtin;refine wpListIn_append_own _ rfl _ _ 36 rfl w.heap.size 57 i0 (.agg #[.int .i64 0,.int .i64 0]) 2 16 Tryz.underlying36 hi hz0 hz1 hz2 rfl (by decide) _ _ _ rfl (World.ownsRow_made w #[] 0 (Nat.le_refl _) (Nat.zero_le _) rfl) a 0 c [] rfl rfl (by intro j u hj;simp at hj) (by intro u hu;cases hu) (by unfold maxLen;omega) (by omega) (by simp) ?_)
 intro v' w1 hown hgrow hnil
 gi_wp2
 go_ret
 refine ⟨v',rfl,by simpa using hown,?_⟩
 exact ((Below.refl _ w).alloc (Nat.le_refl _) _).grown hgrow (by simp) (by intro k hk;simp [Value.ownBlock] at hk;omega)
theorem jV (w : World) (B e sz : Nat) : w.ownsRow B e sz (.slice none 0 0) 0 [] := ⟨by simp,.inl ⟨rfl,rfl⟩⟩
theorem lK (t : List Tm) (o : Own) (ho : o = .none ∨ o = .full) (hbig : t.length ≤ 8796093022207) :
  AFn Tryz.prog 18 [.sl (bx t) t.length o] [] (.sl (bx t) t.length .none) [] := by
 have key : AFn Tryz.prog 18 [.sl ((eC t).map .c) t.length o] [] (.sl ((eC t).map .c) t.length .none) [] := by
  refine kO (e := 57) (sz := 2) (jq t) (gQ t) fun w G vs hst hvs hargs => ?_
  obtain ⟨a,cap,b,off,f,e0,⟨q1,q2,q3,q4,q5⟩,_,_⟩ := df (hargs 0 (by simp))
  have hvs2 : vs = #[.slice a t.length cap] := by
   cases vs with
   | mk l =>
    match l,hvs with
    | [v0],_ => simp at e0;subst e0;rfl
  subst hvs2
  cases a with
  | none =>
   have : t = [] := List.eq_nil_of_length_eq_zero (by have := q2 rfl;omega)
   subst this
   refine (kR _ cap w).mono ?_
   rintro e w' ⟨rfl,rfl⟩
   exact ⟨_,rfl,jV _ _ _ _,.refl _ _⟩
  | some ad =>
   by_cases h0 : t.length = 0
   ·have : t = [] := List.eq_nil_of_length_eq_zero h0
    subst this
    exact kT ad cap w
   ·rcases q3 with ⟨q3,_⟩ | q3
    ·exact absurd q3 h0
    cases q3
    refine kS b off t.length cap t w rfl (by omega) fun j hj => ?_
    have h1 := q4 j (by simpa using hj)
    have h2 := q5 j (by simpa using hj)
    rw [List.getElem_map] at h2
    have h3 := cr (VRel.p (G := G) (B := bZ []) h2)
    rw [← h3]
    exact (hst.agree _ _ _ h1).1
 rw [j6] at key
 exact key
end Go.Proofs.YtiiaokjgbjhfhaaGreatDoor

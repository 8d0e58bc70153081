/- K: a box that is written no more is sealed. No program is in sight. -/
import Derived.Test.YtiiaokjgbjhfhaaGreatDoorZ7
namespace Go.Proofs.YtiiaokjgbjhfhaaGreatDoor
set_option linter.unusedSimpArgs false
set_option linter.unusedVariables false
open Go.RowKit
def i4 (b : Nat) (cs : List AV) : Nat → AV → AV
 | 0,_ => .u
 | _ + 1,.loc b' off => if b' = b then .rf cs off else .loc b' off
 | _ + 1,.arr b' off n e => if b' = b then .sl (cs.drop off) n .none else .arr b' off n e
 | k + 1,.agg l => .agg (l.map (i4 b cs k))
 | k + 1,.tup l => .tup (l.map (i4 b cs k))
 | k + 1,.ifc t x => .ifc t (i4 b cs k x)
 | k + 1,.fn f p q => .fn f (p.map (i4 b cs k)) (q.map (i4 b cs k))
 | k + 1,.bc l ty => .bc (l.map (i4 b cs k)) ty
 | _ + 1,.sl l n .none => .sl l n .none
 | _ + 1,.sl l n .full => .sl l n .full
 | _ + 1,.sl l n (.tok t) => .sl l n (.tok t)
 | _ + 1,.c x => .c x
 | _ + 1,.u => .u
 | _ + 1,.rf l o => .rf l o
 | _ + 1,.bt n e => .bt n e
 | _ + 1,.mp b' => if b' = b then .u else .mp b'
 | _ + 1,.ow b' off n v => .ow b' off n v
 | _ + 1,.lo b' off v => .lo b' off v
 | k + 1,.br l v e sz => .br (l.map (i4 b cs k)) v e sz
 | k + 1,.fo rows => .fo (rows.map fun | .br l v e sz => .br (l.map (i4 b cs k)) v e sz | x => x)
def qo (b : Nat) (cs : List AV) : bq → bq
 | [] => []
 | (k,v) :: r => if k = b then qo b cs r else (k,i4 b cs 7 v) :: qo b cs r
section
variable {E : Env}
end
theorem mv {G : Gh} {B : Nat → AV} (hB : ∀ k,10000 ≤ k → B k = .u) {v : Value} {x : AV} (h : VRel G B v x) : PRel G.Z v x := by
 induction h with
 | p h => exact h
 | tok a n cap cs b tip e h hb hB' hn hk => rw [hB b hb] at hB';cases hB'
 | loc b off g cs ty hb hB' hg hm => rw [hB b hb] at hB';cases hB'
 | arr b off n e cap g cs ty hb hB' hg hn hm => rw [hB b hb] at hB';cases hB'
 | mp b g cs ty hb hB' hg hm => rw [hB b hb] at hB';cases hB'
 | ow a n cap b off v cs v' e sz hb hB' hn ha hv hk => rw [hB b hb] at hB';cases hB'
 | lo g o b off v cs v' e sz hb hB' hv hk => rw [hB b hb] at hB';cases hB'
 | agg vs cs hs h1 hp ih => exact .agg vs cs hs h1 ih
 | tup vs cs hs hp ih => exact .tup vs cs hs ih
 | ifc t v x h ih => exact .ifc t v x ih
 | fn f va vb a b ha hb pa pb ia ib => exact .fn f va vb a b ha hb ia ib
theorem gw (k : Nat) : bZ [] k = .u := by
 have e : ∀ k,cJ [] k = .u := fun k => dP fun h => by have h1 := h.1;have h2 := h.2;simp only [List.length_nil] at h2;omega
 show lk (cJ []) k = .u
 unfold lk
 rw [e,e]
 split
 ·rfl
 ·split <;> rfl
theorem oh (x : AV) (hx : fx x = false) (k : Nat) : bZ [x] k = if k = 20000 then x else .u := by
 have e : ∀ k,cJ [x] k = if k = 20000 then x else .u := fun k => by
  by_cases hk : k = 20000
  ·subst hk;rfl
  ·rw [if_neg hk,dP fun h => by have h1 := h.1;have h2 := h.2;simp only [List.length_cons,List.length_nil] at h2;omega]
 show lk (cJ [x]) k = _
 by_cases hk : k < 1000000
 ·rw [b7 hk];exact e k
 ·rw [if_neg (by omega)]
  unfold lk
  rw [if_neg hk]
  by_cases h2 : 10000 ≤ cN k
  ·rw [if_pos h2,e]
   by_cases h3 : cN k = 20000
   ·rw [if_pos h3];exact iH hx _
   ·rw [if_neg h3];rfl
  ·rw [if_neg h2]
theorem eI {P : Program} {f : FuncId} {args args0 bxs : List AV} {r : AV} (h : AFn P f args0 [] r []) (hp : args.mapM (cH 4) = some args0) : AFn P f args bxs r bxs := fun w G vs hst hX hvs hargs => by
 have hl := fJ hp
 have hst0 : BSim P (fun b => b < w.heap.size ∧ ∀ k,(Gh.mk G.Z (fun _ => none) G.κ G.β).γ k ≠ some b) (Gh.mk G.Z (fun _ => none) G.κ G.β) (bZ []) w :=
  ⟨hst.agree,(fun k g hk => by cases hk),(fun k cs ty _ hk => by rw [gw] at hk;cases hk),(fun k k' g hk => by cases hk),hst.gl⟩
 refine (h w ⟨G.Z,fun _ => none,G.κ,G.β⟩ vs hst0 (fun g cs hg => ⟨(hX g cs hg).1,(hX g cs hg).2.1,fun k hk => by cases hk⟩) (by omega) fun j hj => ?_).mono ?_
 ·have hj' : j < args.length := by omega
  have hq : PRel G.Z (vs.getD j undef) args0[j] := fO 4 (hargs j hj') (fD hp j hj' hj)
  exact .p hq
 ·rintro e w' ⟨v,G',h1,h2,h3,h4,h5,h6⟩
  have hZ : SealLe G.Z G'.Z := h5.1
  have hz : ∀ b o,b < w.heap.size → G'.Z b o = G.Z b o := fun b o hb => h6 b o hb fun k hk => by cases hk
  have hbl : ∀ k g,G.γ k = some g → g < w.heap.size := fun k g hg => by
   exact (hst.box k g hg).2.2.lt
  have hvr : PRel G'.Z v r := mv (fun k _ => gw k) h2
  have hs : BStep G (bZ bxs) ⟨G'.Z,G.γ,G.κ,G.β⟩ (bZ bxs) := ⟨hZ,fun k _ => .same rfl rfl rfl rfl⟩
  refine ⟨v,⟨G'.Z,G.γ,G.κ,G.β⟩,h1,.p hvr,⟨h3.agree,fun k g hk => ?_,hst.real,hst.inj,h3.gl⟩,⟨h4.os,h4.tape,h4.output,h4.size,fun b hb hlt => h4.block b ⟨hlt,fun k hk => by cases hk⟩ hlt⟩,hs,fun b o hb _ => hz b o hb⟩
  obtain ⟨q1,q2,q3⟩ := hst.box k g hk
  exact ⟨q1,q2,q3.step hs rfl rfl rfl (h4.block g ⟨hbl k g hk,fun k hk => by cases hk⟩ (hbl k g hk)) fun o => hz g o (hbl k g hk)⟩
attribute [go_sem] qo i4
end Go.Proofs.YtiiaokjgbjhfhaaGreatDoor

/- The shelf's contracts laid at this seat, in plain words (written by the kit's lay-plain.mjs). Cut in K: slices.Clone of terms, maps.Keys, slices.Sorted: rows that the library makes, as sealed memory. The first element of a kind in a list: plain. The shelf's contracts laid at this seat, in plain words (written by the kit's lay-plain.mjs). Clauses in K: slices.Grow, slices.Concat, ContainsFunc of rows of numbers; prop.Check of sound clauses. -/
import Derived.Shelf.SlIterI.Sorted
import Derived.Ground.GgzProg
import Derived.Shelf.SlIterI.Collect
import Derived.Shelf.SlIterI.Nil
import Derived.Shelf.Sort.Plain
import Derived.Shelf.Slices.In.SortNone
import Derived.Ground.NamesProg
import Derived.Test.YtmpdocplcgbpkaaGreatDoorProg
import Derived.Test.YtmpdocplcgbpkaaGreatDoorZ9
import Derived.WalkKit
import Derived.Deep.LoopGhost
import Derived.OwnWalkIn
import Derived.TacticsInMore
import Derived.RegionIn
import Derived.LoopNIn
import Derived.LoopIn
import Derived.Sort.LoopGhostIn
import Derived.Lib.Hide
import Derived.Lib.SliceRun
import Derived.Shelf.Spec.SlicesGrow
import Derived.Ground.Names8Prog
namespace Go.Proofs
open Go.Shelf
def Tryz.zSortedI_ren : Go.Shelf.Ren:=⟨fun | 6=>131 | 8=>136 | 9=>137 | 11=>140 | 13=>142 | 12=>141 | 23=>153 | 24=>154 | 14=>144 | 15=>145 | 16=>146 | 17=>147 | 18=>148 | 19=>149 | 20=>150 | 21=>151 | 22=>152 | 25=>155 | 26=>156 | 27=>157 | 28=>158 | 29=>159 | 30=>160 | 31=>161 | n=>n,fun | 26=>3 | 28=>193 | 24=>41 | 0=>0 | 3=>3 | 37=>199 | 48=>212 | 50=>214 | 4=>4 | 40=>205 | 39=>204 | 45=>209 | 5=>5 | 9=>9 | 51=>215 | 55=>219 | 57=>221 | 58=>37 | 33=>111 | n=>n,fun | n=>n⟩
theorem Tryz.zSortedI : Go.Proofs.SlLaysZI.n6 Tryz.prog Tryz.zSortedI_ren:={
 mixed:=by kernel_rfl
 f6:=⟨Tryz.f131.name,by decide,Tryz.func131.trans (congrArg some (by kernel_rfl))⟩
 f8:=⟨Tryz.f136.name,by decide,Tryz.func136.trans (congrArg some (by kernel_rfl))⟩
 f11:=⟨Tryz.f140.name,by decide,Tryz.func140.trans (congrArg some (by kernel_rfl))⟩
 t0:=Tryz.underlying0
 a0:=Tryz.isAgg0
 z0:=Tryz.sizeOf0
 v0:=Tryz.zeroValue0
 t24:=Tryz.underlying41
 a24:=Tryz.isAgg41
 z24:=Tryz.sizeOf41
 v24:=Tryz.zeroValue41
 t26:=Tryz.underlying3
 a26:=Tryz.isAgg3
 z26:=Tryz.sizeOf3
 v26:=Tryz.zeroValue3
 t28:=Tryz.underlying193
 a28:=Tryz.isAgg193
 z28:=Tryz.sizeOf193
 v28:=Tryz.zeroValue193
 i26:=by kernel_rfl }
def Tryz.zKeysI_ren : Go.Shelf.Ren:=⟨fun | 10=>138 | n=>n,fun | 33=>111 | 23=>187 | 0=>0 | 4=>4 | 26=>3 | 3=>3 | n=>n,fun | n=>n⟩
theorem Tryz.zKeysI : Go.Proofs.SlLaysZI.n10 Tryz.prog Tryz.zKeysI_ren:={
 mixed:=by kernel_rfl
 f10:=⟨Tryz.f138.name,by decide,Tryz.func138.trans (congrArg some (by kernel_rfl))⟩
 t0:=Tryz.underlying0
 a0:=Tryz.isAgg0
 z0:=Tryz.sizeOf0
 v0:=Tryz.zeroValue0
 t4:=Tryz.underlying4
 a4:=Tryz.isAgg4
 z4:=Tryz.sizeOf4
 v4:=Tryz.zeroValue4
 t23:=Tryz.underlying187
 a23:=Tryz.isAgg187
 z23:=Tryz.sizeOf187
 v23:=Tryz.zeroValue187
 t26:=Tryz.underlying3
 a26:=Tryz.isAgg3
 z26:=Tryz.sizeOf3
 v26:=Tryz.zeroValue3
 t33:=Tryz.underlying111
 a33:=Tryz.isAgg111
 z33:=Tryz.sizeOf111
 v33:=Tryz.zeroValue111 }
def Tryz.zSortI_ren : Go.Shelf.Ren:=⟨fun | 189=>137 | 125=>142 | 257=>141 | 128=>153 | 129=>154 | 294=>144 | 295=>145 | 296=>146 | 297=>147 | 298=>148 | 299=>149 | 216=>150 | 300=>151 | 301=>152 | 328=>155 | 329=>156 | 330=>157 | 331=>158 | 332=>159 | 215=>160 | 343=>161 | n=>n,fun | 28=>41 | 3=>3 | 46=>199 | 0=>0 | 51=>212 | 53=>214 | 4=>4 | 183=>205 | 182=>204 | 131=>209 | 5=>5 | 9=>9 | 218=>215 | 222=>219 | 228=>221 | 229=>37 | n=>n,fun | n=>n⟩
theorem Tryz.zSortI : Go.Proofs.Lays.n189 Tryz.prog Tryz.zSortI_ren:={
 mixed:=by kernel_rfl
 f125:=Tryz.func142.trans (congrArg some (by kernel_rfl))
 f128:=Tryz.func153.trans (congrArg some (by kernel_rfl))
 f129:=Tryz.func154.trans (congrArg some (by kernel_rfl))
 f189:=Tryz.func137.trans (congrArg some (by kernel_rfl))
 f215:=Tryz.func160.trans (congrArg some (by kernel_rfl))
 f216:=Tryz.func150.trans (congrArg some (by kernel_rfl))
 f257:=Tryz.func141.trans (congrArg some (by kernel_rfl))
 f294:=Tryz.func144.trans (congrArg some (by kernel_rfl))
 f295:=Tryz.func145.trans (congrArg some (by kernel_rfl))
 f296:=Tryz.func146.trans (congrArg some (by kernel_rfl))
 f297:=Tryz.func147.trans (congrArg some (by kernel_rfl))
 f298:=Tryz.func148.trans (congrArg some (by kernel_rfl))
 f299:=Tryz.func149.trans (congrArg some (by kernel_rfl))
 f300:=Tryz.func151.trans (congrArg some (by kernel_rfl))
 f301:=Tryz.func152.trans (congrArg some (by kernel_rfl))
 f328:=Tryz.func155.trans (congrArg some (by kernel_rfl))
 f329:=Tryz.func156.trans (congrArg some (by kernel_rfl))
 f330:=Tryz.func157.trans (congrArg some (by kernel_rfl))
 f331:=Tryz.func158.trans (congrArg some (by kernel_rfl))
 f332:=Tryz.func159.trans (congrArg some (by kernel_rfl))
 f343:=Tryz.func161.trans (congrArg some (by kernel_rfl))
 t0:=Tryz.underlying0
 a0:=Tryz.isAgg0
 z0:=Tryz.sizeOf0
 v0:=Tryz.zeroValue0
 t3:=Tryz.underlying3
 a3:=Tryz.isAgg3
 z3:=Tryz.sizeOf3
 v3:=Tryz.zeroValue3
 t4:=Tryz.underlying4
 a4:=Tryz.isAgg4
 z4:=Tryz.sizeOf4
 v4:=Tryz.zeroValue4
 t5:=Tryz.underlying5
 a5:=Tryz.isAgg5
 z5:=Tryz.sizeOf5
 v5:=Tryz.zeroValue5
 t9:=Tryz.underlying9
 a9:=Tryz.isAgg9
 z9:=Tryz.sizeOf9
 v9:=Tryz.zeroValue9
 t28:=Tryz.underlying41
 a28:=Tryz.isAgg41
 z28:=Tryz.sizeOf41
 v28:=Tryz.zeroValue41
 t46:=Tryz.underlying199
 a46:=Tryz.isAgg199
 z46:=Tryz.sizeOf199
 v46:=Tryz.zeroValue199
 t51:=Tryz.underlying212
 a51:=Tryz.isAgg212
 z51:=Tryz.sizeOf212
 v51:=Tryz.zeroValue212
 t53:=Tryz.underlying214
 a53:=Tryz.isAgg214
 z53:=Tryz.sizeOf214
 v53:=Tryz.zeroValue214
 t131:=Tryz.underlying209
 a131:=Tryz.isAgg209
 z131:=Tryz.sizeOf209
 v131:=Tryz.zeroValue209
 t182:=Tryz.underlying204
 a182:=Tryz.isAgg204
 z182:=Tryz.sizeOf204
 v182:=Tryz.zeroValue204
 t183:=Tryz.underlying205
 a183:=Tryz.isAgg205
 z183:=Tryz.sizeOf205
 v183:=Tryz.zeroValue205
 t218:=Tryz.underlying215
 a218:=Tryz.isAgg215
 z218:=Tryz.sizeOf215
 v218:=Tryz.zeroValue215
 t222:=Tryz.underlying219
 a222:=Tryz.isAgg219
 z222:=Tryz.sizeOf219
 v222:=Tryz.zeroValue219
 t228:=Tryz.underlying221
 a228:=Tryz.isAgg221
 z228:=Tryz.sizeOf221
 v228:=Tryz.zeroValue221
 t229:=Tryz.underlying37
 a229:=Tryz.isAgg37
 z229:=Tryz.sizeOf37
 v229:=Tryz.zeroValue37 }
end Go.Proofs
namespace Go.Proofs.YtmpdocplcgbpkaaGreatDoor
set_option linter.unusedSimpArgs false
set_option linter.unusedVariables false
open Go.RowKit Go.Maps Go.Sort Go.Shelf
theorem mh {P : Program} {f : FuncId} {args bxs : List AV} {e sz n : Nat} {xs : List Value} (hx : xs.length = n * sz) (h1 : ∀ x ∈ xs,x.oneCell' = true)
  (h : ∀ (w : World) (G : Gh) (vs : Array Value),BSim P (fun b=>b < w.heap.size∧∀ k,G.γ k ≠ some b) G (bP bxs) w→vs.size = args.length→(∀ j (h : j < args.length),VRel G (bP bxs) (vs.getD j undef) args[j]) →
   Calls P f vs w fun o w'=>∃ v,o = .returned v∧w'.ownsRow w.heap.size e sz v n xs∧Below w.heap.size w w') : AFn P f args bxs (.sl (xs.map .c) n .none) bxs:=fun w G vs hst hX hvs hargs=>by
 have hbl : ∀ k g,G.γ k = some g→g < w.heap.size:=fun k g hg=>by
  exact (hst.box k g hg).2.2.lt
 have hz0 : ∀ b o,w.heap.size≤b→G.Z b o = none:=fun b o hb=>by
  cases hz : G.Z b o with
  | none=>rfl
  | some v=>have:=World.block_lt_of_cell? w ⟨b,o,none⟩ (hst.agree b o v hz).1;simp at this;omega
 refine (h w G vs hst hvs hargs).mono fun o w' ⟨v,ho,hrow,hb⟩=>?_
 have hkeep : ∀ b o v,G.Z b o = some v→w'.cell? ⟨b,o,none⟩ = some v∧v.oneCell' = true:=fun b o v hz=>by
  have:=hst.agree b o v hz
  exact ⟨(hb.cell (p:=⟨b,o,none⟩) (World.block_lt_of_cell? w ⟨b,o,none⟩ this.1)).trans this.1,this.2⟩
 have hws : WStep (fun b=>b < w.heap.size∧∀ k,G.γ k ≠ some b) w w':=⟨hb.os,hb.tape,hb.output,hb.size,fun b hp _=>hb.block b hp.1⟩
 rcases hrow.2 with ⟨rfl,rfl⟩ | ⟨g,cap,cur,rfl,r3,r4,r5,r6,r7,r8⟩
 ·have : xs = []:=List.eq_nil_of_length_eq_zero (by omega)
  subst this
  refine ⟨_,G,ho,.p (.sl none 0 0 0 0 .none [] (fun _=>undef) (.inl rfl) (Nat.le_refl _) (fun _=>rfl) (.inl ⟨rfl,rfl⟩) (fun j hj=>absurd hj (Nat.not_lt_zero _)) fun j hj=>absurd hj (Nat.not_lt_zero _)),⟨hkeep,fun k g hk=>?_,hst.real,hst.inj,hst.gl⟩,hws,.refl _ _,fun _ _ _ _=>rfl⟩
  obtain ⟨q1,q2,q3⟩:=hst.box k g hk
  exact ⟨q1,q2,q3.step (.refl _ _) rfl rfl rfl (hb.block g (hbl k g hk)) fun o=>rfl⟩
 ·have hcell : ∀ j (hj : j < xs.length),w'.cell? ⟨g,j,none⟩ = some xs[j]:=fun j hj=>by
   have h2 : (cur.toList.take (n * sz))[j]? = xs[j]?:=by rw [r8]
   rw [List.getElem?_take_of_lt (by omega),Array.getElem?_toList,List.getElem?_eq_getElem hj] at h2
   have h3:=Array.getElem?_eq_some_iff.1 h2
   obtain ⟨h3,h4⟩:=h3
   simp [World.cell?,r4,h3,h4]
  let Z' : fV:=fun b o=>if b = g then xs[o]? else G.Z b o
  have hle : SealLe G.Z Z':=fun b o v hz=>by
   by_cases e : b = g
   ·rw [e,hz0 g o r3] at hz;cases hz
   ·show (if b = g then xs[o]? else G.Z b o) = some v
    rw [if_neg e];exact hz
  have hbs : BStep G (bP bxs) ⟨Z',G.γ,G.κ,G.β⟩ (bP bxs):=⟨hle,fun k hk=>.same rfl rfl rfl rfl⟩
  refine ⟨_,⟨Z',G.γ,G.κ,G.β⟩,ho,.p (.sl _ g 0 n cap .none _ (fun j=>xs.getD j undef) (.inl rfl) r5 (fun hc=>by cases hc) (.inr rfl) (fun j hj=>?_) fun j hj=>?_),⟨fun b o v hz=>?_,fun k g' hk=>?_,hst.real,hst.inj,hst.gl.mono hle⟩,hws,hbs,fun b o hb' _=>?_⟩
  ·have hj' : j < xs.length:=by simpa using hj
   show (if g = g then xs[0 + j]? else _) = _
   rw [if_pos rfl,Nat.zero_add,List.getElem?_eq_getElem hj',List.getD_eq_getElem?_getD,List.getElem?_eq_getElem hj'];rfl
  ·have hj' : j < xs.length:=by simpa using hj
   rw [List.getElem_map,List.getD_eq_getElem?_getD,List.getElem?_eq_getElem hj']
   exact .c _
  ·have hz' : (if b = g then xs[o]? else G.Z b o) = some v:=hz
   by_cases e : b = g
   ·rw [if_pos e] at hz'
    obtain ⟨h3,h4⟩:=List.getElem?_eq_some_iff.1 hz'
    subst e
    rw [← h4]
    exact ⟨hcell o h3,h1 _ (List.getElem_mem h3)⟩
   ·rw [if_neg e] at hz';exact hkeep b o v hz'
  ·obtain ⟨q1,q2,q3⟩:=hst.box k g' hk
   have hlt:=hbl k g' hk
   exact ⟨q1,q2,q3.step hbs rfl rfl rfl (hb.block g' hlt) fun o=>if_neg (by omega)⟩
  ·exact if_neg (by omega)
def gV : List Tm→List Value
 | []=>[]
 | m :: r=>.int .i64 m.1 :: .int .i64 m.2 :: gV r
theorem pQ : ∀ t : List Tm,(gV t).map AV.c = aJ t
 | []=>rfl
 | m :: r=>by rw [gV,List.map_cons,List.map_cons,pQ r];rfl
theorem oy (t : List Tm) : (gV t).length = t.length * 2:=by
 have:=congrArg List.length (pQ t)
 rw [List.length_map,cl] at this;exact this
theorem lp : ∀ t : List Tm,∀ x ∈ gV t,x.oneCell' = true
 | [],x,h=>absurd h List.not_mem_nil
 | m :: r,x,h=>by
  simp only [gV,List.mem_cons] at h
  rcases h with rfl | rfl | h
  ·rfl
  ·rfl
  ·exact lp r x h
set_option maxHeartbeats 2000000 in
set_option maxRecDepth 100000 in
theorem rX (b off n c : Nat) (t : List Tm) (w : World) (hn : t.length = n) (hbig : n * 16≤140737488355328) (hc : ∀ j (h : j < (gV t).length),w.cell? ⟨b,off + j,none⟩ = some (gV t)[j]) :
  Calls Tryz.prog 38 #[.slice (some ⟨b,off,none⟩) n c] w fun e w'=>∃ v',e = .returned v'∧w'.ownsRow w.heap.size 94 2 v' n (gV t)∧Below w.heap.size w w':=by
 have hlen:=oy t
 have hone:=lp t
 obtain ⟨i0,hi,hz0,hz1,hz2⟩ : ∃ i0,Tryz.prog.info? 94 = some i0∧i0.zero = some (.agg #[.int .i64 0,.int .i64 0])∧i0.size = 2∧i0.bytes = 16:=⟨_,rfl,rfl,rfl,rfl⟩
 have q22 : ∀ (w : World) (a : Option Addr) (n c n' c' : Nat),(binOp .eql 22 (.slice a n c) (.slice none n' c')).run Tryz.prog w = .ok (.bool a.isNone) w:=fun w a n c n' c'=>Lib.run_eql_slice_nil w _ _ a n c n' c' Tryz.underlying22
 have A : Aside (∀ j (h : j < (gV t).length),w.cell? ⟨b,off + j,none⟩ = some (gV t)[j]):=hc
 clear hc
 refine (callsIn_wide (n:=1)).1 ?_
 refine callsIn_of_wp Tryz.func38 rfl trivial ?_ rfl
 simp only [Tryz.ntmps38,List.size_toArray,List.length_cons,List.length_nil,Nat.reduceAdd,Nat.reduceSub,Array.replicate_succ,Array.replicate_zero,List.push_toArray,List.append_toArray,List.nil_append,List.cons_append]
 gi_wp2_with (gi_at_builtin;refine wpListIn_append_own _ rfl _ _ 22 rfl w.heap.size 94 i0 (.agg #[.int .i64 0,.int .i64 0]) 2 16 Tryz.underlying22 hi hz0 hz1 hz2 rfl (by decide) _ _ _ rfl (World.ownsRow_made w #[] 0 (Nat.le_refl _) (Nat.zero_le _) rfl) ⟨b,off,none⟩ n c (gV t) rfl ?qc1 ?qc2 ?qc3 ?qc4 ?qc5 ?qc6 ?_)
 case qc1=>omega
 case qc2 =>
  intro j u hj
  obtain ⟨hj1,hj2⟩:=List.getElem?_eq_some_iff.1 hj
  rw [Addr.add_lit]
  refine Lib.cell?_alloc_some _ ?_
  rw [A.out j hj1,hj2]
 case qc3=>exact hone
 case qc4=>unfold maxLen;omega
 case qc5=>omega
 case qc6=>simp
 intro v' w1 hown hgrow hnil
 gi_wp2
 go_ret
 refine ⟨v',rfl,by simpa using hown,?_⟩
 exact ((Below.refl _ w).alloc (Nat.le_refl _) _).grown hgrow (by simp) (by intro k hk;simp [Value.ownBlock] at hk;omega)
set_option maxHeartbeats 1000000 in
theorem rW (n c : Nat) (w : World) :
  Calls Tryz.prog 38 #[.slice none n c] w fun e w'=>e = .returned (.slice none 0 0)∧w' = w:=by
 have q22 : ∀ (w : World) (a : Option Addr) (n c n' c' : Nat),(binOp .eql 22 (.slice a n c) (.slice none n' c')).run Tryz.prog w = .ok (.bool a.isNone) w:=fun w a n c n' c'=>Lib.run_eql_slice_nil w _ _ a n c n' c' Tryz.underlying22
 refine (callsIn_wide (n:=1)).1 ?_
 refine callsIn_of_wp Tryz.func38 rfl trivial ?_ rfl
 simp only [Tryz.ntmps38,List.size_toArray,List.length_cons,List.length_nil,Nat.reduceAdd,Nat.reduceSub,Array.replicate_succ,Array.replicate_zero,List.push_toArray,List.append_toArray,List.nil_append,List.cons_append]
 gi_wp2
 go_ret
 exact ⟨rfl,rfl⟩
set_option maxHeartbeats 1000000 in
set_option maxRecDepth 100000 in
theorem rY (a : Addr) (c : Nat) (w : World) :
  Calls Tryz.prog 38 #[.slice (some a) 0 c] w fun e w'=>∃ v',e = .returned v'∧w'.ownsRow w.heap.size 94 2 v' 0 []∧Below w.heap.size w w':=by
 obtain ⟨i0,hi,hz0,hz1,hz2⟩ : ∃ i0,Tryz.prog.info? 94 = some i0∧i0.zero = some (.agg #[.int .i64 0,.int .i64 0])∧i0.size = 2∧i0.bytes = 16:=⟨_,rfl,rfl,rfl,rfl⟩
 have q22 : ∀ (w : World) (a : Option Addr) (n c n' c' : Nat),(binOp .eql 22 (.slice a n c) (.slice none n' c')).run Tryz.prog w = .ok (.bool a.isNone) w:=fun w a n c n' c'=>Lib.run_eql_slice_nil w _ _ a n c n' c' Tryz.underlying22
 refine (callsIn_wide (n:=1)).1 ?_
 refine callsIn_of_wp Tryz.func38 rfl trivial ?_ rfl
 simp only [Tryz.ntmps38,List.size_toArray,List.length_cons,List.length_nil,Nat.reduceAdd,Nat.reduceSub,Array.replicate_succ,Array.replicate_zero,List.push_toArray,List.append_toArray,List.nil_append,List.cons_append]
 gi_wp2_with (gi_at_builtin;refine wpListIn_append_own _ rfl _ _ 22 rfl w.heap.size 94 i0 (.agg #[.int .i64 0,.int .i64 0]) 2 16 Tryz.underlying22 hi hz0 hz1 hz2 rfl (by decide) _ _ _ rfl (World.ownsRow_made w #[] 0 (Nat.le_refl _) (Nat.zero_le _) rfl) a 0 c [] rfl rfl (by intro j u hj;simp at hj) (by intro u hu;cases hu) (by unfold maxLen;omega) (by omega) (by simp) ?_)
 intro v' w1 hown hgrow hnil
 gi_wp2
 go_ret
 refine ⟨v',rfl,by simpa using hown,?_⟩
 exact ((Below.refl _ w).alloc (Nat.le_refl _) _).grown hgrow (by simp) (by intro k hk;simp [Value.ownBlock] at hk;omega)
theorem pE (w : World) (B e sz : Nat) : w.ownsRow B e sz (.slice none 0 0) 0 []:=⟨by simp,.inl ⟨rfl,rfl⟩⟩
theorem kq (t : List Tm) (o : Own) (ho : o = .none∨o = .full) (hbig : t.length≤8796093022207) :
  AFn Tryz.prog 38 [.sl (aJ t) t.length o] [] (.sl (aJ t) t.length .none) []:=by
 have key : AFn Tryz.prog 38 [.sl ((gV t).map .c) t.length o] [] (.sl ((gV t).map .c) t.length .none) []:=by
  refine mh (e:=94) (sz:=2) (oy t) (lp t) fun w G vs hst hvs hargs=>?_
  obtain ⟨a,cap,b,off,f,e0,⟨q1,q2,q3,q4,q5⟩,_,_⟩:=dR (hargs 0 (by simp))
  have hvs2 : vs = #[.slice a t.length cap]:=by
   cases vs with
   | mk l =>
    match l,hvs with
    | [v0],_=>simp at e0;subst e0;rfl
  subst hvs2
  cases a with
  | none =>
   have : t = []:=List.eq_nil_of_length_eq_zero (by have:=q2 rfl;omega)
   subst this
   refine (rW _ cap w).mono ?_
   rintro e w' ⟨rfl,rfl⟩
   exact ⟨_,rfl,pE _ _ _ _,.refl _ _⟩
  | some ad =>
   by_cases h0 : t.length = 0
   ·have : t = []:=List.eq_nil_of_length_eq_zero h0
    subst this
    exact rY ad cap w
   ·rcases q3 with ⟨q3,_⟩ | q3
    ·exact absurd q3 h0
    cases q3
    refine rX b off t.length cap t w rfl (by omega) fun j hj=>?_
    have h1:=q4 j (by simpa using hj)
    have h2:=q5 j (by simpa using hj)
    rw [List.getElem_map] at h2
    have h3:=cI (VRel.p (G:=G) (B:=bP []) h2)
    rw [← h3]
    exact (hst.agree _ _ _ h1).1
 rw [pQ] at key
 exact key
end Go.Proofs.YtmpdocplcgbpkaaGreatDoor
namespace Go.Proofs.YtmpdocplcgbpkaaGreatDoor
set_option linter.unusedSimpArgs false
set_option linter.unusedVariables false
def fiP {α : Type} (p : α→Bool) (l : List α) : Int:=if l.any p then ((l.findIdx p : Nat) : Int) else -1
theorem lz {α : Type} {p : α→Bool} {l : List α} {k : Nat} (hk : k < l.length) (h : ∀ j (hj : j < l.length),j < k→p l[j] = false) (hp : p l[k] = true) : fiP p l = (k : Int):=by
 have h1 : l.any p = true:=List.any_eq_true.2 ⟨l[k],List.getElem_mem hk,hp⟩
 unfold fiP
 rw [if_pos h1,(List.findIdx_eq hk).2 ⟨hp,fun j hj=>h j (by omega) hj⟩]
theorem lC {α : Type} {p : α→Bool} {l : List α} (h : ∀ j (hj : j < l.length),p l[j] = false) : fiP p l = -1:=by
 have h1 : ¬ l.any p = true:=fun e=>by
  obtain ⟨x,hx,hp⟩:=List.any_eq_true.1 e
  obtain ⟨j,hj,rfl⟩:=List.getElem_of_mem hx
  rw [h j hj] at hp;cases hp
 unfold fiP;rw [if_neg h1]
theorem wc {α : Type} (p : α→Bool) (l : List α) : (0≤fiP p l) = (l.any p = true):=by
 unfold fiP
 split
 ·rename_i h;exact propext ⟨fun _=>h,fun _=>by omega⟩
 ·rename_i h;exact propext ⟨fun h1=>absurd h1 (by omega),fun h1=>absurd h1 h⟩
theorem j3 {α : Type} (p : α→Bool) (l : List α) : decide (0≤fiP p l) = l.any p:=by
 cases h : l.any p with
 | true=>exact decide_eq_true (by rw [wc];exact h)
 | false=>exact decide_eq_false (by rw [wc,h];simp)
end Go.Proofs.YtmpdocplcgbpkaaGreatDoor
namespace Go.Proofs
open Go.Shelf
def Tryz.zGrowC_ren : Go.Shelf.Ren:=⟨fun | 4=>83 | n=>n,fun | 22=>29 | 25=>41 | 3=>3 | 4=>4 | 9=>9 | 20=>20 | 0=>0 | n=>n,fun | n=>n⟩
theorem Tryz.zGrowC : Go.Proofs.Lays8.n4 Tryz.prog Tryz.zGrowC_ren:={
 mixed:=by kernel_rfl
 f4:=⟨Tryz.f83.name,by decide,Tryz.func83.trans (congrArg some (by kernel_rfl))⟩
 t0:=Tryz.underlying0
 a0:=Tryz.isAgg0
 z0:=Tryz.sizeOf0
 v0:=Tryz.zeroValue0
 t3:=Tryz.underlying3
 a3:=Tryz.isAgg3
 z3:=Tryz.sizeOf3
 v3:=Tryz.zeroValue3
 t4:=Tryz.underlying4
 a4:=Tryz.isAgg4
 z4:=Tryz.sizeOf4
 v4:=Tryz.zeroValue4
 t9:=Tryz.underlying9
 a9:=Tryz.isAgg9
 z9:=Tryz.sizeOf9
 v9:=Tryz.zeroValue9
 t20:=Tryz.underlying20
 a20:=Tryz.isAgg20
 z20:=Tryz.sizeOf20
 v20:=Tryz.zeroValue20
 t22:=Tryz.underlying29
 a22:=Tryz.isAgg29
 z22:=Tryz.sizeOf29
 v22:=Tryz.zeroValue29 }
end Go.Proofs
namespace Go.Proofs.YtmpdocplcgbpkaaGreatDoor
set_option linter.unusedSimpArgs false
set_option linter.unusedVariables false
open Go.RowKit
abbrev dr (c : List Int) : AV:=.sl (c.map inA) c.length .none
abbrev csA (cs : List (List Int)) : AV:=.sl (cs.map dr) cs.length .none
theorem ly {cs : List (List Int)} {k : Nat} (h : k < cs.length) : (cs.map dr).getD k .u = dr cs[k]:=by simp [List.getD_eq_getElem?_getD,h]
theorem tq {c : List Int} {k : Nat} (h : k < c.length) : (c.map inA).getD k .u = inA c[k]:=by simp [List.getD_eq_getElem?_getD,h]
def cd : Nat→List Nat
 | 0=>[0,1]
 | 1=>[0,1]
 | 2=>[0,1,7,8]
 | 3=>[0,1,7,8]
 | 4=>[0,1,5,7,8]
 | 5=>[5]
 | 6=>[0,1,7,8]
 | 7=>[]
 | _=>[]
def dS : Nat→List Nat
 | 0=>[0,1]
 | 1=>[0,1]
 | _=>[]
set_option maxRecDepth 100000 in
set_option maxHeartbeats 8000000 in
theorem Az (l : List Int) (F : Nat) (n : Int) (p : Int→Bool) (hF : aM Tryz.prog F = true) (hl : Lg l) (h : ∀ y ∈ l,AFn Tryz.prog F [inA y,.loc 20000 0] [.bc [inA n] 3] (.c (.bool (p y))) [.bc [inA n] 3]) :
  AFn Tryz.prog 109 [.sl (l.map inA) l.length .none,.fn (.func F) [] [.loc 20000 0]] [.bc [inA n] 3] (inA (fiP p l)) [.bc [inA n] 3]:=by
 unfold Lg at hl
 refine aD [] Tryz.func109 rfl Tryz.ntmps109 (Nat.le_of_ble_eq_true rfl) (Nat.le_of_ble_eq_true rfl) fun w0 G0 B0 Pr hB0=>?_
 simp only [aO,aA,List.cons_append,List.nil_append]
 repeat' (first | (with_reducible refine hY _ ?_;clear hY Y) | ((with_reducible first | refine an rfl (ar fun K' hK'=>aa ?_) | refine hK' _ (ab fun Y hY=>aa ?_) | refine ae tk0 cd (ab fun Y hY=>aa ?_));(try clear hK' K');(try dsimp only [aop]);try simp only [go_sem,↓reduceIte,Nat.reduceEqDiff,Nat.reduceLT,Nat.reduceLeDiff,Nat.reduceAdd,Nat.reduceSub,Nat.reduceMul,Nat.reduceBEq,Nat.reduceBNe,Nat.reducePow,Int.reduceToNat,Int.reduceLE,Int.reduceLT,Int.reduceMul,Int.reduceEq,Int.reducePow,Int.reduceAdd,Int.reduceSub,Int.reduceNeg,reduceCtorEq,cd,Tryz.results109]) | (with_reducible first | refine af ?_ | refine ai ?_ | refine aj ?_ | refine ay fun K hK=>?_ | refine al ?_ | refine bG ?_) | (with_reducible refine hK _ ?_;clear hK K))
 refine bK (α:=Nat) (fun k=>[(0,.sl (l.map inA) l.length .none),(1,.fn (.func F) [] [.loc 20000 0]),(7,inA (l.length : Int)),(8,inA (k : Int)),(20000,.bc [inA n] 3)])
  (fun k=>k≤l.length∧∀ j (hj : j < l.length),j < k→p l[j] = false) (fun k=>l.length - k) 0 [0,1,7,8] ?_ ⟨Nat.zero_le _,fun j _ hj=>absurd hj (Nat.not_lt_zero _)⟩ ?_
 ·simp only [go_sem,↓reduceIte,Nat.reduceEqDiff,Nat.reduceLT,Nat.reduceLeDiff,Nat.reduceAdd,Nat.reduceSub,Nat.reduceMul,Nat.reduceBEq,Nat.reduceBNe,Nat.reducePow,Int.reduceToNat,Int.reduceLE,Int.reduceLT,Int.reduceMul,Int.reduceEq,Int.reducePow,Int.reduceAdd,Int.reduceSub,Int.reduceNeg,reduceCtorEq] <;> rfl
 rintro k ⟨hk,hall⟩ ih
 by_cases hlt : k < l.length
 ·have hlt' : ((k : Int) < (l.length : Int)) = True:=eq_true (by omega)
  have hkw:=cf (n:=k) (by omega)
  have h1:=h l[k] (List.getElem_mem hlt)
  have hg0:=tq hlt
  have hfl : (l.map inA).length = l.length:=List.length_map ..
  have hfi:=lz (p:=p) hlt hall
  have hnx : p l[k] = false→∀ j (hj : j < l.length),j < k + 1→p l[j] = false:=fun e j hj hjk=>by
   by_cases hj2 : j < k
   ·exact hall j hj hj2
   ·have : j = k:=by omega
    subst this;exact e
  generalize l[k] = t at *
  generalize hp : p t = b at *
  cases b with
  | true =>
   rw [hfi rfl]
   clear ih hfi hnx hall h
   repeat' (first | (with_reducible refine hY _ ?_;clear hY Y) | ((with_reducible first | refine an rfl (ar fun K' hK'=>aa ?_) | refine hK' _ (ab fun Y hY=>aa ?_) | refine ab fun Y hY=>aa ?_ | refine ae tk0 cd (ab fun Y hY=>aa ?_) | refine aa ?_ | refine ao ?_);(try clear hK' K');(try dsimp only [aop]);try simp only [go_sem,↓reduceIte,Nat.reduceEqDiff,Nat.reduceLT,Nat.reduceLeDiff,Nat.reduceAdd,Nat.reduceSub,Nat.reduceMul,Nat.reduceBEq,Nat.reduceBNe,Nat.reducePow,Int.reduceToNat,Int.reduceLE,Int.reduceLT,Int.reduceMul,Int.reduceEq,Int.reducePow,Int.reduceAdd,Int.reduceSub,Int.reduceNeg,reduceCtorEq,cd,Tryz.results109,hlt',hfl,hg0,hkw,hF]) | (with_reducible first | refine af ?_ | refine ai ?_ | refine aj ?_ | refine ay fun K hK=>?_ | refine ap ?_ | refine aS ?_ | refine bb ?_ | refine al ?_ | refine av ?_ | refine au ?_) | (with_reducible refine hK _ ?_;clear hK K) | ((with_reducible refine ag ?_ ?_);(· decide)) | (with_reducible refine bp ?_ ?_;(· (try and_intros) <;> first | omega | assumption | (simp only [List.length_append,List.length_map,List.length_cons,List.length_nil] <;> omega))) | (with_reducible refine ah (h1) ?_))
  | false =>
   clear hfi
   repeat' (first | (with_reducible refine hY _ ?_;clear hY Y) | ((with_reducible first | refine an rfl (ar fun K' hK'=>aa ?_) | refine hK' _ (ab fun Y hY=>aa ?_) | refine ab fun Y hY=>aa ?_ | refine ae tk0 cd (ab fun Y hY=>aa ?_) | refine aa ?_);(try clear hK' K');(try dsimp only [aop]);try simp only [go_sem,↓reduceIte,Nat.reduceEqDiff,Nat.reduceLT,Nat.reduceLeDiff,Nat.reduceAdd,Nat.reduceSub,Nat.reduceMul,Nat.reduceBEq,Nat.reduceBNe,Nat.reducePow,Int.reduceToNat,Int.reduceLE,Int.reduceLT,Int.reduceMul,Int.reduceEq,Int.reducePow,Int.reduceAdd,Int.reduceSub,Int.reduceNeg,reduceCtorEq,cd,Tryz.results109,hlt',hfl,hg0,hkw,hF]) | (with_reducible first | refine af ?_ | refine ai ?_ | refine aj ?_ | refine ay fun K hK=>?_ | refine ap ?_ | refine aq ?_ | refine aU ?_ | refine al ?_ | refine av ?_) | (with_reducible refine hK _ ?_;clear hK K) | ((with_reducible refine ag ?_ ?_);(· decide)) | (with_reducible refine bp ?_ ?_;(· (try and_intros) <;> first | omega | assumption | (simp only [List.length_append,List.length_map,List.length_cons,List.length_nil] <;> omega))) | (with_reducible refine ah (h1) ?_))
   refine bi [0,1,7,8] (by simp only [go_sem,↓reduceIte,Nat.reduceEqDiff,Nat.reduceLT,Nat.reduceLeDiff,Nat.reduceAdd,Nat.reduceSub,Nat.reduceMul,Nat.reduceBEq,Nat.reduceBNe,Nat.reducePow,Int.reduceToNat,Int.reduceLE,Int.reduceLT,Int.reduceMul,Int.reduceEq,Int.reducePow,Int.reduceAdd,Int.reduceSub,Int.reduceNeg,reduceCtorEq];exact rfl) ?_
   exact ih (k + 1) ⟨by omega,hnx rfl⟩ (by omega)
 ·have hlt' : ((k : Int) < (l.length : Int)) = False:=eq_false (by omega)
  rw [lC fun j hj=>hall j hj (by omega)]
  clear ih h hall
  repeat' (first | (with_reducible refine hY _ ?_;clear hY Y) | ((with_reducible first | refine an rfl (ar fun K' hK'=>aa ?_) | refine hK' _ (ab fun Y hY=>aa ?_) | refine ab fun Y hY=>aa ?_ | refine ae tk0 cd (ab fun Y hY=>aa ?_) | refine aa ?_ | refine ao ?_);(try clear hK' K');(try dsimp only [aop]);try simp only [go_sem,↓reduceIte,Nat.reduceEqDiff,Nat.reduceLT,Nat.reduceLeDiff,Nat.reduceAdd,Nat.reduceSub,Nat.reduceMul,Nat.reduceBEq,Nat.reduceBNe,Nat.reducePow,Int.reduceToNat,Int.reduceLE,Int.reduceLT,Int.reduceMul,Int.reduceEq,Int.reducePow,Int.reduceAdd,Int.reduceSub,Int.reduceNeg,reduceCtorEq,cd,Tryz.results109,hlt']) | (with_reducible first | refine af ?_ | refine ai ?_ | refine aj ?_ | refine ay fun K hK=>?_ | refine aq ?_ | refine bC ?_ | refine bg ?_ | refine au ?_ | refine bf ?_) | (with_reducible refine hK _ ?_;clear hK K) | ((with_reducible refine ag ?_ ?_);(· decide)))
set_option maxRecDepth 100000 in
set_option maxHeartbeats 8000000 in
theorem sg (l : List Int) (F : Nat) (n : Int) (p : Int→Bool) (hF : aM Tryz.prog F = true) (hl : Lg l) (h : ∀ y ∈ l,AFn Tryz.prog F [inA y,.loc 20000 0] [.bc [inA n] 3] (.c (.bool (p y))) [.bc [inA n] 3]) :
  AFn Tryz.prog 73 [.sl (l.map inA) l.length .none,.fn (.func F) [] [.loc 20000 0]] [.bc [inA n] 3] (.c (.bool (l.any p))) [.bc [inA n] 3]:=by
 have h1:=Az l F n p hF hl h
 have h2 : decide (0≤fiP p l) = l.any p:=j3 p l
 refine aD [] Tryz.func73 rfl Tryz.ntmps73 (Nat.le_of_ble_eq_true rfl) (Nat.le_of_ble_eq_true rfl) fun w0 G0 B0 Pr hB0=>?_
 simp only [aO,aA,List.cons_append,List.nil_append]
 repeat' (first | (with_reducible refine hY _ ?_;clear hY Y) | ((with_reducible first | refine an rfl (ar fun K' hK'=>aa ?_) | refine hK' _ (ab fun Y hY=>aa ?_) | refine ae tk0 dS (ab fun Y hY=>aa ?_) | refine aa ?_ | refine ao ?_);(try clear hK' K');(try dsimp only [aop]);try simp only [go_sem,↓reduceIte,Nat.reduceEqDiff,Nat.reduceLT,Nat.reduceLeDiff,Nat.reduceAdd,Nat.reduceSub,Nat.reduceMul,Nat.reduceBEq,Nat.reduceBNe,Nat.reducePow,Int.reduceToNat,Int.reduceLE,Int.reduceLT,Int.reduceMul,Int.reduceEq,Int.reducePow,Int.reduceAdd,Int.reduceSub,Int.reduceNeg,reduceCtorEq,dS,Tryz.results73,h2]) | (with_reducible first | refine af ?_ | refine ai ?_ | refine aj ?_ | refine ay fun K hK=>?_ | refine au ?_) | (with_reducible refine hK _ ?_;clear hK K) | (with_reducible refine ah (h1) ?_))
def bY : Nat→List Nat
 | 0=>[0,1]
 | 1=>[0,1]
 | 2=>[0,1,7,8]
 | 3=>[0,1,7,8]
 | 4=>[0,1,5,7,8]
 | 5=>[5]
 | 6=>[0,1,7,8]
 | 7=>[]
 | _=>[]
def dE : Nat→List Nat
 | 0=>[0,1]
 | 1=>[0,1]
 | _=>[]
set_option maxRecDepth 100000 in
set_option maxHeartbeats 8000000 in
theorem AC (l : List (List Int)) (F : Nat) (p : List Int→Bool) (hF : aM Tryz.prog F = true) (hl : Lg l) (h : ∀ y ∈ l,AFn Tryz.prog F [dr y] [] (.c (.bool (p y))) []) :
  AFn Tryz.prog 87 [csA l,.fn (.func F) [] []] [] (inA (fiP p l)) []:=by
 unfold Lg at hl
 refine aD [] Tryz.func87 rfl Tryz.ntmps87 (Nat.le_of_ble_eq_true rfl) (Nat.le_of_ble_eq_true rfl) fun w0 G0 B0 Pr hB0=>?_
 simp only [aO,aA,List.cons_append,List.nil_append]
 repeat' (first | (with_reducible refine hY _ ?_;clear hY Y) | ((with_reducible first | refine an rfl (ar fun K' hK'=>aa ?_) | refine hK' _ (ab fun Y hY=>aa ?_) | refine ae tk0 bY (ab fun Y hY=>aa ?_));(try clear hK' K');(try dsimp only [aop]);try simp only [go_sem,↓reduceIte,Nat.reduceEqDiff,Nat.reduceLT,Nat.reduceLeDiff,Nat.reduceAdd,Nat.reduceSub,Nat.reduceMul,Nat.reduceBEq,Nat.reduceBNe,Nat.reducePow,Int.reduceToNat,Int.reduceLE,Int.reduceLT,Int.reduceMul,Int.reduceEq,Int.reducePow,Int.reduceAdd,Int.reduceSub,Int.reduceNeg,reduceCtorEq,bY,Tryz.results87]) | (with_reducible first | refine af ?_ | refine ai ?_ | refine aj ?_ | refine ay fun K hK=>?_ | refine al ?_ | refine bG ?_) | (with_reducible refine hK _ ?_;clear hK K))
 refine bK (α:=Nat) (fun k=>[(0,csA l),(1,.fn (.func F) [] []),(7,inA (l.length : Int)),(8,inA (k : Int))])
  (fun k=>k≤l.length∧∀ j (hj : j < l.length),j < k→p l[j] = false) (fun k=>l.length - k) 0 [0,1,7,8] ?_ ⟨Nat.zero_le _,fun j _ hj=>absurd hj (Nat.not_lt_zero _)⟩ ?_
 ·simp only [go_sem,↓reduceIte,Nat.reduceEqDiff,Nat.reduceLT,Nat.reduceLeDiff,Nat.reduceAdd,Nat.reduceSub,Nat.reduceMul,Nat.reduceBEq,Nat.reduceBNe,Nat.reducePow,Int.reduceToNat,Int.reduceLE,Int.reduceLT,Int.reduceMul,Int.reduceEq,Int.reducePow,Int.reduceAdd,Int.reduceSub,Int.reduceNeg,reduceCtorEq] <;> rfl
 rintro k ⟨hk,hall⟩ ih
 by_cases hlt : k < l.length
 ·have hlt' : ((k : Int) < (l.length : Int)) = True:=eq_true (by omega)
  have hkw:=cf (n:=k) (by omega)
  have h1:=h l[k] (List.getElem_mem hlt)
  have hg0:=ly hlt
  have hfl : (l.map dr).length = l.length:=List.length_map ..
  have hfi:=lz (p:=p) hlt hall
  have hnx : p l[k] = false→∀ j (hj : j < l.length),j < k + 1→p l[j] = false:=fun e j hj hjk=>by
   by_cases hj2 : j < k
   ·exact hall j hj hj2
   ·have : j = k:=by omega
    subst this;exact e
  generalize l[k] = t at *
  generalize hp : p t = b at *
  cases b with
  | true =>
   rw [hfi rfl]
   clear ih hfi hnx hall h
   repeat' (first | (with_reducible refine hY _ ?_;clear hY Y) | ((with_reducible first | refine an rfl (ar fun K' hK'=>aa ?_) | refine hK' _ (ab fun Y hY=>aa ?_) | refine ab fun Y hY=>aa ?_ | refine ae tk0 bY (ab fun Y hY=>aa ?_) | refine aa ?_ | refine ao ?_);(try clear hK' K');(try dsimp only [aop]);try simp only [go_sem,↓reduceIte,Nat.reduceEqDiff,Nat.reduceLT,Nat.reduceLeDiff,Nat.reduceAdd,Nat.reduceSub,Nat.reduceMul,Nat.reduceBEq,Nat.reduceBNe,Nat.reducePow,Int.reduceToNat,Int.reduceLE,Int.reduceLT,Int.reduceMul,Int.reduceEq,Int.reducePow,Int.reduceAdd,Int.reduceSub,Int.reduceNeg,reduceCtorEq,bY,Tryz.results87,hlt',hfl,hg0,hkw,hF]) | (with_reducible first | refine af ?_ | refine ai ?_ | refine aj ?_ | refine ay fun K hK=>?_ | refine ap ?_ | refine aS ?_ | refine bb ?_ | refine al ?_ | refine av ?_ | refine au ?_) | (with_reducible refine hK _ ?_;clear hK K) | ((with_reducible refine ag ?_ ?_);(· decide)) | (with_reducible refine bp ?_ ?_;(· (try and_intros) <;> first | omega | assumption | (simp only [List.length_append,List.length_map,List.length_cons,List.length_nil] <;> omega))) | (with_reducible refine ah (h1) ?_))
  | false =>
   clear hfi
   repeat' (first | (with_reducible refine hY _ ?_;clear hY Y) | ((with_reducible first | refine an rfl (ar fun K' hK'=>aa ?_) | refine hK' _ (ab fun Y hY=>aa ?_) | refine ab fun Y hY=>aa ?_ | refine ae tk0 bY (ab fun Y hY=>aa ?_) | refine aa ?_);(try clear hK' K');(try dsimp only [aop]);try simp only [go_sem,↓reduceIte,Nat.reduceEqDiff,Nat.reduceLT,Nat.reduceLeDiff,Nat.reduceAdd,Nat.reduceSub,Nat.reduceMul,Nat.reduceBEq,Nat.reduceBNe,Nat.reducePow,Int.reduceToNat,Int.reduceLE,Int.reduceLT,Int.reduceMul,Int.reduceEq,Int.reducePow,Int.reduceAdd,Int.reduceSub,Int.reduceNeg,reduceCtorEq,bY,Tryz.results87,hlt',hfl,hg0,hkw,hF]) | (with_reducible first | refine af ?_ | refine ai ?_ | refine aj ?_ | refine ay fun K hK=>?_ | refine ap ?_ | refine aq ?_ | refine aU ?_ | refine al ?_ | refine av ?_) | (with_reducible refine hK _ ?_;clear hK K) | ((with_reducible refine ag ?_ ?_);(· decide)) | (with_reducible refine bp ?_ ?_;(· (try and_intros) <;> first | omega | assumption | (simp only [List.length_append,List.length_map,List.length_cons,List.length_nil] <;> omega))) | (with_reducible refine ah (h1) ?_))
   refine bi [0,1,7,8] (by simp only [go_sem,↓reduceIte,Nat.reduceEqDiff,Nat.reduceLT,Nat.reduceLeDiff,Nat.reduceAdd,Nat.reduceSub,Nat.reduceMul,Nat.reduceBEq,Nat.reduceBNe,Nat.reducePow,Int.reduceToNat,Int.reduceLE,Int.reduceLT,Int.reduceMul,Int.reduceEq,Int.reducePow,Int.reduceAdd,Int.reduceSub,Int.reduceNeg,reduceCtorEq];exact rfl) ?_
   exact ih (k + 1) ⟨by omega,hnx rfl⟩ (by omega)
 ·have hlt' : ((k : Int) < (l.length : Int)) = False:=eq_false (by omega)
  rw [lC fun j hj=>hall j hj (by omega)]
  clear ih h hall
  repeat' (first | (with_reducible refine hY _ ?_;clear hY Y) | ((with_reducible first | refine an rfl (ar fun K' hK'=>aa ?_) | refine hK' _ (ab fun Y hY=>aa ?_) | refine ab fun Y hY=>aa ?_ | refine ae tk0 bY (ab fun Y hY=>aa ?_) | refine aa ?_ | refine ao ?_);(try clear hK' K');(try dsimp only [aop]);try simp only [go_sem,↓reduceIte,Nat.reduceEqDiff,Nat.reduceLT,Nat.reduceLeDiff,Nat.reduceAdd,Nat.reduceSub,Nat.reduceMul,Nat.reduceBEq,Nat.reduceBNe,Nat.reducePow,Int.reduceToNat,Int.reduceLE,Int.reduceLT,Int.reduceMul,Int.reduceEq,Int.reducePow,Int.reduceAdd,Int.reduceSub,Int.reduceNeg,reduceCtorEq,bY,Tryz.results87,hlt']) | (with_reducible first | refine af ?_ | refine ai ?_ | refine aj ?_ | refine ay fun K hK=>?_ | refine aq ?_ | refine bC ?_ | refine bg ?_ | refine au ?_ | refine bf ?_) | (with_reducible refine hK _ ?_;clear hK K) | ((with_reducible refine ag ?_ ?_);(· decide)))
set_option maxRecDepth 100000 in
set_option maxHeartbeats 8000000 in
theorem Ax (l : List (List Int)) (F : Nat) (p : List Int→Bool) (hF : aM Tryz.prog F = true) (hl : Lg l) (h : ∀ y ∈ l,AFn Tryz.prog F [dr y] [] (.c (.bool (p y))) []) :
  AFn Tryz.prog 43 [csA l,.fn (.func F) [] []] [] (.c (.bool (l.any p))) []:=by
 have h1:=AC l F p hF hl h
 have h2 : decide (0≤fiP p l) = l.any p:=j3 p l
 refine aD [] Tryz.func43 rfl Tryz.ntmps43 (Nat.le_of_ble_eq_true rfl) (Nat.le_of_ble_eq_true rfl) fun w0 G0 B0 Pr hB0=>?_
 simp only [aO,aA,List.cons_append,List.nil_append]
 repeat' (first | (with_reducible refine hY _ ?_;clear hY Y) | ((with_reducible first | refine an rfl (ar fun K' hK'=>aa ?_) | refine hK' _ (ab fun Y hY=>aa ?_) | refine ae tk0 dE (ab fun Y hY=>aa ?_) | refine aa ?_ | refine ao ?_);(try clear hK' K');(try dsimp only [aop]);try simp only [go_sem,↓reduceIte,Nat.reduceEqDiff,Nat.reduceLT,Nat.reduceLeDiff,Nat.reduceAdd,Nat.reduceSub,Nat.reduceMul,Nat.reduceBEq,Nat.reduceBNe,Nat.reducePow,Int.reduceToNat,Int.reduceLE,Int.reduceLT,Int.reduceMul,Int.reduceEq,Int.reducePow,Int.reduceAdd,Int.reduceSub,Int.reduceNeg,reduceCtorEq,dE,Tryz.results43,h2]) | (with_reducible first | refine af ?_ | refine ai ?_ | refine aj ?_ | refine ay fun K hK=>?_ | refine au ?_) | (with_reducible refine hK _ ?_;clear hK K) | (with_reducible refine ah (h1) ?_))
def iO (n l : Int) : Bool:=!decide (l = 0) && (decide (-n≤l) && decide (l≤n))
def cw : Nat→List Nat
 | 0=>[0,1]
 | 1=>[0,1]
 | _=>[]
set_option maxRecDepth 100000 in
theorem nX (n l : Int) (hn : 0≤n∧n≤1000000) : AFn Tryz.prog 75 [inA n,inA l] [] (.c (.bool (iO n l))) []:=by
 have hw : IntKind.i64.wrap (0 - n) = -n:=by rw [aY (by omega) (by omega)];omega
 unfold iO
 by_cases h1 : l = 0
 ·subst h1
  refine aD [] Tryz.func75 rfl Tryz.ntmps75 (Nat.le_of_ble_eq_true rfl) (Nat.le_of_ble_eq_true rfl) fun w0 G0 B0 Pr hB0=>?_
  simp only [aO,aA,List.cons_append,List.nil_append]
  repeat' (first | (with_reducible refine hY _ ?_;clear hY Y) | ((with_reducible first | refine an rfl (ar fun K' hK'=>aa ?_) | refine hK' _ (ab fun Y hY=>aa ?_) | refine bl rfl (ab fun Y hY=>aa ?_) | refine ab fun Y hY=>aa ?_ | refine ae tk0 cw (ab fun Y hY=>aa ?_) | refine aa ?_ | refine ao ?_);(try clear hK' K');(try dsimp only [aop]);try simp only [go_sem,↓reduceIte,Nat.reduceEqDiff,Nat.reduceLT,Nat.reduceLeDiff,Nat.reduceAdd,Nat.reduceSub,Nat.reduceMul,Nat.reduceBEq,Nat.reduceBNe,Nat.reducePow,Int.reduceToNat,Int.reduceLE,Int.reduceLT,Int.reduceMul,Int.reduceEq,Int.reducePow,Int.reduceAdd,Int.reduceSub,Int.reduceNeg,reduceCtorEq,cw,Tryz.results75,hw]) | (with_reducible first | refine af ?_ | refine bh rfl ?_ | refine cS ?_ ?_ | refine ai ?_ | refine aj ?_ | refine ay fun K hK=>?_ | refine au ?_) | (with_reducible refine hK _ ?_;clear hK K) | ((with_reducible refine aG ?_ ?_);(· decide)))
 by_cases h2 : -n≤l
 ·by_cases h3 : l≤n
  ·rw [decide_eq_false h1,decide_eq_true h2,decide_eq_true h3]
   refine aD [] Tryz.func75 rfl Tryz.ntmps75 (Nat.le_of_ble_eq_true rfl) (Nat.le_of_ble_eq_true rfl) fun w0 G0 B0 Pr hB0=>?_
   simp only [aO,aA,List.cons_append,List.nil_append]
   repeat' (first | (with_reducible refine hY _ ?_;clear hY Y) | ((with_reducible first | refine an rfl (ar fun K' hK'=>aa ?_) | refine hK' _ (ab fun Y hY=>aa ?_) | refine bl rfl (ab fun Y hY=>aa ?_) | refine ab fun Y hY=>aa ?_ | refine ar fun K' hK'=>aa ?_ | refine ae tk0 cw (ab fun Y hY=>aa ?_) | refine aa ?_ | refine ao ?_);(try clear hK' K');(try dsimp only [aop]);try simp only [go_sem,↓reduceIte,Nat.reduceEqDiff,Nat.reduceLT,Nat.reduceLeDiff,Nat.reduceAdd,Nat.reduceSub,Nat.reduceMul,Nat.reduceBEq,Nat.reduceBNe,Nat.reducePow,Int.reduceToNat,Int.reduceLE,Int.reduceLT,Int.reduceMul,Int.reduceEq,Int.reducePow,Int.reduceAdd,Int.reduceSub,Int.reduceNeg,reduceCtorEq,cw,Tryz.results75,hw,h1,h2,h3]) | (with_reducible first | refine af ?_ | refine aL ?_ | refine ai ?_ | refine aj ?_ | refine ay fun K hK=>?_ | refine au ?_) | (with_reducible refine hK _ ?_;clear hK K) | ((with_reducible refine aG ?_ ?_);(· decide)))
  ·rw [decide_eq_false h1,decide_eq_true h2,decide_eq_false h3]
   refine aD [] Tryz.func75 rfl Tryz.ntmps75 (Nat.le_of_ble_eq_true rfl) (Nat.le_of_ble_eq_true rfl) fun w0 G0 B0 Pr hB0=>?_
   simp only [aO,aA,List.cons_append,List.nil_append]
   repeat' (first | (with_reducible refine hY _ ?_;clear hY Y) | ((with_reducible first | refine an rfl (ar fun K' hK'=>aa ?_) | refine hK' _ (ab fun Y hY=>aa ?_) | refine bl rfl (ab fun Y hY=>aa ?_) | refine ab fun Y hY=>aa ?_ | refine ar fun K' hK'=>aa ?_ | refine ae tk0 cw (ab fun Y hY=>aa ?_) | refine aa ?_ | refine ao ?_);(try clear hK' K');(try dsimp only [aop]);try simp only [go_sem,↓reduceIte,Nat.reduceEqDiff,Nat.reduceLT,Nat.reduceLeDiff,Nat.reduceAdd,Nat.reduceSub,Nat.reduceMul,Nat.reduceBEq,Nat.reduceBNe,Nat.reducePow,Int.reduceToNat,Int.reduceLE,Int.reduceLT,Int.reduceMul,Int.reduceEq,Int.reducePow,Int.reduceAdd,Int.reduceSub,Int.reduceNeg,reduceCtorEq,cw,Tryz.results75,hw,h1,h2,h3]) | (with_reducible first | refine af ?_ | refine aL ?_ | refine ai ?_ | refine aj ?_ | refine ay fun K hK=>?_ | refine au ?_) | (with_reducible refine hK _ ?_;clear hK K) | ((with_reducible refine aG ?_ ?_);(· decide)))
 ·rw [decide_eq_false h1,decide_eq_false h2]
  refine aD [] Tryz.func75 rfl Tryz.ntmps75 (Nat.le_of_ble_eq_true rfl) (Nat.le_of_ble_eq_true rfl) fun w0 G0 B0 Pr hB0=>?_
  simp only [aO,aA,List.cons_append,List.nil_append]
  repeat' (first | (with_reducible refine hY _ ?_;clear hY Y) | ((with_reducible first | refine an rfl (ar fun K' hK'=>aa ?_) | refine hK' _ (ab fun Y hY=>aa ?_) | refine bl rfl (ab fun Y hY=>aa ?_) | refine ab fun Y hY=>aa ?_ | refine ar fun K' hK'=>aa ?_ | refine ae tk0 cw (ab fun Y hY=>aa ?_) | refine aa ?_ | refine ao ?_);(try clear hK' K');(try dsimp only [aop]);try simp only [go_sem,↓reduceIte,Nat.reduceEqDiff,Nat.reduceLT,Nat.reduceLeDiff,Nat.reduceAdd,Nat.reduceSub,Nat.reduceMul,Nat.reduceBEq,Nat.reduceBNe,Nat.reducePow,Int.reduceToNat,Int.reduceLE,Int.reduceLT,Int.reduceMul,Int.reduceEq,Int.reducePow,Int.reduceAdd,Int.reduceSub,Int.reduceNeg,reduceCtorEq,cw,Tryz.results75,hw,h1,h2]) | (with_reducible first | refine af ?_ | refine bh rfl ?_ | refine aL ?_ | refine cS ?_ ?_ | refine ai ?_ | refine aj ?_ | refine ay fun K hK=>?_ | refine au ?_) | (with_reducible refine hK _ ?_;clear hK K) | ((with_reducible refine aG ?_ ?_);(· decide)))
def fp : Nat→List Nat
 | 0=>[0,1]
 | 1=>[0,1]
 | _=>[]
set_option maxRecDepth 100000 in
theorem vR (n l : Int) (hn : 0≤n∧n≤1000000) : AFn Tryz.prog 74 [inA l,.loc 20000 0] [.bc [inA n] 3] (.c (.bool (!iO n l))) [.bc [inA n] 3]:=by
 have h1:=nX n l hn
 generalize iO n l = b at *
 refine aD [] Tryz.func74 rfl Tryz.ntmps74 (Nat.le_of_ble_eq_true rfl) (Nat.le_of_ble_eq_true rfl) fun w0 G0 B0 Pr hB0=>?_
 simp only [aO,aA,List.cons_append,List.nil_append]
 repeat' (first | (with_reducible refine hY _ ?_;clear hY Y) | ((with_reducible first | refine an rfl (ar fun K' hK'=>aa ?_) | refine hK' _ (ab fun Y hY=>aa ?_) | refine ae tk0 fp (ab fun Y hY=>aa ?_) | refine aa ?_ | refine ao ?_);(try clear hK' K');(try dsimp only [aop]);try simp only [go_sem,↓reduceIte,Nat.reduceEqDiff,Nat.reduceLT,Nat.reduceLeDiff,Nat.reduceAdd,Nat.reduceSub,Nat.reduceMul,Nat.reduceBEq,Nat.reduceBNe,Nat.reducePow,Int.reduceToNat,Int.reduceLE,Int.reduceLT,Int.reduceMul,Int.reduceEq,Int.reducePow,Int.reduceAdd,Int.reduceSub,Int.reduceNeg,reduceCtorEq,fp,Tryz.results74]) | (with_reducible first | refine af ?_ | refine ai ?_ | refine aj ?_ | refine ay fun K hK=>?_ | refine au ?_) | (with_reducible refine hK _ ?_;clear hK K) | (with_reducible refine ah (h1) ?_))
def eZ : Nat→List Nat
 | 0=>[0,1]
 | 1=>[0,1]
 | _=>[]
set_option maxRecDepth 100000 in
theorem ux (n l : Int) (hn : 0≤n∧n≤1000000) : AFn Tryz.prog 84 [inA l,.loc 20000 0] [.bc [inA n] 3] (.c (.bool (!iO n l))) [.bc [inA n] 3]:=by
 have h1:=nX n l hn
 generalize iO n l = b at *
 refine aD [] Tryz.func84 rfl Tryz.ntmps84 (Nat.le_of_ble_eq_true rfl) (Nat.le_of_ble_eq_true rfl) fun w0 G0 B0 Pr hB0=>?_
 simp only [aO,aA,List.cons_append,List.nil_append]
 repeat' (first | (with_reducible refine hY _ ?_;clear hY Y) | ((with_reducible first | refine an rfl (ar fun K' hK'=>aa ?_) | refine hK' _ (ab fun Y hY=>aa ?_) | refine ae tk0 eZ (ab fun Y hY=>aa ?_) | refine aa ?_ | refine ao ?_);(try clear hK' K');(try dsimp only [aop]);try simp only [go_sem,↓reduceIte,Nat.reduceEqDiff,Nat.reduceLT,Nat.reduceLeDiff,Nat.reduceAdd,Nat.reduceSub,Nat.reduceMul,Nat.reduceBEq,Nat.reduceBNe,Nat.reducePow,Int.reduceToNat,Int.reduceLE,Int.reduceLT,Int.reduceMul,Int.reduceEq,Int.reducePow,Int.reduceAdd,Int.reduceSub,Int.reduceNeg,reduceCtorEq,eZ,Tryz.results84]) | (with_reducible first | refine af ?_ | refine ai ?_ | refine aj ?_ | refine ay fun K hK=>?_ | refine au ?_) | (with_reducible refine hK _ ?_;clear hK K) | (with_reducible refine ah (h1) ?_))
def fB : Nat→List Nat
 | 0=>[0]
 | 1=>[0]
 | _=>[]
set_option maxRecDepth 100000 in
theorem A5 (c : List Int) : AFn Tryz.prog 44 [dr c] [] (.c (.bool (decide (c.length = 0)))) []:=by
 have e : decide ((c.length : Int) = 0) = decide (c.length = 0):=by
  by_cases h : c.length = 0
  ·simp [h]
  ·rw [decide_eq_false h,decide_eq_false (by omega)]
 refine aD [] Tryz.func44 rfl Tryz.ntmps44 (Nat.le_of_ble_eq_true rfl) (Nat.le_of_ble_eq_true rfl) fun w0 G0 B0 Pr hB0=>?_
 simp only [aO,aA,List.cons_append,List.nil_append]
 repeat' (first | (with_reducible refine hY _ ?_;clear hY Y) | ((with_reducible first | refine an rfl (ar fun K' hK'=>aa ?_) | refine hK' _ (ab fun Y hY=>aa ?_) | refine ae tk0 fB (ab fun Y hY=>aa ?_) | refine aa ?_ | refine ao ?_);(try clear hK' K');(try dsimp only [aop]);try simp only [go_sem,↓reduceIte,Nat.reduceEqDiff,Nat.reduceLT,Nat.reduceLeDiff,Nat.reduceAdd,Nat.reduceSub,Nat.reduceMul,Nat.reduceBEq,Nat.reduceBNe,Nat.reducePow,Int.reduceToNat,Int.reduceLE,Int.reduceLT,Int.reduceMul,Int.reduceEq,Int.reducePow,Int.reduceAdd,Int.reduceSub,Int.reduceNeg,reduceCtorEq,fB,Tryz.results44,e]) | (with_reducible first | refine af ?_ | refine ai ?_ | refine aj ?_ | refine ay fun K hK=>?_ | refine au ?_) | (with_reducible refine hK _ ?_;clear hK K))
set_option maxRecDepth 100000 in
set_option maxHeartbeats 1000000 in
theorem x8 (n : Nat) (hn : n≤1000000) : AFn Tryz.prog 83 [.sl [] 0 .full,inA (n : Int)] [] (.sl [] 0 (.tok 20000)) [.bt 0 41]:=fun w G vs hst hX hvs hargs=>by
 have hγ : ∀ k,G.γ k = none:=fun k=>by
  cases hg : G.γ k with
  | none=>rfl
  | some g =>
   exact ((hst.box k g hg).2.2.not_u (iG k)).elim
 obtain ⟨ad,cap,b,off,f,e0,⟨q1,q2,q3,q4,q5⟩,hf,_⟩:=dR (hargs 0 (by simp))
 have hcap:=hf rfl
 subst hcap
 have e1:=cI (hargs 1 (by simp))
 have hvs2 : vs = #[.slice ad 0 0,.int .i64 (n : Int)]:=by
  cases vs with
  | mk l =>
   match l,hvs with
   | [v0,v1],_=>simp at e0 e1;subst e0;subst e1;rfl
 subst hvs2
 have hx : ∀ k,bP [.bt 0 41] k = if k = 20000 then .bt 0 41 else .u:=fun k=>by
  exact lV _ rfl k
 have hbs : BStep G (bP []) G (bP [.bt 0 41]):=⟨.refl _,fun k _=>.u (iG k)⟩
 by_cases h0 : n = 0
 ·subst h0
  refine (Any8.slices_Grow_room Tryz.zGrowC ad 0 0 0 w (Nat.le_refl _) (by decide) (by decide) (by decide)).mono ?_
  rintro e w' ⟨rfl,rfl⟩
  refine ⟨_,G,rfl,.tok ad 0 0 [] 20000 0 41 (.sl ad b off 0 0 .none [] f (.inl rfl) (Nat.le_refl _) q2 (.inl ⟨rfl,rfl⟩) (fun j hj=>absurd hj (Nat.not_lt_zero _)) fun j hj=>absurd hj (Nat.not_lt_zero _)) (by decide) (by rw [hx,if_pos rfl]) (Nat.le_refl _) (fun _=>⟨fun _=>rfl,fun g hg=>by rw [hγ] at hg;cases hg⟩),
   ⟨hst.agree,(fun k g hk=>by rw [hγ] at hk;cases hk),(fun k cs ty _ hc=>by rw [hx] at hc;split at hc <;> cases hc),(fun k k' g hk=>by rw [hγ] at hk;cases hk),hst.gl⟩,.refl _ _,hbs,fun _ _ _ _=>rfl⟩
 ·obtain ⟨i0,hi0,hz0,hs0,hb0⟩ : ∃ i0,Tryz.prog.info? 41 = some i0∧i0.zero = some (.slice none 0 0)∧i0.size = 1∧i0.bytes = 24:=⟨_,rfl,rfl,rfl,rfl⟩
  refine (Any8.slices_Grow_grow Tryz.zGrowC i0 (.slice none 0 0) hi0 hz0 (by omega) ad 0 0 n [] w (Nat.le_refl _) (by omega) (by rw [hb0];omega) (by omega) (by simp) (fun h=>rfl) (fun a _ j v hj=>by simp at hj)).mono ?_
  rintro e w' ⟨rfl,rfl⟩
  have hg0 : n≤grownCap w (0 + n) 0 41:=by have:=grownCap_ge w (0 + n) 0 41;omega
  have hcm : grownCap w (0 + n) 0 41≤maxLen:=grownCap_le_maxLen w _ _ _ (by unfold maxLen;omega)
  simp only [show Tryz.zGrowC_ren.t 25 = 41 from rfl]
  generalize grownCap w (0 + n) 0 41 = C at *
  have hsz : (#[] ++ Builtin.zeroCells (Value.slice none 0 0).cells (0 + n - 0) ++ Builtin.zeroCells (Value.slice none 0 0).cells (C - (0 + n))).size = C * 1:=by
   simp [size_zeroCells,Value.cells];omega
  generalize (#[] ++ Builtin.zeroCells (Value.slice none 0 0).cells (0 + n - 0) ++ Builtin.zeroCells (Value.slice none 0 0).cells (C - (0 + n))) = Zs at *
  have hw1 : (w.drew.alloc (.cells Zs 41)).heap[w.heap.size]? = some (.cells Zs 41 (0,0)):=World.alloc_heap_new w.drew _
  have hb : RowKit.Below w.heap.size w (w.drew.alloc (.cells Zs 41)):=(show RowKit.Below w.heap.size w w.drew from ⟨rfl,rfl,rfl,Nat.le_refl _,fun _ _=>rfl⟩).alloc (Nat.le_refl _) _
  have hz : ∀ o,G.Z w.heap.size o = none:=fun o=>by
   cases hz : G.Z w.heap.size o with
   | none=>rfl
   | some v=>have:=World.block_lt_of_cell? w ⟨w.heap.size,o,none⟩ (hst.agree _ o v hz).1;simp at this
  generalize w.drew.alloc (.cells Zs 41) = w' at *
  have hcl : Tryz.prog.cellsOf 41 = 1:=by kernel_rfl
  refine ⟨_,⟨G.Z,fun k=>if k = 20000 then some w.heap.size else none,fun _=>C,G.β⟩,rfl,
   .tok (some ⟨w.heap.size,0,none⟩) 0 C [] 20000 0 41 (.sl (some ⟨w.heap.size,0,none⟩) 0 0 0 C .none [] (fun _=>undef) (.inl rfl) (Nat.zero_le _) (fun e=>by cases e) (.inl ⟨rfl,rfl⟩) (fun j hj=>absurd hj (Nat.not_lt_zero _)) fun j hj=>absurd hj (Nat.not_lt_zero _)) (by decide) (by rw [hx,if_pos rfl]) (Nat.le_refl _)
    (fun _=>⟨fun h=>by have h' : (if (20000 : Nat) = 20000 then some w.heap.size else none) = none:=h;simp at h',fun g hg=>by have h' : (if (20000 : Nat) = 20000 then some w.heap.size else none) = some g:=hg;rw [if_pos rfl] at h';cases h';exact ⟨rfl,rfl⟩⟩),
   ⟨fun b o v hz'=>?_,fun k g hk=>?_,(fun k cs ty _ hc=>by rw [hx] at hc;split at hc <;> cases hc),fun k k' g hk hk'=>?_,hst.gl⟩,⟨hb.os,hb.tape,hb.output,hb.size,fun b hp _=>hb.block b hp.1⟩,
   ⟨.refl _,fun k _=>.u (iG k)⟩,fun _ _ _ _=>rfl⟩
  ·have:=hst.agree b o v hz'
   exact ⟨(hb.cell (p:=⟨b,o,none⟩) (World.block_lt_of_cell? w ⟨b,o,none⟩ this.1)).trans this.1,this.2⟩
  ·have hk' : (if k = 20000 then some w.heap.size else none) = some g:=hk
   split at hk'
   ·rename_i hk2;subst hk2;cases hk'
    exact ⟨by decide,fun hp=>absurd hp.1 (Nat.lt_irrefl _),.inr (.inl ⟨0,41,by rw [hx,if_pos rfl],Zs,hw1,Nat.zero_le _,hcm,by rw [hcl];exact hsz,fun o _=>hz o⟩)⟩
   ·cases hk'
  ·have e1 : (if k = 20000 then some w.heap.size else none) = some g:=hk
   have e2 : (if k' = 20000 then some w.heap.size else none) = some g:=hk'
   split at e1
   ·split at e2
    ·omega
    ·cases e2
   ·cases e1
def eC : Nat→List Nat
 | 0=>[0]
 | 1=>[0]
 | 2=>[0,3]
 | 3=>[0,3,9,10,11]
 | 4=>[0,3,9,10,11]
 | 5=>[0,3,5,9,10,11]
 | 6=>[0,3,9,10,11]
 | 7=>[0,3,9,10,11]
 | 8=>[0,3,9,10,11]
 | 9=>[0,3]
 | 10=>[0,6]
 | 11=>[6,25,26,27]
 | 12=>[6,25,26,27]
 | 13=>[6,8,25,26,27]
 | 14=>[6,25,26,27]
 | 15=>[6]
 | _=>[]
set_option maxRecDepth 100000 in
set_option maxHeartbeats 4000000 in
theorem uq (a b : List (List Int)) (h : a.length + b.length≤1000000) : AFn Tryz.prog 41 [.sl [.sl (a.map dr) a.length .none,.sl (b.map dr) b.length .none] 2 .full] [] (.sl ((a ++ b).map dr) (a ++ b).length .none) []:=by
 have hg:=x8 (a.length + b.length) h
 have u0 : IntKind.i64.wrap (0 + (a.length : Int)) = (a.length : Int):=by rw [aY (by omega) (by omega)];omega
 have u1 : IntKind.i64.wrap ((a.length : Int) + (b.length : Int)) = ((a.length + b.length : Nat) : Int):=by rw [aY (by omega) (by omega)];omega
 have n0 : ((a.length : Int) < 0) = False:=eq_false (by omega)
 have n1 : (((a.length + b.length : Nat) : Int) < 0) = False:=eq_false (by omega)
 have ui : IntKind.i64.wrap 1 = 1:=rfl
 have uj : IntKind.i64.wrap 2 = 2:=rfl
 rw [List.map_append,List.length_append]
 generalize hA : a.map dr = A
 generalize hB : b.map dr = B
 have lA : A.length = a.length:=by rw [← hA,List.length_map]
 have lB : B.length = b.length:=by rw [← hB,List.length_map]
 generalize a.length = na at *
 generalize b.length = nb at *
 clear hA hB
 refine aD [] Tryz.func41 rfl Tryz.ntmps41 (Nat.le_of_ble_eq_true rfl) (Nat.le_of_ble_eq_true rfl) fun w0 G0 B0 Pr hB0=>?_
 simp only [aO,aA,List.cons_append,List.nil_append]
 repeat' (first | (with_reducible refine hY _ ?_;clear hY Y) | ((with_reducible first | refine an rfl (ar fun K' hK'=>aa ?_) | refine hK' _ (ab fun Y hY=>aa ?_) | refine ab fun Y hY=>aa ?_ | refine ae tk0 eC (ab fun Y hY=>aa ?_) | refine aa ?_ | refine ao ?_);(try clear hK' K');(try dsimp only [aop]);try simp only [go_sem,↓reduceIte,Nat.reduceEqDiff,Nat.reduceLT,Nat.reduceLeDiff,Nat.reduceAdd,Nat.reduceSub,Nat.reduceMul,Nat.reduceBEq,Nat.reduceBNe,Nat.reducePow,Int.reduceToNat,Int.reduceLE,Int.reduceLT,Int.reduceMul,Int.reduceEq,Int.reducePow,Int.reduceAdd,Int.reduceSub,Int.reduceNeg,reduceCtorEq,eC,Tryz.results41,u0,u1,n0,n1,ui,uj,lA,lB]) | (with_reducible first | refine af ?_ | refine ai ?_ | refine aj ?_ | refine ay fun K hK=>?_ | refine aq ?_ | refine bC ?_ | refine aU ?_ | refine bg ?_ | refine al ?_ | refine av ?_ | refine au ?_ | refine bf ?_ | refine bG ?_) | (with_reducible refine hK _ ?_;clear hK K) | ((with_reducible refine ag ?_ ?_);(· decide)) | ((with_reducible refine gM (fun hc=>?_) (fun hc=>?_)) <;> (try simp only [decide_eq_true_eq,decide_eq_false_iff_not,Bool.not_true,Bool.not_false,Bool.not_eq_true',Bool.not_eq_false'] at hc) <;> (try (exfalso;omega))) | (with_reducible refine bp ?_ ?_;(· (try and_intros) <;> first | omega | assumption | (simp only [List.length_append,List.length_map,List.length_cons,List.length_nil] <;> omega))) | (with_reducible refine ah (hg) ?_) | ((with_reducible refine fm ?_)))
 all_goals simp_all
end Go.Proofs.YtmpdocplcgbpkaaGreatDoor

/- The shelf's contracts laid at this seat, in plain words (written by the kit's lay-plain.mjs). slices.Values handed to slices.AppendSeq, Collect, Sorted: a slice of texts, sorted, in worlds. Doubles, told by sorting. No program is in sight. -/
import Derived.Shelf.SlIter.Sorted
import Derived.Ground.GgzProg
import Derived.Shelf.SortM.Plain
import Derived.Shelf.SortM.SortNone
import Derived.Ground.SlgmProg
import Derived.Shelf.Slices.CompactS
import Derived.Ground.NamesProg
import Derived.Shelf.Spec.SlicesGrow
import Derived.Ground.Names8Prog
import Derived.Test.YtkjnkkmokojnpaaGreatDoorProg
import Derived.WalkKit
import Derived.Deep.LoopGhost
import Derived.OwnWalkIn
import Derived.TacticsInMore
import Derived.RegionIn
import Derived.LoopNIn
import Derived.LoopIn
import Derived.Sort.LoopGhostIn
import Derived.Lib.Hide
import Derived.Test.YtkjnkkmokojnpaaGreatDoorZ8
import Derived.Lib.SlicesCompact
namespace Go.Proofs
open Go.Shelf
def Tryz.zSorted_ren : Go.Shelf.Ren := ⟨fun | 6 => 65 | 8 => 153 | 9 => 154 | 11 => 205 | 13 => 207 | 12 => 206 | 23 => 240 | 24 => 241 | 14 => 231 | 15 => 232 | 16 => 233 | 17 => 234 | 18 => 235 | 19 => 236 | 20 => 237 | 21 => 238 | 22 => 239 | 25 => 251 | 26 => 252 | 27 => 253 | 28 => 254 | 29 => 255 | 30 => 256 | 31 => 264 | n => n,fun | 26 => 9 | 28 => 117 | 24 => 48 | 0 => 0 | 3 => 3 | 37 => 230 | 48 => 250 | 50 => 252 | 4 => 4 | 40 => 243 | 39 => 242 | 45 => 247 | 5 => 5 | 9 => 9 | 51 => 255 | 55 => 259 | 57 => 268 | 58 => 30 | 33 => 88 | n => n,fun | n => n⟩
theorem Tryz.zSorted : Go.Proofs.SlLaysZ.n6 Tryz.prog Tryz.zSorted_ren := {
 mixed := by kernel_rfl
 f6 := ⟨Tryz.f65.name,by decide,Tryz.func65.trans (congrArg some (by kernel_rfl))⟩
 f8 := ⟨Tryz.f153.name,by decide,Tryz.func153.trans (congrArg some (by kernel_rfl))⟩
 f11 := ⟨Tryz.f205.name,by decide,Tryz.func205.trans (congrArg some (by kernel_rfl))⟩
 t0 := Tryz.underlying0
 a0 := Tryz.isAgg0
 z0 := Tryz.sizeOf0
 v0 := Tryz.zeroValue0
 t24 := Tryz.underlying48
 a24 := Tryz.isAgg48
 z24 := Tryz.sizeOf48
 v24 := Tryz.zeroValue48
 t26 := Tryz.underlying9
 a26 := Tryz.isAgg9
 z26 := Tryz.sizeOf9
 v26 := Tryz.zeroValue9
 t28 := Tryz.underlying117
 a28 := Tryz.isAgg117
 z28 := Tryz.sizeOf117
 v28 := Tryz.zeroValue117
 i26 := by kernel_rfl }
def Tryz.zSort_ren : Go.Shelf.Ren := ⟨fun | 6 => 154 | 8 => 207 | 9 => 206 | 19 => 240 | 20 => 241 | 21 => 231 | 22 => 232 | 23 => 233 | 24 => 234 | 25 => 235 | 26 => 236 | 27 => 237 | 28 => 238 | 29 => 239 | 36 => 251 | 31 => 252 | 32 => 253 | 37 => 254 | 38 => 255 | 39 => 256 | 41 => 264 | n => n,fun | 27 => 48 | 29 => 9 | 3 => 3 | 32 => 230 | 26 => 48 | 0 => 0 | 44 => 250 | 46 => 252 | 4 => 4 | 36 => 243 | 35 => 242 | 41 => 247 | 5 => 5 | 9 => 9 | 53 => 255 | 57 => 259 | 63 => 268 | 64 => 30 | n => n,fun | n => n⟩
theorem Tryz.zSort : Go.Proofs.SlLaysM.n6 Tryz.prog Tryz.zSort_ren := {
 mixed := by kernel_rfl
 f6 := ⟨Tryz.f154.name,by decide,Tryz.func154.trans (congrArg some (by kernel_rfl))⟩
 f8 := Tryz.func207.trans (congrArg some (by kernel_rfl))
 f9 := ⟨Tryz.f206.name,by decide,Tryz.func206.trans (congrArg some (by kernel_rfl))⟩
 f19 := Tryz.func240.trans (congrArg some (by kernel_rfl))
 f20 := Tryz.func241.trans (congrArg some (by kernel_rfl))
 f21 := ⟨Tryz.f231.name,by decide,Tryz.func231.trans (congrArg some (by kernel_rfl))⟩
 f22 := ⟨Tryz.f232.name,by decide,Tryz.func232.trans (congrArg some (by kernel_rfl))⟩
 f23 := ⟨Tryz.f233.name,by decide,Tryz.func233.trans (congrArg some (by kernel_rfl))⟩
 f24 := ⟨Tryz.f234.name,by decide,Tryz.func234.trans (congrArg some (by kernel_rfl))⟩
 f25 := ⟨Tryz.f235.name,by decide,Tryz.func235.trans (congrArg some (by kernel_rfl))⟩
 f26 := ⟨Tryz.f236.name,by decide,Tryz.func236.trans (congrArg some (by kernel_rfl))⟩
 f27 := ⟨Tryz.f237.name,by decide,Tryz.func237.trans (congrArg some (by kernel_rfl))⟩
 f28 := ⟨Tryz.f238.name,by decide,Tryz.func238.trans (congrArg some (by kernel_rfl))⟩
 f29 := ⟨Tryz.f239.name,by decide,Tryz.func239.trans (congrArg some (by kernel_rfl))⟩
 f31 := Tryz.func252.trans (congrArg some (by kernel_rfl))
 f32 := Tryz.func253.trans (congrArg some (by kernel_rfl))
 f36 := ⟨Tryz.f251.name,by decide,Tryz.func251.trans (congrArg some (by kernel_rfl))⟩
 f37 := ⟨Tryz.f254.name,by decide,Tryz.func254.trans (congrArg some (by kernel_rfl))⟩
 f38 := ⟨Tryz.f255.name,by decide,Tryz.func255.trans (congrArg some (by kernel_rfl))⟩
 f39 := ⟨Tryz.f256.name,by decide,Tryz.func256.trans (congrArg some (by kernel_rfl))⟩
 f41 := ⟨Tryz.f264.name,by decide,Tryz.func264.trans (congrArg some (by kernel_rfl))⟩
 t0 := Tryz.underlying0
 a0 := Tryz.isAgg0
 z0 := Tryz.sizeOf0
 v0 := Tryz.zeroValue0
 t3 := Tryz.underlying3
 a3 := Tryz.isAgg3
 z3 := Tryz.sizeOf3
 v3 := Tryz.zeroValue3
 t4 := Tryz.underlying4
 a4 := Tryz.isAgg4
 z4 := Tryz.sizeOf4
 v4 := Tryz.zeroValue4
 t5 := Tryz.underlying5
 a5 := Tryz.isAgg5
 z5 := Tryz.sizeOf5
 v5 := Tryz.zeroValue5
 t9 := Tryz.underlying9
 a9 := Tryz.isAgg9
 z9 := Tryz.sizeOf9
 v9 := Tryz.zeroValue9
 t26 := Tryz.underlying48
 a26 := Tryz.isAgg48
 z26 := Tryz.sizeOf48
 v26 := Tryz.zeroValue48
 t27 := Tryz.underlying48
 a27 := Tryz.isAgg48
 z27 := Tryz.sizeOf48
 v27 := Tryz.zeroValue48
 t29 := Tryz.underlying9
 a29 := Tryz.isAgg9
 z29 := Tryz.sizeOf9
 v29 := Tryz.zeroValue9
 t32 := Tryz.underlying230
 a32 := Tryz.isAgg230
 z32 := Tryz.sizeOf230
 v32 := Tryz.zeroValue230
 t35 := Tryz.underlying242
 a35 := Tryz.isAgg242
 z35 := Tryz.sizeOf242
 v35 := Tryz.zeroValue242
 t36 := Tryz.underlying243
 a36 := Tryz.isAgg243
 z36 := Tryz.sizeOf243
 v36 := Tryz.zeroValue243
 t41 := Tryz.underlying247
 a41 := Tryz.isAgg247
 z41 := Tryz.sizeOf247
 v41 := Tryz.zeroValue247
 t44 := Tryz.underlying250
 a44 := Tryz.isAgg250
 z44 := Tryz.sizeOf250
 v44 := Tryz.zeroValue250
 t46 := Tryz.underlying252
 a46 := Tryz.isAgg252
 z46 := Tryz.sizeOf252
 v46 := Tryz.zeroValue252
 t53 := Tryz.underlying255
 a53 := Tryz.isAgg255
 z53 := Tryz.sizeOf255
 v53 := Tryz.zeroValue255
 t57 := Tryz.underlying259
 a57 := Tryz.isAgg259
 z57 := Tryz.sizeOf259
 v57 := Tryz.zeroValue259
 t63 := Tryz.underlying268
 a63 := Tryz.isAgg268
 z63 := Tryz.sizeOf268
 v63 := Tryz.zeroValue268
 t64 := Tryz.underlying30
 a64 := Tryz.isAgg30
 z64 := Tryz.sizeOf30
 v64 := Tryz.zeroValue30 }
def Tryz.zCompact_ren : Go.Shelf.Ren := ⟨fun | 194 => 69 | n => n,fun | 31 => 48 | 9 => 9 | 3 => 3 | 4 => 4 | 0 => 0 | n => n,fun | n => n⟩
theorem Tryz.zCompact : Go.Proofs.Lays.n194 Tryz.prog Tryz.zCompact_ren := {
 mixed := by kernel_rfl
 f194 := Tryz.func69.trans (congrArg some (by kernel_rfl))
 t0 := Tryz.underlying0
 a0 := Tryz.isAgg0
 z0 := Tryz.sizeOf0
 v0 := Tryz.zeroValue0
 t3 := Tryz.underlying3
 a3 := Tryz.isAgg3
 z3 := Tryz.sizeOf3
 v3 := Tryz.zeroValue3
 t4 := Tryz.underlying4
 a4 := Tryz.isAgg4
 z4 := Tryz.sizeOf4
 v4 := Tryz.zeroValue4
 t9 := Tryz.underlying9
 a9 := Tryz.isAgg9
 z9 := Tryz.sizeOf9
 v9 := Tryz.zeroValue9
 t31 := Tryz.underlying48
 a31 := Tryz.isAgg48
 z31 := Tryz.sizeOf48
 v31 := Tryz.zeroValue48 }
def Tryz.zGrow_ren : Go.Shelf.Ren := ⟨fun | 4 => 152 | n => n,fun | 22 => 48 | 25 => 9 | 3 => 3 | 4 => 4 | 9 => 9 | 20 => 20 | 0 => 0 | n => n,fun | n => n⟩
theorem Tryz.zGrow : Go.Proofs.Lays8.n4 Tryz.prog Tryz.zGrow_ren := {
 mixed := by kernel_rfl
 f4 := ⟨Tryz.f152.name,by decide,Tryz.func152.trans (congrArg some (by kernel_rfl))⟩
 t0 := Tryz.underlying0
 a0 := Tryz.isAgg0
 z0 := Tryz.sizeOf0
 v0 := Tryz.zeroValue0
 t3 := Tryz.underlying3
 a3 := Tryz.isAgg3
 z3 := Tryz.sizeOf3
 v3 := Tryz.zeroValue3
 t4 := Tryz.underlying4
 a4 := Tryz.isAgg4
 z4 := Tryz.sizeOf4
 v4 := Tryz.zeroValue4
 t9 := Tryz.underlying9
 a9 := Tryz.isAgg9
 z9 := Tryz.sizeOf9
 v9 := Tryz.zeroValue9
 t20 := Tryz.underlying20
 a20 := Tryz.isAgg20
 z20 := Tryz.sizeOf20
 v20 := Tryz.zeroValue20
 t22 := Tryz.underlying48
 a22 := Tryz.isAgg48
 z22 := Tryz.sizeOf48
 v22 := Tryz.zeroValue48 }
end Go.Proofs
namespace Go.Proofs.YtkjnkkmokojnpaaGreatDoor
set_option linter.unusedSimpArgs false
set_option linter.unusedVariables false
open Go.RowKit Go.Maps Go.Sort Go.Shelf
set_option maxRecDepth 100000 in
set_option maxHeartbeats 2000000 in
theorem xJ (n : Nat) (hn : 1 ≤ n) (l Bv bo b o cap : Nat) (sv : Option Addr) (xs : List (List UInt8)) (ha : xs ≠ [] → sv = some ⟨b,o,none⟩) (hlen : xs.length ≤ 140737488355328) (J : List (List UInt8) → World → Prop)
  (hV : ∀ pre W1,J pre W1 → W1.cell? ⟨Bv,bo,none⟩ = some (.slice sv xs.length cap) ∧ ∀ j (h : j < xs.length),W1.cell? ⟨b,o + j,none⟩ = some (encStr xs[j]))
  (hY : ∀ pre x W1,J pre W1 → pre.length < xs.length → YieldAt Fence.wide (n - 1) Tryz.prog l #[encStr x] W1 fun e W' => e = .returned (.bool true) ∧ J (pre ++ [x]) W' ∧ KeepsWalks W1 W')
  (W : World) (h0 : J [] W) :
  CallsIn Fence.wide n Tryz.prog 155 #[.func (.yield l) #[] #[],.pointer (some ⟨Bv,bo,none⟩)] W fun e W' => (∃ v,e = .returned v) ∧ J xs W' := by
 have HA := Go.Lib.hid ha
 clear ha
 have HV := Go.Lib.hid hV
 have HY := Go.Lib.hid hY
 have H0 := Go.Lib.hid h0
 obtain ⟨hc,_⟩ := hV [] W h0
 clear hV hY h0
 refine callsIn_of_wp Tryz.func155 rfl trivial ?_ rfl
 simp only [Tryz.ntmps155,List.size_toArray,List.length_cons,List.length_nil,Nat.reduceAdd,Nat.reduceSub,Array.replicate_succ,Array.replicate_zero,List.push_toArray,List.append_toArray,List.nil_append,List.cons_append]
 gi_wp2
 clear hc
 gi_loopg [7] xs.length (fun g s7 wr => ∃ k : Nat,s7 = .int .i64 k ∧ k ≤ xs.length ∧ xs.length - k ≤ g ∧ J (xs.take k) wr)
 case atStart => exact ⟨0,rfl,Nat.zero_le _,Nat.le_refl _,H0.out⟩
 case round =>
  obtain ⟨k,rfl,hk,hg,hJ⟩ := hrel
  by_cases hlt : k < xs.length
  ·have hsv := HA.out (fun e => by rw [e] at hlt; exact absurd hlt (Nat.not_lt_zero _))
   subst hsv
   have hcell := (HV.out _ _ hJ).2 k hlt
   obtain ⟨fn,tmps,assign,body,hy,hR⟩ := HY.out (xs.take k) xs[k] wr hJ (by rw [List.length_take]; omega)
   generalize hx : xs[k] = x at *
   have HX := Go.Lib.hid hx
   have HJ := Go.Lib.hid hJ
   clear hx hJ
   gi_wp2
   refine hR.mono ?_
   rintro e W3 ⟨rfl,hJ3,hk3⟩
   have HJ3 := Go.Lib.hid hJ3
   clear hJ3 hy hcell
   gi_wp2
   gi_roundg (xs.length - (k + 1))
   case measure => omega
   case rel =>
    refine ⟨k + 1,by go_num,by omega,Nat.le_refl _,?_⟩
    rw [List.take_succ_eq_append_getElem hlt,HX.out]
    exact HJ3.out
  ·have hke : k = xs.length := by omega
   subst hke
   have HJ := Go.Lib.hid hJ
   clear hJ
   gi_wp2
   go_end0
   refine ⟨⟨_,rfl⟩,?_⟩
   have := HJ.out
   rwa [List.take_length] at this
theorem pE (n : Nat) (hn : 2 ≤ n) (Bv bo b o cap : Nat) (sv : Option Addr) (xs : List (List UInt8)) (ha : xs ≠ [] → sv = some ⟨b,o,none⟩) (hN : xs.length ≤ maxLen) (hNb : xs.length * 16 ≤ 140737488355328) (w : World)
  (hc : w.cell? ⟨Bv,bo,none⟩ = some (.slice sv xs.length cap)) (hcs : ∀ j (h : j < xs.length),w.cell? ⟨b,o + j,none⟩ = some (encStr xs[j])) :
  CallsIn Fence.wide n Tryz.prog 205 #[.slice none 0 0,.func (.func 155) #[] #[.pointer (some ⟨Bv,bo,none⟩)]] w fun e w' =>
   ∃ v : Value,e = .returned v ∧ w'.ownsRow w.heap.size 9 1 v xs.length (xs.map encStr) ∧ (v = .slice none 0 0 ↔ xs = []) ∧ Below w.heap.size w w' := by
 have LL : SlLaysZ.n11 Tryz.prog Tryz.zSorted_ren := { Tryz.zSorted with }
 have HA := Go.Lib.hid ha
 clear ha
 have HC := Go.Lib.hid hc
 have HCS := Go.Lib.hid hcs
 clear hc hcs
 have hne : 48 ≠ 9 := by decide
 refine callsIn_of_wp_marks Tryz.func205 rfl trivial ?_ rfl
 simp only [Tryz.ntmps205,List.size_toArray,List.length_cons,List.length_nil,Nat.reduceAdd,Nat.reduceSub,Array.replicate_succ,Array.replicate_zero,List.push_toArray,List.append_toArray,List.nil_append,List.cons_append]
 gi_wp2
 refine wpIn_rangeFunc ?_
 intro fn hfn
 generalize hSV : Value.func (.func 155) #[] #[.pointer (some ⟨Bv,bo,none⟩)] = SV
 generalize hW0 : w.alloc (.cells #[.slice none 0 0] 48) = W0
 have hs0 : W0.heap.size = w.heap.size + 1 := by rw [← hW0]; simp
 have hv0 : W0.heap[w.heap.size]? = some (.cells #[.slice none 0 0] 48 (0,0)) := by rw [← hW0]; exact World.alloc_heap_new w _
 have hb0 : RowKit.Below w.heap.size w W0 := by rw [← hW0]; exact (Below.refl _ w).alloc (Nat.le_refl _) _
 obtain ⟨W1,hW1⟩ : ∃ W1,(W0.alloc (.deferred (some []))).alloc (.loop (AnyZ.apRec Tryz.zSorted_ren fn SV w.heap.size W0.heap.size .ready none)) = W1 := ⟨_,rfl⟩
 have hold : ∀ k,k < W0.heap.size → W1.heap[k]? = W0.heap[k]? := fun k hk => by
  rw [← hW1]; exact (Below.heap_alloc _ _ k (by simp; omega)).trans (Below.heap_alloc _ _ k hk)
 have hb1 : RowKit.Below w.heap.size w W1 := by rw [← hW1]; exact (hb0.alloc hb0.size _).alloc (by have := hb0.size; simp; omega) _
 have hM : AnyZ.ApAt Tryz.zSorted_ren w fn SV w.heap.size (W0.heap.size + 1) W0.heap.size [] W1 :=
  ⟨⟨_,(hold w.heap.size (by omega)).trans hv0,⟨rfl,.inl ⟨rfl,rfl⟩⟩,by simp⟩,
   by rw [← hW1]; have := World.alloc_heap_new (W0.alloc (.deferred (some []))) (.loop (AnyZ.apRec Tryz.zSorted_ren fn SV w.heap.size W0.heap.size .ready none)); rwa [World.size_alloc] at this,
   by rw [← hW1]; exact (Below.heap_alloc _ _ _ (by simp)).trans (World.alloc_heap_new W0 _),hb1⟩
 have hbw : Bv < w.heap.size := World.block_lt_of_cell? w ⟨Bv,bo,none⟩ HC.out
 refine ⟨W0.heap.size + 1,[{ target := .collected W0.heap.size,args := #[] }],W1,{ target := .fn (.func 155) #[.pointer (some ⟨Bv,bo,none⟩)],args := #[.func (.yield (W0.heap.size + 1)) #[] #[]] },W1,155,
  #[.func (.yield (W0.heap.size + 1)) #[] #[]] ++ #[.pointer (some ⟨Bv,bo,none⟩)],W1,?_,?_,?_,?_,fun _ => by omega,?_⟩
 ·rw [← hW1]; exact run_enterLoop_outer _ _ _ _ _
 ·rw [← hSV]; simp [resolve,go_sem]
 ·intro f' hf'; trivial
 ·have he : ∀ args w,(callFunc 155 args).run Tryz.prog w = .ok (.enter 155 args) w := enters_of Tryz.func155 (by kernel_rfl) rfl
  simp [invoke,go_sem,he]
 ·refine (xJ (n - 1) (by omega) (W0.heap.size + 1) Bv bo b o cap sv xs HA.out (by omega) (AnyZ.ApAt Tryz.zSorted_ren w fn SV w.heap.size (W0.heap.size + 1) W0.heap.size)
   (fun pre W2 h2 => ⟨(h2.below.cell (p := ⟨Bv,bo,none⟩) hbw).trans HC.out,fun j hj => ((h2.below.cell (p := ⟨b,o + j,none⟩) (World.block_lt_of_cell? w ⟨b,o + j,none⟩ (HCS.out j hj))).trans (HCS.out j hj))⟩)
   (fun pre x W2 hJ hl => AnyZ.apYield LL Fence.wide (n - 1 - 1) w fn hfn SV w.heap.size (W0.heap.size + 1) W0.heap.size (by omega) (by omega) (by omega) (Nat.le_refl _) (by omega) xs.length hN hNb pre x W2 hJ hl) W1 hM).mono ?_
  rintro e W2 ⟨⟨v0,rfl⟩,h2⟩
  obtain ⟨v,hv,hrow,hnil⟩ := h2.box
  have hend := run_endLoop (P := Tryz.prog) h2.L (by simp [AnyZ.apRec])
  obtain ⟨W3,hW3⟩ : ∃ W3,W2.putObj (W0.heap.size + 1) (.loop { AnyZ.apRec Tryz.zSorted_ren fn SV w.heap.size W0.heap.size .ready none with state := .exhausted }) = W3 := ⟨_,rfl⟩
  rw [hW3] at hend
  have hg3 : W2.grownBy W3 (some (W0.heap.size + 1)) := by rw [← hW3]; exact grownBy_putObj_a _ _ _
  have hv3 : W3.heap[w.heap.size]? = some (.cells #[v] 48 (0,0)) := by rw [← hW3]; exact (World.putObj_heap_other (by omega)).trans hv
  have hK3 : W3.heap[W0.heap.size]? = some (.deferred (some [])) := by rw [← hW3]; exact (World.putObj_heap_other (by omega)).trans h2.K
  have hrow3 : W3.ownsRow w.heap.size 9 1 v xs.length (xs.map encStr) := hrow.kept hg3 (ownsRow_ne_a hrow h2.L (fun cur e => by first | cases e | exact hne (Obj.cells.inj e).2.1))
  have hb3 : RowKit.Below w.heap.size w W3 := h2.below.grown hg3 h2.below.size (fun k e => by cases e; omega)
  obtain ⟨hc3,hf3⟩ := cell_of_box_a hv3
  clear hW3
  refine ⟨none,W3,hend,?_⟩
  gi_wp2
  rw [← hs0]
  refine ⟨by simp,.inl ⟨_,_,rfl,run_takeDeferred hK3,?_⟩⟩
  exact ⟨_,results_tmp rfl _ _ _,v,rfl,hrow3.kept (grownBy_putObj_a _ _ _) (ownsRow_ne_a hrow3 hK3 (fun cur e => by first | cases e | exact hne (Obj.cells.inj e).2.1)),hnil,hb3.grown (grownBy_putObj_a _ _ _) hb3.size (fun k e => by cases e; omega)⟩
set_option maxHeartbeats 1000000 in
theorem sn (n : Nat) (hn : 3 ≤ n) (Bv bo b o cap : Nat) (sv : Option Addr) (xs : List (List UInt8)) (ha : xs ≠ [] → sv = some ⟨b,o,none⟩) (hN : xs.length ≤ maxLen) (hNb : xs.length * 16 ≤ 140737488355328) (w : World)
  (hc : w.cell? ⟨Bv,bo,none⟩ = some (.slice sv xs.length cap)) (hcs : ∀ j (h : j < xs.length),w.cell? ⟨b,o + j,none⟩ = some (encStr xs[j])) :
  CallsIn Fence.wide n Tryz.prog 153 #[.func (.func 155) #[] #[.pointer (some ⟨Bv,bo,none⟩)]] w fun e w' =>
   ∃ v : Value,e = .returned v ∧ w'.ownsRow w.heap.size 9 1 v xs.length (xs.map encStr) ∧ (v = .slice none 0 0 ↔ xs = []) ∧ Below w.heap.size w w' := by
 have e11 : ∀ args w,(callFunc 205 args).run Tryz.prog w = .ok (.enter 205 args) w := enters_of Tryz.func205 (by kernel_rfl) rfl
 have hA := Go.Lib.hid (pE (n - 1) (by omega) Bv bo b o cap sv xs ha hN hNb w hc hcs)
 clear hc hcs ha
 have hf11 : Fence.wide.fn 205 := trivial
 have h1 : 1 ≤ n := by omega
 refine callsIn_of_wp Tryz.func153 rfl trivial ?_ rfl
 simp only [Tryz.ntmps153,List.size_toArray,List.length_cons,List.length_nil,Nat.reduceAdd,Nat.reduceSub,Array.replicate_succ,Array.replicate_zero,List.push_toArray,List.append_toArray,List.nil_append,List.cons_append]
 gi_wp2_with (gi_at_fn 205; refine hA.out.mono ?_; rintro e w' ⟨v,rfl,hrow,hnil,hb⟩)
 go_ret
 exact ⟨v,rfl,hrow,hnil,hb⟩
theorem vG (m : Nat) : AnyZ.SortsIn Tryz.prog Tryz.zSorted_ren Fence.wide m :=
 ⟨fun blk off cap ss W hH hblk hsz => callsIn_wide.2 (AnyM.slices_Sort_string Tryz.zSort blk off cap ss W hH hblk hsz),
  fun p cap W => callsIn_wide.2 (AnyM.slices_Sort_string_none Tryz.zSort p cap W)⟩
set_option maxHeartbeats 1000000 in
theorem oF (n : Nat) (hn : 4 ≤ n) (Bv bo b o cap : Nat) (sv : Option Addr) (xs : List (List UInt8)) (ha : xs ≠ [] → sv = some ⟨b,o,none⟩) (hN : xs.length ≤ maxLen) (hNb : xs.length * 16 ≤ 140737488355328) (w : World)
  (hc : w.cell? ⟨Bv,bo,none⟩ = some (.slice sv xs.length cap)) (hcs : ∀ j (h : j < xs.length),w.cell? ⟨b,o + j,none⟩ = some (encStr xs[j])) :
  CallsIn Fence.wide n Tryz.prog 65 #[.func (.func 155) #[] #[.pointer (some ⟨Bv,bo,none⟩)]] w fun e w' =>
   ∃ v : Value,e = .returned v ∧ w'.ownsRow w.heap.size 9 1 v xs.length ((xs.mergeSort (fun x y => decide (x ≤ y))).map encStr) ∧ (v = .slice none 0 0 ↔ xs = []) ∧ Below w.heap.size w w' := by
 have e8 : ∀ args w,(callFunc 153 args).run Tryz.prog w = .ok (.enter 153 args) w := enters_of Tryz.func153 (by kernel_rfl) rfl
 have e9 : ∀ args w,(callFunc 154 args).run Tryz.prog w = .ok (.enter 154 args) w := enters_of Tryz.func154 (by kernel_rfl) rfl
 have hA := Go.Lib.hid (sn (n - 1) (by omega) Bv bo b o cap sv xs ha hN hNb w hc hcs)
 have hsort := Go.Lib.hid (vG (n - 1))
 clear hc hcs ha
 have hf8 : Fence.wide.fn 153 := trivial
 have hf9 : Fence.wide.fn 154 := trivial
 have h1 : 1 ≤ n := by omega
 refine callsIn_of_wp Tryz.func65 rfl trivial ?_ rfl
 simp only [Tryz.ntmps65,List.size_toArray,List.length_cons,List.length_nil,Nat.reduceAdd,Nat.reduceSub,Array.replicate_succ,Array.replicate_zero,List.push_toArray,List.append_toArray,List.nil_append,List.cons_append]
 gi_wp2_with (gi_at_fn 153; refine hA.out.mono ?_; rintro e W ⟨v,rfl,hrow,hnil,hb⟩)
 rcases hrow.2 with ⟨rfl,hz⟩ | ⟨gb,cap',cur,rfl,hbase,hgb,r1,r2,r3,r4⟩
 ·have hss : xs = [] := List.eq_nil_of_length_eq_zero hz
  subst hss
  gi_wp2_with (gi_at_fn 154; refine (hsort.out.2 none 0 W).mono ?_; rintro e w' ⟨rfl,rfl⟩)
  go_ret
  exact ⟨.slice none 0 0,rfl,by simpa using hrow,by simp,hb⟩
 ·have hH : Holds encStr W gb 0 xs.toArray := holds_of_block hgb (by simpa using r4)
  have hgl : gb < W.heap.size := (Array.getElem?_eq_some_iff.1 hgb).1
  have hsz : xs.length < 4611686018427387904 := by unfold maxLen at hN; omega
  have cS := hsort.out.1 gb 0 cap' xs W hH hgl hsz
  gi_wp2_with (gi_at_fn 154; refine cS.mono ?_; rintro e w' ⟨rfl,nn,os,rfl⟩)
  go_ret
  exact ⟨_,rfl,ownsRow_sorted (by simp) hbase hgb r1 r2 r3,hnil,hb.grown (grownBy_sorted _) hb.size (fun j hj => by cases hj; exact hbase)⟩
end Go.Proofs.YtkjnkkmokojnpaaGreatDoor
namespace Go.Proofs.YtkjnkkmokojnpaaGreatDoor
set_option linter.unusedSimpArgs false
set_option linter.unusedVariables false
open Go.RowKit
theorem xB (l : List Wd) : (l.mergeSort fun x y => decide (x ≤ y)).Pairwise fun a b => a ≤ b := by
 have := List.pairwise_mergeSort (le := fun x y : Wd => decide (x ≤ y)) (fun a b c h k => decide_eq_true (List.le_trans (of_decide_eq_true h) (of_decide_eq_true k))) (fun a b => by
  rcases List.le_total a b with h | h
  ·simp [h]
  ·simp [h]) l
 exact this.imp fun h => of_decide_eq_true h
theorem uY (s : List Wd) : (Lib.compact s).length < s.length ↔ ∃ j,∃ h : j + 1 < s.length,s[j + 1] = s[j] := by
 unfold Lib.compact Lib.compactUpTo
 rw [List.length_map]
 have e : (List.range s.length).length = s.length := List.length_range
 constructor
 ·intro h
  have h1 : ((List.range s.length).filter (Lib.keeps s.toArray)).length < (List.range s.length).length := by rw [e]; exact h
  obtain ⟨x,hx,hk⟩ := List.length_filter_lt_length_iff_exists.1 h1
  have hxl : x < s.length := List.mem_range.1 hx
  unfold Lib.keeps at hk
  simp only [decide_eq_true_eq,not_or,Classical.not_not] at hk
  obtain ⟨h0,h2⟩ := hk
  refine ⟨x - 1,by omega,?_⟩
  have a1 : s.toArray[x]! = s[x] := by simp [hxl]
  have a2 : s.toArray[x - 1]! = s[x - 1] := by simp [show x - 1 < s.length by omega]
  rw [a1,a2] at h2
  simp only [show x - 1 + 1 = x by omega]
  exact h2
 ·rintro ⟨j,h,hs⟩
  have h1 : ((List.range s.length).filter (Lib.keeps s.toArray)).length < (List.range s.length).length := by
   refine List.length_filter_lt_length_iff_exists.2 ⟨j + 1,List.mem_range.2 h,?_⟩
   unfold Lib.keeps
   simp only [decide_eq_true_eq,not_or,Classical.not_not]
   refine ⟨by omega,?_⟩
   have a1 : s.toArray[j + 1]! = s[j + 1] := by simp [h]
   have a2 : s.toArray[j + 1 - 1]! = s[j] := by simp [show j < s.length by omega]
   rw [a1,a2]; exact hs
  rw [e] at h1; exact h1
theorem tR (l : List Wd) : decide ((Lib.compact (l.mergeSort fun x y => decide (x ≤ y))).length < l.length) = mO l := by
 have hp := List.mergeSort_perm l fun x y => decide (x ≤ y)
 have hs := xB l
 have hlen : (l.mergeSort fun x y => decide (x ≤ y)).length = l.length := List.length_mergeSort _
 rw [← hlen]
 have hd : mO l = true ↔ ¬ (l.mergeSort fun x y => decide (x ≤ y)).Nodup := by rw [sq,hp.nodup_iff]
 generalize l.mergeSort (fun x y => decide (x ≤ y)) = s at *
 have hiff : (Lib.compact s).length < s.length ↔ mO l = true := by
  rw [uY,hd]
  rw [List.pairwise_iff_getElem] at hs
  constructor
  ·rintro ⟨j,h,e⟩ hnd
   rw [List.nodup_iff_pairwise_ne,List.pairwise_iff_getElem] at hnd
   exact hnd j (j + 1) (by omega) h (by omega) e.symm
  ·intro hnd
   apply Classical.byContradiction
   intro hno
   apply hnd
   rw [List.nodup_iff_pairwise_ne,List.pairwise_iff_getElem]
   intro i j hi hj hij e
   refine hno ⟨i,by omega,?_⟩
   refine List.le_antisymm ?_ (hs i (i + 1) hi (by omega) (by omega))
   by_cases hij2 : i + 1 = j
   ·subst hij2; rw [e]; exact List.le_refl _
   ·have := hs (i + 1) j (by omega) hj (by omega)
    rw [← e] at this; exact this
 cases hb : mO l with
 | true => exact decide_eq_true (hiff.2 hb)
 | false => exact decide_eq_false fun h => by rw [hiff.1 h] at hb; cases hb
end Go.Proofs.YtkjnkkmokojnpaaGreatDoor

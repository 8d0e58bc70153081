/- The statements on show, in K: the parts joined. Laid variables of the statements on show: from what a row lists to what K takes for given. -/
import Derived.Test.YtkjnkkmokojnpaaGreatDoorZ18
import Derived.Test.YtkjnkkmokojnpaaGreatDoorZ22
import Derived.Test.YtkjnkkmokojnpaaGreatDoorZ30
import Derived.Test.YtkjnkkmokojnpaaGreatDoorZ31
import Derived.Test.YtkjnkkmokojnpaaGreatDoorZ33
import Derived.Test.YtkjnkkmokojnpaaGreatDoorZ34
import Derived.Test.YtkjnkkmokojnpaaGreatDoorZ6
import Derived.LaidLaws
import Derived.LaidHandle
import Derived.LaidMore
import Derived.Lib.LaidTab
import Derived.Lib.ItoaNum
namespace Go.Proofs.YtkjnkkmokojnpaaGreatDoor
set_option linter.unusedSimpArgs false
set_option linter.unusedVariables false
open Go.RowKit
theorem xt (ps : List PP) (ho : mt ps) : AFn Tryz.prog 17 [.agg [gv ps]] [] (fm (eO ps)) []:=Cn (fun l a b=>Cy l a b) ps ho
theorem sL (ps : List PP) (ho : mt ps) : AFn Tryz.prog 19 [.agg [gv ps]] [] (inA (eO ps : Int)) []:=ym (fun l a b=>yB l a b) ps ho
theorem tX (ps : List PP) (ho : mt ps) (h : ij ps 600 = true) : oY ps:=Eq Eb Ec ps ho (ma h).1 (ma h).2 (xt ps ho)
theorem sK (ps : List PP) (ho : mt ps) (h : ij ps 600 = true) : kz ps:=wq ps ho (ma h).1 (ma h).2 (sL ps ho)
def D3 : Ex:=.mk 0 0 [] []
def E3 : Co:=.mk 0 [] []
def DV : As:=.mk 0 E3 D3 D3 [] 0 []
def PU : List Pc:=[⟨[112],[[120]],[],DV,DV,[.mk 1 [120] [] [] (.mk 3 0 [] [.mk 4 2 [] [.mk 1 0 [120] []],.mk 0 1 [] []]) D3 E3 DV [] [] [] [] []]⟩]
theorem Fg : (jM wx).2.1 = 0:=by kernel_rfl
theorem Ch : (oL wx).1 = PU:=by kernel_rfl
theorem D2 : (oL wx).2.err = none:=by kernel_rfl
theorem El : tQ wx = .tup [.agg [.sl (oN PU) PU.length .none],.c .nilIface]:=by
 unfold tQ
 rw [if_pos Fg,D2,Ch]
theorem FM : [AV.agg [.sl (oN PU) PU.length .none]].map (wkD 12) = [.agg [gv psU]]:=by rfl
theorem AS : AFn Tryz.prog 14 [] [] (.c (.bool true)) []:=by
 have hp:=Cg wx
 rw [El] at hp
 have hs:=tX psU okU Eg
 unfold oY at hs
 rw [Fi] at hs
 exact Da (oN PU) PU.length hp (gA 12 hs FM)
theorem ve (ps : List PP) (ho : mt ps) : AFn Tryz.prog 5 [.agg [gv ps]] [] (.c (.bool true)) [] :=
 tW AS ps ho (fun h=>tX ps ho h) (fun h=>sK ps ho h) (xt ps ho) (sL ps ho)
theorem vd (ps : List PP) (ho : mt ps) : AFn Tryz.prog 7 [.agg [gv ps]] [] (.c (.bool true)) [] :=
 tV AS ps ho (fun h=>tX ps ho h) (fun h=>sK ps ho h)
end Go.Proofs.YtkjnkkmokojnpaaGreatDoor
namespace Go.Proofs.YtkjnkkmokojnpaaGreatDoor
set_option linter.unusedSimpArgs false
set_option linter.unusedVariables false
open Go.RowKit Go.ChangeShapes Go.WideShapes
theorem g_keys : Tryz.prog.globalNamed "trammel/scan.keys" = some 1:=by kernel_rfl
theorem g_ops : Tryz.prog.globalNamed "trammel/scan.operations" = some 2:=by kernel_rfl
theorem g_pow' : Tryz.prog.globalNamed "internal/strconv.uint64pow10" = some 4:=by kernel_rfl
theorem t_pow : (Tryz.prog.globals[4]?).map (·.type) = some 271:=by kernel_rfl
theorem t_keys : (Tryz.prog.globals[1]?).map (·.type) = some 48:=by kernel_rfl
theorem t_ops : (Tryz.prog.globals[2]?).map (·.type) = some 48:=by kernel_rfl
theorem sP : Tryz.prog.cellsOf 9 = 1:=by kernel_rfl
abbrev qN : List (String × DataW Unit):=[("math/bits.deBruijn32tab",Rows.laid_math_bits_deBruijn32tab),("math/bits.deBruijn64tab",Rows.laid_math_bits_deBruijn64tab),("internal/strconv.uint64pow10",Rows.laid_internal_strconv_uint64pow10),("trammel/scan.keys",Rows.laid_trammel_scan_keys),("trammel/scan.operations",Rows.laid_trammel_scan_operations)]
theorem EI : (Rows.laid_internal_strconv_uint64pow10 : DataW Unit) = Go.Lib.tabData .u64 Go.Lib.pow10Tab:=by rfl
theorem AK {W : World} (h : laidMetH Tryz.prog qN W) : Go.Lib.TabIs Tryz.prog W "internal/strconv.uint64pow10" .u64 Go.Lib.pow10Tab:=by
 have h' : laidMet Tryz.prog qN W:=h
 obtain ⟨ps,⟨_,_,_,_,_,_,_,_,_,_,⟨_,_,_,_,_,_,_,_,_,_,⟨g2,t2,cs2,f2,p2,q2,hg2,ht2,hv2,hd2,_,_⟩,_⟩,_⟩,_,_⟩:=h'
 obtain rfl:=Option.some.inj (g_pow'.symm.trans hg2)
 obtain rfl:=Option.some.inj (t_pow.symm.trans ht2)
 rw [EI] at hd2
 unfold Go.Lib.TabIs
 rw [hv2,← Go.Lib.cells_of_tab Tryz.underlying271 Tryz.underlying252 (by kernel_rfl) (by kernel_rfl) hd2]
theorem uK {W : World} (h : laidMetH Tryz.prog qN W) : ∀ g cs,qF g = some cs→∃ ty fl,W.heap[g]? = some (.cells cs ty fl):=by
 intro g cs hg
 have ht:=AK h
 unfold qF at hg
 split at hg
 ·rename_i e
  subst e
  cases hg
  unfold Go.Lib.TabIs World.var? at ht
  rw [g_pow'] at ht
  simp only [Option.bind_some] at ht
  split at ht
  ·rename_i cs ty fl he
   cases ht
   exact ⟨ty,fl,he⟩
  ·cases ht
 ·cases hg
theorem wT {W : World} (h : laidMetH Tryz.prog qN W) : Gl (j0 W):=by
 have h' : laidMet Tryz.prog qN W:=h
 obtain ⟨ps,⟨_,_,_,_,_,_,_,_,_,_,⟨_,_,_,_,_,_,_,_,_,_,⟨_,_,_,_,_,_,_,_,_,_,⟨g0,t0,cs0,f0,p0,q0,hg0,ht0,hv0,hd0,⟨g1,t1,cs1,f1,p1,q1,hg1,ht1,hv1,hd1,_,_⟩,_⟩,_⟩,_⟩,_⟩,_,_⟩:=h'
 obtain rfl:=Option.some.inj (g_keys.symm.trans hg0)
 obtain rfl:=Option.some.inj (g_ops.symm.trans hg1)
 obtain rfl:=Option.some.inj (t_keys.symm.trans ht0)
 obtain rfl:=Option.some.inj (t_ops.symm.trans ht1)
 have k0:=sC (ks:=keyL) Tryz.underlying48 Tryz.underlying9 sP hd0
 have k1:=sC (ks:=opL) Tryz.underlying48 Tryz.underlying9 sP hd1
 have one : ∀ {g : Nat} {cs : Array Value} {x : AV} {n : String},Tryz.prog.globalNamed n = some g→W.var? Tryz.prog n = some cs→PCRel (j0 W) cs.toList [x]→PRel (j0 W) (.pointer (some ⟨g,0,none⟩)) (.rf [x] 0):=fun {g cs x n} hg hv hp=>by
  have hc:=World.var?_cell hg hv 0
  obtain ⟨hl,hp⟩:=hp
  have hl' : cs.toList.length = 1:=hl
  have h3:=hp 0 (by simp)
  obtain ⟨l⟩:=cs
  match l,hl' with
  | [v],_ =>
   have hc' : W.cell? ⟨g,0,none⟩ = some v:=by simpa using hc
   exact wk hc' h3.2 h3.1
 intro g cs hg
 unfold wU at hg
 split at hg
 ·rename_i e
  subst e
  cases hg
  exact one g_keys hv0 k0
 ·split at hg
  ·rename_i e
   subst e
   cases hg
   exact one g_ops hv1 k1
  ·cases hg
end Go.Proofs.YtkjnkkmokojnpaaGreatDoor

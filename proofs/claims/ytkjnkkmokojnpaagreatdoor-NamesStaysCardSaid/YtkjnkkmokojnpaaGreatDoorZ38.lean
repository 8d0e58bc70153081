/- The statements on names, in K: what both need. Laid variables: from what a row lists to what K takes for given. -/
import Derived.Test.YtkjnkkmokojnpaaGreatDoorZ27
import Derived.Test.YtkjnkkmokojnpaaGreatDoorZ33
import Derived.Test.YtkjnkkmokojnpaaGreatDoorZ34
import Derived.Test.YtkjnkkmokojnpaaGreatDoorZ36
import Derived.Test.YtkjnkkmokojnpaaGreatDoorZ37
import Derived.Test.YtkjnkkmokojnpaaGreatDoorZ7
import Derived.LaidLaws
import Derived.LaidHandle
import Derived.LaidMore
namespace Go.Proofs.YtkjnkkmokojnpaaGreatDoor
open Go.RowKit
theorem Dq (ps : List PP) (ho : kL ps) : AFn Tryz.prog 17 [.agg [dN ps]] [] (eM (eL ps)) [] := Bt (fun l a b => BG l a b) ps ho
theorem ut (ps : List PP) (ho : kL ps) : AFn Tryz.prog 19 [.agg [dN ps]] [] (inA (eL ps : Int)) [] := xq (fun l a b => xC l a b) ps ho
theorem nf (ps : List PP) (ho : kL ps) (hb : ∀ x ∈ ps,LtP x 600) : NmC ps := ya ps ho (fun x hx => ⟨(hb x hx).1,(hb x hx).2.1,yT (hb x hx)⟩) (Dq ps ho)
theorem xd : gy pEx 600 = true := by decide +kernel
theorem xf : gy pFx 600 = true := by decide +kernel
theorem zK : AFn Tryz.prog 8 [] [] (.c (.bool true)) [] := Cb (nf pEx Dk (kY xd)) (nf pFx Dl (kY xf))
end Go.Proofs.YtkjnkkmokojnpaaGreatDoor
namespace Go.Proofs.YtkjnkkmokojnpaaGreatDoor
set_option linter.unusedSimpArgs false
set_option linter.unusedVariables false
open Go.RowKit Go.ChangeShapes Go.WideShapes
theorem Ed : Tryz.prog.globalNamed "errors.errorType" = some 0 := by kernel_rfl
theorem g_keys : Tryz.prog.globalNamed "trammel/scan.keys" = some 1 := by kernel_rfl
theorem t_keys : (Tryz.prog.globals[1]?).map (·.type) = some 48 := by kernel_rfl
theorem rt_row : (Tryz.prog.cutTypes.find? (·.1 == "internal/reflectlite.rtype")).map (·.2) = some 212 := by kernel_rfl
theorem Ap : ((List.range Tryz.prog.types.size).filter fun t => Tryz.prog.rowNamed t [101,114,114,111,114]) = [28] := by kernel_rfl
theorem Ao : typeHandle Tryz.prog 28 = .pointer (some ⟨7,28,none⟩) := by kernel_rfl
theorem xE : Tryz.prog.cellsOf 9 = 1 := by kernel_rfl
abbrev Dg : List (String × DataW Unit) := [("errors.errorType",Rows.laid_errors_errorType),("trammel/scan.keys",Rows.laid_trammel_scan_keys)]
theorem v7 {W : World} (h : laidMetH Tryz.prog Dg W) : Gl (jR W) := by
 have h' : laidMet Tryz.prog [("trammel/scan.keys",Rows.laid_trammel_scan_keys)] W ∧ handlesMet Tryz.prog [("errors.errorType",Rows.laid_errors_errorType)] W := h
 obtain ⟨h1,h2⟩ := h'
 obtain ⟨name,u,ty,e1,e2,e3,e4,e5⟩ := h2 _ (List.mem_singleton.2 rfl)
 have en : name = [101,114,114,111,114] := (Option.some.inj e1).symm
 subst en
 obtain rfl := Option.some.inj (rt_row.symm.trans e2)
 have hm : ty ∈ (List.range Tryz.prog.types.size).filter fun t => Tryz.prog.rowNamed t [101,114,114,111,114] := List.mem_filter.2 ⟨List.mem_range.2 e3,e4⟩
 rw [Ap] at hm
 obtain rfl := List.mem_singleton.1 hm
 rw [Ao] at e5
 have hc0 := World.var?_cell Ed e5 0
 obtain ⟨ps,⟨g0,t0,cs0,f0,p0,q0,hg0,ht0,hv0,hd0,_,_⟩,_,_⟩ := h1
 obtain rfl := Option.some.inj (g_keys.symm.trans hg0)
 obtain rfl := Option.some.inj (t_keys.symm.trans ht0)
 have k0 := xb (ks := keyL) Tryz.underlying48 Tryz.underlying9 xE hd0
 have one : ∀ {g : Nat} {cs : Array Value} {x : AV} {n : String},Tryz.prog.globalNamed n = some g → W.var? Tryz.prog n = some cs → PCRel (jR W) cs.toList [x] → PRel (jR W) (.pointer (some ⟨g,0,none⟩)) (.rf [x] 0) := fun {g cs x n} hg hv hp => by
  have hc := World.var?_cell hg hv 0
  obtain ⟨hl,hp⟩ := hp
  have hl' : cs.toList.length = 1 := hl
  have h3 := hp 0 (by simp)
  obtain ⟨l⟩ := cs
  match l,hl' with
  | [v],_ =>
   have hc' : W.cell? ⟨g,0,none⟩ = some v := by simpa using hc
   exact qv hc' h3.2 h3.1
 intro g cs hg
 unfold v8 at hg
 split at hg
 ·rename_i e
  subst e
  cases hg
  refine qv (v := .iface 212 (.agg #[.pointer (some ⟨7,28,none⟩)])) (by simpa using hc0) rfl (.ifc _ _ _ (.agg _ _ rfl (fun j hj => ?_) fun j hj => ?_))
  ·obtain rfl : j = 0 := by simpa using hj
   rfl
  ·obtain rfl : j = 0 := by simpa using hj
   exact .c _
 ·split at hg
  ·rename_i e
   subst e
   cases hg
   exact one g_keys hv0 k0
  ·cases hg
end Go.Proofs.YtkjnkkmokojnpaaGreatDoor

/- Laid variables: from what a row lists to what K takes for given. -/
import Derived.Test.YtpkcgdikbjaoaaaDoorZ6
import Derived.Test.YtpkcgdikbjaoaaaDoorZ11
import Derived.LaidLaws
import Derived.LaidHandle
import Derived.LaidMore
namespace Go.Proofs.YtpkcgdikbjaoaaaDoor
set_option linter.unusedSimpArgs false
set_option linter.unusedVariables false
open Go.RowKit Go.ChangeShapes Go.WideShapes
theorem j2 {H : Type} {enc : TypeId × Value → H} {P : Program} {w : World} {base : Nat} {spare : Nat → Bool} {held : Bool} {t e fuel : Nat} {cs : List Value} {p : List MemPlace} {ks : List (List UInt8)}
    (ht : P.underlying t = some (.slice e)) (he : P.underlying e = some .string) (hs : P.cellsOf e = 1)
    (h : DataW.trod enc P w base spare held fuel t cs = some (.slice (ks.map fun k => .lit (.string k)) [], p)) : PCRel (ei w) cs [.sl (ks.map bs) ks.length .none] := by
  rcases DataW.trod_slice ht h with ⟨rfl, hx⟩ | ⟨a, len, cap, elems, rest, n, hfuel, rfl, hx, hb, hl, hm, hlen, hel, hsp, hns⟩
  · cases hx
  simp only [Prod.mk.injEq, DataW.slice.injEq] at hx
  obtain ⟨⟨hx1, _⟩, _⟩ := hx
  have hkl : ks.length = len := by rw [← hlen]; simpa using congrArg List.length hx1
  have hone : ∀ i (hi : i < ks.length), w.cell? (a.add i) = some (.string ⟨ks[i].toArray⟩) := fun i hi => by
    have h1 := hel i (by omega)
    have hi' : i < elems.length := by omega
    rw [List.getElem?_eq_getElem hi', Option.bind_eq_some_iff] at h1
    obtain ⟨cs', hc', h2⟩ := h1
    obtain ⟨_, hcl, hcc⟩ := World.cells?_some hc'
    obtain ⟨s, e1, e2, _⟩ := DataW.trod_string he h2
    have h3 := congrArg (fun l => l[i]?) hx1
    simp only [List.getElem?_map, List.getElem?_eq_getElem hi', List.getElem?_eq_getElem hi, Option.map_some, e2, Option.some.injEq, DataW.lit.injEq, Lit.string.injEq] at h3
    have h4 := hcc 0 (by rw [hs]; decide)
    rw [hs, Nat.mul_one] at h4
    have h5 : (a.add i).add 0 = a.add i := by unfold Addr.add; simp
    rw [h5, e1] at h4
    rw [h4, h3]; rfl
  refine gu ?_ rfl
  rcases Nat.eq_zero_or_pos len with h0 | h0
  · have : ks = [] := List.length_eq_zero_iff.1 (by omega)
    subst this
    subst h0
    exact .sl (some a) 0 0 0 cap .none [] (fun _ => undef) (.inl rfl) hl (by simp) (.inl ⟨rfl, rfl⟩) (fun j h => by simp at h) (fun j h => by simp at h)
  have hspot : a.spot = none := by
    have := hone 0 (by omega)
    simp only [Addr.add, if_true] at this
    exact reads_slice.spot_none this
  obtain ⟨b, o, sp⟩ := a
  simp only at hspot
  subst hspot
  rw [hkl]
  refine .sl (some ⟨b, o, none⟩) b o len cap .none (ks.map bs) (fun j => .string ⟨(ks.getD j []).toArray⟩) (.inl rfl) hl (fun e => by cases e) (.inr rfl) (fun j hj => ?_) fun j hj => ?_
  · have hj' : j < ks.length := by simpa using hj
    have := hone j hj'
    rw [hH] at this
    have e : ks.getD j [] = ks[j] := by rw [List.getD_eq_getElem?_getD, List.getElem?_eq_getElem hj']; rfl
    rw [e]
    exact kX this rfl
  · have hj' : j < ks.length := by simpa using hj
    have e : ks.getD j [] = ks[j] := by rw [List.getD_eq_getElem?_getD, List.getElem?_eq_getElem hj']; rfl
    rw [e, List.getElem_map]
    exact .c _
theorem jO {w : World} {g : Nat} {v : Value} {x : AV} (hc : w.cell? ⟨g, 0, none⟩ = some v) (h1 : v.oneCell' = true) (h : PRel (ei w) v x) : PRel (ei w) (.pointer (some ⟨g, 0, none⟩)) (.rf [x] 0) :=
  .rf g 0 0 [x] (fun _ => v) (fun j hj => by
    obtain rfl : j = 0 := by simpa using hj
    exact kX hc h1) fun j hj => by
    obtain rfl : j = 0 := by simpa using hj
    exact h
theorem sg {H : Type} {enc : TypeId × Value → H} {w : World} {base : Nat} {spare : Nat → Bool} {held : Bool} (fuel : Nat) : Reads enc Tryd.prog w base spare held 9 (fun l : List UInt8 => [bs l]) (fun l => l.length ≤ 140737488351232) fuel :=
  (kN Tryd.underlying9 fuel).map (fun s => s.data.toList) (fun s => by cases s; simp) fun s h => by simpa using h
theorem yy {H : Type} {enc : TypeId × Value → H} {w : World} {base : Nat} {spare : Nat → Bool} {held : Bool} (fuel : Nat) : Reads enc Tryd.prog w base spare held 3 (fun z : Int => [.c (.int .i64 z)]) (fun z => -9223372036854775808 ≤ z ∧ z ≤ 9223372036854775807) fuel := ol Tryd.underlying3 fuel
theorem tI : Tryd.prog.globalNamed "errors.errorType" = some 1 := by kernel_rfl
theorem g_keys : Tryd.prog.globalNamed "trammel/scan.keys" = some 2 := by kernel_rfl
theorem g_ops : Tryd.prog.globalNamed "trammel/scan.operations" = some 0 := by kernel_rfl
theorem t_keys : (Tryd.prog.globals[2]?).map (·.type) = some 37 := by kernel_rfl
theorem t_ops : (Tryd.prog.globals[0]?).map (·.type) = some 37 := by kernel_rfl
theorem rt_row : (Tryd.prog.cutTypes.find? (·.1 == "internal/reflectlite.rtype")).map (·.2) = some 103 := by kernel_rfl
theorem rD : ((List.range Tryd.prog.types.size).filter fun t => Tryd.prog.rowNamed t [101, 114, 114, 111, 114]) = [25] := by kernel_rfl
theorem rp : typeHandle Tryd.prog 25 = .pointer (some ⟨4, 25, none⟩) := by kernel_rfl
theorem j8 : Tryd.prog.cellsOf 9 = 1 := by kernel_rfl
abbrev ss : List (String × DataW Unit) := [("errors.errorType", Rows.laid_errors_errorType), ("trammel/scan.keys", Rows.laid_trammel_scan_keys), ("trammel/scan.operations", Rows.laid_trammel_scan_operations)]
theorem rv {W : World} (h : laidMetH Tryd.prog ss W) : Gl (ei W) := by
  have h' : laidMet Tryd.prog [("trammel/scan.keys", Rows.laid_trammel_scan_keys), ("trammel/scan.operations", Rows.laid_trammel_scan_operations)] W ∧ handlesMet Tryd.prog [("errors.errorType", Rows.laid_errors_errorType)] W := h
  obtain ⟨h1, h2⟩ := h'
  obtain ⟨name, u, ty, e1, e2, e3, e4, e5⟩ := h2 _ (List.mem_singleton.2 rfl)
  have en : name = [101, 114, 114, 111, 114] := (Option.some.inj e1).symm
  subst en
  obtain rfl := Option.some.inj (rt_row.symm.trans e2)
  have hm : ty ∈ (List.range Tryd.prog.types.size).filter fun t => Tryd.prog.rowNamed t [101, 114, 114, 111, 114] := List.mem_filter.2 ⟨List.mem_range.2 e3, e4⟩
  rw [rD] at hm
  obtain rfl := List.mem_singleton.1 hm
  rw [rp] at e5
  have hc0 := World.var?_cell tI e5 0
  obtain ⟨ps, ⟨g0, t0, cs0, f0, p0, q0, hg0, ht0, hv0, hd0, ⟨g1, t1, cs1, f1, p1, q1, hg1, ht1, hv1, hd1, _, _⟩, _⟩, _, _⟩ := h1
  obtain rfl := Option.some.inj (g_keys.symm.trans hg0)
  obtain rfl := Option.some.inj (g_ops.symm.trans hg1)
  obtain rfl := Option.some.inj (t_keys.symm.trans ht0)
  obtain rfl := Option.some.inj (t_ops.symm.trans ht1)
  have k0 := j2 (ks := keyL) Tryd.underlying37 Tryd.underlying9 j8 hd0
  have k1 := j2 (ks := opL) Tryd.underlying37 Tryd.underlying9 j8 hd1
  have one : ∀ {g : Nat} {cs : Array Value} {x : AV} {n : String}, Tryd.prog.globalNamed n = some g → W.var? Tryd.prog n = some cs → PCRel (ei W) cs.toList [x] → PRel (ei W) (.pointer (some ⟨g, 0, none⟩)) (.rf [x] 0) := fun {g cs x n} hg hv hp => by
    have hc := World.var?_cell hg hv 0
    obtain ⟨hl, hp⟩ := hp
    have hl' : cs.toList.length = 1 := hl
    have h3 := hp 0 (by simp)
    obtain ⟨l⟩ := cs
    match l, hl' with
    | [v], _ =>
      have hc' : W.cell? ⟨g, 0, none⟩ = some v := by simpa using hc
      exact jO hc' h3.2 h3.1
  intro g cs hg
  unfold nz at hg
  split at hg
  · rename_i e
    subst e
    cases hg
    refine jO (v := .iface 103 (.agg #[.pointer (some ⟨4, 25, none⟩)])) (by simpa using hc0) rfl (.ifc _ _ _ (.agg _ _ rfl (fun j hj => ?_) fun j hj => ?_))
    · obtain rfl : j = 0 := by simpa using hj
      rfl
    · obtain rfl : j = 0 := by simpa using hj
      exact .c _
  · split at hg
    · rename_i e
      subst e
      cases hg
      exact one g_keys hv0 k0
    · split at hg
      · rename_i e
        subst e
        cases hg
        exact one g_ops hv1 k1
      · cases hg
end Go.Proofs.YtpkcgdikbjaoaaaDoor

/- trammellaw00.Is and Told, in K. -/
import Derived.Test.YtiiaokjgbjhfhaaGreatDoorZ30
import Derived.Test.YtiiaokjgbjhfhaaGreatDoorZ12
namespace Go.Proofs.YtiiaokjgbjhfhaaGreatDoor
set_option linter.unusedSimpArgs false
set_option linter.unusedVariables false
open Go.RowKit
theorem jD {G : Gh} {w : World} (hag : ∀ b o v,G.Z b o = some v → w.cell? ⟨b,o,none⟩ = some v ∧ v.oneCell' = true) (hgl : Gl G.Z) : w.cell? ⟨0,0,none⟩ = some (rty 26) := by
 have h := hgl 0 _ rfl
 obtain ⟨b,off,f,e,hz,hp⟩ := eF (VRel.p (G := G) (B := bZ []) h)
 have h1 := hz 0 (by simp)
 have h2 := hp 0 (by simp)
 have h3 := (hag _ _ _ h1).1
 obtain ⟨v',e2,h4⟩ := da (VRel.p (G := G) (B := bZ []) h2)
 obtain ⟨vs,e3,hs,_,hp4⟩ := dN h4
 have h5 := cr (hp4 0 (by simp))
 have e4 : vs = #[hnd 26] := by
  cases vs with
  | mk l =>
   match l,hs with
   | [v0],_ => simp at h5;subst h5;rfl
 subst e4
 subst e3
 rw [e2] at h3
 simp only [Value.pointer.injEq,Option.some.injEq,Addr.mk.injEq] at e
 obtain ⟨q1,q2,_⟩ := e
 rw [← q1,Nat.add_zero,show off = 0 by omega] at h3
 exact h3
theorem mr (a0 at0 : Int) (e c : Nat) (he : e ≠ 0) : AFn Tryz.prog 12 [iM a0 e,.c (.int .i64 at0),.c (.int .i64 c)] [] (.c (.bool (((e : Int) == (c : Int)) && (a0 == at0)))) [] :=
 mi fun w G vs hag hgl hs hargs => by
  have h0 := hargs 0 (by simp)
  have h1 := cr (hargs 1 (by simp))
  have h2 := cr (hargs 2 (by simp))
  obtain ⟨v',e0,h3⟩ := da h0
  obtain ⟨b,off,f,e1,hz,hp⟩ := eF h3
  subst e1
  have hc0 := (hag _ _ _ (hz 0 (by simp))).1
  have hc1 := (hag _ _ _ (hz 1 (by simp))).1
  have p0 := cr (VRel.p (G := G) (B := bZ []) (hp 0 (by simp)))
  have p1 := hp 1 (by simp)
  simp only [List.getElem_cons_succ,List.getElem_cons_zero,jc he] at p0 p1
  obtain ⟨v2,e2,h4⟩ := da (VRel.p (G := G) (B := bZ []) p1)
  have h5 := cr h4
  subst h5
  rw [p0] at hc0
  rw [e2] at hc1
  obtain rfl : vs = #[.iface 73 (.pointer (some ⟨b,off + 0,none⟩)),.int .i64 at0,.int .i64 c] := by
   cases vs with
   | mk l =>
    match l,hs with
    | [x,y,z],_ =>
     simp at e0 h1 h2
     subst e0 h1 h2
     rfl
  exact k7 b (off + 0) a0 e at0 c w hc0 hc1 (jD hag hgl)
end Go.Proofs.YtiiaokjgbjhfhaaGreatDoor

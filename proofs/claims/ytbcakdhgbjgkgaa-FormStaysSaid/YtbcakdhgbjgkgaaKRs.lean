/- Structs of many fields, read as arguments (printed by gen_struct.py). No program is in sight. -/
import Derived.Test.YtbcakdhgbjgkgaaKR
namespace Go.Proofs.Ytbcakdhgbjgkgaa
set_option linter.unusedSimpArgs false
set_option linter.unusedVariables false
open Go.RowKit Go.ChangeShapes Go.WideShapes
section
variable {H : Type} {enc : TypeId × Value → H} {P : Program} {w : World} {base : Nat} {spare : Nat → Bool} {held : Bool}
set_option maxHeartbeats 4000000 in
theorem reads_struct3 {α0 α1 α2 : Type} {t fuel n0 n1 n2 : Nat} {f0 f1 f2 : Field} {A0 : α0 → List AV} {A1 : α1 → List AV} {A2 : α2 → List AV} {Ok0 : α0 → Prop} {Ok1 : α1 → Prop} {Ok2 : α2 → Prop} (ht : P.underlying t = some (.struct #[f0, f1, f2])) (o0 : f0.offset = 0) (s0 : P.cellsOf f0.type = n0) (s1 : P.cellsOf f1.type = n1) (s2 : P.cellsOf f2.type = n2) (o1 : f1.offset = n0) (o2 : f2.offset = n0 + n1)  (st : P.cellsOf t = n0 + n1 + n2)
    (r0 : ∀ n, n < fuel → Reads enc P w base spare held f0.type A0 Ok0 n) (r1 : ∀ n, n < fuel → Reads enc P w base spare held f1.type A1 Ok1 n) (r2 : ∀ n, n < fuel → Reads enc P w base spare held f2.type A2 Ok2 n) :
    Reads enc P w base spare held t (fun p : α0 × α1 × α2 => A0 p.1 ++ (A1 p.2.1 ++ (A2 p.2.2))) (fun p => Ok0 p.1 ∧ Ok1 p.2.1 ∧ Ok2 p.2.2) fuel := fun cs x hx hw => by
  obtain ⟨xs, n, hfuel, rfl, hl, hlen, hf⟩ := DataW.trod_struct ht hx
  have h0 := hf 0 f0 rfl
  have h1 := hf 1 f1 rfl
  have h2 := hf 2 f2 rfl
  match xs, hlen with
  | [y0, y1, y2], _ =>
  rw [o0, s0, List.drop_zero] at h0
  rw [o1, s1] at h1
  rw [o2, s2] at h2
  obtain ⟨a0, k0, p0⟩ := r0 n (by omega) _ _ h0 (weighs_struct ht hw 0 f0 y0.1 rfl rfl)
  obtain ⟨a1, k1, p1⟩ := r1 n (by omega) _ _ h1 (weighs_struct ht hw 1 f1 y1.1 rfl rfl)
  obtain ⟨a2, k2, p2⟩ := r2 n (by omega) _ _ h2 (weighs_struct ht hw 2 f2 y2.1 rfl rfl)
  refine ⟨(a0, a1, a2), ⟨k0, k1, k2⟩, ?_⟩
  have e2 : cs.drop (n0 + n1) = (cs.drop (n0 + n1)).take n2 := (List.take_of_length_le (by rw [List.length_drop]; omega)).symm
  have e1 : cs.drop (n0) = (cs.drop (n0)).take n1 ++ cs.drop (n0 + n1) := by have h := List.take_append_drop n1 (cs.drop (n0)); rw [List.drop_drop] at h; exact h.symm
  have e0 : cs = cs.take n0 ++ cs.drop (n0) := (List.take_append_drop n0 cs).symm
  have q2 := p2
  rw [← e2] at q2
  have q1 := PCRel.append p1 q2
  rw [← e1] at q1
  have q0 := PCRel.append p0 q1
  rw [← e0] at q0
  exact q0
set_option maxHeartbeats 4000000 in
theorem reads_struct4 {α0 α1 α2 α3 : Type} {t fuel n0 n1 n2 n3 : Nat} {f0 f1 f2 f3 : Field} {A0 : α0 → List AV} {A1 : α1 → List AV} {A2 : α2 → List AV} {A3 : α3 → List AV} {Ok0 : α0 → Prop} {Ok1 : α1 → Prop} {Ok2 : α2 → Prop} {Ok3 : α3 → Prop} (ht : P.underlying t = some (.struct #[f0, f1, f2, f3])) (o0 : f0.offset = 0) (s0 : P.cellsOf f0.type = n0) (s1 : P.cellsOf f1.type = n1) (s2 : P.cellsOf f2.type = n2) (s3 : P.cellsOf f3.type = n3) (o1 : f1.offset = n0) (o2 : f2.offset = n0 + n1) (o3 : f3.offset = n0 + n1 + n2)  (st : P.cellsOf t = n0 + n1 + n2 + n3)
    (r0 : ∀ n, n < fuel → Reads enc P w base spare held f0.type A0 Ok0 n) (r1 : ∀ n, n < fuel → Reads enc P w base spare held f1.type A1 Ok1 n) (r2 : ∀ n, n < fuel → Reads enc P w base spare held f2.type A2 Ok2 n) (r3 : ∀ n, n < fuel → Reads enc P w base spare held f3.type A3 Ok3 n) :
    Reads enc P w base spare held t (fun p : α0 × α1 × α2 × α3 => A0 p.1 ++ (A1 p.2.1 ++ (A2 p.2.2.1 ++ (A3 p.2.2.2)))) (fun p => Ok0 p.1 ∧ Ok1 p.2.1 ∧ Ok2 p.2.2.1 ∧ Ok3 p.2.2.2) fuel := fun cs x hx hw => by
  obtain ⟨xs, n, hfuel, rfl, hl, hlen, hf⟩ := DataW.trod_struct ht hx
  have h0 := hf 0 f0 rfl
  have h1 := hf 1 f1 rfl
  have h2 := hf 2 f2 rfl
  have h3 := hf 3 f3 rfl
  match xs, hlen with
  | [y0, y1, y2, y3], _ =>
  rw [o0, s0, List.drop_zero] at h0
  rw [o1, s1] at h1
  rw [o2, s2] at h2
  rw [o3, s3] at h3
  obtain ⟨a0, k0, p0⟩ := r0 n (by omega) _ _ h0 (weighs_struct ht hw 0 f0 y0.1 rfl rfl)
  obtain ⟨a1, k1, p1⟩ := r1 n (by omega) _ _ h1 (weighs_struct ht hw 1 f1 y1.1 rfl rfl)
  obtain ⟨a2, k2, p2⟩ := r2 n (by omega) _ _ h2 (weighs_struct ht hw 2 f2 y2.1 rfl rfl)
  obtain ⟨a3, k3, p3⟩ := r3 n (by omega) _ _ h3 (weighs_struct ht hw 3 f3 y3.1 rfl rfl)
  refine ⟨(a0, a1, a2, a3), ⟨k0, k1, k2, k3⟩, ?_⟩
  have e3 : cs.drop (n0 + n1 + n2) = (cs.drop (n0 + n1 + n2)).take n3 := (List.take_of_length_le (by rw [List.length_drop]; omega)).symm
  have e2 : cs.drop (n0 + n1) = (cs.drop (n0 + n1)).take n2 ++ cs.drop (n0 + n1 + n2) := by have h := List.take_append_drop n2 (cs.drop (n0 + n1)); rw [List.drop_drop] at h; exact h.symm
  have e1 : cs.drop (n0) = (cs.drop (n0)).take n1 ++ cs.drop (n0 + n1) := by have h := List.take_append_drop n1 (cs.drop (n0)); rw [List.drop_drop] at h; exact h.symm
  have e0 : cs = cs.take n0 ++ cs.drop (n0) := (List.take_append_drop n0 cs).symm
  have q3 := p3
  rw [← e3] at q3
  have q2 := PCRel.append p2 q3
  rw [← e2] at q2
  have q1 := PCRel.append p1 q2
  rw [← e1] at q1
  have q0 := PCRel.append p0 q1
  rw [← e0] at q0
  exact q0
set_option maxHeartbeats 4000000 in
theorem reads_struct6 {α0 α1 α2 α3 α4 α5 : Type} {t fuel n0 n1 n2 n3 n4 n5 : Nat} {f0 f1 f2 f3 f4 f5 : Field} {A0 : α0 → List AV} {A1 : α1 → List AV} {A2 : α2 → List AV} {A3 : α3 → List AV} {A4 : α4 → List AV} {A5 : α5 → List AV} {Ok0 : α0 → Prop} {Ok1 : α1 → Prop} {Ok2 : α2 → Prop} {Ok3 : α3 → Prop} {Ok4 : α4 → Prop} {Ok5 : α5 → Prop} (ht : P.underlying t = some (.struct #[f0, f1, f2, f3, f4, f5])) (o0 : f0.offset = 0) (s0 : P.cellsOf f0.type = n0) (s1 : P.cellsOf f1.type = n1) (s2 : P.cellsOf f2.type = n2) (s3 : P.cellsOf f3.type = n3) (s4 : P.cellsOf f4.type = n4) (s5 : P.cellsOf f5.type = n5) (o1 : f1.offset = n0) (o2 : f2.offset = n0 + n1) (o3 : f3.offset = n0 + n1 + n2) (o4 : f4.offset = n0 + n1 + n2 + n3) (o5 : f5.offset = n0 + n1 + n2 + n3 + n4)  (st : P.cellsOf t = n0 + n1 + n2 + n3 + n4 + n5)
    (r0 : ∀ n, n < fuel → Reads enc P w base spare held f0.type A0 Ok0 n) (r1 : ∀ n, n < fuel → Reads enc P w base spare held f1.type A1 Ok1 n) (r2 : ∀ n, n < fuel → Reads enc P w base spare held f2.type A2 Ok2 n) (r3 : ∀ n, n < fuel → Reads enc P w base spare held f3.type A3 Ok3 n) (r4 : ∀ n, n < fuel → Reads enc P w base spare held f4.type A4 Ok4 n) (r5 : ∀ n, n < fuel → Reads enc P w base spare held f5.type A5 Ok5 n) :
    Reads enc P w base spare held t (fun p : α0 × α1 × α2 × α3 × α4 × α5 => A0 p.1 ++ (A1 p.2.1 ++ (A2 p.2.2.1 ++ (A3 p.2.2.2.1 ++ (A4 p.2.2.2.2.1 ++ (A5 p.2.2.2.2.2)))))) (fun p => Ok0 p.1 ∧ Ok1 p.2.1 ∧ Ok2 p.2.2.1 ∧ Ok3 p.2.2.2.1 ∧ Ok4 p.2.2.2.2.1 ∧ Ok5 p.2.2.2.2.2) fuel := fun cs x hx hw => by
  obtain ⟨xs, n, hfuel, rfl, hl, hlen, hf⟩ := DataW.trod_struct ht hx
  have h0 := hf 0 f0 rfl
  have h1 := hf 1 f1 rfl
  have h2 := hf 2 f2 rfl
  have h3 := hf 3 f3 rfl
  have h4 := hf 4 f4 rfl
  have h5 := hf 5 f5 rfl
  match xs, hlen with
  | [y0, y1, y2, y3, y4, y5], _ =>
  rw [o0, s0, List.drop_zero] at h0
  rw [o1, s1] at h1
  rw [o2, s2] at h2
  rw [o3, s3] at h3
  rw [o4, s4] at h4
  rw [o5, s5] at h5
  obtain ⟨a0, k0, p0⟩ := r0 n (by omega) _ _ h0 (weighs_struct ht hw 0 f0 y0.1 rfl rfl)
  obtain ⟨a1, k1, p1⟩ := r1 n (by omega) _ _ h1 (weighs_struct ht hw 1 f1 y1.1 rfl rfl)
  obtain ⟨a2, k2, p2⟩ := r2 n (by omega) _ _ h2 (weighs_struct ht hw 2 f2 y2.1 rfl rfl)
  obtain ⟨a3, k3, p3⟩ := r3 n (by omega) _ _ h3 (weighs_struct ht hw 3 f3 y3.1 rfl rfl)
  obtain ⟨a4, k4, p4⟩ := r4 n (by omega) _ _ h4 (weighs_struct ht hw 4 f4 y4.1 rfl rfl)
  obtain ⟨a5, k5, p5⟩ := r5 n (by omega) _ _ h5 (weighs_struct ht hw 5 f5 y5.1 rfl rfl)
  refine ⟨(a0, a1, a2, a3, a4, a5), ⟨k0, k1, k2, k3, k4, k5⟩, ?_⟩
  have e5 : cs.drop (n0 + n1 + n2 + n3 + n4) = (cs.drop (n0 + n1 + n2 + n3 + n4)).take n5 := (List.take_of_length_le (by rw [List.length_drop]; omega)).symm
  have e4 : cs.drop (n0 + n1 + n2 + n3) = (cs.drop (n0 + n1 + n2 + n3)).take n4 ++ cs.drop (n0 + n1 + n2 + n3 + n4) := by have h := List.take_append_drop n4 (cs.drop (n0 + n1 + n2 + n3)); rw [List.drop_drop] at h; exact h.symm
  have e3 : cs.drop (n0 + n1 + n2) = (cs.drop (n0 + n1 + n2)).take n3 ++ cs.drop (n0 + n1 + n2 + n3) := by have h := List.take_append_drop n3 (cs.drop (n0 + n1 + n2)); rw [List.drop_drop] at h; exact h.symm
  have e2 : cs.drop (n0 + n1) = (cs.drop (n0 + n1)).take n2 ++ cs.drop (n0 + n1 + n2) := by have h := List.take_append_drop n2 (cs.drop (n0 + n1)); rw [List.drop_drop] at h; exact h.symm
  have e1 : cs.drop (n0) = (cs.drop (n0)).take n1 ++ cs.drop (n0 + n1) := by have h := List.take_append_drop n1 (cs.drop (n0)); rw [List.drop_drop] at h; exact h.symm
  have e0 : cs = cs.take n0 ++ cs.drop (n0) := (List.take_append_drop n0 cs).symm
  have q5 := p5
  rw [← e5] at q5
  have q4 := PCRel.append p4 q5
  rw [← e4] at q4
  have q3 := PCRel.append p3 q4
  rw [← e3] at q3
  have q2 := PCRel.append p2 q3
  rw [← e2] at q2
  have q1 := PCRel.append p1 q2
  rw [← e1] at q1
  have q0 := PCRel.append p0 q1
  rw [← e0] at q0
  exact q0
set_option maxHeartbeats 4000000 in
theorem reads_struct7 {α0 α1 α2 α3 α4 α5 α6 : Type} {t fuel n0 n1 n2 n3 n4 n5 n6 : Nat} {f0 f1 f2 f3 f4 f5 f6 : Field} {A0 : α0 → List AV} {A1 : α1 → List AV} {A2 : α2 → List AV} {A3 : α3 → List AV} {A4 : α4 → List AV} {A5 : α5 → List AV} {A6 : α6 → List AV} {Ok0 : α0 → Prop} {Ok1 : α1 → Prop} {Ok2 : α2 → Prop} {Ok3 : α3 → Prop} {Ok4 : α4 → Prop} {Ok5 : α5 → Prop} {Ok6 : α6 → Prop} (ht : P.underlying t = some (.struct #[f0, f1, f2, f3, f4, f5, f6])) (o0 : f0.offset = 0) (s0 : P.cellsOf f0.type = n0) (s1 : P.cellsOf f1.type = n1) (s2 : P.cellsOf f2.type = n2) (s3 : P.cellsOf f3.type = n3) (s4 : P.cellsOf f4.type = n4) (s5 : P.cellsOf f5.type = n5) (s6 : P.cellsOf f6.type = n6) (o1 : f1.offset = n0) (o2 : f2.offset = n0 + n1) (o3 : f3.offset = n0 + n1 + n2) (o4 : f4.offset = n0 + n1 + n2 + n3) (o5 : f5.offset = n0 + n1 + n2 + n3 + n4) (o6 : f6.offset = n0 + n1 + n2 + n3 + n4 + n5)  (st : P.cellsOf t = n0 + n1 + n2 + n3 + n4 + n5 + n6)
    (r0 : ∀ n, n < fuel → Reads enc P w base spare held f0.type A0 Ok0 n) (r1 : ∀ n, n < fuel → Reads enc P w base spare held f1.type A1 Ok1 n) (r2 : ∀ n, n < fuel → Reads enc P w base spare held f2.type A2 Ok2 n) (r3 : ∀ n, n < fuel → Reads enc P w base spare held f3.type A3 Ok3 n) (r4 : ∀ n, n < fuel → Reads enc P w base spare held f4.type A4 Ok4 n) (r5 : ∀ n, n < fuel → Reads enc P w base spare held f5.type A5 Ok5 n) (r6 : ∀ n, n < fuel → Reads enc P w base spare held f6.type A6 Ok6 n) :
    Reads enc P w base spare held t (fun p : α0 × α1 × α2 × α3 × α4 × α5 × α6 => A0 p.1 ++ (A1 p.2.1 ++ (A2 p.2.2.1 ++ (A3 p.2.2.2.1 ++ (A4 p.2.2.2.2.1 ++ (A5 p.2.2.2.2.2.1 ++ (A6 p.2.2.2.2.2.2))))))) (fun p => Ok0 p.1 ∧ Ok1 p.2.1 ∧ Ok2 p.2.2.1 ∧ Ok3 p.2.2.2.1 ∧ Ok4 p.2.2.2.2.1 ∧ Ok5 p.2.2.2.2.2.1 ∧ Ok6 p.2.2.2.2.2.2) fuel := fun cs x hx hw => by
  obtain ⟨xs, n, hfuel, rfl, hl, hlen, hf⟩ := DataW.trod_struct ht hx
  have h0 := hf 0 f0 rfl
  have h1 := hf 1 f1 rfl
  have h2 := hf 2 f2 rfl
  have h3 := hf 3 f3 rfl
  have h4 := hf 4 f4 rfl
  have h5 := hf 5 f5 rfl
  have h6 := hf 6 f6 rfl
  match xs, hlen with
  | [y0, y1, y2, y3, y4, y5, y6], _ =>
  rw [o0, s0, List.drop_zero] at h0
  rw [o1, s1] at h1
  rw [o2, s2] at h2
  rw [o3, s3] at h3
  rw [o4, s4] at h4
  rw [o5, s5] at h5
  rw [o6, s6] at h6
  obtain ⟨a0, k0, p0⟩ := r0 n (by omega) _ _ h0 (weighs_struct ht hw 0 f0 y0.1 rfl rfl)
  obtain ⟨a1, k1, p1⟩ := r1 n (by omega) _ _ h1 (weighs_struct ht hw 1 f1 y1.1 rfl rfl)
  obtain ⟨a2, k2, p2⟩ := r2 n (by omega) _ _ h2 (weighs_struct ht hw 2 f2 y2.1 rfl rfl)
  obtain ⟨a3, k3, p3⟩ := r3 n (by omega) _ _ h3 (weighs_struct ht hw 3 f3 y3.1 rfl rfl)
  obtain ⟨a4, k4, p4⟩ := r4 n (by omega) _ _ h4 (weighs_struct ht hw 4 f4 y4.1 rfl rfl)
  obtain ⟨a5, k5, p5⟩ := r5 n (by omega) _ _ h5 (weighs_struct ht hw 5 f5 y5.1 rfl rfl)
  obtain ⟨a6, k6, p6⟩ := r6 n (by omega) _ _ h6 (weighs_struct ht hw 6 f6 y6.1 rfl rfl)
  refine ⟨(a0, a1, a2, a3, a4, a5, a6), ⟨k0, k1, k2, k3, k4, k5, k6⟩, ?_⟩
  have e6 : cs.drop (n0 + n1 + n2 + n3 + n4 + n5) = (cs.drop (n0 + n1 + n2 + n3 + n4 + n5)).take n6 := (List.take_of_length_le (by rw [List.length_drop]; omega)).symm
  have e5 : cs.drop (n0 + n1 + n2 + n3 + n4) = (cs.drop (n0 + n1 + n2 + n3 + n4)).take n5 ++ cs.drop (n0 + n1 + n2 + n3 + n4 + n5) := by have h := List.take_append_drop n5 (cs.drop (n0 + n1 + n2 + n3 + n4)); rw [List.drop_drop] at h; exact h.symm
  have e4 : cs.drop (n0 + n1 + n2 + n3) = (cs.drop (n0 + n1 + n2 + n3)).take n4 ++ cs.drop (n0 + n1 + n2 + n3 + n4) := by have h := List.take_append_drop n4 (cs.drop (n0 + n1 + n2 + n3)); rw [List.drop_drop] at h; exact h.symm
  have e3 : cs.drop (n0 + n1 + n2) = (cs.drop (n0 + n1 + n2)).take n3 ++ cs.drop (n0 + n1 + n2 + n3) := by have h := List.take_append_drop n3 (cs.drop (n0 + n1 + n2)); rw [List.drop_drop] at h; exact h.symm
  have e2 : cs.drop (n0 + n1) = (cs.drop (n0 + n1)).take n2 ++ cs.drop (n0 + n1 + n2) := by have h := List.take_append_drop n2 (cs.drop (n0 + n1)); rw [List.drop_drop] at h; exact h.symm
  have e1 : cs.drop (n0) = (cs.drop (n0)).take n1 ++ cs.drop (n0 + n1) := by have h := List.take_append_drop n1 (cs.drop (n0)); rw [List.drop_drop] at h; exact h.symm
  have e0 : cs = cs.take n0 ++ cs.drop (n0) := (List.take_append_drop n0 cs).symm
  have q6 := p6
  rw [← e6] at q6
  have q5 := PCRel.append p5 q6
  rw [← e5] at q5
  have q4 := PCRel.append p4 q5
  rw [← e4] at q4
  have q3 := PCRel.append p3 q4
  rw [← e3] at q3
  have q2 := PCRel.append p2 q3
  rw [← e2] at q2
  have q1 := PCRel.append p1 q2
  rw [← e1] at q1
  have q0 := PCRel.append p0 q1
  rw [← e0] at q0
  exact q0
set_option maxHeartbeats 4000000 in
theorem reads_struct13 {α0 α1 α2 α3 α4 α5 α6 α7 α8 α9 α10 α11 α12 : Type} {t fuel n0 n1 n2 n3 n4 n5 n6 n7 n8 n9 n10 n11 n12 : Nat} {f0 f1 f2 f3 f4 f5 f6 f7 f8 f9 f10 f11 f12 : Field} {A0 : α0 → List AV} {A1 : α1 → List AV} {A2 : α2 → List AV} {A3 : α3 → List AV} {A4 : α4 → List AV} {A5 : α5 → List AV} {A6 : α6 → List AV} {A7 : α7 → List AV} {A8 : α8 → List AV} {A9 : α9 → List AV} {A10 : α10 → List AV} {A11 : α11 → List AV} {A12 : α12 → List AV} {Ok0 : α0 → Prop} {Ok1 : α1 → Prop} {Ok2 : α2 → Prop} {Ok3 : α3 → Prop} {Ok4 : α4 → Prop} {Ok5 : α5 → Prop} {Ok6 : α6 → Prop} {Ok7 : α7 → Prop} {Ok8 : α8 → Prop} {Ok9 : α9 → Prop} {Ok10 : α10 → Prop} {Ok11 : α11 → Prop} {Ok12 : α12 → Prop} (ht : P.underlying t = some (.struct #[f0, f1, f2, f3, f4, f5, f6, f7, f8, f9, f10, f11, f12])) (o0 : f0.offset = 0) (s0 : P.cellsOf f0.type = n0) (s1 : P.cellsOf f1.type = n1) (s2 : P.cellsOf f2.type = n2) (s3 : P.cellsOf f3.type = n3) (s4 : P.cellsOf f4.type = n4) (s5 : P.cellsOf f5.type = n5) (s6 : P.cellsOf f6.type = n6) (s7 : P.cellsOf f7.type = n7) (s8 : P.cellsOf f8.type = n8) (s9 : P.cellsOf f9.type = n9) (s10 : P.cellsOf f10.type = n10) (s11 : P.cellsOf f11.type = n11) (s12 : P.cellsOf f12.type = n12) (o1 : f1.offset = n0) (o2 : f2.offset = n0 + n1) (o3 : f3.offset = n0 + n1 + n2) (o4 : f4.offset = n0 + n1 + n2 + n3) (o5 : f5.offset = n0 + n1 + n2 + n3 + n4) (o6 : f6.offset = n0 + n1 + n2 + n3 + n4 + n5) (o7 : f7.offset = n0 + n1 + n2 + n3 + n4 + n5 + n6) (o8 : f8.offset = n0 + n1 + n2 + n3 + n4 + n5 + n6 + n7) (o9 : f9.offset = n0 + n1 + n2 + n3 + n4 + n5 + n6 + n7 + n8) (o10 : f10.offset = n0 + n1 + n2 + n3 + n4 + n5 + n6 + n7 + n8 + n9) (o11 : f11.offset = n0 + n1 + n2 + n3 + n4 + n5 + n6 + n7 + n8 + n9 + n10) (o12 : f12.offset = n0 + n1 + n2 + n3 + n4 + n5 + n6 + n7 + n8 + n9 + n10 + n11)  (st : P.cellsOf t = n0 + n1 + n2 + n3 + n4 + n5 + n6 + n7 + n8 + n9 + n10 + n11 + n12)
    (r0 : ∀ n, n < fuel → Reads enc P w base spare held f0.type A0 Ok0 n) (r1 : ∀ n, n < fuel → Reads enc P w base spare held f1.type A1 Ok1 n) (r2 : ∀ n, n < fuel → Reads enc P w base spare held f2.type A2 Ok2 n) (r3 : ∀ n, n < fuel → Reads enc P w base spare held f3.type A3 Ok3 n) (r4 : ∀ n, n < fuel → Reads enc P w base spare held f4.type A4 Ok4 n) (r5 : ∀ n, n < fuel → Reads enc P w base spare held f5.type A5 Ok5 n) (r6 : ∀ n, n < fuel → Reads enc P w base spare held f6.type A6 Ok6 n) (r7 : ∀ n, n < fuel → Reads enc P w base spare held f7.type A7 Ok7 n) (r8 : ∀ n, n < fuel → Reads enc P w base spare held f8.type A8 Ok8 n) (r9 : ∀ n, n < fuel → Reads enc P w base spare held f9.type A9 Ok9 n) (r10 : ∀ n, n < fuel → Reads enc P w base spare held f10.type A10 Ok10 n) (r11 : ∀ n, n < fuel → Reads enc P w base spare held f11.type A11 Ok11 n) (r12 : ∀ n, n < fuel → Reads enc P w base spare held f12.type A12 Ok12 n) :
    Reads enc P w base spare held t (fun p : α0 × α1 × α2 × α3 × α4 × α5 × α6 × α7 × α8 × α9 × α10 × α11 × α12 => A0 p.1 ++ (A1 p.2.1 ++ (A2 p.2.2.1 ++ (A3 p.2.2.2.1 ++ (A4 p.2.2.2.2.1 ++ (A5 p.2.2.2.2.2.1 ++ (A6 p.2.2.2.2.2.2.1 ++ (A7 p.2.2.2.2.2.2.2.1 ++ (A8 p.2.2.2.2.2.2.2.2.1 ++ (A9 p.2.2.2.2.2.2.2.2.2.1 ++ (A10 p.2.2.2.2.2.2.2.2.2.2.1 ++ (A11 p.2.2.2.2.2.2.2.2.2.2.2.1 ++ (A12 p.2.2.2.2.2.2.2.2.2.2.2.2))))))))))))) (fun p => Ok0 p.1 ∧ Ok1 p.2.1 ∧ Ok2 p.2.2.1 ∧ Ok3 p.2.2.2.1 ∧ Ok4 p.2.2.2.2.1 ∧ Ok5 p.2.2.2.2.2.1 ∧ Ok6 p.2.2.2.2.2.2.1 ∧ Ok7 p.2.2.2.2.2.2.2.1 ∧ Ok8 p.2.2.2.2.2.2.2.2.1 ∧ Ok9 p.2.2.2.2.2.2.2.2.2.1 ∧ Ok10 p.2.2.2.2.2.2.2.2.2.2.1 ∧ Ok11 p.2.2.2.2.2.2.2.2.2.2.2.1 ∧ Ok12 p.2.2.2.2.2.2.2.2.2.2.2.2) fuel := fun cs x hx hw => by
  obtain ⟨xs, n, hfuel, rfl, hl, hlen, hf⟩ := DataW.trod_struct ht hx
  have h0 := hf 0 f0 rfl
  have h1 := hf 1 f1 rfl
  have h2 := hf 2 f2 rfl
  have h3 := hf 3 f3 rfl
  have h4 := hf 4 f4 rfl
  have h5 := hf 5 f5 rfl
  have h6 := hf 6 f6 rfl
  have h7 := hf 7 f7 rfl
  have h8 := hf 8 f8 rfl
  have h9 := hf 9 f9 rfl
  have h10 := hf 10 f10 rfl
  have h11 := hf 11 f11 rfl
  have h12 := hf 12 f12 rfl
  match xs, hlen with
  | [y0, y1, y2, y3, y4, y5, y6, y7, y8, y9, y10, y11, y12], _ =>
  rw [o0, s0, List.drop_zero] at h0
  rw [o1, s1] at h1
  rw [o2, s2] at h2
  rw [o3, s3] at h3
  rw [o4, s4] at h4
  rw [o5, s5] at h5
  rw [o6, s6] at h6
  rw [o7, s7] at h7
  rw [o8, s8] at h8
  rw [o9, s9] at h9
  rw [o10, s10] at h10
  rw [o11, s11] at h11
  rw [o12, s12] at h12
  obtain ⟨a0, k0, p0⟩ := r0 n (by omega) _ _ h0 (weighs_struct ht hw 0 f0 y0.1 rfl rfl)
  obtain ⟨a1, k1, p1⟩ := r1 n (by omega) _ _ h1 (weighs_struct ht hw 1 f1 y1.1 rfl rfl)
  obtain ⟨a2, k2, p2⟩ := r2 n (by omega) _ _ h2 (weighs_struct ht hw 2 f2 y2.1 rfl rfl)
  obtain ⟨a3, k3, p3⟩ := r3 n (by omega) _ _ h3 (weighs_struct ht hw 3 f3 y3.1 rfl rfl)
  obtain ⟨a4, k4, p4⟩ := r4 n (by omega) _ _ h4 (weighs_struct ht hw 4 f4 y4.1 rfl rfl)
  obtain ⟨a5, k5, p5⟩ := r5 n (by omega) _ _ h5 (weighs_struct ht hw 5 f5 y5.1 rfl rfl)
  obtain ⟨a6, k6, p6⟩ := r6 n (by omega) _ _ h6 (weighs_struct ht hw 6 f6 y6.1 rfl rfl)
  obtain ⟨a7, k7, p7⟩ := r7 n (by omega) _ _ h7 (weighs_struct ht hw 7 f7 y7.1 rfl rfl)
  obtain ⟨a8, k8, p8⟩ := r8 n (by omega) _ _ h8 (weighs_struct ht hw 8 f8 y8.1 rfl rfl)
  obtain ⟨a9, k9, p9⟩ := r9 n (by omega) _ _ h9 (weighs_struct ht hw 9 f9 y9.1 rfl rfl)
  obtain ⟨a10, k10, p10⟩ := r10 n (by omega) _ _ h10 (weighs_struct ht hw 10 f10 y10.1 rfl rfl)
  obtain ⟨a11, k11, p11⟩ := r11 n (by omega) _ _ h11 (weighs_struct ht hw 11 f11 y11.1 rfl rfl)
  obtain ⟨a12, k12, p12⟩ := r12 n (by omega) _ _ h12 (weighs_struct ht hw 12 f12 y12.1 rfl rfl)
  refine ⟨(a0, a1, a2, a3, a4, a5, a6, a7, a8, a9, a10, a11, a12), ⟨k0, k1, k2, k3, k4, k5, k6, k7, k8, k9, k10, k11, k12⟩, ?_⟩
  have e12 : cs.drop (n0 + n1 + n2 + n3 + n4 + n5 + n6 + n7 + n8 + n9 + n10 + n11) = (cs.drop (n0 + n1 + n2 + n3 + n4 + n5 + n6 + n7 + n8 + n9 + n10 + n11)).take n12 := (List.take_of_length_le (by rw [List.length_drop]; omega)).symm
  have e11 : cs.drop (n0 + n1 + n2 + n3 + n4 + n5 + n6 + n7 + n8 + n9 + n10) = (cs.drop (n0 + n1 + n2 + n3 + n4 + n5 + n6 + n7 + n8 + n9 + n10)).take n11 ++ cs.drop (n0 + n1 + n2 + n3 + n4 + n5 + n6 + n7 + n8 + n9 + n10 + n11) := by have h := List.take_append_drop n11 (cs.drop (n0 + n1 + n2 + n3 + n4 + n5 + n6 + n7 + n8 + n9 + n10)); rw [List.drop_drop] at h; exact h.symm
  have e10 : cs.drop (n0 + n1 + n2 + n3 + n4 + n5 + n6 + n7 + n8 + n9) = (cs.drop (n0 + n1 + n2 + n3 + n4 + n5 + n6 + n7 + n8 + n9)).take n10 ++ cs.drop (n0 + n1 + n2 + n3 + n4 + n5 + n6 + n7 + n8 + n9 + n10) := by have h := List.take_append_drop n10 (cs.drop (n0 + n1 + n2 + n3 + n4 + n5 + n6 + n7 + n8 + n9)); rw [List.drop_drop] at h; exact h.symm
  have e9 : cs.drop (n0 + n1 + n2 + n3 + n4 + n5 + n6 + n7 + n8) = (cs.drop (n0 + n1 + n2 + n3 + n4 + n5 + n6 + n7 + n8)).take n9 ++ cs.drop (n0 + n1 + n2 + n3 + n4 + n5 + n6 + n7 + n8 + n9) := by have h := List.take_append_drop n9 (cs.drop (n0 + n1 + n2 + n3 + n4 + n5 + n6 + n7 + n8)); rw [List.drop_drop] at h; exact h.symm
  have e8 : cs.drop (n0 + n1 + n2 + n3 + n4 + n5 + n6 + n7) = (cs.drop (n0 + n1 + n2 + n3 + n4 + n5 + n6 + n7)).take n8 ++ cs.drop (n0 + n1 + n2 + n3 + n4 + n5 + n6 + n7 + n8) := by have h := List.take_append_drop n8 (cs.drop (n0 + n1 + n2 + n3 + n4 + n5 + n6 + n7)); rw [List.drop_drop] at h; exact h.symm
  have e7 : cs.drop (n0 + n1 + n2 + n3 + n4 + n5 + n6) = (cs.drop (n0 + n1 + n2 + n3 + n4 + n5 + n6)).take n7 ++ cs.drop (n0 + n1 + n2 + n3 + n4 + n5 + n6 + n7) := by have h := List.take_append_drop n7 (cs.drop (n0 + n1 + n2 + n3 + n4 + n5 + n6)); rw [List.drop_drop] at h; exact h.symm
  have e6 : cs.drop (n0 + n1 + n2 + n3 + n4 + n5) = (cs.drop (n0 + n1 + n2 + n3 + n4 + n5)).take n6 ++ cs.drop (n0 + n1 + n2 + n3 + n4 + n5 + n6) := by have h := List.take_append_drop n6 (cs.drop (n0 + n1 + n2 + n3 + n4 + n5)); rw [List.drop_drop] at h; exact h.symm
  have e5 : cs.drop (n0 + n1 + n2 + n3 + n4) = (cs.drop (n0 + n1 + n2 + n3 + n4)).take n5 ++ cs.drop (n0 + n1 + n2 + n3 + n4 + n5) := by have h := List.take_append_drop n5 (cs.drop (n0 + n1 + n2 + n3 + n4)); rw [List.drop_drop] at h; exact h.symm
  have e4 : cs.drop (n0 + n1 + n2 + n3) = (cs.drop (n0 + n1 + n2 + n3)).take n4 ++ cs.drop (n0 + n1 + n2 + n3 + n4) := by have h := List.take_append_drop n4 (cs.drop (n0 + n1 + n2 + n3)); rw [List.drop_drop] at h; exact h.symm
  have e3 : cs.drop (n0 + n1 + n2) = (cs.drop (n0 + n1 + n2)).take n3 ++ cs.drop (n0 + n1 + n2 + n3) := by have h := List.take_append_drop n3 (cs.drop (n0 + n1 + n2)); rw [List.drop_drop] at h; exact h.symm
  have e2 : cs.drop (n0 + n1) = (cs.drop (n0 + n1)).take n2 ++ cs.drop (n0 + n1 + n2) := by have h := List.take_append_drop n2 (cs.drop (n0 + n1)); rw [List.drop_drop] at h; exact h.symm
  have e1 : cs.drop (n0) = (cs.drop (n0)).take n1 ++ cs.drop (n0 + n1) := by have h := List.take_append_drop n1 (cs.drop (n0)); rw [List.drop_drop] at h; exact h.symm
  have e0 : cs = cs.take n0 ++ cs.drop (n0) := (List.take_append_drop n0 cs).symm
  have q12 := p12
  rw [← e12] at q12
  have q11 := PCRel.append p11 q12
  rw [← e11] at q11
  have q10 := PCRel.append p10 q11
  rw [← e10] at q10
  have q9 := PCRel.append p9 q10
  rw [← e9] at q9
  have q8 := PCRel.append p8 q9
  rw [← e8] at q8
  have q7 := PCRel.append p7 q8
  rw [← e7] at q7
  have q6 := PCRel.append p6 q7
  rw [← e6] at q6
  have q5 := PCRel.append p5 q6
  rw [← e5] at q5
  have q4 := PCRel.append p4 q5
  rw [← e4] at q4
  have q3 := PCRel.append p3 q4
  rw [← e3] at q3
  have q2 := PCRel.append p2 q3
  rw [← e2] at q2
  have q1 := PCRel.append p1 q2
  rw [← e1] at q1
  have q0 := PCRel.append p0 q1
  rw [← e0] at q0
  exact q0
end
end Go.Proofs.Ytbcakdhgbjgkgaa

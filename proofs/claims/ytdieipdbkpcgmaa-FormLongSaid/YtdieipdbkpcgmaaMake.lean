/- 'make([]T, n)' in worlds that have only grown. -/
import Derived.Test.YtdieipdbkpcgmaaTypes
namespace Go.Proofs.Ytdieipdbkpcgmaa
set_option linter.unusedSimpArgs false
set_option linter.unusedVariables false
open Go.RowKit

theorem made_flat (z : Array Value) (n : Nat) (hz : 0 < z.size) : (madeCells z (n * z.size)).toList = (List.replicate n z.toList).flatten := by
  apply List.ext_getElem?
  intro i
  have hall : ∀ x ∈ List.replicate n z.toList, x.length = z.size := fun x hx => by rw [(List.mem_replicate.1 hx).2]; simp
  by_cases hi : i < n * z.size
  · have hq : i / z.size < n := Nat.div_lt_of_lt_mul (by rwa [Nat.mul_comm] at hi)
    have hr : i % z.size < z.size := Nat.mod_lt _ hz
    have e : i = (i / z.size) * z.size + i % z.size := by rw [Nat.mul_comm]; exact (Nat.div_add_mod i z.size).symm
    have h := flatten_get hall (i := i / z.size) (j := i % z.size) (by simpa using hq) (by simpa using hr)
    rw [← e] at h
    rw [h]
    simp [madeCells, hi, hr]
  · rw [List.getElem?_eq_none (by simp [size_madeCells]; omega), List.getElem?_eq_none (by rw [List.length_flatten]; simp; omega)]

theorem wpList_mk {P : Program} {w : World} {ops : Array Oper} {rest : List Oper} {o : Oper} {a : Act} {Q : Exit → Act → World → Prop} (hg : o.guard = none) (l c : Operand) (t : TypeId) (hop : o.op = Op.makeSlice t l c)
    (e : TypeId) (z : Value) (size bytes : Nat) (h1 : P.underlying t = some (.slice e)) (hinfo : (P.info? e).map (fun i => (i.zero, i.size, i.bytes)) = some (some z, size, bytes)) (hzs : z.cells.size = size) (hsz : 0 < size)
    {L C : Int} (n : Nat) (hl : a.eval l = .int .i64 L) (hc : a.eval c = .int .i64 C) (hL : L = (n : Int)) (hC : C = (n : Int)) (b2 : bytes * n ≤ 281474976710656) (b3 : n ≤ 9223372036854775807)
    (hK : ∀ y, (ext w y).ownsRow w.heap.size e size (.slice (some ⟨w.heap.size, 0, none⟩) n n) n (List.replicate n z.cells.toList).flatten → wpList P ops Q rest (a.put o.dst (.slice (some ⟨w.heap.size, 0, none⟩) n n)) (ext w y)) :
    wpList P ops Q (o :: rest) a w := by
  obtain ⟨i, hi, hz, hsize, hb⟩ := info_parts hinfo
  subst hb
  refine wpList_make_full w hg l c t hop w.heap.size e i z size h1 hi hz hsize .i64 .i64 L C n hl hc hL hC b2 (by unfold maxLen; omega) (Nat.le_refl _) fun w' h2 h3 => ?_
  have hbel : Below w.heap.size w w' := (grew_refl w).grown h3 (Nat.le_refl _) (by simp)
  rw [← hzs, made_flat _ _ (by omega), hzs] at h2
  have := hK w' (by rw [ext_of hbel]; exact h2)
  rwa [ext_of hbel] at this
end Go.Proofs.Ytdieipdbkpcgmaa

/- From the reading of an argument as data to what the walks ask of it: slices of whatever elements. No program is in sight. -/
import Derived.Test.YtdieipdbkpcgmaaOwn
import Derived.ProofKit
import Derived.SizedLaws
import Derived.Deep.Slices
import Derived.Deep.Strs
import Derived.WalkArith
namespace Go.Proofs.Ytdieipdbkpcgmaa
set_option linter.unusedSimpArgs false
set_option linter.unusedVariables false
open Go.RowKit Go.ChangeShapes Go.WideShapes

/-- Each slice and text that is read weighs no more than the form's own reach. -/
def Weighs {H : Type} (P : Program) (t : TypeId) (d : DataW H) : Prop := ∀ n ∈ d.weights P t, n ≤ 140737488351232
theorem weighs_slice {H : Type} {P : Program} {t e : TypeId} (ht : P.underlying t = some (.slice e)) {elems spare : List (DataW H)} (h : Weighs P t (.slice elems spare)) :
    (elems.length + spare.length) * P.bytesOf e ≤ 140737488351232 ∧ ∀ d ∈ elems, Weighs P e d := by
  unfold Weighs DataW.weights at h
  rw [ht] at h
  refine ⟨h _ (by simp), fun d hd n hn => h n (by simp only [List.mem_cons, List.mem_append]; exact .inr (.inl (mem_all hd hn)))⟩
where
  mem_all {H : Type} {P : Program} {e : TypeId} {l : List (DataW H)} {d : DataW H} (hd : d ∈ l) {n : Nat} (hn : n ∈ d.weights P e) : n ∈ DataW.weightsAll P e l := by
    induction l with
    | nil => cases hd
    | cons x l ih =>
      simp only [DataW.weightsAll, List.mem_append]
      rcases List.mem_cons.1 hd with rfl | h
      · exact .inl hn
      · exact .inr (ih h)
theorem weighs_struct {H : Type} {P : Program} {t : TypeId} {fs : Array Field} (ht : P.underlying t = some (.struct fs)) {parts : List (DataW H)} (h : Weighs P t (.agg parts)) :
    ∀ (i : Nat) (f : Field) (d : DataW H), fs[i]? = some f → parts[i]? = some d → Weighs P f.type d := by
  unfold Weighs DataW.weights at h
  rw [ht] at h
  intro i f d hf hd n hn
  exact h n (mem_each (by simpa using congrArg (Option.map (·.type)) hf) hd hn)
where
  mem_each {H : Type} {P : Program} : ∀ {ts : List TypeId} {l : List (DataW H)} {i : Nat} {t : TypeId} {d : DataW H} {n : Nat}, ts[i]? = some t → l[i]? = some d → n ∈ d.weights P t → n ∈ DataW.weightsEach P ts l
    | [], _, _, _, _, _, h, _, _ => by simp at h
    | _ :: _, [], _, _, _, _, _, h, _ => by simp at h
    | _ :: _, _ :: _, 0, _, _, _, h, h', hn => by
      simp at h h'; subst h; subst h'
      simp only [DataW.weightsEach, List.mem_append]; exact .inl hn
    | _ :: ts, _ :: l, i + 1, _, _, _, h, h', hn => by
      simp only [DataW.weightsEach, List.mem_append]
      exact .inr (mem_each (ts := ts) (l := l) (i := i) (by simpa using h) (by simpa using h') hn)
theorem weighs_each {H : Type} {P : Program} {ts : List TypeId} {ds : List (DataW H)} (h : (DataW.weightsEach P ts ds).all (· ≤ reachBytes) = true) {i : Nat} {t : TypeId} {d : DataW H} (ht : ts[i]? = some t) (hd : ds[i]? = some d) : Weighs P t d := by
  intro n hn
  have := List.all_eq_true.1 h n (weighs_struct.mem_each ht hd hn)
  exact of_decide_eq_true this

/-- A slice that is read, its elements by R. -/
theorem read_slice {α H : Type} [Inhabited α] {enc : TypeId × Value → H} {P : Program} {w : World} {base : Nat} {spare : Nat → Bool} {held : Bool} {t e s fuel : Nat} {cs : List Value} {x : DataW H × List MemPlace} {R : α → List Value → Prop}
    (ht : P.underlying t = some (.slice e)) (hs : P.cellsOf e = s) (hby : 0 < P.bytesOf e) (hsz : 0 < s) (h : DataW.trod enc P w base spare held fuel t cs = some x) (hw : Weighs P t x.1)
    (he : ∀ n cs' x', fuel = n + 1 → DataW.trod enc P w base spare held n e cs' = some x' → Weighs P e x'.1 → cs'.length = s → ∃ y : α, R y cs') :
    ∃ v l, cs = [v] ∧ SliceOf w s R v l ∧ l.length * P.bytesOf e ≤ 140737488351232 := by
  rcases DataW.trod_slice ht h with ⟨rfl, rfl⟩ | ⟨a, len, cap, elems, rest, n, hfuel, rfl, rfl, hb, hl, hm, hlen, hel, hsp, hns⟩
  · exact ⟨_, [], rfl, ⟨none, 0, rfl, by simp, ⟨by simp, fun _ => rfl⟩, fun i hi => by simp at hi⟩, by simp⟩
  · obtain ⟨hw1, hw2⟩ := weighs_slice ht hw
    rw [List.length_map, hlen] at hw1
    have hlen8 : len * P.bytesOf e ≤ 140737488351232 := by
      have h2 : len * P.bytesOf e ≤ (len + (rest.map (·.1)).length) * P.bytesOf e := Nat.mul_le_mul_right _ (by omega)
      omega
    have hlen' : len ≤ 140737488351232 := by
      have := Nat.le_mul_of_pos_right len hby
      have h2 : len * P.bytesOf e ≤ (len + (rest.map (·.1)).length) * P.bytesOf e := Nat.mul_le_mul_right _ (by omega)
      omega
    have hone : ∀ i, i < len → ∃ (y : α × List Value), R y.1 y.2 ∧ y.2.length = s ∧ ∀ j (hj : j < y.2.length), w.cell? ((a.add (i * s)).add j) = some y.2[j] := fun i hi => by
      have h1 := hel i hi
      have hi' : i < elems.length := by omega
      rw [List.getElem?_eq_getElem hi', Option.bind_eq_some_iff] at h1
      obtain ⟨cs', hc', h2⟩ := h1
      obtain ⟨_, hcl, hcc⟩ := World.cells?_some hc'
      rw [hs] at hcl
      obtain ⟨y, hy⟩ := he n cs' _ hfuel h2 (hw2 _ (List.mem_map.2 ⟨_, List.getElem_mem hi', rfl⟩)) hcl
      refine ⟨(y, cs'), hy, hcl, fun j hj => ?_⟩
      have hj' : j < cs'.length := hj
      have := hcc j (by rw [hs]; omega)
      rw [hs] at this
      rw [this, List.getElem?_eq_getElem hj]
    obtain ⟨f, hf⟩ := Go.Deep.choose_lt hone
    refine ⟨_, (List.range len).map fun i => (f i).1, rfl, ⟨some a, cap, by simp, by simpa using hlen', ⟨by simpa using hl, by simp⟩, fun i hi => ?_⟩, by simpa using hlen8⟩
    have hi : i < len := by simpa using hi
    have hspot : a.spot = none := by
      obtain ⟨_, g2, g3⟩ := hf 0 (by omega)
      have := g3 0 (by omega)
      rw [Nat.zero_mul] at this
      simp only [Addr.add, if_true] at this
      exact spot_none this
    obtain ⟨g1, g2, g3⟩ := hf i hi
    obtain ⟨b, o, sp⟩ := a
    simp only at hspot
    subst hspot
    have hcell : ∀ j (hj : j < (f i).2.length), w.cell? ⟨b, o + i * s + j, none⟩ = some (f i).2[j] := fun j hj => by
      have := g3 j hj
      rwa [addr_add, addr_add] at this
    exact ⟨b, o, (f i).2, rfl, World.block_lt_of_cell? w ⟨b, _, none⟩ (hcell 0 (by omega)), by simpa using g1, g2, hcell⟩
where
  spot_none {w : World} {a : Addr} {v : Value} (h : w.cell? a = some v) : a.spot = none := by
    unfold World.cell? at h
    split at h
    · split at h
      · cases h
      · rename_i hh; simpa using hh
    · cases h

theorem i64_of {n : Int} (h : (Lit.int .i64 n).wf = true) : -9223372036854775808 ≤ n ∧ n ≤ 9223372036854775807 := by
  simpa [Lit.wf, IntKind.min, IntKind.max, IntKind.signed, IntKind.bits] using h
end Go.Proofs.Ytdieipdbkpcgmaa

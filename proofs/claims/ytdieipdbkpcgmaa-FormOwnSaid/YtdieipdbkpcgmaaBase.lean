/- Base words for the walks: what a world that has only grown reads, and one walk for a region whose guards are not decided. No program is in sight. -/
import Derived.Test.YtdieipdbkpcgmaaRows
import Derived.WalkKit
import Derived.Deep.QuietTactic
import Derived.BigQuiet
import Derived.Lib.Hide
import Derived.Deep.LoopGhost
import Derived.WalkSpells
import Derived.WalkLawsBesides
import Derived.LaidEql
namespace Go.Proofs.Ytdieipdbkpcgmaa
set_option linter.unusedSimpArgs false
set_option linter.unusedVariables false
open Go.RowKit

theorem act_put_same {a : Act} {d : Nat} {v : Value} (h : a.tmps[d]? = some v) : a.put (some d) v = a := by
  cases a with
  | mk tmps defers =>
    have hd : d < tmps.size := by
      rcases Nat.lt_or_ge d tmps.size with h' | h'
      · exact h'
      · simp [Array.getElem?_eq_none h'] at h
    have hv : tmps[d] = v := by simpa [Array.getElem?_eq_getElem hd] using h
    simp only [Act.put]
    congr 1
    rw [Array.setIfInBounds, dif_pos hd, ← hv]
    exact Array.set_getElem_self hd

/-- A guard that is not decided: both ways, with the Bool written out. -/
theorem wpQuiet_guard_split {P : Program} {ops : Array Oper} {C : World → Prop} {Q : Act → Prop} {o : Oper} {rest : List Oper} {a : Act} {j d : Nat} {want b : Bool}
    (_hg : o.guard = some (j, want)) (_hd : (ops[j]?).bind (·.dst) = some d) (hv : a.tmps[d]? = some (.bool b))
    (h1 : b = true → wpQuiet P ops C Q (o :: rest) (a.put (some d) (.bool true)))
    (h0 : b = false → wpQuiet P ops C Q (o :: rest) (a.put (some d) (.bool false))) : wpQuiet P ops C Q (o :: rest) a := by
  cases b
  · have := h0 rfl; rwa [act_put_same hv] at this
  · have := h1 rfl; rwa [act_put_same hv] at this

/-- Whatever has grown out of w: x itself where nothing below has turned, else w. A function, so that it can be rewritten. -/
noncomputable def ext (w x : World) : World := by
  classical exact if Below w.heap.size w x then x else w

theorem below_ext (w x : World) : Below w.heap.size w (ext w x) := by
  unfold ext
  split
  · assumption
  · exact Below.refl _ _

theorem ext_of {w x : World} (h : Below w.heap.size w x) : ext w x = x := by
  unfold ext
  rw [if_pos h]

theorem ext_intro {w W : World} (h : Below w.heap.size w W) : ∃ x, W = ext w x := ⟨W, (ext_of h).symm⟩

/-- Is this the number of a block that is there? -/
def Old (w : World) (b : Nat) : Prop := b < w.heap.size
def NewIn (w x : World) (b : Nat) : Prop := Old (ext w x) b ∧ ¬ Old w b

@[go_sem, simp] theorem old_alloc (w : World) (o : Obj) (b : Nat) : Old (w.alloc o) b = (Old w b ∨ b = w.heap.size) := by
  unfold Old
  simp only [World.size_alloc, eq_iff_iff]
  omega

@[go_sem, simp] theorem old_drew (w : World) (b : Nat) : Old w.drew b = Old w b := rfl
@[go_sem, simp] theorem old_drewN (w : World) (n b : Nat) : Old (w.drewN n) b = Old w b := rfl
@[go_sem, simp] theorem old_setCell (w : World) (a : Addr) (v : Value) (b : Nat) : Old (w.setCell a v) b = Old w b := by
  simp [Old, World.setCell]

@[go_sem, simp] theorem old_ext (w x : World) (b : Nat) : Old (ext w x) b = (Old w b ∨ NewIn w x b) := by
  have := (below_ext w x).size
  simp only [NewIn, Old, eq_iff_iff]
  omega

theorem size_ext (w x : World) : w.heap.size ≤ (ext w x).heap.size := (below_ext w x).size

@[go_sem] theorem cell_ext (w x : World) (b o : Nat) (h : Old w b) : (ext w x).cell? ⟨b, o, none⟩ = w.cell? ⟨b, o, none⟩ := (below_ext w x).cell (p := ⟨b, o, none⟩) h
@[go_sem] theorem frozen_ext (w x : World) (b o : Nat) (h : Old w b) : (ext w x).frozen? ⟨b, o, none⟩ = w.frozen? ⟨b, o, none⟩ := (below_ext w x).frozen (p := ⟨b, o, none⟩) h
@[go_sem] theorem cell_alloc_old (w : World) (o : Obj) (b i : Nat) (h : Old w b) : (w.alloc o).cell? ⟨b, i, none⟩ = w.cell? ⟨b, i, none⟩ := World.cell?_alloc_lt w o ⟨b, i, none⟩ h

/-! How a world has grown: the steps. -/
theorem grew_refl (w : World) : Below w.heap.size w w := Below.refl _ _
theorem grew_alloc {w W : World} (h : Below w.heap.size w W) (o : Obj) : Below w.heap.size w (W.alloc o) := h.alloc h.size o
theorem grew_drew {w W : World} (h : Below w.heap.size w W) : Below w.heap.size w W.drew := h.drew
theorem grew_ext {w W : World} (h : Below w.heap.size w W) (x : World) : Below w.heap.size w (ext W x) := h.trans ((below_ext W x).mono h.size)
theorem grew_drewN {w W : World} (h : Below w.heap.size w W) (n : Nat) : Below w.heap.size w (W.drewN n) := ⟨h.os, h.tape, h.output, h.size, h.block⟩

theorem old_of_grew {w W : World} (h : Below w.heap.size w W) {b : Nat} (hb : Old w b) : Old W b := Nat.lt_of_lt_of_le hb h.size

theorem quiet_ext {P : Program} {f : FuncId} {args : Array Value} {w x : World} {v : Value}
    (h : Calls P f args (ext w x) fun e w' => e = .returned v ∧ ∃ y, w' = ext (ext w x) y) : Calls P f args (ext w x) fun e w'' => e = .returned v ∧ ∃ y, w'' = ext w y :=
  h.mono fun _ _ ⟨he, y, hy⟩ => ⟨he, by subst hy; exact ext_intro (grew_ext (below_ext w x) y)⟩
theorem quiet_same {P : Program} {f : FuncId} {args : Array Value} {w x : World} {v : Value}
    (h : Calls P f args (ext w x) fun e w' => e = .returned v ∧ ext w x = w') : Calls P f args (ext w x) fun e w'' => e = .returned v ∧ ∃ y, w'' = ext w y :=
  h.mono fun _ _ ⟨he, hy⟩ => ⟨he, x, hy.symm⟩

/-- A region that draws its order, its operations and calls leaving old blocks alone: one walk, in the order of the text. -/
theorem wp_region_ext {P : Program} {id : Nat} {Q : Exit → Act → World → Prop} {a : Act} {w : World} {l : List Oper} (hm : P.follows .mixedOrders = true) (hB : Region.lexB .any l.toArray = true)
    (h : wpQuiet P l.toArray (fun w' => ∃ x, w' = ext w x) (fun a' => ∀ w', (∃ x, w' = ext w x) → Q .normal a' w') l a) : (Code.region id l.toArray true).wp P Q a w :=
  wp_region_quiet (C := fun w' => ∃ x, w' = ext w x) hm hB (ext_intro ⟨rfl, rfl, rfl, Nat.le_refl _, fun _ _ => rfl⟩) (by simpa using h)

/-! Slices of whatever elements. -/
def CapOk (a : Option Addr) (n cap : Nat) : Prop := n ≤ cap ∧ (a = none → cap = 0)
/-- v is a slice over cells that are there, element i of s cells, as R says. -/
def SliceOf {α : Type} (w : World) (s : Nat) (R : α → List Value → Prop) (v : Value) (l : List α) : Prop :=
  ∃ (a : Option Addr) (cap : Nat), v = .slice a l.length cap ∧ l.length ≤ 140737488351232 ∧ CapOk a l.length cap ∧
    ∀ i (h : i < l.length), ∃ b o cs, a = some ⟨b, o, none⟩ ∧ Old w b ∧ R l[i] cs ∧ cs.length = s ∧ ∀ j (hj : j < cs.length), w.cell? ⟨b, o + i * s + j, none⟩ = some cs[j]

theorem SliceOf.mono {α : Type} {w W : World} {s : Nat} {R R' : α → List Value → Prop} {v : Value} {l : List α} (h : SliceOf w s R v l) (hg : Below w.heap.size w W)
    (hR : ∀ i (h : i < l.length) cs, R l[i] cs → R' l[i] cs) : SliceOf W s R' v l := by
  obtain ⟨a, cap, rfl, hl, hcap, hc⟩ := h
  refine ⟨a, cap, rfl, hl, hcap, fun i hi => ?_⟩
  obtain ⟨b, o, cs, ha, hb, hr, hs, hcs⟩ := hc i hi
  exact ⟨b, o, cs, ha, Nat.lt_of_lt_of_le hb hg.size, hR i hi cs hr, hs, fun j hj => (hg.cell (p := ⟨b, _, none⟩) hb).trans (hcs j hj)⟩
end Go.Proofs.Ytdieipdbkpcgmaa

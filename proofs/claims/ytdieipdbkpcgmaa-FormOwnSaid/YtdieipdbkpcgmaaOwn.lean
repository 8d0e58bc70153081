/- Rows that a call makes and appends to, in worlds that have only grown; slices read off them. No program is in sight. -/
import Derived.Test.YtdieipdbkpcgmaaBase
import Derived.Laws.AppendOwnNone
import Derived.Deep.Slices
namespace Go.Proofs.Ytdieipdbkpcgmaa
set_option linter.unusedSimpArgs false
set_option linter.unusedVariables false
open Go.RowKit

/-- x is a slice of m elements of 'size' cells each, whose cells are news. -/
def Src (w : World) (size : Nat) (x : Value) (m : Nat) (news : List Value) : Prop :=
  ∃ sa c, x = .slice sa m c ∧ news.length = m * size ∧ (∀ u ∈ news, u.oneCell' = true) ∧
    ((sa = none ∧ m = 0 ∧ c = 0) ∨ ∃ ad, sa = some ad ∧ ∀ j u, news[j]? = some u → w.cell? (ad.add j) = some u)

theorem addr_add (b o j : Nat) : (⟨b, o, none⟩ : Addr).add j = ⟨b, o + j, none⟩ := by unfold Addr.add; split <;> simp_all

/-- The one element behind 'append(xs, x)', laid in a block of its own. -/
theorem src_one {w : World} {b : Nat} {u : Value} (hu : u.oneCell' = true) (hc : w.cell? ⟨b, 0, none⟩ = some u) : Src w 1 (.slice (some ⟨b, 0, none⟩) 1 1) 1 [u] := by
  refine ⟨_, _, rfl, rfl, fun v hv => by simp at hv; subst hv; exact hu, .inr ⟨_, rfl, fun j v hj => ?_⟩⟩
  match j, hj with
  | 0, hj => simp at hj; subst hj; rw [addr_add]; exact hc

theorem src_cells {w : World} {b c : Nat} {us : List Value} {m s : Nat} (hl : us.length = m * s) (hu : ∀ u ∈ us, u.oneCell' = true) (hc : ∀ j (h : j < us.length), w.cell? ⟨b, j, none⟩ = some us[j]) : Src w s (.slice (some ⟨b, 0, none⟩) m c) m us := by
  refine ⟨_, _, rfl, hl, hu, .inr ⟨_, rfl, fun j v hj => ?_⟩⟩
  obtain ⟨h1, h2⟩ := List.getElem?_eq_some_iff.1 hj
  rw [addr_add, Nat.zero_add, hc j h1, h2]

theorem src_own {w : World} {B e s n : Nat} {v : Value} {xs : List Value} (hown : w.ownsRow B e s v n xs) (hu : ∀ u ∈ xs, u.oneCell' = true) : Src w s v n xs := by
  obtain ⟨hl, h⟩ := hown
  rcases h with ⟨rfl, rfl⟩ | ⟨g, cap, cur, rfl, hg, hh, hn, hcap, hcs, ht⟩
  · exact ⟨_, _, rfl, hl, hu, .inl ⟨rfl, rfl, rfl⟩⟩
  · refine ⟨_, _, rfl, hl, hu, .inr ⟨_, rfl, fun j u hj => ?_⟩⟩
    exact World.ownsRow.cells (show w.ownsRow B e s (.slice (some ⟨g, 0, none⟩) n cap) n xs from ⟨hl, .inr ⟨g, cap, cur, rfl, hg, hh, hn, hcap, hcs, ht⟩⟩) rfl j u hj

theorem src_grow {w W : World} {s m : Nat} {v : Value} {xs : List Value} (h : Src w s v m xs) (hg : ∀ a u, w.cell? a = some u → W.cell? a = some u) : Src W s v m xs := by
  obtain ⟨sa, c, h1, h2, h3, h4⟩ := h
  refine ⟨sa, c, h1, h2, h3, h4.imp id fun ⟨ad, h5, h6⟩ => ⟨ad, h5, fun j u hj => hg _ _ (h6 j u hj)⟩⟩

theorem own_below {W0 w : World} {e s n : Nat} {v : Value} {xs : List Value} (h : w.ownsRow W0.heap.size e s v n xs) : ∀ k, v.ownBlock = some k → W0.heap.size ≤ k := fun k hk => (h.lt k hk).1

theorem own_base {w : World} {B B' e s n : Nat} {v : Value} {xs : List Value} (h : w.ownsRow B e s v n xs) (hB : B' ≤ B) : w.ownsRow B' e s v n xs := by
  obtain ⟨h1, h2⟩ := h
  refine ⟨h1, h2.imp id ?_⟩
  rintro ⟨g, cap, cur, hv, hb, r⟩
  exact ⟨g, cap, cur, hv, by omega, r⟩
theorem own_alloc {w : World} {B e s n : Nat} {v : Value} {xs : List Value} (h : w.ownsRow B e s v n xs) (o : Obj) : (w.alloc o).ownsRow B e s v n xs := h.alloc o
/-- What is owned in W stays owned while the world only grows. -/
theorem own_grew {W W' : World} {B e s n : Nat} {v : Value} {xs : List Value} (h : W.ownsRow B e s v n xs) (hg : Below W.heap.size W W') : W'.ownsRow B e s v n xs := by
  obtain ⟨h1, h2⟩ := h
  refine ⟨h1, h2.imp id ?_⟩
  rintro ⟨g, cap, cur, hv, hb, hh, r⟩
  exact ⟨g, cap, cur, hv, hb, by rw [hg.block g (Array.getElem?_eq_some_iff.1 hh).1]; exact hh, r⟩
theorem own_ext {W : World} {B e s n : Nat} {v : Value} {xs : List Value} (h : W.ownsRow B e s v n xs) (y : World) : (ext W y).ownsRow B e s v n xs := own_grew h (below_ext W y)

/-- 'out = append(out, src...)', out nil or the call's own: out of W0 the world has only grown. -/
theorem wpList_app {P : Program} {W0 w : World} {ops : Array Oper} {rest : List Oper} {o : Oper} {a : Act} {Q : Exit → Act → World → Prop} (hgd : o.guard = none) (s x : Operand) (t : TypeId)
    (ho : o.op = .call { callee := .builtin .append, args := #[s, x], argTypes := #[t, t] })
    (e : TypeId) (z : Value) (size bytes : Nat) (ht : P.underlying t = some (.slice e)) (hinfo : (P.info? e).map (fun i => (i.zero, i.size, i.bytes)) = some (some z, size, bytes))
    (hzs : z.cells.size = size) (hsz : 0 < size) (hby : 0 < bytes)
    {v : Value} {n : Nat} {xs : List Value} (hown : w.ownsRow W0.heap.size e size v n xs) (hs : a.eval s = v) (hbel : Below W0.heap.size W0 w)
    {vx : Value} {m : Nat} {news : List Value} (hsrc : Src w size vx m news) (hx : a.eval x = vx)
    (hbytes : (n + m) * bytes ≤ 140737488355328)
    (h : ∀ v' y, (ext W0 y).ownsRow W0.heap.size e size v' (n + m) (xs ++ news) → w.grownBy (ext W0 y) v.ownBlock → wpList P ops Q rest (a.put o.dst v') (ext W0 y)) : wpList P ops Q (o :: rest) a w := by
  obtain ⟨i, hi, hz, hsize, hb⟩ := info_parts hinfo
  obtain ⟨sa, c, rfl, hl, hu, hsrc⟩ := hsrc
  have h63 : n + m ≤ maxLen := by
    have := Nat.le_mul_of_pos_right (n + m) hby
    simp only [maxLen]; omega
  rcases hsrc with ⟨rfl, rfl, rfl⟩ | ⟨ad, rfl, hc⟩
  · have hn : news = [] := by simpa using hl
    subst hn
    refine wpList_append_own_none hgd s x t ho W0.heap.size e i size ht hi v n xs hs hown hx ?_
    have := h v w (by rw [ext_of hbel]; simpa using hown) (by rw [ext_of hbel]; exact World.grownBy.refl _ _)
    rwa [ext_of hbel] at this
  · refine wpList_append_own w hgd s x t ho W0.heap.size e i z size bytes ht hi hz hsize hb hzs hsz v n xs hs hown ad m c news hx hl hc hu h63 hbytes hbel.size fun v' w' h1 h2 _ => ?_
    have hb' : Below W0.heap.size W0 w' := hbel.grown h2 hbel.size (own_below hown)
    have := h v' w' (by rw [ext_of hb']; exact h1) (by rw [ext_of hb']; exact h2)
    rwa [ext_of hb'] at this

theorem flatten_get {s : Nat} {xs : List (List Value)} (hall : ∀ x ∈ xs, x.length = s) {i j : Nat} (hi : i < xs.length) (hj : j < xs[i].length) : xs.flatten[i * s + j]? = some xs[i][j] := by
  induction xs generalizing i with
  | nil => simp at hi
  | cons x xs ih =>
    have hx := hall x (by simp)
    cases i with
    | zero => simp only [List.flatten_cons, List.getElem_cons_zero, Nat.zero_mul, Nat.zero_add]; rw [List.getElem?_append_left (by simpa using hj)]; simp
    | succ i =>
      simp only [List.flatten_cons, List.getElem_cons_succ]
      rw [List.getElem?_append_right (by rw [hx, Nat.succ_mul]; omega), hx, show (i + 1) * s + j - s = i * s + j by rw [Nat.succ_mul]; omega]
      exact ih (fun y hy => hall y (by simp [hy])) (by simpa using hi) (by simpa using hj)

/-- A row that the call owns, read as a slice. -/
theorem sliceOf_own {α : Type} {w : World} {B e s : Nat} {R : α → List Value → Prop} {v : Value} {l : List α} {xs : List (List Value)} (hs : 0 < s) (hown : w.ownsRow B e s v l.length xs.flatten)
    (hl : xs.length = l.length) (hR : ∀ i (h : i < l.length) (h' : i < xs.length), R l[i] xs[i] ∧ xs[i].length = s) (hlen : l.length ≤ 140737488351232) : SliceOf w s R v l := by
  obtain ⟨hlen', h⟩ := hown
  rcases h with ⟨rfl, hn⟩ | ⟨g, cap, cur, rfl, hg, hh, hn, hcap, hcs, ht⟩
  · exact ⟨none, 0, by rw [hn], hlen, ⟨by omega, fun _ => rfl⟩, fun i hi => by omega⟩
  · refine ⟨_, cap, rfl, hlen, ⟨hn, by simp⟩, fun i hi => ?_⟩
    have hi' : i < xs.length := by omega
    obtain ⟨r1, r2⟩ := hR i hi hi'
    have hall : ∀ x ∈ xs, x.length = s := fun x hx => by
      obtain ⟨j, hj, rfl⟩ := List.getElem_of_mem hx
      exact (hR j (by omega) hj).2
    refine ⟨g, 0, xs[i], rfl, (Array.getElem?_eq_some_iff.1 hh).1, r1, r2, fun j hj => ?_⟩
    have hget : xs.flatten[i * s + j]? = some xs[i][j] := flatten_get hall hi' hj
    have := World.ownsRow.cells (show w.ownsRow B e s (.slice (some ⟨g, 0, none⟩) l.length cap) l.length xs.flatten from ⟨hlen', .inr ⟨g, cap, cur, rfl, hg, hh, hn, hcap, hcs, ht⟩⟩) rfl (i * s + j) _ hget
    rwa [addr_add, ← Nat.add_assoc] at this
/-- A slice read as a row of cells, for an append. -/
theorem src_sliceOf {α : Type} {w : World} {s : Nat} {R : α → List Value → Prop} {v : Value} {l : List α} (h : SliceOf w s R v l) (hone : ∀ x cs, R x cs → ∀ u ∈ cs, u.oneCell' = true) :
    ∃ xs : List (List Value), Src w s v l.length xs.flatten ∧ xs.length = l.length ∧ ∀ i (h : i < l.length) (h' : i < xs.length), R l[i] xs[i] ∧ xs[i].length = s := by
  obtain ⟨a, cap, rfl, hl, hcap, hc⟩ := h
  cases l with
  | nil =>
    refine ⟨[], ⟨a, cap, rfl, by simp, by simp, ?_⟩, rfl, fun i h => by simp at h⟩
    cases a with
    | none => exact .inl ⟨rfl, rfl, hcap.2 rfl⟩
    | some ad => exact .inr ⟨ad, rfl, fun j u hj => by simp at hj⟩
  | cons x0 l0 =>
    generalize hL : x0 :: l0 = l at *
    have h0 : 0 < l.length := by rw [← hL]; simp
    obtain ⟨b, o, _, rfl, _⟩ := hc 0 h0
    have hx : ∀ i, i < l.length → ∃ cs : List Value, (∀ h : i < l.length, R l[i] cs) ∧ cs.length = s ∧ ∀ j (hj : j < cs.length), w.cell? ⟨b, o + i * s + j, none⟩ = some cs[j] := fun i hi => by
      obtain ⟨b', o', cs, ha, _, hr, hs, hcs⟩ := hc i hi
      simp only [Option.some.injEq, Addr.mk.injEq, and_true] at ha
      obtain ⟨rfl, rfl⟩ := ha
      exact ⟨cs, fun _ => hr, hs, hcs⟩
    obtain ⟨f, hf⟩ := Go.Deep.choose_lt hx
    refine ⟨(List.range l.length).map f, ⟨_, cap, rfl, ?_, ?_, .inr ⟨_, rfl, ?_⟩⟩, by simp, fun i hi h' => ?_⟩
    · rw [List.length_flatten, List.map_map]
      have : (List.map (List.length ∘ f) (List.range l.length)) = List.replicate l.length s := by
        rw [List.eq_replicate_iff]; refine ⟨by simp, fun b hb => ?_⟩
        obtain ⟨i, hi, rfl⟩ := List.mem_map.1 hb
        exact (hf i (by simpa using hi)).2.1
      rw [this]; simp
    · intro u hu
      obtain ⟨cs, hcs, hu⟩ := List.mem_flatten.1 hu
      obtain ⟨i, hi, rfl⟩ := List.mem_map.1 hcs
      have hi' : i < l.length := by simpa using hi
      exact hone _ _ ((hf i hi').1 hi') u hu
    · intro j u hj
      have hall : ∀ x ∈ (List.range l.length).map f, x.length = s := fun x hx => by
        obtain ⟨i, hi, rfl⟩ := List.mem_map.1 hx
        exact (hf i (by simpa using hi)).2.1
      obtain ⟨i, k, hi, hk, he, hu⟩ := flatten_at hall hj
      rw [addr_add, he]
      have hi' : i < l.length := by simpa using hi
      have := (hf i hi').2.2 k (by simpa using hk)
      rw [← Nat.add_assoc, this, ← hu]
      simp
    · have := hf i hi
      exact ⟨by simpa using this.1 hi, by simpa using this.2.1⟩
where
  flatten_at {s : Nat} {xs : List (List Value)} (hall : ∀ x ∈ xs, x.length = s) {j : Nat} {u : Value} (hj : xs.flatten[j]? = some u) :
      ∃ i k, ∃ (hi : i < xs.length) (hk : k < xs[i].length), j = i * s + k ∧ xs[i][k] = u := by
    induction xs generalizing j with
    | nil => simp at hj
    | cons x xs ih =>
      have hx := hall x (by simp)
      rw [List.flatten_cons] at hj
      by_cases h : j < x.length
      · rw [List.getElem?_append_left h] at hj
        obtain ⟨_, h2⟩ := List.getElem?_eq_some_iff.1 hj
        exact ⟨0, j, by simp, by simpa using h, by simp, by simpa using h2⟩
      · rw [List.getElem?_append_right (by omega)] at hj
        obtain ⟨i, k, hi, hk, he, hu⟩ := ih (fun y hy => hall y (by simp [hy])) hj
        refine ⟨i + 1, k, by simpa using hi, by simpa using hk, ?_, by simpa using hu⟩
        rw [Nat.succ_mul]; omega
end Go.Proofs.Ytdieipdbkpcgmaa

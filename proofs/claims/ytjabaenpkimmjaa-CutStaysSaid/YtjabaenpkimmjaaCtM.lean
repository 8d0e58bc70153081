/- Cut: lines that follow, as functions; the code's way (a map) and the document's (the next variable, again and again) are one. No program is in sight. -/
import Derived.Test.YtjabaenpkimmjaaRows
namespace Go.Proofs.Ytjabaenpkimmjaa
set_option linter.unusedSimpArgs false
set_option linter.unusedVariables false
abbrev Tm := Int × Int
/-- A form: its constant, its terms (variable, coefficient). -/
structure Ln where
  c : Int
  t : List Tm
/-- A step: its parts (line, times), its divisor. -/
structure Stp where
  parts : List Tm
  div : Int
def coefB (k : Int) : Bool := decide (-1073741824 ≤ k) && decide (k ≤ 1073741824)
def varB (v : Int) : Bool := decide (0 ≤ v) && decide (v < 1048576)
def termB (last : Int) (m : Tm) : Bool := varB m.1 && (coefB m.2 && (!decide (m.2 = 0) && decide (last < m.1)))
def termsB : Int → List Tm → Bool
  | _, [] => true
  | last, m :: r => termB last m && termsB m.1 r
/-- Is a form sound? -/
def linB (l : Ln) : Bool := coefB l.c && (decide (l.t.length ≤ 64) && termsB (-1) l.t)
/-! ### Sums of terms. -/
def sumT : List Tm → Int → Int
  | [], _ => 0
  | m :: r, v => (if m.1 = v then m.2 else 0) + sumT r v
def keyIn (ts : List Tm) (v : Int) : Prop := ∃ m ∈ ts, m.1 = v
def timesT (p : Int) (t : List Tm) : List Tm := t.map fun m => (m.1, p * m.2)
theorem sumT_app : ∀ (a b : List Tm) (v : Int), sumT (a ++ b) v = sumT a v + sumT b v
  | [], b, v => by simp [sumT]
  | m :: r, b, v => by rw [List.cons_append, sumT, sumT, sumT_app r b v]; omega
/-! ### The map. -/
def getM : List Tm → Int → Int
  | [], _ => 0
  | m :: r, v => if m.1 = v then m.2 else getM r v
def putM : List Tm → Int → Int → List Tm
  | [], v, x => [(v, x)]
  | m :: r, v, x => if m.1 = v then (m.1, x) :: r else m :: putM r v x
def addM (M : List Tm) (m : Tm) : List Tm := putM M m.1 (getM M m.1 + m.2)
theorem getM_put : ∀ (M : List Tm) (v x u : Int), getM (putM M v x) u = if v = u then x else getM M u
  | [], v, x, u => by simp [putM, getM]
  | m :: r, v, x, u => by
    unfold putM
    by_cases h : m.1 = v
    · rw [if_pos h]
      unfold getM
      by_cases h2 : m.1 = u
      · rw [if_pos h2, if_pos (by omega)]
      · rw [if_neg h2, if_neg (by omega), if_neg h2]
    · rw [if_neg h]
      unfold getM
      by_cases h2 : m.1 = u
      · rw [if_pos h2, if_neg (by omega), if_pos h2]
      · rw [if_neg h2, getM_put r v x u, if_neg h2]
theorem keys_put : ∀ (M : List Tm) (v x : Int), (putM M v x).map (·.1) = if v ∈ M.map (·.1) then M.map (·.1) else M.map (·.1) ++ [v]
  | [], v, x => by simp [putM]
  | m :: r, v, x => by
    unfold putM
    by_cases h : m.1 = v
    · rw [if_pos h, if_pos (by simp [h])]; rfl
    · have h' : ¬ v = m.1 := fun e => h e.symm
      rw [if_neg h, List.map_cons, keys_put r v x]
      by_cases h2 : v ∈ r.map (·.1)
      · rw [if_pos h2, if_pos (by rw [List.map_cons]; exact List.mem_cons_of_mem _ h2)]; rfl
      · rw [if_neg h2, if_neg (by rw [List.map_cons, List.mem_cons]; exact fun e => e.elim h' h2)]; rfl
/-- What a map of sums is. -/
structure MapOf (M ts : List Tm) : Prop where
  get : ∀ v, getM M v = sumT ts v
  key : ∀ v, v ∈ M.map (·.1) ↔ v ∈ ts.map (·.1)
  nd : (M.map (·.1)).Nodup
theorem mapOf_nil : MapOf [] [] := ⟨fun v => rfl, fun v => Iff.rfl, List.nodup_nil⟩
theorem MapOf.add {M ts : List Tm} (h : MapOf M ts) (m : Tm) : MapOf (addM M m) (ts ++ [m]) := by
  refine ⟨fun v => ?_, fun v => ?_, ?_⟩
  · unfold addM
    rw [getM_put, sumT_app]
    simp only [sumT]
    by_cases hv : m.1 = v
    · subst hv; rw [if_pos rfl, if_pos rfl, h.get]; omega
    · rw [if_neg hv, if_neg hv, h.get]; omega
  · unfold addM
    rw [keys_put]
    by_cases hm : m.1 ∈ M.map (·.1)
    · rw [if_pos hm, h.key, List.map_append, List.mem_append]
      constructor
      · exact .inl
      · rintro (hv | hv)
        · exact hv
        · simp at hv; subst hv; exact (h.key _).1 hm
    · rw [if_neg hm, List.map_append, List.mem_append, List.mem_append, h.key]
      simp
  · unfold addM
    rw [keys_put]
    by_cases hm : m.1 ∈ M.map (·.1)
    · rw [if_pos hm]; exact h.nd
    · rw [if_neg hm]
      exact List.nodup_append.2 ⟨h.nd, by simp, fun x hx y hy => by simp at hy; subst hy; intro e; exact hm (e ▸ hx)⟩
theorem MapOf.addAll {M ts : List Tm} (h : MapOf M ts) : ∀ l : List Tm, MapOf (l.foldl addM M) (ts ++ l)
  | [] => by rw [List.append_nil]; exact h
  | m :: r => by
    have := (h.add m).addAll r
    rw [List.append_assoc] at this
    exact this
/-! ### Sorted keys. -/
abbrev SortedI (l : List Int) : Prop := l.Pairwise (· < ·)
theorem sorted_unique : ∀ {a b : List Int}, SortedI a → SortedI b → (∀ x, x ∈ a ↔ x ∈ b) → a = b
  | [], [], _, _, _ => rfl
  | [], y :: b, _, _, h => absurd ((h y).2 (by simp)) (by simp)
  | x :: a, [], _, _, h => absurd ((h x).1 (by simp)) (by simp)
  | x :: a, y :: b, ha, hb, h => by
    have ha := List.pairwise_cons.1 ha
    have hb := List.pairwise_cons.1 hb
    have hxy : x = y := by
      have h1 := (h x).1 (by simp)
      have h2 := (h y).2 (by simp)
      rcases List.mem_cons.1 h1 with e | h1
      · exact e
      · rcases List.mem_cons.1 h2 with e | h2
        · exact e.symm
        · have := ha.1 y h2
          have := hb.1 x h1
          omega
    subst hxy
    have : a = b := sorted_unique ha.2 hb.2 fun z => by
      have hz := h z
      simp only [List.mem_cons] at hz
      constructor
      · intro hza
        rcases hz.1 (.inr hza) with e | e
        · subst e; have := ha.1 z hza; omega
        · exact e
      · intro hzb
        rcases hz.2 (.inr hzb) with e | e
        · subst e; have := hb.1 z hzb; omega
        · exact e
    rw [this]
def srtI (l : List Int) : List Int := l.mergeSort fun x y => decide (x ≤ y)
theorem srtI_mem (l : List Int) (x : Int) : x ∈ srtI l ↔ x ∈ l := by unfold srtI; exact List.mem_mergeSort
theorem srtI_sorted {l : List Int} (h : l.Nodup) : SortedI (srtI l) := by
  have h1 : (srtI l).Pairwise (fun x y => decide (x ≤ y) = true) := List.pairwise_mergeSort (le := fun x y => decide (x ≤ y)) (by intro a b c; simp; omega) (by intro a b; simp; omega) l
  have h2 : (srtI l).Nodup := (List.mergeSort_perm l _).nodup_iff.2 h
  have h3 := h1.and h2
  exact h3.imp fun ⟨ha, hb⟩ => by simp at ha; omega
/-- The variables of terms: sorted, each once. -/
def keysT : List Tm → List Int
  | [] => []
  | m :: r => if m.1 ∈ keysT r then keysT r else m.1 :: keysT r
theorem keysT_mem : ∀ (ts : List Tm) (v : Int), v ∈ keysT ts ↔ v ∈ ts.map (·.1)
  | [], v => by simp [keysT]
  | m :: r, v => by
    have ih := keysT_mem r
    unfold keysT
    rw [List.map_cons, List.mem_cons]
    split
    · rename_i h
      rw [ih v]
      constructor
      · exact .inr
      · rintro (e | e)
        · subst e; exact (ih _).1 h
        · exact e
    · rw [List.mem_cons, ih v]
theorem keysT_nd : ∀ ts : List Tm, (keysT ts).Nodup
  | [] => List.nodup_nil
  | m :: r => by
    unfold keysT
    split
    · exact keysT_nd r
    · rename_i h; exact List.nodup_cons.2 ⟨h, keysT_nd r⟩
def varsT (ts : List Tm) : List Int := srtI (keysT ts)
theorem varsT_mem (ts : List Tm) (v : Int) : v ∈ varsT ts ↔ v ∈ ts.map (·.1) := by unfold varsT; rw [srtI_mem, keysT_mem]
theorem varsT_sorted (ts : List Tm) : SortedI (varsT ts) := srtI_sorted (keysT_nd ts)
theorem MapOf.sorted {M ts : List Tm} (h : MapOf M ts) : srtI (M.map (·.1)) = varsT ts :=
  sorted_unique (srtI_sorted h.nd) (varsT_sorted ts) fun x => by rw [srtI_mem, h.key, varsT_mem]
/-! ### The document's way: the next variable. -/
def nextF (last : Int) : List Tm → Int → Int
  | [], best => best
  | m :: r, best => nextF last r (if last < m.1 ∧ (best < 0 ∨ m.1 < best) then m.1 else best)
theorem nextF_spec (last : Int) (hl : -1 ≤ last) : ∀ (ts : List Tm) (best : Int), (best < 0 ∨ last < best) → (∀ m ∈ ts, 0 ≤ m.1) →
    (nextF last ts best < 0 ↔ best < 0 ∧ ∀ m ∈ ts, m.1 ≤ last) ∧
    (0 ≤ nextF last ts best → last < nextF last ts best ∧ (nextF last ts best = best ∨ nextF last ts best ∈ ts.map (·.1)) ∧ (0 ≤ best → nextF last ts best ≤ best) ∧ ∀ m ∈ ts, last < m.1 → nextF last ts best ≤ m.1)
  | [], best, hb, _ => ⟨by simp [nextF], fun h => ⟨by unfold nextF at h ⊢; omega, .inl rfl, fun _ => Int.le_refl _, fun m hm => absurd hm List.not_mem_nil⟩⟩
  | m :: r, best, hb, hp => by
    have hm0 := hp m (by simp)
    have hr : ∀ x ∈ r, 0 ≤ x.1 := fun x hx => hp x (List.mem_cons_of_mem _ hx)
    unfold nextF
    by_cases hc : last < m.1 ∧ (best < 0 ∨ m.1 < best)
    · rw [if_pos hc]
      obtain ⟨h1, h2⟩ := nextF_spec last hl r m.1 (.inr hc.1) hr
      refine ⟨⟨fun h => ?_, fun h => ?_⟩, fun h => ?_⟩
      · have := (h1.1 h).1; omega
      · have := h.2 m (by simp); omega
      · obtain ⟨a1, a2, a3, a4⟩ := h2 h
        have a3 := a3 hm0
        refine ⟨a1, .inr ?_, fun hb0 => by omega, fun x hx hlx => ?_⟩
        · rcases a2 with a2 | a2
          · rw [a2]; simp
          · rw [List.map_cons]; exact List.mem_cons_of_mem _ a2
        · rcases List.mem_cons.1 hx with rfl | hx
          · exact a3
          · exact a4 x hx hlx
    · rw [if_neg hc]
      obtain ⟨h1, h2⟩ := nextF_spec last hl r best hb hr
      refine ⟨⟨fun h => ?_, fun h => ?_⟩, fun h => ?_⟩
      · obtain ⟨b1, b2⟩ := h1.1 h
        refine ⟨b1, fun x hx => ?_⟩
        rcases List.mem_cons.1 hx with rfl | hx
        · omega
        · exact b2 x hx
      · exact h1.2 ⟨h.1, fun x hx => h.2 x (List.mem_cons_of_mem _ hx)⟩
      · obtain ⟨a1, a2, a3, a4⟩ := h2 h
        refine ⟨a1, ?_, a3, fun x hx hlx => ?_⟩
        · rcases a2 with a2 | a2
          · exact .inl a2
          · exact .inr (by rw [List.map_cons]; exact List.mem_cons_of_mem _ a2)
        · rcases List.mem_cons.1 hx with rfl | hx
          · by_cases hb0 : best < 0
            · omega
            · have := a3 (by omega); omega
          · exact a4 x hx hlx
def nextV (ts : List Tm) (last : Int) : Int := nextF last ts (-1)
/-- Behind a variable of the sorted list comes the next one. -/
theorem nextV_at {ts : List Tm} (hp : ∀ m ∈ ts, 0 ≤ m.1) {L pre : List Int} {v : Int} (hL : SortedI (pre ++ v :: L)) (hm : ∀ x, x ∈ pre ++ v :: L ↔ x ∈ ts.map (·.1)) {last : Int} (hl : -1 ≤ last) (hpre : ∀ x ∈ pre, x ≤ last) (hlv : last < v) : nextV ts last = v := by
  obtain ⟨h1, h2⟩ := nextF_spec last hl ts (-1) (.inl (by decide)) hp
  obtain ⟨_, hs2, hs3⟩ := List.pairwise_append.1 hL
  have hs2 := List.pairwise_cons.1 hs2
  have hv : v ∈ ts.map (·.1) := (hm v).1 (by simp)
  obtain ⟨m, hmm, hmv⟩ := List.mem_map.1 hv
  have h0 : 0 ≤ nextF last ts (-1) := by
    by_cases h : nextF last ts (-1) < 0
    · have := (h1.1 h).2 m hmm; omega
    · omega
  obtain ⟨a1, a2, _, a4⟩ := h2 h0
  have a4 := a4 m hmm (by omega)
  unfold nextV
  rcases a2 with a2 | a2
  · omega
  · have := (hm _).2 a2
    rcases List.mem_append.1 this with h | h
    · have := hpre _ h; omega
    · rcases List.mem_cons.1 h with h | h
      · exact h
      · have := hs2.1 _ h; omega
theorem nextV_end {ts : List Tm} (hp : ∀ m ∈ ts, 0 ≤ m.1) {pre : List Int} (hm : ∀ x, x ∈ pre ↔ x ∈ ts.map (·.1)) {last : Int} (hl : -1 ≤ last) (hpre : ∀ x ∈ pre, x ≤ last) : nextV ts last < 0 := by
  obtain ⟨h1, _⟩ := nextF_spec last hl ts (-1) (.inl (by decide)) hp
  exact h1.2 ⟨by decide, fun m hmm => hpre _ ((hm _).2 (List.mem_map.2 ⟨m, hmm, rfl⟩))⟩
theorem next_step {ts : List Tm} {vs : List Int} (hs : SortedI vs) (hm : ∀ x, x ∈ vs ↔ x ∈ ts.map (·.1)) (hp : ∀ m ∈ ts, 0 ≤ m.1) {n : Nat} {last : Int} (hn : n < vs.length) (hl : -1 ≤ last) (h1 : ∀ x ∈ vs.take n, x ≤ last) (h2 : ∀ x ∈ vs.drop n, last < x) :
    nextV ts last = vs[n] ∧ (∀ x ∈ vs.take (n + 1), x ≤ vs[n]) ∧ (∀ x ∈ vs.drop (n + 1), vs[n] < x) ∧ 0 ≤ vs[n] := by
  have e : vs = vs.take n ++ vs[n] :: vs.drop (n + 1) := by rw [← List.drop_eq_getElem_cons hn, List.take_append_drop]
  have hlv : last < vs[n] := h2 _ (by rw [List.drop_eq_getElem_cons hn]; exact List.mem_cons_self)
  refine ⟨nextV_at hp (pre := vs.take n) (L := vs.drop (n + 1)) (by rw [← e]; exact hs) (fun x => by rw [← e]; exact hm x) hl h1 hlv, fun x hx => ?_, fun x hx => ?_, ?_⟩
  · rw [List.take_succ_eq_append_getElem hn] at hx
    rcases List.mem_append.1 hx with h | h
    · have := h1 x h; omega
    · simp at h; omega
  · have hs' := hs
    rw [e] at hs'
    exact (List.pairwise_cons.1 (List.pairwise_append.1 hs').2.1).1 x hx
  · obtain ⟨m, hm1, hm2⟩ := List.mem_map.1 ((hm vs[n]).1 (List.getElem_mem hn))
    rw [← hm2]; exact hp m hm1
theorem keysT_le : ∀ ts : List Tm, (keysT ts).length ≤ ts.length
  | [] => Nat.le_refl _
  | m :: r => by
    have := keysT_le r
    unfold keysT
    split
    · rw [List.length_cons]; omega
    · rw [List.length_cons, List.length_cons]; omega
/-! ### A step. -/
def farB (k : Int) : Bool := decide (k < -4398046511104) || decide (4398046511104 < k)
def upZ (a g : Int) : Int := a.tdiv g + (if 0 < a.tmod g then 1 else 0)
/-- The terms of a sum, divided. -/
def outT (ts : List Tm) (div : Int) : List Int → List Tm
  | [] => []
  | v :: r => if sumT ts v = 0 then outT ts div r else (v, (sumT ts v).tdiv div) :: outT ts div r
def anyFar (ts : List Tm) (vs : List Int) : Bool := vs.any fun v => farB (sumT ts v)
def anyRest (ts : List Tm) (div : Int) (vs : List Int) : Bool := vs.any fun v => !decide ((sumT ts v).tmod div = 0)
def dividedN (c : Int) (ts : List Tm) (div : Int) : Nat × Ln :=
  if div < 1 ∨ 1073741824 < div then (1, ⟨0, []⟩)
  else if farB c || anyFar ts (varsT ts) then (3, ⟨0, []⟩)
  else if anyRest ts div (varsT ts) then (7, ⟨0, []⟩)
  else if !coefB (upZ c div) || (outT ts div (varsT ts)).any (fun m => !coefB m.2) then (3, ⟨0, []⟩)
  else if 64 < (outT ts div (varsT ts)).length then (2, ⟨0, []⟩)
  else (0, ⟨upZ c div, outT ts div (varsT ts)⟩)
/-- The parts together: an error's number, the constant, the terms. -/
def partsN (ls : List Ln) : List Tm → Int → List Tm → Nat × Int × List Tm
  | [], c, ts => (0, c, ts)
  | p :: r, c, ts => if p.1 < 0 ∨ (ls.length : Int) ≤ p.1 then (6, 0, []) else if p.2 < 1 ∨ 4096 < p.2 then (1, 0, [])
    else partsN ls r (c + p.2 * (ls.getD p.1.toNat ⟨0, []⟩).c) (ts ++ timesT p.2 (ls.getD p.1.toNat ⟨0, []⟩).t)
def stepN (ls : List Ln) (s : Stp) : Nat × Ln :=
  if 64 < s.parts.length then (2, ⟨0, []⟩) else
  let q := partsN ls s.parts 0 []
  if q.1 = 0 then dividedN q.2.1 q.2.2 s.div else (q.1, ⟨0, []⟩)
def stepsN : List Stp → Nat → List Ln → Nat × Int × List Ln
  | [], _, ls => (0, -1, ls)
  | s :: r, i, ls => if (stepN ls s).1 = 0 then stepsN r (i + 1) (ls ++ [(stepN ls s).2]) else ((stepN ls s).1, i, [])
def firstBad : List Ln → Nat → Option Nat
  | [], _ => none
  | l :: r, i => if linB l then firstBad r (i + 1) else some i
/-- All lines of a proof: an error's number, its place, the lines. -/
def linesN (ps : List Ln) (ss : List Stp) : Nat × Int × List Ln :=
  if 4096 < ps.length ∨ 4096 < ss.length then (2, -1, []) else
  match firstBad ps 0 with
  | some i => (5, i, [])
  | none => stepsN ss 0 ps
def refutesN (ps : List Ln) (ss : List Stp) : Nat × Int :=
  let q := linesN ps ss
  if q.1 = 0 then (if q.2.2.any (fun l => l.t.isEmpty && decide (0 < l.c)) then (0, -1) else (8, -1)) else (q.1, q.2.1)
end Go.Proofs.Ytjabaenpkimmjaa

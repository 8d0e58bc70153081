/- K: append, sound. No program is in sight. -/
import Derived.Test.YtjabaenpkimmjaaKH
namespace Go.Proofs.Ytjabaenpkimmjaa
set_option linter.unusedSimpArgs false
set_option linter.unusedVariables false
open Go.RowKit

section
variable {P : Program} {w : World}
theorem not_int (d : TypeDesc) (hd : ∀ k, d ≠ .int k) : (match d with | .int _ => true | _ => false) = false := by
  revert hd
  cases d <;> intro hd <;> first | rfl | exact absurd rfl (hd _)
theorem run_append_room' {t t' ty e sz n cap m : Nat} (he : elemOf P t = some e) (hsz : szOf P e = some sz) {d : TypeDesc} (hu : P.underlying t' = some d) (hd : ∀ k, d ≠ .int k) {base : Option Addr} {x : Value}
    (hlen : (Builtin.lenOf x).run P w = .ok m w) {vals : List Value} (hf : (Builtin.firstCells sz m x).run P w = .ok vals.toArray w) (hroom : n + m ≤ cap) {w' : World}
    (hst : ∀ a, base = some a → (storeCells (a.add (n * sz)) vals).run P w = .ok () w') (hn : base = none → w' = w) :
    (Builtin.append_ #[t, t'] ty #[.slice base n cap, x]).run P w = .ok (.slice base (n + m) cap) w' := by
  have hs := run_szOf (P := P) (w := w) hsz
  have hz := not_int d hd
  cases base with
  | none =>
    obtain rfl := hn rfl
    simp [Builtin.append_, run_underlying (und_elem he), run_underlying hu, hs, hz, hlen, hroom, hf]
  | some a =>
    have := hst a rfl
    simp [Builtin.append_, run_underlying (und_elem he), run_underlying hu, hs, hz, hlen, hroom, hf, this]
theorem run_append_grow' {t t' ty e sz n cap m : Nat} (he : elemOf P t = some e) (hsz : szOf P e = some sz) {d : TypeDesc} (hu : P.underlying t' = some d) (hd : ∀ k, d ≠ .int k) {base : Option Addr} {x : Value} {z : List Value} (hz : zeroOf P e = some z)
    (hlen : (Builtin.lenOf x).run P w = .ok m w) {vals olds : List Value} (hf : (Builtin.firstCells sz m x).run P w.drew = .ok vals.toArray w.drew) (ho : (Builtin.firstCells sz n (.slice base n cap)).run P w.drew = .ok olds.toArray w.drew)
    (hroom : cap < n + m) (hb : (n + m) * bytesOfT P e ≤ 140737488355328) (h63 : n + m ≤ 140737488355328) :
    ∃ zs : Array Value, zs.size = (grownCap w (n + m) cap e - (n + m)) * z.length ∧
    (Builtin.append_ #[t, t'] ty #[.slice base n cap, x]).run P w = .ok (.slice (some ⟨w.heap.size, 0, none⟩) (n + m) (grownCap w (n + m) cap e)) (w.drew.alloc (.cells ((olds ++ vals).toArray ++ zs) e)) := by
  have hs := run_szOf (P := P) (w := w) hsz
  obtain ⟨i, v, hi, hiz, hv⟩ := zero_of hz
  have hbb : bytesOfT P e = i.bytes := by simp [bytesOfT, hi]
  rw [hbb] at hb
  have hfit := growslice_fits hroom hb
  have h1 : ¬ n + m ≤ cap := by omega
  have h2 : ¬ (9223372036854775807 < ((n : Int) + (m : Int))) := by omega
  have h3 : ¬ (281474976710656 < Builtin.nextslicecap (n + m) cap * i.bytes) := by omega
  refine ⟨Builtin.zeroCells v.cells (grownCap w (n + m) cap e - (n + m)), by rw [size_zeroCells, ← hv]; simp, ?_⟩
  have hzz := not_int d hd
  simp [Builtin.append_, run_underlying (und_elem he), run_underlying hu, hs, hzz, hlen, h1, h2, h3, typeInfo, zeroValue, hi, hiz, Question.forced, hf, ho, newRow, grownCap]
  congr 2; rw [← List.append_toArray, Array.append_assoc]
end

section
variable {E : Env} {o : Oper} {σ : AMap} {a : Act} {w : World} {G : Gh}
/-- A source of an append: its cells. -/
theorem src_cells' (h : Sim E σ a w G) {cs : List AV} {n sz : Nat} {ad : Option Addr} {cap b off : Nat} {f : Nat → Value} (hs : SlAt G cs n ad cap b off f) (hl : cs.length = n * sz) :
    ∃ vals : List Value, PCRel G.Z vals cs ∧ (∀ w' : World, w'.heap = w.heap → (Builtin.firstCells sz n (.slice ad n cap)).run E.P w' = .ok vals.toArray w') ∧
      ∀ g, ad = some ⟨g, 0, none⟩ → ∀ j, j < vals.length → G.Z g j = some (vals.getD j undef) := by
  obtain ⟨h1, h2, h3, h4, h5⟩ := hs
  refine ⟨(List.range cs.length).map f, ⟨by simp, fun j hj => ?_⟩, fun w' hw' => ?_, fun g hg j hj => ?_⟩
  · have := h.st.agree _ _ _ (h4 j hj)
    simpa [List.getD_eq_getElem?_getD, hj] using And.intro (h5 j hj) this.2
  · have hcell : ∀ j v, ((List.range cs.length).map f)[j]? = some v → w'.cell? ⟨b, off + j, none⟩ = some v := fun j v hj => by
      obtain ⟨e1, e2⟩ := List.getElem?_eq_some_iff.1 hj
      have e1' : j < cs.length := by simpa using e1
      have := (h.st.agree _ _ _ (h4 j e1')).1
      have e3 : w'.cell? ⟨b, off + j, none⟩ = w.cell? ⟨b, off + j, none⟩ := World.cell?_of_block (a := ⟨b, off + j, none⟩) (by rw [hw'])
      rw [e3, this, ← e2]; simp
    rcases h3 with ⟨rfl, rfl⟩ | rfl
    · cases ad <;> simp [Builtin.firstCells, loadCells, loadCellsFrom]
    · refine run_firstCells_some (P := E.P) w' sz n ⟨b, off, none⟩ n cap _ (by simpa using hl) fun j v hj => ?_
      rw [Addr.add_mid]; exact hcell j v hj
  · have hj' : j < cs.length := by simpa using hj
    rcases h3 with ⟨rfl, rfl⟩ | h3
    · simp at hj'
    · rw [h3] at hg
      cases hg
      have := h4 j hj'
      simpa [List.getD_eq_getElem?_getD, hj'] using this

/-- What is behind a slice that may grow by the name kb. -/
def CanGrow (E : Env) (G : Gh) (B : Nat → AV) (kb n e cap : Nat) (ad : Option Addr) : Prop :=
  (10000 ≤ kb ∧ kb < 1000000) ∧ ((cap = n ∧ G.γ kb = none ∧ (B kb = .u ∨ B kb = .bt n e)) ∨ ∃ g, G.γ kb = some g ∧ ad = some ⟨g, 0, none⟩ ∧ cap = G.κ kb ∧ B kb = .bt n e)

theorem getD_append_left {l l' : List Value} {j : Nat} (h : j < l.length) : (l ++ l').getD j undef = l.getD j undef := by
  simp [List.getD_eq_getElem?_getD, List.getElem?_append_left h]
theorem PCRel.append {Z : Seal} {vs vs' : List Value} {cs cs' : List AV} (h : PCRel Z vs cs) (h' : PCRel Z vs' cs') : PCRel Z (vs ++ vs') (cs ++ cs') := by
  have := CRel.append (G := ⟨Z, fun _ => none, fun _ => 0, fun _ => 0⟩) (B := fun _ => .u) (.of_pure h) (.of_pure h')
  exact ⟨this.1, fun j hj => ⟨pure_of_none (this.2 j hj).1, (this.2 j hj).2⟩⟩
theorem PCRel.mono {Z Z' : Seal} (hZ : SealLe Z Z') {vs : List Value} {cs : List AV} (h : PCRel Z vs cs) : PCRel Z' vs cs := ⟨h.1, fun j hj => ⟨(h.2 j hj).1.mono hZ, (h.2 j hj).2⟩⟩

theorem app_state {d kb n m e sz : Nat} {cs news : List AV} (hd : d < 10000) (hkb : 10000 ≤ kb) (k : Nat) :
    mget (mupd σ [(kb, .bt (n + m) e), (d, .sl (cs ++ news) (n + m) (.tok kb))]) k = if d = k then .sl (cs ++ news) (n + m) (.tok kb) else if kb = k then .bt (n + m) e else mget σ k := by
  simp only [mupd, mget_mset]

/-- The state behind an append: the row lies in block g now. -/
theorem Sim.app (h : Sim E σ a w G) {d kb n m e sz : Nat} (hd : d < E.N ∧ d < 10000) {cs news : List AV} {ad : Option Addr} {cap : Nat} (hg : CanGrow E G (lm σ) kb n e cap ad) (hsz : E.P.cellsOf e = sz)
    {G' : Gh} (hle : SealLe G.Z G'.Z) (hγ : ∀ k, k ≠ kb → G'.γ k = G.γ k ∧ G'.κ k = G.κ k ∧ G'.β k = G.β k) (hsame : m = 0 → G'.γ kb = G.γ kb ∧ G'.κ kb = G.κ kb)
    {w' : World} (hw : WStep E.Pr w w') (hzp : ∀ b o, E.Pr b → G'.Z b o = G.Z b o) (hag : ∀ b o v, G'.Z b o = some v → w'.cell? ⟨b, o, none⟩ = some v ∧ v.oneCell' = true)
    (hblk : ∀ k g, k ≠ kb → G.γ k = some g → w'.heap[g]? = w.heap[g]? ∧ G'.γ kb ≠ some g ∧ ∀ o, G'.Z g o = G.Z g o)
    (hrow : ∀ g, G'.γ kb = some g → ¬ E.Pr g ∧ RowAt E.P G' w' g (G'.κ kb) (n + m) e)
    {v : Value} {cap' : Nat} {ad' : Option Addr} (hv : v = .slice ad' (n + m) cap') (hp : PRel G'.Z (.slice ad' (n + m) cap') (.sl (cs ++ news) (n + m) .none)) (htok : TokAt G' kb ad' (n + m) cap') :
    Sim E (mupd σ [(kb, .bt (n + m) e), (d, .sl (cs ++ news) (n + m) (.tok kb))]) (a.put (some d) v) w' G' := by
  subst hv
  have hkb := hg.1.1
  have hm := fun k => app_state (σ := σ) (sz := sz) (e := e) (n := n) (m := m) (cs := cs) (news := news) hd.2 hkb k
  have hB : lm σ kb = .u ∨ lm σ kb = .bt n e := by rcases hg.2 with ⟨_, _, h⟩ | ⟨g, _, _, _, h⟩; exact h; exact .inr h
  have hbox : ∀ k, 10000 ≤ k → lm (mupd σ [(kb, .bt (n + m) e), (d, .sl (cs ++ news) (n + m) (.tok kb))]) k = if kb = k then .bt (n + m) e else lm σ k := lk_set (fun k hk _ => by
    rw [hm, if_neg (by omega)]) hg.1.2 (by
      have e1 : lm σ kb = mget σ kb := lk_real hg.1.2
      rw [← e1]
      rcases hB with hB | hB <;> rw [hB] <;> rfl) rfl
  have hs : BStep G (lm σ) G' (lm (mupd σ [(kb, .bt (n + m) e), (d, .sl (cs ++ news) (n + m) (.tok kb))])) := ⟨hle, fun k hk => by
    rw [hbox k hk]
    by_cases e1 : kb = k
    · subst e1
      rw [if_pos rfl]
      rcases hB with hB | hB
      · exact .u hB
      · refine .bt hB rfl ?_
        by_cases hm0 : m = 0
        · exact .inr ⟨by omega, hsame hm0⟩
        · exact .inl (by omega)
    · rw [if_neg e1]
      obtain ⟨g1, g2, g3⟩ := hγ k (fun h => e1 h.symm)
      exact .same rfl g1 g2 g3⟩
  refine h.put (dst := some d) (x := .sl (cs ++ news) (n + m) (.tok kb)) (fun _ e => by cases e; exact hd) hs ⟨hag, fun k g hk => ?_, fun k cs' ty hk hc => ?_, fun k k' g h1 h2 => ?_, h.st.gl.mono hle⟩ hw hzp
    (.tok ad' (n + m) cap' (cs ++ news) kb (n + m) e hp hkb (by rw [hbox _ hkb, if_pos rfl]) (Nat.le_refl _) fun _ => htok) fun t ht => ?_
  · by_cases e1 : k = kb
    · subst e1
      obtain ⟨r1, r2⟩ := hrow g hk
      exact ⟨hkb, r1, .inr (.inl ⟨n + m, e, by rw [hbox _ hkb, if_pos rfl], r2⟩)⟩
    · rw [(hγ k e1).1] at hk
      obtain ⟨h1, h2, h3⟩ := h.st.box k g hk
      obtain ⟨q1, _, q3⟩ := hblk k g e1 hk
      exact ⟨h1, h2, h3.step hs (by rw [hbox k h1, if_neg (fun h => e1 h.symm)]) (hγ k e1).2.1 (hγ k e1).2.2 q1 q3⟩
  · rw [hbox k hk] at hc
    by_cases e1 : kb = k
    · rw [if_pos e1] at hc; cases hc
    · rw [if_neg e1] at hc
      obtain ⟨g, hg⟩ := h.st.real k cs' ty hk hc
      exact ⟨g, (hγ k (fun h => e1 h.symm)).1.trans hg⟩
  · by_cases e1 : k = kb <;> by_cases e2 : k' = kb
    · omega
    · subst e1
      rw [(hγ k' e2).1] at h2
      exact absurd h1 (hblk k' g e2 h2).2.1
    · subst e2
      rw [(hγ k e1).1] at h1
      exact absurd h2 (hblk k g e1 h1).2.1
    · exact h.st.inj k k' g ((hγ k e1).1.symm.trans h1) ((hγ k' e2).1.symm.trans h2)
  · rw [hm]
    by_cases e1 : d = t
    · subst e1; simp
    · rw [if_neg e1, if_neg (by omega), if_neg (by simpa using fun e' => e1 e'.symm)]

theorem good_app (h : Sim E σ a w G) {d kb n m e sz t t' ty : Nat} (hdst : o.dst = some d) (hd : d < E.N ∧ d < 10000) {cs news : List AV} {ad : Option Addr} {cap b off : Nat} {f : Nat → Value} (hs : SlAt G cs n ad cap b off f) (hl : cs.length = n * sz)
    (he : elemOf E.P t = some e) (hsz : szOf E.P e = some sz) (hsz0 : 0 < sz) {z : List Value} (hz : zeroOf E.P e = some z) (hzl : z.length = sz) {desc : TypeDesc} (hu : E.P.underlying t' = some desc) (hdd : ∀ k, desc ≠ .int k)
    (hb : (n + m) * bytesOfT E.P e ≤ 140737488355328) (h63 : n + m ≤ 140737488355328)
    (hg : CanGrow E G (lm σ) kb n e cap ad) {x : Value} {vals : List Value} (hvals : PCRel G.Z vals news) (hnl : news.length = m * sz) (hlen : ∀ w' : World, (Builtin.lenOf x).run E.P w' = .ok m w')
    (hf : ∀ w' : World, w'.heap = w.heap → (Builtin.firstCells sz m x).run E.P w' = .ok vals.toArray w')
    (hrun : ∀ r : Result Value, (Builtin.append_ #[t, t'] ty #[.slice ad n cap, x]).run E.P w = r → (execOp a.eval o).run E.P w = r.andThen fun v w' => .ok (.value v) w') :
    Good E o σ a w [(kb, .bt (n + m) e), (d, .sl (cs ++ news) (n + m) (.tok kb))] := fun Q => by
  have hcells : E.P.cellsOf e = sz := by unfold szOf at hsz; simp [Program.cellsOf, hsz]
  obtain ⟨olds, holds, hfo, hzo⟩ := src_cells' h hs hl
  have hlo : olds.length = n * sz := holds.1.trans hl
  have hlv : vals.length = m * sz := hvals.1.trans hnl
  have hkb := hg.1.1
  unfold Oper.wp
  by_cases hgrow : cap < n + m
  · -- a new row
    obtain ⟨zs, hzs, hr⟩ := run_append_grow' (P := E.P) (w := w) (ty := ty) he hsz hu hdd hz (hlen w) (hf w.drew rfl) (hfo w.drew rfl) hgrow hb h63
    rw [hrun _ hr]
    simp only [Result.andThen, Oper.upon, hdst]
    have hz0 : ∀ o', G.Z w.heap.size o' = none := fun o' => seal_new h o'
    have hle : SealLe G.Z (sealAdd G.Z w.heap.size 0 (olds ++ vals)) := sealAdd_le fun o' _ => hz0 o'
    have hge : n + m ≤ grownCap w (n + m) cap e := grownCap_ge w (n + m) cap e
    have hpc := holds.append hvals
    have hblk : ∀ j, j < (olds ++ vals).length → (w.drew.alloc (.cells ((olds ++ vals).toArray ++ zs) e)).cell? ⟨w.heap.size, j, none⟩ = some ((olds ++ vals).getD j undef) := fun j hj => by
      rw [cell_of_row _ w.heap.size j _ e _ (heap_alloc_new w.drew _)]
      have hj' : j < olds.length + vals.length := by simpa using hj
      rw [Array.getElem?_append_left (by simpa using hj')]
      have hj2 : j < (olds ++ vals).length := by simpa using hj'
      rw [List.getElem?_toArray, List.getD_eq_getElem?_getD, List.getElem?_eq_getElem hj2]; rfl
    refine ⟨⟨sealAdd G.Z w.heap.size 0 (olds ++ vals), fun k => if k = kb then some w.heap.size else G.γ k, fun k => if k = kb then grownCap w (n + m) cap e else G.κ k, G.β⟩,
      h.app (G' := ⟨sealAdd G.Z w.heap.size 0 (olds ++ vals), fun k => if k = kb then some w.heap.size else G.γ k, fun k => if k = kb then grownCap w (n + m) cap e else G.κ k, G.β⟩) (w' := w.drew.alloc (.cells ((olds ++ vals).toArray ++ zs) e)) hd hg hcells hle (fun k hk => ⟨if_neg hk, if_neg hk, rfl⟩) (fun hm0 => ?_) ⟨rfl, rfl, rfl, by simp, fun b _ hb => heap_alloc_old w.drew _ hb⟩ (fun b o' hb => if_neg (by rintro ⟨rfl, _⟩; exact pr_new h (Nat.le_refl _) hb)) (fun b' o' v' hz' => ?_) (fun k g hk hg' => ⟨heap_alloc_old w.drew _ (box_lt h hg'), ?_, fun o' => ?_⟩) (fun g hg' => ?_) rfl ?_ ?_⟩
    · rcases hg.2 with ⟨hc, _⟩ | ⟨g, hγ, hadg, hκ, hBt⟩
      · omega
      · obtain ⟨_, _, hbx⟩ := h.st.box kb g hγ
        have := hs.1
        omega
    · rcases sealAdd_of hz' with ⟨rfl, _, h2, rfl⟩ | hz'
      · exact ⟨by simpa using hblk (o' - 0) h2, (hpc.2 (o' - 0) (by rw [← hpc.1]; exact h2)).2⟩
      · have := h.st.agree b' o' v' hz'
        exact ⟨(World.cell?_of_block (a := ⟨b', o', none⟩) (heap_alloc_old w.drew _ (seal_lt h hz'))).trans this.1, this.2⟩
    · intro e1
      have e2 : some w.heap.size = some g := (if_pos rfl).symm.trans e1
      cases e2
      exact absurd (box_lt h hg') (Nat.lt_irrefl _)
    · show sealAdd G.Z w.heap.size 0 (olds ++ vals) g o' = G.Z g o'
      unfold sealAdd
      rw [if_neg]
      rintro ⟨rfl, _⟩; exact absurd (box_lt h hg') (Nat.lt_irrefl _)
    · have e2 : some w.heap.size = some g := (if_pos rfl).symm.trans hg'
      cases e2
      refine ⟨pr_new h (Nat.le_refl _), _, heap_alloc_new w.drew _, ?_, ?_, ?_, fun o' ho' => ?_⟩
      · show n + m ≤ if kb = kb then grownCap w (n + m) cap e else G.κ kb
        rw [if_pos rfl]; exact hge
      · show (if kb = kb then grownCap w (n + m) cap e else G.κ kb) ≤ maxLen
        rw [if_pos rfl]; exact grownCap_le_maxLen w _ _ _ (by unfold maxLen; omega)
      · show _ = (if kb = kb then grownCap w (n + m) cap e else G.κ kb) * _
        rw [if_pos rfl, hcells]
        simp only [Array.size_append, List.size_toArray, List.length_append, hlo, hlv, hzs, hzl, ← Nat.add_mul]
        congr 1; omega
      · rw [hcells] at ho'
        show sealAdd G.Z w.heap.size 0 (olds ++ vals) w.heap.size o' = none
        unfold sealAdd
        rw [if_neg (by simp [hlo, hlv, ← Nat.add_mul]; omega), hz0]
    · refine .sl _ w.heap.size 0 _ _ .none _ (fun j => (olds ++ vals).getD j undef) (.inl rfl) hge (fun e => by cases e) (.inr rfl) (fun j hj => sealAdd_at (by rw [hpc.1]; exact hj)) fun j hj => ((hpc.mono hle).2 j hj).1
    · exact ⟨fun e => (by have e' : some w.heap.size = none := (if_pos rfl).symm.trans e; cases e'), fun g e => ⟨by have e' : some w.heap.size = some g := (if_pos rfl).symm.trans e; cases e'; rfl, (if_pos rfl).symm⟩⟩
  · have hroom : n + m ≤ cap := by omega
    rcases hg.2 with ⟨hc, hγ, hBt⟩ | ⟨g, hγ, hadg, hκ, hBt⟩
    · -- nothing is appended
      obtain rfl : m = 0 := by omega
      have hv0 : vals = [] := List.eq_nil_of_length_eq_zero (by omega)
      have hn0 : news = [] := List.eq_nil_of_length_eq_zero (by omega)
      subst hv0; subst hn0
      have hr := run_append_room' (P := E.P) (w := w) (ty := ty) (base := ad) (w' := w) he hsz hu hdd (hlen w) (hf w rfl) hroom (fun _ _ => rfl) (fun _ => rfl)
      rw [hrun _ hr]
      simp only [Result.andThen, Oper.upon, hdst]
      refine ⟨G, h.app hd hg hcells (.refl _) (fun k _ => ⟨rfl, rfl, rfl⟩) (fun _ => ⟨rfl, rfl⟩) (.refl _ _) (fun _ _ _ => rfl) h.st.agree (fun k g hk hg' => ⟨rfl, (fun e => by rw [hγ] at e; cases e), fun _ => rfl⟩) (fun g hg' => by rw [hγ] at hg'; cases hg') rfl ?_ ⟨fun _ => by omega, fun g hg' => by rw [hγ] at hg'; cases hg'⟩⟩
      simp only [List.append_nil, Nat.add_zero]
      exact .sl ad b off n cap .none cs f (.inl rfl) hs.1 hs.2.1 hs.2.2.1 hs.2.2.2.1 hs.2.2.2.2
    · -- there is room
      subst hadg
      obtain ⟨_, hpr, hbx⟩ := h.st.box kb g hγ
      rcases hbx with ⟨_, _, hB', _⟩ | ⟨n', e', hB', c, hc1, hc2, hc3, hc4, hc5⟩ | ⟨_, _, _, _, hB', _⟩
      · rw [hBt] at hB'; cases hB'
      rotate_left
      · rw [hBt] at hB'; cases hB'
      rw [hBt] at hB'; cases hB'
      rw [← hκ] at hc2 hc3 hc4
      rw [hcells] at hc4 hc5
      have hfit : n * sz + vals.length ≤ c.size := by rw [hlv, hc4, ← Nat.add_mul]; exact Nat.mul_le_mul_right _ hroom
      have hst := run_storeCells_at E.P g (n * sz) e vals 0 c w hc1 (by simpa using hfit) (fun u hu => by
        obtain ⟨j, hj, rfl⟩ := List.getElem_of_mem hu
        have := (hvals.2 j (by rw [← hvals.1]; exact hj)).2
        rw [List.getD_eq_getElem?_getD, List.getElem?_eq_getElem hj] at this
        exact this)
      simp only [Nat.add_zero] at hst
      have hr := run_append_room' (P := E.P) (w := w) (ty := ty) (base := some ⟨g, 0, none⟩) he hsz hu hdd (hlen w) (hf w rfl) hroom (fun a' ha => by cases ha; rw [Addr.add_mid, Nat.zero_add]; exact hst) (fun e => by cases e)
      rw [hrun _ hr]
      simp only [Result.andThen, Oper.upon, hdst]
      have hle : SealLe G.Z (sealAdd G.Z g (n * sz) vals) := sealAdd_le hc5
      have hrowcell := setRow_heap w g c (c.toList.take (n * sz) ++ vals ++ c.toList.drop (n * sz + vals.length)).toArray e (0, 0) hc1
      refine ⟨⟨sealAdd G.Z g (n * sz) vals, G.γ, G.κ, G.β⟩, h.app (G' := ⟨sealAdd G.Z g (n * sz) vals, G.γ, G.κ, G.β⟩) (w' := w.setRow g (c.toList.take (n * sz) ++ vals ++ c.toList.drop (n * sz + vals.length)).toArray) hd hg hcells hle (fun k _ => ⟨rfl, rfl, rfl⟩) (fun _ => ⟨rfl, rfl⟩) ⟨rfl, rfl, rfl, by simp [World.setRow], fun b' hb' _ => setRow_other w g b' _ (fun e => hpr (e ▸ hb'))⟩ (fun b o' hb => if_neg (by rintro ⟨rfl, _⟩; exact hpr hb)) (fun b' o' v' hz' => ?_) (fun k g' hk hg' => ⟨setRow_other w g g' _ fun e1 => hk (h.st.inj k kb g (e1 ▸ hg') hγ), fun e1 => ?_, fun o' => ?_⟩) (fun g' hg' => ?_) rfl ?_ ?_⟩
      · rcases sealAdd_of hz' with ⟨rfl, h1, h2, rfl⟩ | hz2
        · refine ⟨?_, (hvals.2 _ (by rw [← hvals.1]; exact h2)).2⟩
          rw [cell_of_row _ b' o' _ e _ hrowcell]
          have h3 : (c.toList.take (n * sz)).length = n * sz := by simp; omega
          rw [List.getElem?_toArray, List.append_assoc, List.getElem?_append_right (by omega), h3, List.getElem?_append_left h2]
          simp [List.getD_eq_getElem?_getD, h2]
        · have hag := h.st.agree b' o' v' hz2
          refine ⟨?_, hag.2⟩
          by_cases hb' : b' = g
          · subst hb'
            have ho' : o' < n * sz := by
              rcases Nat.lt_or_ge o' (n * sz) with h1 | h1
              · exact h1
              · rw [hc5 o' h1] at hz2; cases hz2
            have h4 := hag.1
            rw [cell_of_row _ b' o' _ e _ hc1] at h4
            rw [cell_of_row _ b' o' _ e _ hrowcell, List.getElem?_toArray, List.append_assoc, List.getElem?_append_left (by simp; omega), List.getElem?_take, if_pos ho']
            simpa using h4
          · exact (World.cell?_of_block (a := ⟨b', o', none⟩) (setRow_other w g b' _ hb')).trans hag.1
      · have e1' : G.γ kb = some g' := e1
        exact hk (h.st.inj k kb g' hg' e1')
      · show sealAdd G.Z g (n * sz) vals g' o' = G.Z g' o'
        unfold sealAdd
        rw [if_neg]
        rintro ⟨rfl, _⟩; exact hk (h.st.inj k kb _ hg' hγ)
      · have e1 : G.γ kb = some g' := hg'
        rw [hγ] at e1; cases e1
        refine ⟨hpr, _, hrowcell, hκ ▸ hroom, hκ ▸ hc3, ?_, fun o' ho' => ?_⟩
        · rw [hcells, ← hκ, ← hc4]; simp; omega
        · rw [hcells] at ho'
          show sealAdd G.Z g (n * sz) vals g o' = none
          have h2 : n * sz ≤ o' := Nat.le_trans (Nat.mul_le_mul_right _ (by omega)) ho'
          unfold sealAdd
          rw [if_neg (by rw [hlv, ← Nat.add_mul]; omega), hc5 o' h2]
      · have hpc := holds.append hvals
        refine .sl _ g 0 _ _ .none _ (fun j => (olds ++ vals).getD j undef) (.inl rfl) hroom (fun e => by cases e) (.inr rfl) (fun j hj => ?_) fun j hj => ((hpc.mono hle).2 j hj).1
        rw [Nat.zero_add]
        have hj' : j < olds.length + vals.length := by rw [← hpc.1] at hj; simpa using hj
        by_cases hjo : j < olds.length
        · rw [getD_append_left hjo]
          exact hle _ _ _ (hzo g rfl j hjo)
        · have := sealAdd_at (Z := G.Z) (g := g) (lo := n * sz) (vs := vals) (j := j - olds.length) (by omega)
          rw [show n * sz + (j - olds.length) = j by omega] at this
          refine this.trans ?_
          simp [List.getD_eq_getElem?_getD, List.getElem?_append_right (show olds.length ≤ j by omega)]
      · exact ⟨fun e1 => (by have e2 : G.γ kb = none := e1; rw [hγ] at e2; cases e2), fun g' e1 => ⟨by have e2 : G.γ kb = some g' := e1; rw [hγ] at e2; cases e2; rfl, hκ⟩⟩

theorem rowCut_eq (cs : List AV) (off k : Nat) : rowCut cs off k = (cs.drop off).take k := by
  unfold rowCut
  split
  · rename_i h; rw [h.1, List.drop_zero, ← h.2, List.take_length]
  · rfl
theorem rowCut_len {cs : List AV} {off k : Nat} (h : off + k ≤ cs.length) : (rowCut cs off k).length = k := by rw [rowCut_eq]; simp; omega
theorem Sim.ext' {σ σ' : AMap} {a : Act} {w : World} {G : Gh} (h : Sim E σ a w G) (he : ∀ k, mget σ' k = mget σ k) : Sim E σ' a w G := by
  have hf : mget σ' = mget σ := funext he
  have hl : lm σ' = lm σ := by unfold lm; rw [hf]
  exact ⟨h.defers, h.tsize, fun t ht => by rw [hl, he]; exact h.slots t ht, by rw [hl]; exact h.st, h.fr, by rw [hl]; exact h.step, h.zp⟩
/-- A row of nothing comes in. -/
theorem Sim.rowIn (h : Sim E σ a w G) {σ' : AMap} {b : Nat} {e sz : Nat} (hb : 10000 ≤ b) (hu : lm σ b = .u) (hnew : lm σ' b = .br [] 0 e sz) (hoth : ∀ j, 10000 ≤ j → j ≠ b → lm σ' j = lm σ j ∨ isFo (lm σ j) = true ∧ isFo (lm σ' j) = true) (hsl : ∀ t, t < 10000 → mget σ' t = mget σ t) :
    Sim E σ' a w G ∧ G.γ b = none := by
  have hγ : G.γ b = none := by
    cases hg : G.γ b with
    | none => rfl
    | some g => exact ((h.st.box b g hg).2.2.not_u hu).elim
  have hst : BStep G (lm σ) G (lm σ') := ⟨.refl _, fun k hk => by
    by_cases h1 : k = b
    · subst h1; exact .u hu
    · rcases hoth k hk h1 with e2 | ⟨e2, _⟩
      · exact .same e2 rfl rfl rfl
      · exact .fo e2⟩
  refine ⟨⟨h.defers, h.tsize, fun k hk => ?_, ⟨h.st.agree, fun k g hk => ?_, fun k cs' ty hk hc => ?_, h.st.inj, h.st.gl⟩, h.fr, h.step.trans hst, h.zp⟩, hγ⟩
  · rw [hsl k hk]; exact (h.slots k hk).step hst
  · obtain ⟨h1, h2, h3⟩ := h.st.box k g hk
    have hne : k ≠ b := fun h4 => by rw [h4, hγ] at hk; cases hk
    rcases hoth k h1 hne with e2 | ⟨e2, _⟩
    · exact ⟨h1, h2, h3.step hst e2 rfl rfl rfl fun _ => rfl⟩
    · exact (h3.not_fo e2).elim
  · by_cases h1 : k = b
    · rw [h1, hnew] at hc; cases hc
    · rcases hoth k hk h1 with e2 | ⟨_, e2⟩
      · rw [e2] at hc; exact h.st.real k cs' ty hk hc
      · rw [hc] at e2; cases e2
/-- A row of nothing may be made at any time. -/
theorem Sim.newRow (h : Sim E σ a w G) {b : Nat} (e sz : Nat) (hb : 10000 ≤ b) (hb2 : b < 20000) (hu : mget σ b = .u) : Sim E (mset σ b (.br [] 0 e sz)) a w G ∧ G.γ b = none := by
  have hlm : ∀ k, 10000 ≤ k → lm (mset σ b (.br [] 0 e sz)) k = if b = k then .br [] 0 e sz else lm σ k := lk_set (fun k _ _ => mget_mset ..) (by omega) (by rw [hu]; rfl) rfl
  refine h.rowIn (e := e) (sz := sz) hb ((lk_real (by omega)).trans hu) ((hlm b hb).trans (if_pos rfl)) (fun j hj hne => .inl ((hlm j hj).trans (if_neg (fun e => hne e.symm)))) fun t ht => ?_
  rw [mget_mset, if_neg (by omega)]
/-- .. in a family, too. -/
theorem Sim.newRowF (h : Sim E σ a w G) {b : Nat} {rows : List AV} (e sz : Nat) (hb : 10000 ≤ b) (hb2 : b < 20000) (hB : mget σ b = .fo rows) :
    Sim E (mset σ b (.fo (rows ++ [.br [] 0 e sz]))) a w G ∧ G.γ (enc b rows.length) = none ∧ mget (mset σ b (.fo (rows ++ [.br [] 0 e sz]))) b = .fo (rows ++ [.br [] 0 e sz]) ∧ lm (mset σ b (.fo (rows ++ [.br [] 0 e sz]))) (enc b rows.length) = .br [] 0 e sz := by
  have hm : ∀ k, mget (mset σ b (.fo (rows ++ [.br [] 0 e sz]))) k = if b = k then .fo (rows ++ [.br [] 0 e sz]) else mget σ k := fun k => mget_mset ..
  have hb3 : b < 1000000 := by omega
  have hmb : mget (mset σ b (.fo (rows ++ [.br [] 0 e sz]))) b = .fo (rows ++ [.br [] 0 e sz]) := (hm b).trans (if_pos rfl)
  have hnew : lm (mset σ b (.fo (rows ++ [.br [] 0 e sz]))) (enc b rows.length) = .br [] 0 e sz := by
    show lk _ _ = _
    rw [lk_row _ hb hb3, hmb]
    simp [rowOf, rowAt, List.getD_eq_getElem?_getD]
  have hu : lm σ (enc b rows.length) = .u := by
    show lk _ _ = _
    rw [lk_row _ hb hb3, hB]
    simp [rowOf, rowAt, List.getD_eq_getElem?_getD]
  have hge : 10000 ≤ enc b rows.length := by unfold enc; exact Nat.le_trans (by decide : 10000 ≤ 1000000) (Nat.le_add_right ..)
  have hsep : ∀ j, ¬ j < 1000000 → b = encB j → j ≠ enc b rows.length → encI j ≠ rows.length := fun j hj1 e1 hne e2 => hne (by rw [← enc_of hj1, ← e1, e2])
  have hbl : ¬ enc b rows.length < 1000000 := enc_big _ _
  generalize enc b rows.length = kk at *
  have hoth : ∀ j, 10000 ≤ j → j ≠ kk → lm (mset σ b (.fo (rows ++ [.br [] 0 e sz]))) j = lm σ j ∨ isFo (lm σ j) = true ∧ isFo (lm (mset σ b (.fo (rows ++ [.br [] 0 e sz]))) j) = true := fun j hj hne => by
    unfold lm
    by_cases hj1 : j < 1000000
    · rw [lk_real hj1, lk_real hj1, hm]
      by_cases e1 : b = j
      · subst e1
        right; rw [if_pos rfl, hB]; exact ⟨rfl, rfl⟩
      · left; rw [if_neg e1]
    · left
      unfold lk
      rw [if_neg hj1, if_neg hj1, hm]
      by_cases e1 : b = encB j
      · rw [if_pos e1, ← e1, hB]
        have hne2 := hsep j hj1 e1 hne
        have e3 : rowOf (.fo (rows ++ [.br [] 0 e sz])) (encI j) = rowOf (.fo rows) (encI j) := by
          simp only [rowOf, rowAt, List.getD_eq_getElem?_getD]
          by_cases hlt : encI j < rows.length
          · rw [List.getElem?_append_left hlt]
          · rw [List.getElem?_eq_none (by simp; omega), List.getElem?_eq_none (by omega)]
        rw [e3]
      · rw [if_neg e1]
  obtain ⟨h1, h2⟩ := h.rowIn hge hu hnew hoth (fun t ht => by rw [hm, if_neg (by omega)])
  exact ⟨h1, h2, hmb, hnew⟩
/-- The state behind an append to a row of one's own. -/
theorem Sim.appRow (h : Sim E σ a w G) {d kb n m v e sz : Nat} (hd : d < E.N ∧ d < 10000) {cs0 cs' : List AV} {wr : List AV → Nat → Nat × AV} (hkb : 10000 ≤ kb) (hB : lm σ kb = .br cs0 v e sz) (hwr : RowWr σ kb e sz wr)
    {G' : Gh} (hZ : G'.Z = G.Z) (hγ : ∀ k, k ≠ kb → G'.γ k = G.γ k ∧ G'.κ k = G.κ k ∧ G'.β k = G.β k) (hsame : m = 0 → G'.γ kb = G.γ kb ∧ G'.κ kb = G.κ kb ∧ G'.β kb = G.β kb)
    {w' : World} (hw : WStep E.Pr w w') (hag : ∀ b o v, G.Z b o = some v → w'.cell? ⟨b, o, none⟩ = some v ∧ v.oneCell' = true)
    (hblk : ∀ k g, k ≠ kb → G.γ k = some g → w'.heap[g]? = w.heap[g]? ∧ G'.γ kb ≠ some g)
    (hrow : ∀ g, G'.γ kb = some g → ¬ E.Pr g ∧ ∃ c, w'.heap[g]? = some (.cells c e (0, 0)) ∧ c.size = G'.β kb + G'.κ kb ∧ sz = E.P.cellsOf e ∧ cs'.length ≤ G'.κ kb ∧ (∀ o, G.Z g o = none) ∧
      ∀ j (h : j < cs'.length), VRel G (lm σ) (c.getD (G'.β kb + j) undef) cs'[j] ∧ (c.getD (G'.β kb + j) undef).oneCell' = true)
    {cap' : Nat} {ad' : Option Addr} (hn : n + m ≤ cap') (ha : ad' = none → cap' = 0) (how : OwAt G' kb 0 sz ad' cap') :
    Sim E (mupd σ [wr cs' (v + m), (d, .ow kb 0 (n + m) (v + m))]) (a.put (some d) (.slice ad' (n + m) cap')) w' G' := by
  obtain ⟨hm, hnew, hoth⟩ := hwr cs' (v + m) [(d, .ow kb 0 (n + m) (v + m))] (fun p hp => by simp at hp; subst hp; exact hd.2)
  have hmd : ∀ t, mget (mupd σ [(d, .ow kb 0 (n + m) (v + m))]) t = if d = t then .ow kb 0 (n + m) (v + m) else mget σ t := fun t => by simp only [mupd, mget_mset]
  have hs : BStep G (lm σ) G' (lm (mupd σ [wr cs' (v + m), (d, .ow kb 0 (n + m) (v + m))])) := ⟨by rw [hZ]; exact .refl _, fun k hk => by
    by_cases e1 : k = kb
    · subst e1
      refine .br hB hnew ?_
      by_cases hm0 : m = 0
      · exact .inr ⟨by omega, hsame hm0⟩
      · exact .inl (by omega)
    · obtain ⟨g1, g2, g3⟩ := hγ k e1
      rcases hoth k hk e1 with e2 | ⟨e2, _⟩
      · exact .same e2 g1 g2 g3
      · exact .fo e2⟩
  refine h.put (dst := some d) (x := .ow kb 0 (n + m) (v + m)) (fun _ e => by cases e; exact hd) hs ⟨by rw [hZ]; exact hag, fun k g hk => ?_, fun k cs' ty hk hc => ?_, fun k k' g h1 h2 => ?_, by rw [hZ]; exact h.st.gl⟩ hw (fun b o _ => by rw [hZ])
    (.ow ad' (n + m) cap' kb 0 (v + m) cs' (v + m) e sz hkb hnew hn ha (Nat.le_refl _) fun _ => how) fun t ht => ?_
  · by_cases e1 : k = kb
    · subst e1
      obtain ⟨r1, c, r2, r3, r4, r5, r6, r7⟩ := hrow g hk
      exact ⟨hkb, r1, .inr (.inr ⟨cs', v + m, e, sz, hnew, c, r2, r3, r4, r5, by rw [hZ]; exact r6, fun j hj => ⟨(r7 j hj).1.step hs, (r7 j hj).2⟩⟩)⟩
    · rw [(hγ k e1).1] at hk
      obtain ⟨h1, h2, h3⟩ := h.st.box k g hk
      obtain ⟨q1, _⟩ := hblk k g e1 hk
      rcases hoth k h1 e1 with e2 | ⟨e2, _⟩
      · exact ⟨h1, h2, h3.step hs e2 (hγ k e1).2.1 (hγ k e1).2.2 q1 fun o => by rw [hZ]⟩
      · exact (h3.not_fo e2).elim
  · by_cases e1 : k = kb
    · rw [e1, hnew] at hc; cases hc
    · rcases hoth k hk e1 with e2 | ⟨_, e2⟩
      · rw [e2] at hc
        obtain ⟨g, hg⟩ := h.st.real k cs' ty hk hc
        exact ⟨g, (hγ k e1).1.trans hg⟩
      · rw [hc] at e2; cases e2
  · by_cases e1 : k = kb <;> by_cases e2 : k' = kb
    · omega
    · subst e1
      rw [(hγ k' e2).1] at h2
      exact absurd h1 (hblk k' g e2 h2).2
    · subst e2
      rw [(hγ k e1).1] at h1
      exact absurd h2 (hblk k g e1 h1).2
    · exact h.st.inj k k' g ((hγ k e1).1.symm.trans h1) ((hγ k' e2).1.symm.trans h2)
  · rw [hm t ht, hmd]
    by_cases e1 : d = t
    · subst e1; simp
    · rw [if_neg e1, if_neg (by simpa using fun e' => e1 e'.symm)]

/-- A row's cells, as a source. -/
theorem row_src (h : Sim E σ a w G) {b off n sz v e : Nat} {cs : List AV} {ad : Option Addr} {cap : Nat} (hB : lm σ b = .br cs v e sz) (hn : n ≤ cap) (how : OwAt G b off sz ad cap) (hl : off + n * sz ≤ cs.length) :
    ∃ vals : List Value, CRel G (lm σ) vals (rowCut cs off (n * sz)) ∧ (∀ w' : World, w'.heap = w.heap → (Builtin.firstCells sz n (.slice ad n cap)).run E.P w' = .ok vals.toArray w') ∧
      (∀ g c, G.γ b = some g → w.heap[g]? = some (.cells c e (0, 0)) → ∀ j, j < n * sz → vals.getD j undef = c.getD (G.β b + off + j) undef) := by
  by_cases h0 : n = 0
  · subst h0
    refine ⟨[], by rw [rowCut_eq]; simpa using CRel.nil G (lm σ), fun w' _ => ?_, fun g c _ _ j hj => by omega⟩
    cases ad <;> simp [Builtin.firstCells, loadCells, loadCellsFrom]
  cases hγ : G.γ b with
  | none => have := how.1 hγ; omega
  | some g =>
    obtain ⟨h1, h2⟩ := how.2 g hγ
    have h2 : ad = some ⟨g, G.β b + off, none⟩ := h2.resolve_left (by omega)
    subst h2
    obtain ⟨⟨c, hc, hsz, hce, hle, hz, hr⟩, _⟩ := row_cells h hB hγ
    refine ⟨(List.range (n * sz)).map fun j => c.getD (G.β b + off + j) undef, ⟨by rw [rowCut_len hl]; simp, fun j hj => ?_⟩, fun w' hw' => ?_, fun g' c' hg' hc' j hj => ?_⟩
    · rw [rowCut_len hl] at hj
      have := hr (off + j) (by omega)
      have e1 : (rowCut cs off (n * sz))[j]'(by rw [rowCut_len hl]; exact hj) = cs[off + j]'(by omega) := by
        simp only [rowCut_eq, List.getElem_take, List.getElem_drop]
      rw [e1]
      simpa [List.getD_eq_getElem?_getD, hj, Nat.add_assoc] using this
    · refine run_firstCells_some (P := E.P) w' sz n ⟨g, G.β b + off, none⟩ n cap _ (by simp) fun j v hj => ?_
      rw [Addr.add_mid]
      obtain ⟨q1, q2⟩ := List.getElem?_eq_some_iff.1 hj
      have q1' : j < n * sz := by simpa using q1
      rw [cell_of_row w' g (G.β b + off + j) c e (0, 0) (by rw [hw']; exact hc)]
      have q3 : G.β b + off + j < c.size := by omega
      simp at q2
      rw [← q2]
      simp [Array.getD_eq_getD_getElem?, q3]
    · cases hg'
      rw [hc] at hc'; cases hc'
      simp [List.getD_eq_getElem?_getD, hj]

theorem good_appRow (h : Sim E σ a w G) {d kb off n m v e sz t t' ty : Nat} (hdst : o.dst = some d) (hd : d < E.N ∧ d < 10000) {cs0 news : List AV} {ad : Option Addr} {cap : Nat} {wr : List AV → Nat → Nat × AV} (hkb : 10000 ≤ kb) (hB : lm σ kb = .br cs0 v e sz) (hwr : RowWr σ kb e sz wr)
    (hn : n ≤ cap) (had : ad = none → cap = 0) (how : OwAt G kb off sz ad cap) (hl : off + n * sz ≤ cs0.length) (h0m : 0 < m ∨ (off = 0 ∧ cs0.length = n * sz))
    (he : elemOf E.P t = some e) (hsz : szOf E.P e = some sz) (hsz0 : 0 < sz) {z : List Value} (hz : zeroOf E.P e = some z) (hzl : z.length = sz) {desc : TypeDesc} (hu : E.P.underlying t' = some desc) (hdd : ∀ k, desc ≠ .int k)
    (hb : (n + m) * bytesOfT E.P e ≤ 140737488355328) (h63 : n + m ≤ 140737488355328)
    {x : Value} {vals : List Value} (hvals : CRel G (lm σ) vals news) (hnl : news.length = m * sz) (hlen : ∀ w' : World, (Builtin.lenOf x).run E.P w' = .ok m w')
    (hf : ∀ w' : World, w'.heap = w.heap → (Builtin.firstCells sz m x).run E.P w' = .ok vals.toArray w')
    (hrun : ∀ r : Result Value, (Builtin.append_ #[t, t'] ty #[.slice ad n cap, x]).run E.P w = r → (execOp a.eval o).run E.P w = r.andThen fun v w' => .ok (.value v) w') :
    Good E o σ a w [wr (rowCut cs0 off (n * sz) ++ news) (v + m), (d, .ow kb 0 (n + m) (v + m))] := fun Q => by
  have hcells : E.P.cellsOf e = sz := by unfold szOf at hsz; simp [Program.cellsOf, hsz]
  obtain ⟨olds, holds, hfo, holdc⟩ := row_src h hB hn how hl
  have hlo : olds.length = n * sz := holds.1.trans (rowCut_len hl)
  have hlv : vals.length = m * sz := hvals.1.trans hnl
  have hcl : (rowCut cs0 off (n * sz) ++ news).length = (n + m) * sz := by rw [List.length_append, rowCut_len hl, hnl, Nat.add_mul]
  have hpc := holds.append hvals
  unfold Oper.wp
  by_cases hgrow : cap < n + m
  · -- a new block
    obtain ⟨zs, hzs, hr⟩ := run_append_grow' (P := E.P) (w := w) (ty := ty) he hsz hu hdd hz (hlen w) (hf w.drew rfl) (hfo w.drew rfl) hgrow hb h63
    rw [hrun _ hr]
    simp only [Result.andThen, Oper.upon, hdst]
    have hz0 : ∀ o', G.Z w.heap.size o' = none := fun o' => seal_new h o'
    have hge : n + m ≤ grownCap w (n + m) cap e := grownCap_ge w (n + m) cap e
    generalize hgc : grownCap w (n + m) cap e = C at *
    refine ⟨⟨G.Z, fun k => if k = kb then some w.heap.size else G.γ k, fun k => if k = kb then C * sz else G.κ k, fun k => if k = kb then 0 else G.β k⟩,
      h.appRow (m := m) (G' := ⟨G.Z, fun k => if k = kb then some w.heap.size else G.γ k, fun k => if k = kb then C * sz else G.κ k, fun k => if k = kb then 0 else G.β k⟩) (w' := w.drew.alloc (.cells ((olds ++ vals).toArray ++ zs) e)) hd hkb hB hwr rfl (fun k hk => ⟨if_neg hk, if_neg hk, if_neg hk⟩) (fun hm0 => by omega) ⟨rfl, rfl, rfl, by simp, fun b _ hb => heap_alloc_old w.drew _ hb⟩ (fun b' o' v' hz' => ?_) (fun k g hk hg' => ⟨heap_alloc_old w.drew _ (box_lt h hg'), ?_⟩) (fun g hg' => ?_) hge (fun e => by cases e) ?_⟩
    · have := h.st.agree b' o' v' hz'
      exact ⟨(World.cell?_of_block (a := ⟨b', o', none⟩) (heap_alloc_old w.drew _ (seal_lt h hz'))).trans this.1, this.2⟩
    · intro e1
      have e2 : some w.heap.size = some g := (if_pos rfl).symm.trans e1
      cases e2
      exact absurd (box_lt h hg') (Nat.lt_irrefl _)
    · have e2 : some w.heap.size = some g := (if_pos rfl).symm.trans hg'
      cases e2
      refine ⟨pr_new h (Nat.le_refl _), _, heap_alloc_new w.drew _, ?_, hcells.symm, ?_, hz0, fun j hj => ?_⟩
      · show _ = (if kb = kb then 0 else G.β kb) + (if kb = kb then C * sz else G.κ kb)
        rw [if_pos rfl, if_pos rfl, Nat.zero_add]
        simp only [Array.size_append, List.size_toArray, List.length_append, hlo, hlv, hzs, hzl, ← Nat.add_mul]
        congr 1; omega
      · show _ ≤ if kb = kb then C * sz else G.κ kb
        rw [if_pos rfl, hcl]; exact Nat.mul_le_mul_right _ hge
      · have hβ0 : (if kb = kb then 0 else G.β kb) = 0 := if_pos rfl
        show VRel G _ (((olds ++ vals).toArray ++ zs).getD ((if kb = kb then 0 else G.β kb) + j) undef) _ ∧ (((olds ++ vals).toArray ++ zs).getD ((if kb = kb then 0 else G.β kb) + j) undef).oneCell' = true
        rw [hβ0, Nat.zero_add]
        have hj2 : j < (olds ++ vals).length := by rw [hpc.1]; exact hj
        have e3 : ((olds ++ vals).toArray ++ zs).getD j undef = (olds ++ vals).getD j undef := by
          rw [Array.getD_eq_getD_getElem?, Array.getElem?_append_left (by simpa using hj2), List.getElem?_toArray, List.getD_eq_getElem?_getD]
        rw [e3]
        exact hpc.2 j hj
    · refine ⟨fun e => (by have e' : some w.heap.size = none := (if_pos rfl).symm.trans e; cases e'), fun g e => ⟨?_, .inr ?_⟩⟩
      · show 0 + C * sz = if kb = kb then C * sz else G.κ kb
        rw [if_pos rfl, Nat.zero_add]
      · have e' : some w.heap.size = some g := (if_pos rfl).symm.trans e
        cases e'
        show _ = some (Addr.mk w.heap.size ((if kb = kb then 0 else G.β kb) + 0) none)
        rw [if_pos rfl]
  · have hroom : n + m ≤ cap := by omega
    -- nothing is appended to nothing
    have nothing : cap = 0 → ∃ G', Sim E (mupd σ [wr (rowCut cs0 off (n * sz) ++ news) (v + m), (d, .ow kb 0 (n + m) (v + m))]) (a.put (some d) (.slice ad (n + m) cap)) w G' := fun hc0 => by
      have hm0 : m = 0 := by omega
      have hn0 : n = 0 := by omega
      subst hm0; subst hn0
      obtain ⟨rfl, _⟩ := h0m.resolve_left (by omega)
      refine ⟨G, h.appRow hd hkb hB hwr rfl (fun _ _ => ⟨rfl, rfl, rfl⟩) (fun _ => ⟨rfl, rfl, rfl⟩) (.refl _ _) h.st.agree (fun k g hk hg' => ⟨rfl, fun e1 => hk (h.st.inj k kb g hg' e1)⟩) (fun g hg' => ?_) hroom had how⟩
      obtain ⟨⟨c, hc, q2, q3, q4, q5, q6⟩, hpr⟩ := row_cells h hB hg'
      refine ⟨hpr, c, hc, q2, q3, by rw [hcl]; simp, q5, fun j hj => by rw [hcl] at hj; simp at hj⟩
    by_cases hc0 : cap = 0
    · obtain rfl : m = 0 := by omega
      have hv0 : vals = [] := List.eq_nil_of_length_eq_zero (by omega)
      have hr := run_append_room' (P := E.P) (w := w) (ty := ty) (base := ad) (w' := w) he hsz hu hdd (hlen w) (hf w rfl) hroom (fun _ _ => by rw [hv0]; rfl) (fun _ => rfl)
      rw [hrun _ hr]
      simp only [Result.andThen, Oper.upon, hdst]
      exact nothing hc0
    cases hγ : G.γ kb with
    | none => exact absurd (how.1 hγ) hc0
    | some g =>
      obtain ⟨h1, h2⟩ := how.2 g hγ
      have h2 : ad = some ⟨g, G.β kb + off, none⟩ := h2.resolve_left hc0
      subst h2
      obtain ⟨⟨c, hc, hcs, hce, hle, hz0, hcr⟩, hpr⟩ := row_cells h hB hγ
      have hfit2 : (n + m) * sz ≤ cap * sz := Nat.mul_le_mul_right _ hroom
      rw [Nat.add_mul] at hfit2
      have hst := run_storeCells_at E.P g (G.β kb + off + n * sz) e vals 0 c w hc (by omega) (fun u hu => by
        obtain ⟨j, hj, rfl⟩ := List.getElem_of_mem hu
        have := (hvals.2 j (by rw [← hvals.1]; exact hj)).2
        rw [List.getD_eq_getElem?_getD, List.getElem?_eq_getElem hj] at this
        exact this)
      simp only [Nat.add_zero] at hst
      have hr := run_append_room' (P := E.P) (w := w) (ty := ty) (base := some ⟨g, G.β kb + off, none⟩) he hsz hu hdd (hlen w) (hf w rfl) hroom (fun a' ha => by cases ha; rw [Addr.add_mid]; exact hst) (fun e => by cases e)
      rw [hrun _ hr]
      simp only [Result.andThen, Oper.upon, hdst]
      have hct : c.toList.length = c.size := Array.length_toList ..
      have hrowcell := setRow_heap w g c (c.toList.take (G.β kb + off + n * sz) ++ vals ++ c.toList.drop (G.β kb + off + n * sz + vals.length)).toArray e (0, 0) hc
      have hget : ∀ j, j < (olds ++ vals).length → (c.toList.take (G.β kb + off + n * sz) ++ vals ++ c.toList.drop (G.β kb + off + n * sz + vals.length)).toArray.getD (G.β kb + off + j) undef = (olds ++ vals).getD j undef := fun j hj => by
        have hj' : j < olds.length + vals.length := by simpa using hj
        by_cases hjo : j < n * sz
        · rw [getD_append_left (by omega), holdc g c hγ hc j hjo]
          simp only [Array.getD_eq_getD_getElem?, List.getElem?_toArray, List.getElem?_append, List.length_append, List.length_take, List.getElem?_take]
          simp only [if_true, show G.β kb + off + j < min (G.β kb + off + n * sz) c.toList.length + vals.length by omega, show G.β kb + off + j < min (G.β kb + off + n * sz) c.toList.length by omega, show G.β kb + off + j < G.β kb + off + n * sz by omega]
          simp
        · simp only [Array.getD_eq_getD_getElem?, List.getElem?_toArray, List.getElem?_append, List.length_append, List.length_take, List.getD_eq_getElem?_getD]
          simp only [if_true, if_false, show G.β kb + off + j < min (G.β kb + off + n * sz) c.toList.length + vals.length by omega, show ¬ G.β kb + off + j < min (G.β kb + off + n * sz) c.toList.length by omega, show ¬ j < olds.length by omega, show G.β kb + off + j - min (G.β kb + off + n * sz) c.toList.length = j - olds.length by omega]
      have hκ0 : (if kb = kb then G.κ kb - off else G.κ kb) = G.κ kb - off := if_pos rfl
      have hβ0 : (if kb = kb then G.β kb + off else G.β kb) = G.β kb + off := if_pos rfl
      refine ⟨⟨G.Z, G.γ, fun k => if k = kb then G.κ kb - off else G.κ k, fun k => if k = kb then G.β kb + off else G.β k⟩,
        h.appRow (G' := ⟨G.Z, G.γ, fun k => if k = kb then G.κ kb - off else G.κ k, fun k => if k = kb then G.β kb + off else G.β k⟩) (w' := w.setRow g (c.toList.take (G.β kb + off + n * sz) ++ vals ++ c.toList.drop (G.β kb + off + n * sz + vals.length)).toArray) hd hkb hB hwr rfl (fun k hk => ⟨rfl, if_neg hk, if_neg hk⟩) (fun hm0 => ?_) ⟨rfl, rfl, rfl, by simp [World.setRow], fun b' hb' _ => setRow_other w g b' _ (fun e => hpr (e ▸ hb'))⟩ (fun b' o' v' hz' => ?_) (fun k g' hk hg' => ⟨setRow_other w g g' _ fun e1 => hk (h.st.inj k kb g (e1 ▸ hg') hγ), fun e1 => hk (h.st.inj k kb g' hg' e1)⟩) (fun g' hg' => ?_) hroom had ?_⟩
      · obtain ⟨rfl, _⟩ := h0m.resolve_left (by omega)
        exact ⟨rfl, by show (if kb = kb then G.κ kb - 0 else G.κ kb) = _; rw [if_pos rfl, Nat.sub_zero], by show (if kb = kb then G.β kb + 0 else G.β kb) = _; rw [if_pos rfl, Nat.add_zero]⟩
      · have hag := h.st.agree b' o' v' hz'
        refine ⟨(World.cell?_of_block (a := ⟨b', o', none⟩) (setRow_other w g b' _ fun e1 => ?_)).trans hag.1, hag.2⟩
        subst e1; rw [hz0] at hz'; cases hz'
      · have e1 : G.γ kb = some g' := hg'
        rw [hγ] at e1; cases e1
        refine ⟨hpr, _, hrowcell, ?_, hce, ?_, hz0, fun j hj => ?_⟩
        · show _ = (if kb = kb then G.β kb + off else G.β kb) + (if kb = kb then G.κ kb - off else G.κ kb)
          rw [hκ0, hβ0]
          simp only [List.size_toArray, List.length_append, List.length_take, List.length_drop]; omega
        · show _ ≤ if kb = kb then G.κ kb - off else G.κ kb
          rw [hκ0, hcl, Nat.add_mul]; omega
        · show VRel G _ ((c.toList.take (G.β kb + off + n * sz) ++ vals ++ c.toList.drop (G.β kb + off + n * sz + vals.length)).toArray.getD ((if kb = kb then G.β kb + off else G.β kb) + j) undef) _ ∧ ((c.toList.take (G.β kb + off + n * sz) ++ vals ++ c.toList.drop (G.β kb + off + n * sz + vals.length)).toArray.getD ((if kb = kb then G.β kb + off else G.β kb) + j) undef).oneCell' = true
          rw [hβ0, hget j (by rw [hpc.1]; exact hj)]
          exact hpc.2 j hj
      · refine ⟨fun e1 => (by have e2 : G.γ kb = none := e1; rw [hγ] at e2; cases e2), fun g' e1 => ⟨?_, .inr ?_⟩⟩
        · show 0 + cap * sz = if kb = kb then G.κ kb - off else G.κ kb
          rw [hκ0]; omega
        · have e2 : G.γ kb = some g' := e1
          rw [hγ] at e2; cases e2
          show _ = some (Addr.mk g ((if kb = kb then G.β kb + off else G.β kb) + 0) none)
          rw [hβ0, Nat.add_zero]

theorem snd_append (h : Sim E σ a w G) {t t' ty : TypeId} {s x : Operand} {args : Array Operand} {ts : Array TypeId} (ha : args.toList = [s, x]) (ht : ts.toList = [t, t']) (ho : o.op = .call { callee := .builtin .append, args := args, argTypes := ts }) :
    Snd E.P σ (rdo s fun va => rdo x fun vb => kApp E.P E.N o t t' va vb) (Good E o σ a w) := by
  obtain rfl : args = #[s, x] := by cases args; simp at ha; simp [ha]
  obtain rfl : ts = #[t, t'] := by cases ts; simp at ht; simp [ht]
  refine .rdo h fun va hva => .rdo h fun vb hvb => ?_
  have main : ∀ {news : List AV} {m : Nat} {vals : List Value} {desc : TypeDesc}, E.P.underlying t' = some desc → (∀ k, desc ≠ .int k) → (∀ e sz, elemOf E.P t = some e → szOf E.P e = some sz → news.length = m * sz →
      (CRel G (lm σ) vals news ∧ ((∃ cs n own, va = .sl cs n own) → PCRel G.Z vals news)) ∧ (∀ w' : World, w'.heap = w.heap → (Builtin.firstCells sz m (a.eval x)).run E.P w' = .ok vals.toArray w')) → (∀ w' : World, (Builtin.lenOf (a.eval x)).run E.P w' = .ok m w') → Snd E.P σ (kAppend E.P E.N o t va news m) (Good E o σ a w) := fun {news m vals desc} hu hdd hv hlen => by
    unfold kAppend
    split
    · rename_i d e cs n own hdst he
      split
      rotate_left
      · exact .fail
      rename_i sz z hsz hz
      refine .need fun ⟨hd, hsz0, hzl, hl, hnl, hb, h63⟩ => ?_
      obtain ⟨⟨_, hvals0⟩, hf⟩ := hv e sz he hsz hnl
      have hvals := hvals0 ⟨_, _, _, rfl⟩
      clear hvals0
      have hd' : d < E.N ∧ d < 10000 := by unfold dstOk at hd; rw [hdst] at hd; exact hd
      obtain ⟨ad, cap, b, off, f, ev, hs, hfull, htok⟩ := inv_sl hva
      have hrun : ∀ r : Result Value, (Builtin.append_ #[t, t'] o.type #[.slice ad n cap, a.eval x]).run E.P w = r → (execOp a.eval o).run E.P w = r.andThen fun v w' => .ok (.value v) w' := fun r hr => by
        simp only [execOp, ho, Sem.run_bind, resolve, invoke, builtin, Sem.run_pure, Result.andThen_ok, List.map_toArray, List.map_cons, List.map_nil, ev, hr]
      unfold kAppOwn
      split
      · rename_i b'
        refine .rd ?_
        unfold kAppTok
        split
        · rename_i tip e' hB
          refine .need fun ⟨ht, hee⟩ => ?_
          subst ht; subst hee
          obtain ⟨hb10, tip', e2, hB', hle, hk⟩ := htok b' rfl
          have hB3 := (lk_bt hB').2
          rw [hB] at hB3; cases hB3
          have hB := hB'
          refine .done (good_app h hdst hd' hs hl he hsz hsz0 hz hzl hu hdd hb h63 ⟨⟨hb10, (lk_bt hB').1⟩, ?_⟩ hvals hnl hlen hf hrun)
          have htk := hk rfl
          cases hγ : G.γ b' with
          | none => exact .inl ⟨htk.1 hγ, rfl, .inr hB⟩
          | some g => obtain ⟨q1, q2⟩ := htk.2 g hγ; exact .inr ⟨g, rfl, q1, q2, hB⟩
        · exact .fail
      · split
        · refine .ex fun vx hvx => ?_
          rcases hvx with rfl | rfl
          · show Snd E.P σ (.need (n = 0 ∧ [] = []) (.rd (10000 + d) (kAppNew d e m sz news))) _
            refine .need fun ⟨hn0, _⟩ => .rd ?_
            subst hn0
            unfold kAppNew
            split
            · rename_i hB
              refine .done fun Q => ?_
              have hcap := hfull rfl
              subst hcap
              have h20 : 10000 + d < 20000 := Nat.add_lt_add_left hd'.2 10000
              obtain ⟨h1, hγ⟩ := h.newRow (b := 10000 + d) e sz (Nat.le_add_right ..) h20 hB
              have hmk : mget (mset σ (10000 + d) (.br [] 0 e sz)) (10000 + d) = .br [] 0 e sz := by rw [mget_mset, if_pos rfl]
              have hg := good_appRow (kb := 10000 + d) (off := 0) (n := 0) (v := 0) (sz := sz) h1 hdst hd' (Nat.le_add_right ..) ((lk_real (Nat.lt_trans h20 (by decide))).trans hmk) (rowWr_real (Nat.le_add_right ..) (Nat.lt_trans h20 (by decide)) hmk) hs.1 (fun _ => rfl) ⟨fun _ => rfl, fun g hg => by rw [hγ] at hg; cases hg⟩ (by simp) (.inr ⟨rfl, by simp⟩) he hsz hsz0 hz hzl hu hdd hb h63 (.of_pure hvals) hnl hlen hf hrun Q
              refine Oper.wp_mono (fun a' w' ⟨G', hG'⟩ => ⟨G', hG'.ext' fun k => ?_⟩) hg
              have e1 : rowCut [] 0 (0 * sz) ++ news = news := by simp [rowCut]
              simp only [e1, Nat.zero_add, mupd, mget_mset]
              by_cases q1 : d = k
              · rw [if_pos q1, if_pos q1]
              · rw [if_neg q1, if_neg q1]
                by_cases q2 : 10000 + d = k
                · rw [if_pos q2, if_pos q2]
                · rw [if_neg q2, if_neg q2, if_neg q2]
            · rename_i rows hB
              refine .done fun Q => ?_
              have hcap := hfull rfl
              subst hcap
              have h20 : 10000 + d < 20000 := Nat.add_lt_add_left hd'.2 10000
              have hbig : 10000 + d < 1000000 := Nat.lt_trans h20 (by decide)
              obtain ⟨h1, hγ, hmk, hlk⟩ := h.newRowF (b := 10000 + d) e sz (Nat.le_add_right ..) h20 hB
              have hwr := rowWr_fam (σ := mset σ (10000 + d) (.fo (rows ++ [.br [] 0 e sz]))) (k := enc (10000 + d) rows.length) (e := e) (sz := sz) (rows := rows ++ [.br [] 0 e sz]) (by rw [encB_enc _ hbig]; exact Nat.le_add_right ..) (enc_big _ _) (by rw [encB_enc _ hbig]; exact hmk) (by rw [encI_enc _ hbig]; simp)
              have hg := good_appRow (kb := enc (10000 + d) rows.length) (off := 0) (n := 0) (v := 0) (sz := sz) h1 hdst hd' (by unfold enc; exact Nat.le_trans (by decide : 10000 ≤ 1000000) (Nat.le_add_right ..)) hlk hwr hs.1 (fun _ => rfl) ⟨fun _ => rfl, fun g hg => by rw [hγ] at hg; cases hg⟩ (by simp) (.inr ⟨rfl, by simp⟩) he hsz hsz0 hz hzl hu hdd hb h63 (.of_pure hvals) hnl hlen hf hrun Q
              refine Oper.wp_mono (fun a' w' ⟨G', hG'⟩ => ⟨G', hG'.ext' fun k => ?_⟩) hg
              have e1 : rowCut [] 0 (0 * sz) ++ news = news := by simp [rowCut]
              have e2 : (rows ++ [AV.br [] 0 e sz]).set rows.length (.br news m e sz) = rows ++ [.br news m e sz] := by
                rw [List.set_append_right _ _ (Nat.le_refl _)]; simp
              simp only [e1, Nat.zero_add, mupd, mget_mset, encB_enc _ hbig, encI_enc _ hbig, e2]
              by_cases q1 : d = k
              · rw [if_pos q1, if_pos q1]
              · rw [if_neg q1, if_neg q1]
                by_cases q2 : 10000 + d = k
                · rw [if_pos q2, if_pos q2]
                · rw [if_neg q2, if_neg q2, if_neg q2]
            · exact .fail
          · show Snd E.P σ (.rd (10000 + d) (kAppFull d e n m [] news)) _
            refine .rd ?_
            unfold kAppFull
            split
            · rename_i hB
              refine .done (good_app h hdst hd' hs hl he hsz hsz0 hz hzl hu hdd hb h63 ⟨⟨Nat.le_add_right .., Nat.lt_trans (Nat.add_lt_add_left hd'.2 10000) (by decide)⟩, .inl ⟨hfull rfl, ?_, .inl ((lk_real (Nat.lt_trans (Nat.add_lt_add_left hd'.2 10000) (by decide))).trans hB)⟩⟩ hvals hnl hlen hf hrun)
              cases hγ : G.γ (10000 + d) with
              | none => rfl
              | some g =>
                exact ((h.st.box _ g hγ).2.2.not_u ((lk_real (Nat.lt_trans (Nat.add_lt_add_left hd'.2 10000) (by decide))).trans hB)).elim
            · exact .fail
        refine .rd ?_
        unfold kAppFull
        split
        · rename_i hB
          refine .done (good_app h hdst hd' hs hl he hsz hsz0 hz hzl hu hdd hb h63 ⟨⟨Nat.le_add_right .., Nat.lt_trans (Nat.add_lt_add_left hd'.2 10000) (by decide)⟩, .inl ⟨hfull rfl, ?_, .inl ((lk_real (Nat.lt_trans (Nat.add_lt_add_left hd'.2 10000) (by decide))).trans hB)⟩⟩ hvals hnl hlen hf hrun)
          cases hγ : G.γ (10000 + d) with
          | none => rfl
          | some g =>
            exact ((h.st.box _ g hγ).2.2.not_u ((lk_real (Nat.lt_trans (Nat.add_lt_add_left hd'.2 10000) (by decide))).trans hB)).elim
        · exact .fail
      · exact .fail
    · rename_i d e b off n ver hdst he
      split
      rotate_left
      · exact .fail
      rename_i sz z hsz hz
      refine .need fun ⟨hd, hsz0, hzl, hnl, hb, h63⟩ => ?_
      obtain ⟨⟨hvals, _⟩, hf⟩ := hv e sz he hsz hnl
      have hd' : d < E.N ∧ d < 10000 := by unfold dstOk at hd; rw [hdst] at hd; exact hd
      obtain ⟨ad, cap, cs, v', e', sz', ev, hn, had, hkb, hB, hvv, how⟩ := inv_ow hva
      have hrun : ∀ r : Result Value, (Builtin.append_ #[t, t'] o.type #[.slice ad n cap, a.eval x]).run E.P w = r → (execOp a.eval o).run E.P w = r.andThen fun v w' => .ok (.value v) w' := fun r hr => by
        simp only [execOp, ho, Sem.run_bind, resolve, invoke, builtin, Sem.run_pure, Result.andThen_ok, List.map_toArray, List.map_cons, List.map_nil, ev, hr]
      unfold kAppRow
      refine .rdRow hkb fun cs2 v2 e2' sz2 wr hB2 hwr => ?_
      rw [hB] at hB2; cases hB2
      refine .need fun ⟨e1, e2, e3, hl, h0m⟩ => .done ?_
      subst e1; subst e2; subst e3
      exact good_appRow h hdst hd' hkb hB hwr hn had (how rfl) hl h0m he hsz hsz0 hz hzl hu hdd hb h63 hvals hnl hlen hf hrun
    · exact .fail
  unfold kApp
  split
  · rename_i b off m ver
    refine .need fun htt => ?_
    subst htt
    obtain ⟨ad, cap, cs, v', e', sz', ev, hn, had, hkb, hB, hvv, how⟩ := inv_ow hvb
    unfold kNews
    refine .rdRow hkb fun cs2 v2 e2' sz2 wr hB2 _ => ?_
    rw [hB] at hB2; cases hB2
    refine .need fun ⟨e1, hbind, hl⟩ => ?_
    obtain ⟨vals, hvals, hf, _⟩ := row_src h hB hn (how e1) hl
    obtain ⟨e, he, hsz⟩ := Option.bind_eq_some_iff.1 hbind
    split
    · split
      · rename_i news hnews
        refine main (vals := vals) (und_elem he) (fun k e => by cases e) (fun e2 sz2 he2 hsz2 _ => ?_) fun w' => by rw [ev]; simp [Builtin.lenOf]
        rw [he] at he2; cases he2
        rw [hsz] at hsz2; cases hsz2
        have hlm := len_mapM hnews
        have hpc : PCRel G.Z vals news := ⟨hvals.1.trans hlm.symm, fun j hj => ⟨pure_rel 4 (hvals.2 j (by omega)).1 (get_mapM hnews j (by omega) hj), (hvals.2 j (by omega)).2⟩⟩
        exact ⟨⟨.of_pure hpc, fun _ => hpc⟩, fun w' hw' => by rw [ev]; exact hf w' hw'⟩
      · exact .fail
    · refine main (vals := vals) (und_elem he) (fun k e => by cases e) (fun e2 sz2 he2 hsz2 _ => ?_) fun w' => by rw [ev]; simp [Builtin.lenOf]
      rw [he] at he2; cases he2
      rw [hsz] at hsz2; cases hsz2
      exact ⟨⟨hvals, fun ⟨cs, n, own, hcon⟩ => absurd hcon (by simp_all)⟩, fun w' hw' => by rw [ev]; exact hf w' hw'⟩
  · rename_i news m own
    refine .need fun htt => ?_
    subst htt
    obtain ⟨ad, cap, b, off, f, ev, hs, _⟩ := inv_sl hvb
    by_cases hcond : ∃ e sz, elemOf E.P t' = some e ∧ szOf E.P e = some sz ∧ news.length = m * sz
    · obtain ⟨e, sz, he, hsz, hnl⟩ := hcond
      obtain ⟨vals, hvals, hf, _⟩ := src_cells' h hs hnl
      refine main (vals := vals) (und_elem he) (fun k e => by cases e) (fun e' sz' he' hsz' _ => ?_) fun w' => by rw [ev]; simp [Builtin.lenOf]
      rw [he] at he'; cases he'
      rw [hsz] at hsz'; cases hsz'
      exact ⟨⟨.of_pure hvals, fun _ => hvals⟩, fun w' hw' => by rw [ev]; exact hf w' hw'⟩
    · unfold kAppend
      split
      · rename_i d e cs n own' hdst he
        split
        rotate_left
        · exact .fail
        rename_i sz z hsz hz
        exact .need fun ⟨_, _, _, _, hnl, _⟩ => absurd ⟨e, sz, he, hsz, hnl⟩ hcond
      · rename_i d e b' off' n ver' hdst he
        split
        rotate_left
        · exact .fail
        rename_i sz z hsz hz
        exact .need fun ⟨_, _, _, hnl, _⟩ => absurd ⟨e, sz, he, hsz, hnl⟩ hcond
      · exact .fail
  · rename_i b
    refine .need fun ⟨hstr, hu8⟩ => ?_
    have ev := inv_c hvb
    obtain ⟨e, he, hu8⟩ := Option.bind_eq_some_iff.1 hu8
    refine main (vals := b.data.toList.map fun c : UInt8 => Value.int .u8 (c.toNat : Int)) (und_str hstr) (fun k e => by cases e) (fun e' sz' he' hsz' hnl => ?_) fun w' => by rw [ev]; simp [Builtin.lenOf]
    have hpc : PCRel G.Z (b.data.toList.map fun c : UInt8 => Value.int .u8 (c.toNat : Int)) (b.data.toList.map byteA) := ⟨by simp, fun j hj => ?_⟩
    refine ⟨⟨.of_pure hpc, fun _ => hpc⟩, fun w' hw' => ?_⟩
    rotate_left
    · have hj' : j < b.data.size := by simpa using hj
      have hq : b.data[j]? = some b.data[j] := Array.getElem?_eq_getElem hj'
      have e2 : (b.data.toList.map fun c : UInt8 => Value.int .u8 (c.toNat : Int)).getD j undef = .int .u8 (b.data[j].toNat : Int) := by simp [List.getD_eq_getElem?_getD, hq]
      have e3 : (b.data.toList.map byteA)[j] = .c (.int .u8 (b.data[j].toNat : Int)) := by simp [byteA]
      rw [e2, e3]
      exact ⟨.c _, rfl⟩
    · rw [ev]
      simp only [Builtin.firstCells, Sem.run_pure]
      congr 1
      apply Array.toList_inj.1
      simp
  · exact .fail
end
end Go.Proofs.Ytjabaenpkimmjaa

/- K: structs and slices built, strings as bytes, sound. No program is in sight. -/
import Derived.Test.YtjabaenpkimmjaaKG
import Derived.Laws.MakeOwn
import Derived.Laws.IdiomStrings
import Derived.Laws.BytesArg
namespace Go.Proofs.Ytjabaenpkimmjaa
set_option linter.unusedSimpArgs false
set_option linter.unusedVariables false
open Go.RowKit

theorem len_mapM {α β : Type} {f : α → Option β} : ∀ {l : List α} {ys : List β}, l.mapM f = some ys → ys.length = l.length
  | [], ys, h => by simp at h; subst h; rfl
  | x :: l, ys, h => by
    simp only [List.mapM_cons, Option.bind_eq_bind, Option.bind_eq_some_iff, Option.pure_def, Option.some.injEq] at h
    obtain ⟨y, hy, zs, hz, rfl⟩ := h
    simp [len_mapM hz]
theorem get_mapM {α β : Type} {f : α → Option β} : ∀ {l : List α} {ys : List β} (h : l.mapM f = some ys) (j : Nat) (h1 : j < l.length) (h2 : j < ys.length), f l[j] = some ys[j]
  | x :: l, ys, h, j, h1, h2 => by
    simp only [List.mapM_cons, Option.bind_eq_bind, Option.bind_eq_some_iff, Option.pure_def, Option.some.injEq] at h
    obtain ⟨y, hy, zs, hz, rfl⟩ := h
    cases j with
    | zero => exact hy
    | succ j => exact get_mapM hz j (by simpa using h1) (by simpa using h2)

def sealAdd (Z : Seal) (g lo : Nat) (vs : List Value) : Seal := fun b o => if b = g ∧ lo ≤ o ∧ o < lo + vs.length then some (vs.getD (o - lo) undef) else Z b o
theorem sealAdd_le {Z : Seal} {g lo : Nat} {vs : List Value} (h : ∀ o, lo ≤ o → Z g o = none) : SealLe Z (sealAdd Z g lo vs) := fun b o v hv => by
  unfold sealAdd
  rw [if_neg]
  · exact hv
  · rintro ⟨rfl, h1, _⟩; rw [h o h1] at hv; cases hv
theorem sealAdd_at {Z : Seal} {g lo : Nat} {vs : List Value} {j : Nat} (h : j < vs.length) : sealAdd Z g lo vs g (lo + j) = some (vs.getD j undef) := by
  unfold sealAdd
  rw [if_pos ⟨rfl, by omega, by omega⟩, Nat.add_sub_cancel_left]
theorem sealAdd_of {Z : Seal} {g lo : Nat} {vs : List Value} {b o : Nat} {v : Value} (h : sealAdd Z g lo vs b o = some v) : (b = g ∧ lo ≤ o ∧ o - lo < vs.length ∧ v = vs.getD (o - lo) undef) ∨ Z b o = some v := by
  unfold sealAdd at h
  split at h
  · rename_i h1; cases h; exact .inl ⟨h1.1, h1.2.1, by omega, rfl⟩
  · exact .inr h

/-- Pure trees of pure cells. -/
def PCRel (Z : Seal) (vs : List Value) (cs : List AV) : Prop := vs.length = cs.length ∧ ∀ j (h : j < cs.length), PRel Z (vs.getD j undef) cs[j] ∧ (vs.getD j undef).oneCell' = true
theorem CRel.of_pure {G : Gh} {B : Nat → AV} {vs : List Value} {cs : List AV} (h : PCRel G.Z vs cs) : CRel G B vs cs := ⟨h.1, fun j hj => ⟨.p (h.2 j hj).1, (h.2 j hj).2⟩⟩

section
variable {E : Env} {o : Oper} {σ : AMap} {a : Act} {w : World} {G : Gh}

/-- A new sealed block. -/
theorem Sim.newSeal (h : Sim E σ a w G) (hd : dstOk E.N o) {w' : World} {vs : List Value} (hold : ∀ k, k < w.heap.size → w'.heap[k]? = w.heap[k]?) (hsz : w.heap.size ≤ w'.heap.size) (hos : w'.os = w.os ∧ w'.tape = w.tape ∧ w'.output = w.output)
    (hnew : ∀ j, j < vs.length → w'.cell? ⟨w.heap.size, j, none⟩ = some (vs.getD j undef) ∧ (vs.getD j undef).oneCell' = true) {v : Value} {x : AV} (hx : PRel (sealAdd G.Z w.heap.size 0 vs) v x) :
    ∃ G', Sim E (mupd σ (outs o x)) (a.put o.dst v) w' G' := by
  have hz0 : ∀ o', G.Z w.heap.size o' = none := fun o' => seal_new h o'
  have hle : SealLe G.Z (sealAdd G.Z w.heap.size 0 vs) := sealAdd_le fun o' _ => hz0 o'
  have hs : BStep G (lm σ) { G with Z := sealAdd G.Z w.heap.size 0 vs } (lm (mupd σ (outs o x))) :=
    ⟨hle, fun k hk => .same (outs_lm hd x k hk) rfl rfl rfl⟩
  refine ⟨{ G with Z := sealAdd G.Z w.heap.size 0 vs }, h.put (x := x) (dst_lt hd) hs ⟨fun b o' u hz => ?_, fun k g hg => ?_, fun k cs ty hk hB => h.st.real k cs ty hk ((outs_lm hd x k hk).symm.trans hB), h.st.inj, h.st.gl.mono hle⟩
    ⟨hos.1, hos.2.1, hos.2.2, hsz, fun b _ hb => hold b hb⟩ (fun b o' hb => if_neg (by rintro ⟨rfl, _⟩; exact pr_new h (Nat.le_refl _) hb)) (.p hx) fun t _ => mget_outs t⟩
  · rcases sealAdd_of hz with ⟨rfl, _, h2, rfl⟩ | hz
    · simpa using hnew (o' - 0) h2
    · have := h.st.agree b o' u hz
      exact ⟨(World.cell?_of_block (a := ⟨b, o', none⟩) (hold b (seal_lt h hz))).trans this.1, this.2⟩
  · obtain ⟨h1, h2, h3⟩ := h.st.box k g hg
    refine ⟨h1, h2, h3.step hs (outs_lm hd x k h1) rfl rfl (hold g (box_lt h hg)) fun o' => ?_⟩
    show sealAdd G.Z w.heap.size 0 vs g o' = G.Z g o'
    unfold sealAdd
    rw [if_neg]
    rintro ⟨rfl, _⟩; exact absurd (box_lt h hg) (Nat.lt_irrefl _)

theorem pure_rel {G : Gh} {B : Nat → AV} : ∀ (k : Nat) {x y : AV} {v : Value}, VRel G B v x → pureA k x = some y → PRel G.Z v y
  | 0, _, _, _, _, h => by simp [pureA] at h
  | k + 1, x, y, v, hv, h => by
    have lst : ∀ {cs ys : List AV} {vs : Array Value}, cs.mapM (pureA k) = some ys → (∀ j (hj : j < cs.length), VRel G B (vs.getD j undef) cs[j]) → ys.length = cs.length ∧ ∀ j (hj : j < ys.length), PRel G.Z (vs.getD j undef) ys[j] := fun {cs ys vs} hm hc => by
      have hl : ys.length = cs.length := len_mapM hm
      exact ⟨hl, fun j hj => pure_rel k (hc j (by omega)) (get_mapM hm j (by omega) hj)⟩
    cases x with
    | c x => simp [pureA] at h; subst h; rw [inv_c hv]; exact .c _
    | u => simp [pureA] at h
    | sl cs n o =>
      obtain ⟨ad, cap, b, off, f, rfl, ⟨h1, h2, h3, h4, h5⟩, hf, _⟩ := inv_sl hv
      cases o <;> simp [pureA] at h <;> subst h
      · exact .sl ad b off n cap .none cs f (.inl rfl) h1 h2 h3 h4 h5
      · exact .sl ad b off n cap .full cs f (.inr ⟨rfl, hf rfl⟩) h1 h2 h3 h4 h5
      · exact .sl ad b off n cap .none cs f (.inl rfl) h1 h2 h3 h4 h5
    | rf cs o =>
      simp [pureA] at h; subst h
      obtain ⟨b, off, f, rfl, hz, hp⟩ := inv_rf hv
      exact .rf b off o cs f hz hp
    | agg cs =>
      simp only [pureA, Option.map_eq_some_iff] at h
      obtain ⟨ys, hm, rfl⟩ := h
      obtain ⟨vs, rfl, hs, h1, hp⟩ := inv_agg hv
      obtain ⟨hl, hq⟩ := lst hm hp
      exact .agg vs ys (by omega) (fun j hj => h1 j (by omega)) hq
    | tup cs =>
      simp only [pureA, Option.map_eq_some_iff] at h
      obtain ⟨ys, hm, rfl⟩ := h
      obtain ⟨vs, rfl, hs, hp⟩ := inv_tup hv
      obtain ⟨hl, hq⟩ := lst hm hp
      exact .tup vs ys (by omega) hq
    | ifc t x =>
      simp only [pureA, Option.map_eq_some_iff] at h
      obtain ⟨y, hy, rfl⟩ := h
      obtain ⟨v', rfl, hv'⟩ := inv_ifc hv
      exact .ifc t v' y (pure_rel k hv' hy)
    | fn f p q =>
      obtain ⟨va, vb, rfl, ha, hb, pa, pb⟩ := inv_fn hv
      cases hp : p.mapM (pureA k) with
      | none => simp [pureA, hp] at h
      | some p' =>
        cases hq : q.mapM (pureA k) with
        | none => simp [pureA, hp, hq] at h
        | some q' =>
          simp [pureA, hp, hq] at h; subst h
          obtain ⟨l1, r1⟩ := lst hp pa
          obtain ⟨l2, r2⟩ := lst hq pb
          exact .fn f va vb p' q' (by omega) (by omega) r1 r2
    | loc b o => simp [pureA] at h
    | arr b o n e => simp [pureA] at h
    | bc cs ty => simp [pureA] at h
    | bt n e => simp [pureA] at h
    | mp b => simp [pureA] at h
    | ow b off n v => simp [pureA] at h
    | lo b off v => simp [pureA] at h
    | br cs v e sz => simp [pureA] at h
    | fo rows => simp [pureA] at h

/-! ### Structs and slices built. -/
theorem foldl_set (off : Nat) : ∀ (l : List Value) (k : Nat) (cells : Array Value), off + k + l.length ≤ cells.size →
    ((l.zipIdx k).foldl (fun (cs : Array Value) p => cs.setIfInBounds (off + p.2) p.1) cells).toList = cells.toList.take (off + k) ++ l ++ cells.toList.drop (off + k + l.length)
  | [], k, cells, _ => by simp
  | v :: l, k, cells, h => by
    have hl : off + k + (l.length + 1) ≤ cells.size := by simpa using h
    rw [List.zipIdx_cons, List.foldl_cons, foldl_set off l (k + 1) _ (by simp; omega)]
    have := list_seg_step cells.toList (off + k) v l (by simpa using hl)
    simpa [Nat.add_assoc] using this
theorem fill_rel {G : Gh} {B : Nat → AV} {place : Nat → Option (Nat × Nat)} : ∀ {xs : List (Nat × AV)} {vs : List (Nat × Value)} {cells : Array Value} {cs cs' : List AV}, CRel G B cells.toList cs → vs.length = xs.length →
    (∀ j (h1 : j < vs.length) (h2 : j < xs.length), vs[j].1 = xs[j].1 ∧ VRel G B vs[j].2 xs[j].2) → fillA place cs xs = some cs' → ∃ cells', Instr.fill place cells vs = some cells' ∧ CRel G B cells'.toList cs'
  | [], [], cells, cs, cs', hc, _, _, h => by simp [fillA] at h; subst h; exact ⟨cells, rfl, hc⟩
  | (i, x) :: xs, (i', v) :: vs, cells, cs, cs', hc, hl, hr, h => by
    obtain ⟨e, hv⟩ := hr 0 (by simp) (by simp)
    simp only [List.getElem_cons_zero] at e hv
    subst e
    simp only [fillA] at h
    cases hp : place i' with
    | none => simp [hp] at h
    | some pl =>
      obtain ⟨off, size⟩ := pl
      simp only [hp] at h
      split at h
      · rename_i hcond
        obtain ⟨h1, h2, h3⟩ := hcond
        have hcr := cells_rel hv h3
        have l1 := hcr.1
        have l2 := hc.1
        simp only [Array.length_toList] at l1 l2
        have hfold : (v.cells.zipIdx.foldl (fun cs (c, j) => cs.setIfInBounds (off + j) c) cells).toList = cells.toList.take off ++ v.cells.toList ++ cells.toList.drop (off + v.cells.toList.length) := by
          have := foldl_set off v.cells.toList 0 cells (by simp; omega)
          rw [← Array.foldl_toList]
          simpa using this
        obtain ⟨cells', h4, h5⟩ := fill_rel (place := place) (cells := v.cells.zipIdx.foldl (fun cs (c, j) => cs.setIfInBounds (off + j) c) cells) (by rw [hfold]; exact hc.putAt hcr off) (by simpa using hl)
          (fun j hj1 hj2 => hr (j + 1) (by simpa using hj1) (by simpa using hj2)) h
        refine ⟨cells', ?_, h5⟩
        simp only [Instr.fill, hp]
        rw [if_neg (by simp; omega)]
        exact h4
      · cases h
  | [], _ :: _, _, _, _, _, hl, _, _ => by simp at hl
  | _ :: _, [], _, _, _, _, hl, _, _ => by simp at hl
theorem parts_rel {a : Act} {G : Gh} {B : Nat → AV} {parts : Array (Nat × Operand)} {ys : List AV} (hl : ys.length = (parts.toList.map (·.2)).length)
    (hr : ∀ j (h1 : j < (parts.toList.map (·.2)).length) (h2 : j < ys.length), VRel G B (a.eval (parts.toList.map (·.2))[j]) ys[j]) {L : List (Nat × Value)} (hL : L = (parts.map fun p => match p with | (i, x) => (i, a.eval x)).toList) :
    L.length = ((parts.toList.map (·.1)).zip ys).length ∧
    ∀ j (h1 : j < L.length) (h2 : j < ((parts.toList.map (·.1)).zip ys).length), L[j].1 = ((parts.toList.map (·.1)).zip ys)[j].1 ∧ VRel G B L[j].2 ((parts.toList.map (·.1)).zip ys)[j].2 := by
  subst hL
  simp only [List.length_map, Array.length_toList] at hl
  refine ⟨by simp [hl], fun j h1 h2 => ?_⟩
  have hj : j < parts.size := by simpa using h1
  have := hr j (by simpa using hj) (by omega)
  simpa using this
theorem snd_build (h : Sim E σ a w G) {t : TypeId} {parts : Array (Nat × Operand)} (ho : o.op = .build t parts) :
    Snd E.P σ (rdos (parts.toList.map (·.2)) fun vs => kBuild E.P E.N o t ((parts.toList.map (·.1)).zip vs)) (Good E o σ a w) :=
  .rdos h fun ys hl hr => by
    unfold kBuild
    split
    · rename_i pl z hp hz
      split
      · rename_i cs hf
        refine .need fun h1 => ?_
        obtain ⟨it, zv, hit, hiz, hzv⟩ := zero_of hz
        obtain ⟨hp1, hp2⟩ := parts_rel hl hr rfl
        obtain ⟨cells', h2, h3⟩ := fill_rel (cells := zv.cells) (by rw [hzv]; exact zero_rel h1) hp1 hp2 hf
        refine snd_ret h (v := .agg cells') ?_ (.agg _ _ (by simpa using h3.1) (fun j hj => by simpa [Array.getD_eq_getD_getElem?] using (h3.2 j hj).2) fun j hj => by simpa [Array.getD_eq_getD_getElem?] using (h3.2 j hj).1)
        have hb : E.P.built t (parts.map fun (i, x) => (i, a.eval x)).toList = some cells' := by
          unfold placesOf at hp
          cases hu : E.P.underlying t with
          | none => simp [hu] at hp
          | some d =>
            cases d <;> simp [hu] at hp
            rename_i fs
            simp only [Program.built, hit, hu, hiz, hp]
            simpa using h2
        simp only [execOp, ho, Sem.run_bind, run_build w t _ _ hb]
        rfl
      · exact .fail
    · exact .fail
theorem repA_rel {G : Gh} {B : Nat → AV} {z : List Value} (h1 : allOne (z.map ofV) = true) : ∀ n : Nat, CRel G B (List.replicate n z).flatten (repA (z.map ofV) n)
  | 0 => .nil _ _
  | n + 1 => by
    rw [List.replicate_succ, List.flatten_cons]
    exact (zero_rel h1).append (repA_rel h1 n)
theorem rep_cells (z : Array Value) : ∀ n : Nat, ((Array.range (n * z.size)).map (z[· % z.size]!)).toList = (List.replicate n z.toList).flatten
  | 0 => by simp
  | n + 1 => by
    by_cases hz : z.size = 0
    · have : z.toList = [] := by simpa using hz
      simp [hz, this]
    · apply List.ext_getElem?
      intro j
      have ih := rep_cells z n
      rw [List.replicate_succ', List.flatten_append, ← ih]
      simp only [List.flatten_cons, List.flatten_nil, List.append_nil]
      by_cases hj : j < n * z.size
      · rw [List.getElem?_append_left (by simpa using hj)]
        have : j < (n + 1) * z.size := by rw [Nat.succ_mul]; omega
        simp [hj, this]
      · rw [List.getElem?_append_right (by simpa using hj)]
        by_cases hj2 : j < (n + 1) * z.size
        · have e : j % z.size = j - n * z.size := by
            have h2 : j - n * z.size < z.size := by rw [Nat.succ_mul] at hj2; omega
            have h3 : j = (j - n * z.size) + z.size * n := by have hc := Nat.mul_comm z.size n; omega
            conv => lhs; rw [h3]
            rw [Nat.add_mul_mod_self_left, Nat.mod_eq_of_lt h2]
          have h2 : j - n * z.size < z.size := by rw [Nat.succ_mul] at hj2; omega
          simp [hj2, e, h2]
        · have h2 : z.size ≤ j - n * z.size := by rw [Nat.succ_mul] at hj2; omega
          simp [hj2, h2]
theorem pure_of_none {Z : Seal} {v : Value} {x : AV} (h : VRel ⟨Z, fun _ => none, fun _ => 0, fun _ => 0⟩ (fun _ => .u) v x) : PRel Z v x := by
  generalize hG : (⟨Z, fun _ => none, fun _ => 0, fun _ => 0⟩ : Gh) = G at h
  generalize hB : (fun _ : Nat => AV.u) = B at h
  induction h with
  | p h => subst hG; exact h
  | tok a n cap cs b tip e h hb hB' hn hk => subst hB; cases hB'
  | loc b off g cs ty hb hB' hg hm => subst hB; cases hB'
  | arr b off n e cap g cs ty hb hB' hg hn hm => subst hB; cases hB'
  | mp b g cs ty hb hB' hg hm => subst hB; cases hB'
  | ow a n cap b off v cs v' e sz hb hB' hn ha hv hk => subst hB; cases hB'
  | lo g o b off v cs v' e sz hb hB' hv hk => subst hB; cases hB'
  | agg vs cs hs h1 hp ih => exact .agg vs cs hs h1 ih
  | tup vs cs hs hp ih => exact .tup vs cs hs ih
  | ifc t v x h ih => exact .ifc t v x ih
  | fn f va vb a b ha hb pa pb ia ib => exact .fn f va vb a b ha hb ia ib
theorem run_buildSlice' {P : Program} {w : World} {t e len sz : Nat} {z : List Value} {parts : Array (Nat × Value)} {cells : Array Value} (he : elemOf P t = some e) (hsz : szOf P e = some sz) (hz : zeroOf P e = some z) (hzl : z.length = sz) (hm : len * sz ≤ 16777216)
    {c0 : Array Value} (hc0 : c0.toList = (List.replicate len z).flatten) (hf : Instr.fill (fun i => some (i * sz, sz)) c0 parts.toList = some cells) :
    (Instr.buildSlice t len parts).run P w = .ok (.slice (some ⟨w.heap.size, 0, none⟩) len len) (w.alloc (.cells cells e)) := by
  obtain ⟨i, v, hi, hiz, hv⟩ := zero_of hz
  have hs : i.size = sz := by unfold szOf at hsz; simpa [hi] using hsz
  have hr := rep_cells v.cells len
  have hvs : v.cells.size = sz := by rw [← hzl, ← hv]; simp
  rw [hv, hvs] at hr
  subst hs
  by_cases h0 : len * i.size = 0
  · have hc : c0 = #[] := by
      rw [h0] at hr
      apply Array.toList_inj.1
      rw [hc0, ← hr]; simp
    subst hc
    have hm' : ¬ 2 ^ 24 < len * i.size := by omega
    have hf0 : Instr.fill (fun j => some (j * i.size, i.size)) (Array.map (fun _ => (default : Value)) (Array.range 0)) parts.toList = some cells := by
      rw [show Array.map (fun _ => (default : Value)) (Array.range 0) = #[] by simp]; exact hf
    simp [Instr.buildSlice, run_underlying (und_elem he), sizeOf, typeInfo, hi, hm', h0, hf0, newRow]
  · have hc : c0 = (Array.range (len * i.size)).map (v.cells[· % v.cells.size]!) := by
      apply Array.toList_inj.1
      rw [hc0, ← hr, hvs]
    subst hc
    exact run_buildSlice w t e len parts cells i v (und_elem he) hi hiz (by omega) h0 hf
theorem fillA_len {place : Nat → Option (Nat × Nat)} : ∀ {xs : List (Nat × AV)} {cs cs' : List AV}, fillA place cs xs = some cs' → cs'.length = cs.length
  | [], cs, cs', h => by simp [fillA] at h; subst h; rfl
  | (i, x) :: xs, cs, cs', h => by
    simp only [fillA] at h
    cases hp : place i with
    | none => simp [hp] at h
    | some pl =>
      obtain ⟨off, size⟩ := pl
      simp only [hp] at h
      split at h
      · rename_i hc
        rw [fillA_len h, putAt_length (by omega)]
      · cases h
theorem repA_len (z : List AV) : ∀ n, (repA z n).length = n * z.length
  | 0 => by simp [repA]
  | n + 1 => by rw [repA, List.length_append, repA_len z n, Nat.succ_mul]; omega
theorem snd_buildSlice (h : Sim E σ a w G) {t : TypeId} {len : Nat} {parts : Array (Nat × Operand)} (ho : o.op = .buildSlice t len parts) :
    Snd E.P σ (rdos (parts.toList.map (·.2)) fun vs => kBuildSlice E.P E.N o t len ((parts.toList.map (·.1)).zip vs)) (Good E o σ a w) :=
  .rdos h fun ys hl hr => by
    unfold kBuildSlice
    split
    · rename_i e sz z he hsz hz
      rw [he] at hsz hz
      simp only [Option.bind_some] at hsz hz
      split
      · rename_i ps hps
        split
        · rename_i cs hf
          refine .need fun ⟨h1, h2, h3⟩ => .need fun hd => .done fun Q => ?_
          obtain ⟨hp1, hp2⟩ := parts_rel hl hr rfl
          have hl2 := len_mapM hps
          have hc0 : ∃ c0 : Array Value, c0.toList = (List.replicate len z).flatten := ⟨(List.replicate len z).flatten.toArray, by simp⟩
          obtain ⟨c0, hc0⟩ := hc0
          obtain ⟨cells', h4, h5⟩ := fill_rel (G := ⟨G.Z, fun _ => none, fun _ => 0, fun _ => 0⟩) (B := fun _ => .u) (cells := c0) (by rw [hc0]; exact repA_rel h1 len) (hp1.trans hl2.symm) (fun j hj1 hj2 => by
            have h6 := get_mapM hps j (by omega) hj2
            obtain ⟨e1, e2⟩ := hp2 j hj1 (by omega)
            simp only [Option.map_eq_some_iff] at h6
            obtain ⟨y, hy, h7⟩ := h6
            rw [← h7]
            exact ⟨e1, .p (show PRel G.Z _ y from pure_rel (G := G) (B := lm σ) 4 e2 hy)⟩) hf
          have hrun := run_buildSlice' (w := w) he hsz hz h2 h3 hc0 h4
          unfold Oper.wp
          simp only [execOp, ho, Sem.run_bind, hrun]
          have hlen := h5.1
          exact h.newSeal hd (w' := w.alloc (.cells cells' e)) (vs := cells'.toList) (fun k hk => heap_alloc_old w _ hk) (by simp) ⟨rfl, rfl, rfl⟩ (fun j hj => by
              have := h5.2 j (by omega)
              have hj' : j < cells'.size := by simpa using hj
              refine ⟨?_, this.2⟩
              rw [cell_of_row _ w.heap.size j cells' e (0, 0) (heap_alloc_new w _)]
              simp [List.getD_eq_getElem?_getD, hj'])
            (.sl _ w.heap.size 0 len len .full cs (fun j => cells'.toList.getD j undef) (.inr ⟨rfl, rfl⟩) (Nat.le_refl _) (fun e => by cases e) (.inr rfl) (fun j hj => sealAdd_at (by omega))
              fun j hj => (pure_of_none (h5.2 j hj).1).mono (sealAdd_le fun o' _ => seal_new h o'))
        · exact .fail
      · split
        · rename_i cs d hf hdst
          refine .need fun ⟨hdd, h1, h2, h3⟩ => .rd ?_
          split
          · rename_i hk
            refine .done fun Q => ?_
            obtain ⟨hp1, hp2⟩ := parts_rel hl hr rfl
            obtain ⟨c0, hc0⟩ : ∃ c0 : Array Value, c0.toList = (List.replicate len z).flatten := ⟨(List.replicate len z).flatten.toArray, by simp⟩
            obtain ⟨cells', h4, h5⟩ := fill_rel (G := G) (B := lm σ) (cells := c0) (by rw [hc0]; exact repA_rel h1 len) hp1 hp2 hf
            have hrun := run_buildSlice' (w := w) he hsz hz h2 h3 hc0 h4
            have hd' : d < E.N ∧ d < 10000 := by unfold dstOk at hdd; rw [hdst] at hdd; exact hdd
            have hcells : E.P.cellsOf e = sz := by unfold szOf at hsz; simp [Program.cellsOf, hsz]
            have hfl : cs.length = len * sz := by
              have := fillA_len hf
              rw [this, repA_len, List.length_map, h2]
            obtain ⟨G', hG⟩ := h.newBlockRow (e := e) (sz := sz) (n := len) hd' hk h5 hcells.symm hfl
            unfold Oper.wp
            have hr : (execOp a.eval o).run E.P w = .ok (.value (.slice (some ⟨w.heap.size, 0, none⟩) len len)) (w.alloc (.cells cells' e)) := by
              simp only [execOp, ho, Sem.run_bind, hrun]; rfl
            rw [hr, Oper.upon, hdst]
            exact ⟨G', hG⟩
          · exact .fail
        · exact .fail
    · exact .fail

theorem snd_makeSlice (h : Sim E σ a w G) {t : TypeId} {x y : Operand} (ho : o.op = .makeSlice t x y) : Snd E.P σ (rdo x fun a => rdo y fun b => kMakeSlice E.P E.N o t a b) (Good E o σ a w) :=
  .rdo h fun va hva => .rdo h fun vb hvb => by
    unfold kMakeSlice
    split
    case h_2 => exact .fail
    rename_i e sz z he hsz hz
    rw [he] at hsz hz
    simp only [Option.bind_some] at hsz hz
    refine .ex fun vx hvx => ?_
    rcases hvx with rfl | rfl
    · show Snd E.P σ (kMakeM E.P E.N o e sz z va vb) _
      unfold kMakeM
      split
      · rename_i k n k' m
        split
        · rename_i d hd
          refine .need fun ⟨hnm, h0, hby, h63, h1, hzl, hdd, hty⟩ => .rd ?_
          split
          · rename_i hk
            refine .done fun Q => ?_
            subst hnm
            have ea := inv_c hva
            have eb := inv_c hvb
            obtain ⟨i, v, hi, hiz, hv⟩ := zero_of hz
            have hs : i.size = sz := by unfold szOf at hsz; simpa [hi] using hsz
            have hbb : bytesOfT E.P e = i.bytes := by unfold bytesOfT; simp [hi]
            rw [hbb] at hby
            have hrun := run_make w t e i v (und_elem he) hi hiz k k' n n h0 (Int.le_refl _) hby h63
            have hvs : v.cells.size = sz := by rw [← hzl, ← hv]; simp
            have hcl : (madeCells v.cells (n.toNat * i.size)).toList = (List.replicate n.toNat z).flatten := by
              rw [hs, ← hvs, ← hv]; exact rep_cells v.cells n.toNat
            have h5 : CRel G (lm σ) (madeCells v.cells (n.toNat * i.size)).toList (repA (z.map ofV) n.toNat) := by rw [hcl]; exact repA_rel h1 _
            generalize madeCells v.cells (n.toNat * i.size) = cells' at *
            have hdd' : d < E.N ∧ d < 10000 := by unfold dstOk at hdd; rw [hd] at hdd; exact hdd
            obtain ⟨G', hG⟩ := h.newBoxV hdd' hk (c := cells') e (FitsC.of_rel h5).1 (FitsC.of_rel h5).2 hty (.arr (10000 + d) 0 n.toNat e) (.slice (some ⟨w.heap.size, 0, none⟩) n.toNat n.toNat) fun G' B' hB hg => .arr (10000 + d) 0 n.toNat e n.toNat w.heap.size _ e (by omega) hB hg (Nat.le_refl _) hty
            unfold Oper.wp
            have hr : (execOp a.eval o).run E.P w = .ok (.value (.slice (some ⟨w.heap.size, 0, none⟩) n.toNat n.toNat)) (w.alloc (.cells cells' e)) := by
              simp only [execOp, ho, Sem.run_bind, ea, eb, hrun]; rfl
            rw [hr, Oper.upon, hd]
            exact ⟨G', hG⟩
          · exact .fail
        · exact .fail
      · exact .fail
    show Snd E.P σ (kMakeB E.P E.N o e sz z va vb) _
    unfold kMakeB
    split
    · rename_i k n k' m
      refine .need fun ⟨hnm, h0, hby, h63, h1, hzl⟩ => .need fun hd => .done fun Q => ?_
      subst hnm
      have ea := inv_c hva
      have eb := inv_c hvb
      obtain ⟨i, v, hi, hiz, hv⟩ := zero_of hz
      have hs : i.size = sz := by unfold szOf at hsz; simpa [hi] using hsz
      have hbb : bytesOfT E.P e = i.bytes := by unfold bytesOfT; simp [hi]
      rw [hbb] at hby
      have hrun := run_make w t e i v (und_elem he) hi hiz k k' n n h0 (Int.le_refl _) hby h63
      have hvs : v.cells.size = sz := by rw [← hzl, ← hv]; simp
      have hcl : (madeCells v.cells (n.toNat * i.size)).toList = (List.replicate n.toNat z).flatten := by
        rw [hs, ← hvs, ← hv]; exact rep_cells v.cells n.toNat
      have h5 : CRel ⟨G.Z, fun _ => none, fun _ => 0, fun _ => 0⟩ (fun _ => .u) (madeCells v.cells (n.toNat * i.size)).toList (repA (z.map ofV) n.toNat) := by rw [hcl]; exact repA_rel h1 _
      generalize madeCells v.cells (n.toNat * i.size) = cells' at *
      unfold Oper.wp
      simp only [execOp, ho, Sem.run_bind, ea, eb, hrun]
      have hlen := h5.1
      exact h.newSeal hd (w' := w.alloc (.cells cells' e)) (vs := cells'.toList) (fun k hk => heap_alloc_old w _ hk) (by simp) ⟨rfl, rfl, rfl⟩ (fun j hj => by
          have := h5.2 j (by omega)
          have hj' : j < cells'.size := by simpa using hj
          refine ⟨?_, this.2⟩
          rw [cell_of_row _ w.heap.size j cells' e (0, 0) (heap_alloc_new w _)]
          simp [List.getD_eq_getElem?_getD, hj'])
        (.sl _ w.heap.size 0 n.toNat n.toNat .full _ (fun j => cells'.toList.getD j undef) (.inr ⟨rfl, rfl⟩) (Nat.le_refl _) (fun e => by cases e) (.inr rfl) (fun j hj => sealAdd_at (by omega))
          fun j hj => (pure_of_none (h5.2 j hj).1).mono (sealAdd_le fun o' _ => seal_new h o'))
    · exact .fail
/-! ### Conversions. -/
theorem toBytes_len : ∀ l : List AV, (toBytes l).length = l.length
  | [] => rfl
  | x :: r => by
    have ih := toBytes_len r
    cases x with
    | c y => cases y <;> simp [toBytes, ih]
    | _ => simp [toBytes, ih]
theorem snd_convert (h : Sim E σ a w G) {src dst : TypeId} {x : Operand} (ho : o.op = .convert src dst x) : Snd E.P σ (rdo x fun v => kConvert E.P E.N o src dst v) (Good E o σ a w) :=
  .rdo h fun v hv => by
    unfold kConvert
    split
    · rename_i k n
      have ev := inv_c hv
      split
      · rename_i k' hk
        refine .need fun hs => ?_
        obtain ⟨d, hd⟩ := Option.isSome_iff_exists.1 hs
        exact snd_ret h (v := .int k' (k'.wrap n)) (by simp [execOp, ho, ev, convert, run_underlying hd, run_underlying (und_int hk), Conv.intToInt]) (.p (.c _))
      · exact .fail
    · rename_i s
      have ev := inv_c hv
      split
      · rename_i hst
        refine .need fun hs => ?_
        obtain ⟨d, hd⟩ := Option.isSome_iff_exists.1 hs
        exact snd_ret h (v := .string s) (by simp [execOp, ho, ev, convert, run_underlying hd, run_underlying (und_str hst)]) (.p (.c _))
      · split
        · rename_i e he
          refine .need fun ⟨hs, hu8⟩ => .need fun hd => .done fun Q => ?_
          have hrun := run_bytes_of_string (P := E.P) w src dst e s (und_str hs) (und_elem he) (und_int hu8)
          unfold Oper.wp
          simp only [execOp, ho, ev, Sem.run_bind, hrun]
          have hge : s.size ≤ grownCap w s.size 0 e := grownCap_ge w s.size 0 e
          refine h.newSeal hd (vs := s.data.toList.map fun b : UInt8 => Value.int .u8 (b.toNat : Int)) (fun k hk => heap_alloc_old w.drew _ hk) (by simp) ⟨rfl, rfl, rfl⟩ (fun j hj => ?_) ?_
          · have hj' : j < s.data.size := by simpa using hj
            have hq : s.data[j]? = some s.data[j] := Array.getElem?_eq_getElem hj'
            have hj2 : j < s.size := hj'
            refine ⟨?_, by simp [List.getD_eq_getElem?_getD, hq, Value.oneCell']⟩
            rw [cell_of_row _ w.heap.size j _ e _ (heap_alloc_new w.drew _)]
            simp [List.getD_eq_getElem?_getD, bytesRow, hq, hj2, Array.getElem?_append]
          · refine .sl _ w.heap.size 0 s.size _ .none _ (fun j => (s.data.toList.map fun b : UInt8 => Value.int .u8 (b.toNat : Int)).getD j undef) (.inl rfl) hge (fun e => by cases e) (.inr rfl) (fun j hj => sealAdd_at (by simpa using hj)) fun j hj => ?_
            have hj' : j < s.data.size := by simpa using hj
            have : ((s.data.toList.map byteA)[j]) = .c (.int .u8 (s.data[j].toNat : Int)) := by simp [byteA]
            have hq : s.data[j]? = some s.data[j] := Array.getElem?_eq_getElem hj'
            have e2 : (s.data.toList.map fun b : UInt8 => Value.int .u8 (b.toNat : Int)).getD j undef = .int .u8 (s.data[j].toNat : Int) := by simp [List.getD_eq_getElem?_getD, hq]
            rw [this, e2]
            exact .c _
        · exact .fail
    · rename_i cs n own
      split
      · rename_i e he
        refine .need fun ⟨h1, h2, h3, h4⟩ => ?_
        obtain ⟨ad, cap, b, off, f, ev, ⟨hn, ha, hc, hz, hp⟩, _⟩ := inv_sl hv
        have hf : ∀ j, j < cs.length → f j = .int .u8 (((toBytes cs).map fun b : UInt8 => (b.toNat : Int)).getD j 0) := fun j hj => by
          have h5 := hp j hj
          have hj' : j < (toBytes cs).length := by rw [toBytes_len]; exact hj
          have h6 : cs[j] = byteA ((toBytes cs)[j]) := by
            have : cs[j]? = ((toBytes cs).map byteA)[j]? := by rw [← h4]
            rw [List.getElem?_eq_getElem hj, List.getElem?_map, List.getElem?_eq_getElem hj'] at this
            simpa using this
          rw [h6] at h5
          have h7 : f j = .int .u8 ((toBytes cs)[j].toNat : Int) := inv_c (G := G) (B := lm σ) (.p h5)
          rw [h7]
          simp [List.getD_eq_getElem?_getD, hj']
        have hrun : (convert src dst (.slice ad n cap)).run E.P w = .ok (.string ⟨(toBytes cs).toArray⟩) w := by
          rcases hc with ⟨h0, hnil⟩ | rfl
          · subst hnil
            subst h0
            cases ad with
            | none => simp [convert, run_underlying (und_elem he), run_underlying (und_str h1), run_underlying (und_int h2), Conv.bytesToString, toBytes]; rfl
            | some ad => simp [convert, run_underlying (und_elem he), run_underlying (und_str h1), run_underlying (und_int h2), Conv.bytesToString, toBytes, loadCells, loadCellsFrom]; rfl
          · have := run_convert_bytes_arg (P := E.P) w src e (und_elem he) (und_int h2) b off n cap ((toBytes cs).map fun b : UInt8 => (b.toNat : Int)) (by simp [toBytes_len, h3]) (fun i hi => by
              have := (h.st.agree _ _ _ (hz i (by omega))).1
              rw [this, hf i (by omega)]) dst (und_str h1)
            rw [this]
            have e1 : ((fun n : Int => UInt8.ofNat n.toNat) ∘ fun b : UInt8 => (b.toNat : Int)) = id := funext fun b => by simp
            simp [strOfNums, e1]
        exact snd_ret h (v := .string ⟨(toBytes cs).toArray⟩) (by simp only [execOp, ho, ev, Sem.run_bind, hrun]; rfl) (.p (.c _))
      · exact .fail
    · rename_i b n e0
      split
      · rename_i e he
        obtain ⟨g, cap, cs0, ty0, ev, hn, hb, hB, hg, hm⟩ := inv_arr hv
        refine .rd ?_
        rw [(lk_bc hB).2]
        obtain ⟨c, hc, hr, _, _, hfc⟩ := box_cells h hb hB hg hm
        refine .need fun ⟨h1, h2, h3, h4⟩ => ?_
        have hcs : cs0.length ≤ c.size := hfc
        have hf : ∀ j, j < cs0.length → c.getD j undef = .int .u8 (((toBytes cs0).map fun b : UInt8 => (b.toNat : Int)).getD j 0) := fun j hj => by
          have h5 := (box_cell hr hj).1
          have hj' : j < (toBytes cs0).length := by rw [toBytes_len]; exact hj
          have h6 : cs0[j] = byteA ((toBytes cs0)[j]) := by
            have : cs0[j]? = ((toBytes cs0).map byteA)[j]? := by rw [← h4]
            rw [List.getElem?_eq_getElem hj, List.getElem?_map, List.getElem?_eq_getElem hj'] at this
            simpa using this
          rw [h6] at h5
          have h7 := inv_c h5
          rw [h7]
          simp [List.getD_eq_getElem?_getD, hj']
        have hrun : (convert src dst (.slice (some ⟨g, 0, none⟩) n cap)).run E.P w = .ok (.string ⟨(toBytes cs0).toArray⟩) w := by
          have := run_convert_bytes_arg (P := E.P) w src e (und_elem he) (und_int h2) g 0 n cap ((toBytes cs0).map fun b : UInt8 => (b.toNat : Int)) (by simp [toBytes_len, h3]) (fun i hi => by
            have hi' : i < c.size := by omega
            have h9 := hf i (by omega)
            have h10 : c.getD i undef = c[i] := by simp [Array.getD_eq_getD_getElem?, hi']
            rw [h10] at h9
            rw [cell_of_row _ g (0 + i) c ty0 (0, 0) hc]
            simp [hi', h9]) dst (und_str h1)
          rw [this]
          have e1 : ((fun n : Int => UInt8.ofNat n.toNat) ∘ fun b : UInt8 => (b.toNat : Int)) = id := funext fun b => by simp
          simp [strOfNums, e1]
        exact snd_ret h (v := .string ⟨(toBytes cs0).toArray⟩) (by simp only [execOp, ho, ev, Sem.run_bind, hrun]; rfl) (.p (.c _))
      · exact .fail
    · rename_i b n ver
      split
      · rename_i e he
        obtain ⟨ad, cap, cs0, v', e0, sz0, ev, hn, had, hb, hB, hvv, how⟩ := inv_ow hv
        refine .rdRow hb fun cs2 v2 e2' sz2 wr hB2 _ => .need fun ⟨h0, h1, h2, h3, h4⟩ => ?_
        rw [hB] at hB2; cases hB2
        have how := how h0
        have hrun : (convert src dst (.slice ad n cap)).run E.P w = .ok (.string ⟨(toBytes cs0).toArray⟩) w := by
          by_cases hn0 : n = 0
          · have hnil : cs0 = [] := List.eq_nil_of_length_eq_zero (by omega)
            subst hnil
            subst hn0
            cases ad with
            | none => simp [convert, run_underlying (und_elem he), run_underlying (und_str h1), run_underlying (und_int h2), Conv.bytesToString, toBytes]; rfl
            | some ad => simp [convert, run_underlying (und_elem he), run_underlying (und_str h1), run_underlying (und_int h2), Conv.bytesToString, toBytes, loadCells, loadCellsFrom]; rfl
          cases hγ : G.γ b with
          | none => have := how.1 hγ; omega
          | some g =>
            obtain ⟨_, q2⟩ := how.2 g hγ
            have q2 := q2.resolve_left (by omega)
            subst q2
            obtain ⟨⟨c, hc, hsz, _, hle, _, hr⟩, _⟩ := row_cells h hB hγ
            have hf : ∀ j, j < cs0.length → c.getD (G.β b + j) undef = .int .u8 (((toBytes cs0).map fun b : UInt8 => (b.toNat : Int)).getD j 0) := fun j hj => by
              have h5 := (hr j hj).1
              have hj' : j < (toBytes cs0).length := by rw [toBytes_len]; exact hj
              have h6 : cs0[j] = byteA ((toBytes cs0)[j]) := by
                have : cs0[j]? = ((toBytes cs0).map byteA)[j]? := by rw [← h4]
                rw [List.getElem?_eq_getElem hj, List.getElem?_map, List.getElem?_eq_getElem hj'] at this
                simpa using this
              rw [h6] at h5
              have h7 := inv_c h5
              rw [h7]
              simp [List.getD_eq_getElem?_getD, hj']
            rw [Nat.add_zero]
            have := run_convert_bytes_arg (P := E.P) w src e (und_elem he) (und_int h2) g (G.β b) n cap ((toBytes cs0).map fun b : UInt8 => (b.toNat : Int)) (by simp [toBytes_len, h3]) (fun i hi => by
              have hi' : G.β b + i < c.size := by omega
              have h9 := hf i (by omega)
              have h10 : c.getD (G.β b + i) undef = c[G.β b + i] := by simp [Array.getD_eq_getD_getElem?, hi']
              rw [h10] at h9
              rw [cell_of_row _ g (G.β b + i) c e0 (0, 0) hc]
              simp [hi', h9]) dst (und_str h1)
            rw [this]
            have e1 : ((fun n : Int => UInt8.ofNat n.toNat) ∘ fun b : UInt8 => (b.toNat : Int)) = id := funext fun b => by simp
            simp [strOfNums, e1]
        exact snd_ret h (v := .string ⟨(toBytes cs0).toArray⟩) (by simp only [execOp, ho, ev, Sem.run_bind, hrun]; rfl) (.p (.c _))
      · exact .fail
    · exact .fail
end
end Go.Proofs.Ytjabaenpkimmjaa

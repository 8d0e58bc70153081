/- K: a row of one's own lent to a function that reads it alone: as sealed memory for that time; what comes back is apart from it, for its cells are of other kinds. No program is in sight. -/
import Derived.Test.YtjgfhblciapkfaaKRw
namespace Go.Proofs.Ytjgfhblciapkfaa
set_option linter.unusedSimpArgs false
set_option linter.unusedVariables false
open Go.RowKit
def valKind : Value → Nat
  | .string _ => 1
  | .bool _ => 2
  | .slice .. => 3
  | .pointer _ => 4
  | .iface .. => 5
  | .func .. => 6
  | .nilIface => 7
  | .int .i64 _ => 8
  | .int .u8 _ => 9
  | .int .u64 _ => 10
  | _ => 0
def kindOf : AV → Nat
  | .c v => valKind v
  | .sl .. => 3
  | .rf .. => 4
  | .ifc .. => 5
  | .fn .. => 6
  | _ => 0
theorem kind_rel {Z : Seal} {v : Value} {x : AV} (h : PRel Z v x) (hk : kindOf x ≠ 0) : valKind v = kindOf x := by
  cases h with
  | c x => rfl
  | u x => exact absurd rfl hk
  | sl => rfl
  | rf => rfl
  | agg => exact absurd rfl hk
  | tup => exact absurd rfl hk
  | ifc => rfl
  | fn => rfl
/-- No cell of those is of the kind of this one. -/
def clash (cs : List AV) (x : AV) : Prop := kindOf x ≠ 0 ∧ ∀ y ∈ cs, kindOf y ≠ 0 ∧ kindOf y ≠ kindOf x
def headOk (cs : List AV) : List AV → Prop
  | [] => True
  | x :: _ => clash cs x
def apart (cs : List AV) : Nat → AV → Prop
  | 0, _ => False
  | n + 1, .sl l _ _ => headOk cs l ∧ ∀ x ∈ l, apart cs n x
  | n + 1, .rf l _ => headOk cs l ∧ ∀ x ∈ l, apart cs n x
  | n + 1, .agg l => ∀ x ∈ l, apart cs n x
  | n + 1, .tup l => ∀ x ∈ l, apart cs n x
  | n + 1, .ifc _ x => apart cs n x
  | n + 1, .fn _ a b => (∀ x ∈ a, apart cs n x) ∧ ∀ x ∈ b, apart cs n x
  | _ + 1, _ => True
theorem PRel.apart {Z Z' : Seal} {g : Nat} {cs : List AV} (hz : ∀ b o v, b ≠ g → Z b o = some v → Z' b o = some v) (hg : ∀ o v, Z g o = some v → ∃ j, ∃ h : j < cs.length, PRel Z v cs[j]) {v : Value} {x : AV} (h : PRel Z v x) : ∀ n, apart cs n x → PRel Z' v x := by
  have hne : ∀ (l : List AV) (b off : Nat) (f : Nat → Value), headOk cs l → (∀ j, j < l.length → Z b (off + j) = some (f j)) → (∀ j (h : j < l.length), PRel Z (f j) l[j]) → l = [] ∨ b ≠ g := fun l b off f ho hzl hp => by
    cases l with
    | nil => exact .inl rfl
    | cons x r =>
      right
      rintro rfl
      have h0 := hzl 0 (by simp)
      obtain ⟨j, hj, hpj⟩ := hg _ _ h0
      obtain ⟨h1, h2⟩ : clash cs x := ho
      obtain ⟨h3, h4⟩ := h2 cs[j] (List.getElem_mem hj)
      have e1 := kind_rel (hp 0 (by simp)) h1
      have e2 := kind_rel hpj h3
      simp only [List.getElem_cons_zero] at e1
      exact h4 (e2.symm.trans e1)
  induction h with
  | c x => intro n _; exact .c x
  | u x => intro n _; exact .u x
  | sl a b off n' cap o l f ho hn ha hc hzl hp ih =>
    intro n h
    cases n with
    | zero => exact h.elim
    | succ n =>
      obtain ⟨h1, h2⟩ := h
      refine .sl a b off n' cap o l f ho hn ha hc (fun j hj => ?_) fun j hj => ih j hj n (h2 _ (List.getElem_mem hj))
      rcases hne l b off f h1 hzl hp with e | e
      · subst e; simp at hj
      · exact hz _ _ _ e (hzl j hj)
  | rf b off o l f hzl hp ih =>
    intro n h
    cases n with
    | zero => exact h.elim
    | succ n =>
      obtain ⟨h1, h2⟩ := h
      refine .rf b off o l f (fun j hj => ?_) fun j hj => ih j hj n (h2 _ (List.getElem_mem hj))
      rcases hne l b off f h1 hzl hp with e | e
      · subst e; simp at hj
      · exact hz _ _ _ e (hzl j hj)
  | agg vs l hs h1 hp ih =>
    intro n h
    cases n with
    | zero => exact h.elim
    | succ n => exact .agg vs l hs h1 fun j hj => ih j hj n (h _ (List.getElem_mem hj))
  | tup vs l hs hp ih =>
    intro n h
    cases n with
    | zero => exact h.elim
    | succ n => exact .tup vs l hs fun j hj => ih j hj n (h _ (List.getElem_mem hj))
  | ifc t v x h ih =>
    intro n hh
    cases n with
    | zero => exact hh.elim
    | succ n => exact .ifc t v x (ih n hh)
  | fn f va vb a b ha hb pa pb ia ib =>
    intro n h
    cases n with
    | zero => exact h.elim
    | succ n => exact .fn f va vb a b ha hb (fun j hj => ia j hj n (h.1 _ (List.getElem_mem hj))) fun j hj => ib j hj n (h.2 _ (List.getElem_mem hj))
/-- The row's slices as sealed ones; all else pure. -/
def lendA (cs : List AV) (ver sz : Nat) : AV → Option AV
  | .ow b off n v => if b = 20000 ∧ v = ver ∧ off + n * sz ≤ cs.length then some (.sl (rowCut cs off (n * sz)) n .none) else none
  | x => pureA 4 x
theorem afn_lend {P : Program} {f : FuncId} {args args' cs : List AV} {ver e sz : Nat} {r : AV} (h : AFn P f args' [] r []) (ha : args.mapM (lendA cs ver sz) = some args') (hcs : cs.mapM (pureA 4) = some cs) (n : Nat) (hr : apart cs n r) :
    AFn P f args [.br cs ver e sz] r [.br cs ver e sz] := fun w G vs hst hX hvs hargs => by
  have hl := len_mapM ha
  have hx : ∀ k, extGet [.br cs ver e sz] k = if k = 20000 then .br cs ver e sz else .u := ext_one _
  have honly : ∀ k g', G.γ k = some g' → k = 20000 := fun k g' hk => by
    apply Classical.byContradiction
    intro hne
    exact (hst.box k g' hk).2.2.not_u (by rw [hx, if_neg hne])
  cases hg : G.γ 20000 with
  | none =>
    have hst0 : BSim P (fun b => b < w.heap.size ∧ ∀ k, (Gh.mk G.Z (fun _ => none) G.κ G.β).γ k ≠ some b) (Gh.mk G.Z (fun _ => none) G.κ G.β) (extGet []) w :=
      ⟨hst.agree, (fun k g hk => by cases hk), (fun k cs ty _ hk => by rw [ext_nil] at hk; cases hk), (fun k k' g hk => by cases hk), hst.gl⟩
    refine (h w ⟨G.Z, fun _ => none, G.κ, G.β⟩ vs hst0 (fun g cs hg => ⟨(hX g cs hg).1, (hX g cs hg).2.1, fun k hk => by cases hk⟩) (by omega) fun j hj => ?_).mono ?_
    · have hj' : j < args.length := by omega
      have hm := get_mapM ha j hj' hj
      have hv := hargs j hj'
      generalize args[j] = x at hm hv
      cases x with
      | ow b off n v =>
        simp only [lendA] at hm
        split at hm
        · rename_i hc
          obtain ⟨rfl, rfl, hc3⟩ := hc
          obtain ⟨ad, cap, cs1, v', e', sz', ev, hn, had, _, hB, hvv, how⟩ := inv_ow hv
          rw [hx, if_pos rfl] at hB; cases hB
          have hcap := (how rfl).1 hg
          have hn0 : n = 0 := by omega
          simp only [Option.some.injEq] at hm
          rw [ev, ← hm]
          subst hn0
          have e1 : rowCut cs off (0 * sz) = [] := by rw [rowCut_eq]; simp
          rw [e1]
          exact .p (.sl ad 0 0 0 cap .none [] (fun _ => undef) (.inl rfl) hn had (.inl ⟨rfl, rfl⟩) (fun j hj => by simp at hj) fun j hj => by simp at hj)
        · cases hm
      | _ => exact .p (show PRel G.Z _ _ from pure_rel (G := G) 4 hv hm)
    · rintro e' w' ⟨v, G', h1, h2, h3, h4, h5, h6⟩
      have hz : ∀ b o, b < w.heap.size → G'.Z b o = G.Z b o := fun b o hb => h6 b o hb fun k hk => by cases hk
      have hnb : ∀ k, G.γ k = none := fun k => by
        cases hk : G.γ k with
        | none => rfl
        | some g => have := honly k g hk; subst this; rw [hg] at hk; cases hk
      refine ⟨v, ⟨G'.Z, G.γ, G.κ, G.β⟩, h1, .p (show PRel G'.Z v r from pure_of_u (G := G') (fun k _ => ext_nil k) h2), ⟨h3.agree, fun k g hk => ?_, hst.real, hst.inj, h3.gl⟩, ⟨h4.os, h4.tape, h4.output, h4.size, fun b hb hlt => h4.block b ⟨hlt, fun k hk => by cases hk⟩ hlt⟩, ⟨h5.1, fun k _ => .same rfl rfl rfl rfl⟩, fun b o hb _ => hz b o hb⟩
      have hk' : G.γ k = some g := hk
      rw [hnb] at hk'; cases hk'
  | some g =>
    obtain ⟨_, hpr, hbx⟩ := hst.box 20000 g hg
    rcases hbx with ⟨_, _, r1, _⟩ | ⟨_, _, r1, _⟩ | ⟨cs2, v2, e2, sz2, r1, cur, r2, r3, r4, r5, r6, r7⟩
    · rw [hx, if_pos rfl] at r1; cases r1
    · rw [hx, if_pos rfl] at r1; cases r1
    rw [hx, if_pos rfl] at r1; cases r1
    have hgl : g < w.heap.size := (Array.getElem?_eq_some_iff.1 r2).1
    -- the row's cells
    obtain ⟨cells, hcells⟩ : ∃ cells : List Value, cells = (List.range cs.length).map fun j => cur.getD (G.β 20000 + j) undef := ⟨_, rfl⟩
    have hcl : cells.length = cs.length := by rw [hcells]; simp
    have hcg : ∀ j, j < cs.length → cells.getD j undef = cur.getD (G.β 20000 + j) undef := fun j hj => by rw [hcells]; simp [List.getD_eq_getElem?_getD, hj]
    have hpc : ∀ j (hj : j < cs.length), PRel G.Z (cells.getD j undef) cs[j] := fun j hj => by
      rw [hcg j hj]
      have := pure_rel 4 (r7 j hj).1 (get_mapM hcs j hj hj)
      exact this
    have hZ1 : SealLe G.Z (sealAdd G.Z g (G.β 20000) cells) := sealAdd_le fun o _ => r6 o
    have hZg : ∀ o v, sealAdd G.Z g (G.β 20000) cells g o = some v → ∃ j, ∃ h : j < cs.length, PRel G.Z v cs[j] := fun o v hv => by
      rcases sealAdd_of hv with ⟨_, q1, q2, rfl⟩ | hv
      · exact ⟨o - G.β 20000, by omega, hpc _ (by omega)⟩
      · rw [r6] at hv; cases hv
    have hst0 : BSim P (fun b => b < w.heap.size ∧ ∀ k, (Gh.mk (sealAdd G.Z g (G.β 20000) cells) (fun _ => none) G.κ G.β).γ k ≠ some b) (Gh.mk (sealAdd G.Z g (G.β 20000) cells) (fun _ => none) G.κ G.β) (extGet []) w :=
      ⟨(fun b o v hv => by
          rcases sealAdd_of hv with ⟨rfl, q1, q2, rfl⟩ | hv
          · rw [hcl] at q2
            have h4 := hcg (o - G.β 20000) q2
            rw [show G.β 20000 + (o - G.β 20000) = o by omega] at h4
            have h5 := (r7 (o - G.β 20000) q2).2
            rw [show G.β 20000 + (o - G.β 20000) = o by omega] at h5
            have h6 : o < cur.size := by omega
            rw [h4]
            refine ⟨?_, h5⟩
            rw [cell_of_row _ b o cur e (0, 0) r2]
            simp [Array.getD_eq_getD_getElem?, h6]
          · exact hst.agree b o v hv), (fun k g hk => by cases hk), (fun k cs ty _ hk => by rw [ext_nil] at hk; cases hk), (fun k k' g hk => by cases hk), hst.gl.mono hZ1⟩
    refine (h w ⟨sealAdd G.Z g (G.β 20000) cells, fun _ => none, G.κ, G.β⟩ vs hst0 (fun g cs hg => ⟨(hX g cs hg).1, (hX g cs hg).2.1, fun k hk => by cases hk⟩) (by omega) fun j hj => ?_).mono ?_
    · have hj' : j < args.length := by omega
      have hm := get_mapM ha j hj' hj
      have hv := hargs j hj'
      generalize args[j] = x at hm hv
      cases x with
      | ow b off n v =>
        simp only [lendA] at hm
        split at hm
        · rename_i hc
          obtain ⟨rfl, rfl, hc3⟩ := hc
          obtain ⟨ad, cap, cs1, v', e', sz', ev, hn, had, _, hB, hvv, how⟩ := inv_ow hv
          rw [hx, if_pos rfl] at hB; cases hB
          obtain ⟨q1, q2⟩ := (how rfl).2 g hg
          simp only [Option.some.injEq] at hm
          rw [ev, ← hm]
          have hrl := rowCut_len hc3
          by_cases hc0 : n = 0
          · subst hc0
            have e1 : rowCut cs off (0 * sz) = [] := by rw [rowCut_eq]; simp
            rw [e1]
            exact .p (.sl ad 0 0 0 cap .none [] (fun _ => undef) (.inl rfl) hn had (.inl ⟨rfl, rfl⟩) (fun j hj => by simp at hj) fun j hj => by simp at hj)
          have q2 := q2.resolve_left (by omega)
          refine .p (.sl ad g (G.β 20000 + off) n cap .none _ (fun j => cells.getD (off + j) undef) (.inl rfl) hn had (.inr q2) (fun j hj => ?_) fun j hj => ?_)
          · rw [hrl] at hj
            have := sealAdd_at (Z := G.Z) (g := g) (lo := G.β 20000) (vs := cells) (j := off + j) (by omega)
            rw [Nat.add_assoc]; exact this
          · rw [hrl] at hj
            have e1 : (rowCut cs off (n * sz))[j]'(by rw [hrl]; exact hj) = cs[off + j]'(by omega) := by
              simp only [rowCut_eq, List.getElem_take, List.getElem_drop]
            rw [e1]
            exact (hpc (off + j) (by omega)).mono hZ1
        · cases hm
      | _ => exact .p (show PRel (sealAdd G.Z g (G.β 20000) cells) _ _ from (pure_rel (G := G) 4 hv hm).mono hZ1)
    · rintro e' w' ⟨v, G', h1, h2, h3, h4, h5, h6⟩
      have hz : ∀ b o, b < w.heap.size → G'.Z b o = sealAdd G.Z g (G.β 20000) cells b o := fun b o hb => h6 b o hb fun k hk => by cases hk
      have hle : SealLe G.Z G'.Z := hZ1.trans h5.1
      let Z2 : Seal := fun b o => if b = g then none else G'.Z b o
      have hZ2 : ∀ b o v, b ≠ g → G'.Z b o = some v → Z2 b o = some v := fun b o v hb hv => by show (if b = g then none else G'.Z b o) = _; rw [if_neg hb]; exact hv
      have hZ2' : ∀ b o v, Z2 b o = some v → b ≠ g ∧ G'.Z b o = some v := fun b o v hv => by
        have hv' : (if b = g then none else G'.Z b o) = some v := hv
        split at hv'
        · cases hv'
        · rename_i hb; exact ⟨hb, hv'⟩
      have hle2 : SealLe G.Z Z2 := fun b o v hv => by
        by_cases hb : b = g
        · subst hb; rw [r6] at hv; cases hv
        · exact hZ2 b o v hb (hle b o v hv)
      have hv2 : PRel Z2 v r := (pure_of_u (fun k _ => ext_nil k) h2).apart hZ2 (fun o u hu => by
        rw [hz g o hgl] at hu
        obtain ⟨j, hj, hp⟩ := hZg o u hu
        exact ⟨j, hj, hp.mono hle⟩) n hr
      have hs : BStep G (extGet [.br cs ver e sz]) ⟨Z2, G.γ, G.κ, G.β⟩ (extGet [.br cs ver e sz]) := ⟨hle2, fun k _ => .same rfl rfl rfl rfl⟩
      refine ⟨v, ⟨Z2, G.γ, G.κ, G.β⟩, h1, .p hv2, ⟨fun b o u hu => h3.agree b o u (hZ2' b o u hu).2, fun k g' hk => ?_, hst.real, hst.inj, fun g' cs' hg' => ?_⟩, ⟨h4.os, h4.tape, h4.output, h4.size, fun b hb hlt => h4.block b ⟨hlt, fun k hk => by cases hk⟩ hlt⟩, hs, fun b o hb hb2 => ?_⟩
      · have hk0 : G.γ k = some g' := hk
        have hk20 := honly k g' hk0
        subst hk20
        rw [hg] at hk0; cases hk0
        exact ⟨by decide, hpr, (hst.box 20000 g hg).2.2.step hs rfl rfl rfl (h4.block g ⟨hgl, fun k hk => by cases hk⟩ hgl) fun o => by show (if g = g then none else _) = _; rw [if_pos rfl, r6]⟩
      · exact (hst.gl g' cs' hg').mono hle2
      · have hbg : b ≠ g := fun e1 => hb2 20000 (by rw [e1]; exact hg)
        show (if b = g then none else G'.Z b o) = _
        rw [if_neg hbg, hz b o hb]
        unfold sealAdd
        rw [if_neg (fun hc => hbg hc.1)]
end Go.Proofs.Ytjgfhblciapkfaa

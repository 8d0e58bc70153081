/- How long a witness's bytes may be: of a light one, and of one that was read. In plain numbers; no program is in sight. -/
import Derived.Test.YtjgfhblciapkfaaPRd
import Derived.Test.YtjgfhblciapkfaaPDat
namespace Go.Proofs.Ytjgfhblciapkfaa
set_option linter.unusedSimpArgs false
set_option linter.unusedVariables false
open Go.RowKit
theorem num_len {z : Int} (h : Is64 z) : (num z).length ≤ 10 := nb_len10 (zig_lt h)
theorem len_64 {n : Nat} (h : n ≤ 140737488355328) : Is64 (n : Int) := by constructor <;> omega
theorem fm_bound {α : Type} {f : α → List Nat} {B : Nat} : ∀ {l : List α}, (∀ x ∈ l, (f x).length ≤ B) → (l.flatMap f).length ≤ l.length * B
  | [], _ => by simp
  | x :: l, h => by
    have h1 := h x (by simp)
    have h2 := fm_bound (l := l) fun y hy => h y (by simp [hy])
    rw [List.flatMap_cons, List.length_append, List.length_cons, Nat.succ_mul]; omega
theorem several_bound {α : Type} {f : α → List Nat} {B N : Nat} {l : List α} (hN : N ≤ 140737488355328) (hl : l.length ≤ N) (h : ∀ x ∈ l, (f x).length ≤ B) : (several f l).length ≤ 10 + N * B := by
  have h1 := num_len (len_64 (n := l.length) (by omega))
  have h2 := fm_bound h
  have h3 : l.length * B ≤ N * B := Nat.mul_le_mul_right _ hl
  unfold several
  rw [List.length_append]; omega
def lightS (s : StepD) : Bool := decide (s.P.length ≤ 70)
def lightL (m : LemmaD) : Bool := decide (m.L.length ≤ 40) && decide (m.S.length ≤ 60) && m.S.all lightS
def lightR (c : List Int) : Bool := decide (c.length ≤ 60)
def lightC (M : List LemmaD) (R : List (List Int)) : Bool := decide (M.length ≤ 40) && decide (R.length ≤ 60) && M.all lightL && R.all lightR
def lightY (x : ReplyD) : Bool := lightC x.M x.R
def lightO (r : RecordD) : Bool := decide (r.A.length ≤ 20) && decide (r.N.size ≤ 5000) && r.A.all lightY
def lightW (w : List RecordD) : Bool := decide (w.length ≤ 20) && w.all lightO
theorem light_bound {w : List RecordD} (hw : OkLen w ∧ ∀ r ∈ w, OkRecord r) (h : lightW w = true) : (witnessB w).length + 20 ≤ 140737488355328 := by
  simp only [lightW, Bool.and_eq_true, decide_eq_true_eq, List.all_eq_true] at h
  have hb : (witnessB w).length ≤ 10 + 20 * 70000000 := several_bound (by decide) h.1 fun r hr => by
    obtain ⟨o1, o2, o3⟩ := hw.2 r hr
    have hr' := h.2 r hr
    simp only [lightO, Bool.and_eq_true, decide_eq_true_eq, List.all_eq_true] at hr'
    have h1 := num_len (len_64 (n := r.N.size) (by omega))
    have h2 : (several replyB r.A).length ≤ 10 + 20 * 3461421 := several_bound (by decide) hr'.1.1 fun x hx => by
      obtain ⟨⟨p1, p2⟩, p3, p4⟩ := o3 x hx
      have hx' := hr'.2 x hx
      simp only [lightY, lightC, Bool.and_eq_true, decide_eq_true_eq, List.all_eq_true] at hx'
      have h3 : (several lemmaB x.M).length ≤ 10 + 40 * 85620 := several_bound (by decide) hx'.1.1.1 fun m hm => by
        obtain ⟨q1, q2⟩ := p2 m hm
        have hm' := hx'.1.2 m hm
        simp only [lightL, Bool.and_eq_true, decide_eq_true_eq, List.all_eq_true] at hm'
        have h4 : (clauseB m.L).length ≤ 10 + 40 * 10 := several_bound (by decide) hm'.1.1 fun z hz => num_len (q1.2 z hz)
        have h5 : (several stepB m.S).length ≤ 10 + 60 * 1420 := several_bound (by decide) hm'.1.2 fun s hs => by
          obtain ⟨r1, r2, r3⟩ := q2.2 s hs
          have hs' := hm'.2 s hs
          simp only [lightS, decide_eq_true_eq] at hs'
          have h6 : (several partB s.P).length ≤ 10 + 70 * 20 := several_bound (by decide) hs' fun p hp => by
            obtain ⟨t1, t2⟩ := r2 p hp
            have := num_len t1
            have := num_len t2
            unfold partB; rw [List.length_append]; omega
          have := num_len r3
          unfold stepB; rw [List.length_append]; omega
        unfold lemmaB; rw [List.length_append]; omega
      have h7 : (several clauseB x.R).length ≤ 10 + 60 * 610 := several_bound (by decide) hx'.1.1.2 fun c hc => by
        have hc' := hx'.2 c hc
        simp only [lightR, decide_eq_true_eq] at hc'
        have : (clauseB c).length ≤ 10 + 60 * 10 := several_bound (by decide) hc' fun z hz => num_len ((p4 c hc).2 z hz)
        omega
      unfold replyB
      split
      · rw [List.length_cons, List.length_append]; omega
      · simp
    unfold recordB
    simp only [List.length_append, List.length_map]
    have hN : r.N.data.toList.length = r.N.size := by simp
    omega
  omega

/-! ### What was read. -/
def Bnd {α : Type} (f : Rd → α × Rd) (g : α → List Nat) : Prop := ∀ s, Is8 s.xs → s.xs.length ≤ 4194304 → (f s).2.bad = false → s.bad = false ∧ (g (f s).1).length + 10 * (f s).2.xs.length ≤ 10 * s.xs.length
def OkF {α : Type} (f : Rd → α × Rd) (Ok : α → Prop) : Prop := ∀ s, Is8 s.xs → s.xs.length ≤ 4194304 → Ok (f s).1
theorem byte_bad {s : Rd} (h : (byteR s).2.bad = false) : s.bad = false ∧ (byteR s).2.xs.length + 1 = s.xs.length := by
  unfold byteR at *
  split at h
  · exact ⟨rfl, rfl⟩
  · simp [Rd.fail] at h
theorem go_bad : ∀ f k n (s : Rd), (numGo f k n s).2.bad = false → s.bad = false ∧ (numGo f k n s).2.xs.length + 1 ≤ s.xs.length
  | 0, k, n, s, h => by simp [numGo, Rd.fail] at h
  | f + 1, k, n, s, h => by
    unfold numGo at *
    split at h
    · simp [Rd.fail] at h
    · rename_i hc
      have hb : (byteR s).2.bad = false := by
        cases hb : (byteR s).2.bad
        · rfl
        · exact absurd (.inl hb) hc
      obtain ⟨b1, b2⟩ := byte_bad hb
      rw [if_neg hc]
      split at h
      · rename_i h1; rw [if_pos h1]; exact ⟨b1, by simp only; omega⟩
      · rename_i h1
        rw [if_neg h1]
        obtain ⟨g1, g2⟩ := go_bad f _ _ _ h
        exact ⟨b1, by omega⟩
theorem num_bad {s : Rd} (h : (numR s).2.bad = false) : s.bad = false ∧ (numR s).2.xs.length + 1 ≤ s.xs.length := go_bad 10 0 0 s h
theorem many_bad {s : Rd} (h : (manyR s).2.bad = false) : s.bad = false ∧ (manyR s).2.xs.length + 1 ≤ s.xs.length := by
  unfold manyR at *
  split at h
  · simp [Rd.fail] at h
  · rename_i hc; rw [if_neg hc]; exact num_bad h
theorem bnd_num : Bnd numR num := fun s h8 _ h => by
  obtain ⟨h1, h2⟩ := num_bad h
  have := num_len (num_64 h8)
  exact ⟨h1, by omega⟩
theorem ok_num : OkF numR Is64 := fun s h8 _ => num_64 h8
theorem loop_len {α : Type} (f : Rd → α × Rd) : ∀ n s, (loopR f n s).1.length ≤ n
  | 0, s => Nat.le_refl _
  | n + 1, s => by
    unfold loopR
    split
    · exact Nat.zero_le _
    · simpa using loop_len f n _
theorem bnd_loop {α : Type} {f : Rd → α × Rd} {g : α → List Nat} (hf : Bnd f g) (hw : Fwd f) : ∀ n (s : Rd), Is8 s.xs → s.xs.length ≤ 4194304 → (loopR f n s).2.bad = false → s.bad = false ∧ ((loopR f n s).1.flatMap g).length + 10 * (loopR f n s).2.xs.length ≤ 10 * s.xs.length
  | 0, s, h8, hl, h => ⟨h, by simp [loopR]⟩
  | n + 1, s, h8, hl, h => by
    unfold loopR at *
    split at h
    · rename_i hb; rw [hb] at h; cases h
    · rename_i hb
      rw [if_neg hb]
      have hl2 := (hw s).length_le
      obtain ⟨h1, h2⟩ := bnd_loop hf hw n _ (h8.suffix (hw s)) (by omega) h
      obtain ⟨h3, h4⟩ := hf s h8 hl h1
      refine ⟨h3, ?_⟩
      simp only [List.flatMap_cons, List.length_append]
      omega
theorem several_len {α : Type} (f : Rd → α × Rd) (s : Rd) : (severalR f s).1.length ≤ s.xs.length := by
  have h1 := loop_len f (manyR s).1 (manyR s).2
  have h2 := many_le s
  have h3 := (fwd_many s).length_le
  unfold severalR
  omega
theorem bnd_several {α : Type} {f : Rd → α × Rd} {g : α → List Nat} (hf : Bnd f g) (hw : Fwd f) : Bnd (severalR f) (several g) := fun s h8 hl h => by
  have h3 := (fwd_many s).length_le
  obtain ⟨h1, h2⟩ := bnd_loop hf hw _ _ (h8.suffix (fwd_many s)) (by omega) h
  obtain ⟨h4, h5⟩ := many_bad h1
  have h6 := num_len (len_64 (n := (severalR f s).1.length) (by have := several_len f s; omega))
  refine ⟨h4, ?_⟩
  unfold several
  rw [List.length_append]
  have h7 : ((severalR f s).1.flatMap g).length + 10 * (severalR f s).2.xs.length ≤ 10 * (manyR s).2.xs.length := h2
  omega
theorem ok_loop {α : Type} {f : Rd → α × Rd} {Ok : α → Prop} (hf : OkF f Ok) (hw : Fwd f) : ∀ n (s : Rd), Is8 s.xs → s.xs.length ≤ 4194304 → ∀ x ∈ (loopR f n s).1, Ok x
  | 0, s, _, _, x, hx => by simp [loopR] at hx
  | n + 1, s, h8, hl, x, hx => by
    unfold loopR at hx
    split at hx
    · simp at hx
    · simp only [List.mem_cons] at hx
      rcases hx with rfl | hx
      · exact hf s h8 hl
      · exact ok_loop hf hw n _ (h8.suffix (hw s)) (Nat.le_trans (hw s).length_le hl) x hx
theorem ok_several {α : Type} {f : Rd → α × Rd} {Ok : α → Prop} (hf : OkF f Ok) (hw : Fwd f) : OkF (severalR f) fun l => OkLen l ∧ ∀ x ∈ l, Ok x := fun s h8 hl =>
  ⟨by have := several_len f s; unfold OkLen; omega, fun x hx => ok_loop hf hw _ _ (h8.suffix (fwd_many s)) (Nat.le_trans (fwd_many s).length_le hl) x hx⟩
theorem bnd_seq {α β : Type} {f : Rd → α × Rd} {g : α → List Nat} {f' : Rd → β × Rd} {g' : β → List Nat} (h : Bnd f g) (hw : Fwd f) (h' : Bnd f' g') :
    Bnd (fun s => (((f s).1, (f' (f s).2).1), (f' (f s).2).2)) (fun p => g p.1 ++ g' p.2) := fun s h8 hl hb => by
  have hl2 := (hw s).length_le
  obtain ⟨h1, h2⟩ := h' _ (h8.suffix (hw s)) (by omega) hb
  obtain ⟨h3, h4⟩ := h s h8 hl h1
  refine ⟨h3, ?_⟩
  simp only [List.length_append]
  omega
theorem ok_seq {α β : Type} {f : Rd → α × Rd} {Ok : α → Prop} {f' : Rd → β × Rd} {Ok' : β → Prop} (h : OkF f Ok) (hw : Fwd f) (h' : OkF f' Ok') : OkF (fun s => (((f s).1, (f' (f s).2).1), (f' (f s).2).2)) (fun p => Ok p.1 ∧ Ok' p.2) := fun s h8 hl =>
  ⟨h s h8 hl, h' _ (h8.suffix (hw s)) (Nat.le_trans (hw s).length_le hl)⟩
theorem bnd_part : Bnd partR partB := bnd_seq bnd_num fwd_num bnd_num
theorem ok_part : OkF partR OkPart := ok_seq ok_num fwd_num ok_num
theorem bnd_step : Bnd stepR stepB := fun s => bnd_seq (bnd_several bnd_part fwd_part) (fwd_several fwd_part) bnd_num s
theorem ok_step : OkF stepR OkStep := fun s h8 hl => by
  obtain ⟨⟨h1, h2⟩, h3⟩ := ok_seq (ok_several ok_part fwd_part) (fwd_several fwd_part) ok_num s h8 hl
  exact ⟨h1, h2, h3⟩
theorem bnd_lemma : Bnd lemmaR lemmaB := fun s => bnd_seq (bnd_several bnd_num fwd_num) (fwd_several fwd_num) (bnd_several bnd_step fwd_step) s
theorem ok_lemma : OkF lemmaR OkLemma := fun s h8 hl => ok_seq (ok_several ok_num fwd_num) (fwd_several fwd_num) (ok_several ok_step fwd_step) s h8 hl
theorem bnd_cert : Bnd certR (fun p => several lemmaB p.1 ++ several clauseB p.2) := fun s => bnd_seq (bnd_several bnd_lemma fwd_lemma) (fwd_several fwd_lemma) (bnd_several (g := clauseB) (bnd_several bnd_num fwd_num) (fwd_several fwd_num)) s
theorem ok_cert : OkF certR (fun p => (OkLen p.1 ∧ ∀ m ∈ p.1, OkLemma m) ∧ OkLen p.2 ∧ ∀ c ∈ p.2, OkInts c) := fun s h8 hl =>
  ok_seq (ok_several ok_lemma fwd_lemma) (fwd_several fwd_lemma) (ok_several (Ok := OkInts) (ok_several ok_num fwd_num) (fwd_several fwd_num)) s h8 hl
theorem bnd_reply : Bnd replyR replyB := fun s h8 hl h => by
  unfold replyR at *
  by_cases hc : (byteR s).1 = 1
  · rw [if_pos hc] at h ⊢
    simp only at h ⊢
    have hl2 := (fwd_byte s).length_le
    obtain ⟨h1, h2⟩ := bnd_cert _ (h8.suffix (fwd_byte s)) (by omega) h
    obtain ⟨h3, h4⟩ := byte_bad h1
    refine ⟨h3, ?_⟩
    unfold replyB
    simp only [if_true, List.length_cons, List.length_append] at h2 ⊢
    omega
  · rw [if_neg hc] at h ⊢
    simp only at h ⊢
    by_cases h0 : (byteR s).1 = 0
    · rw [if_pos h0] at h ⊢
      obtain ⟨h3, h4⟩ := byte_bad h
      exact ⟨h3, by simp [replyB]; omega⟩
    · rw [if_neg h0] at h; simp [Rd.fail] at h
theorem ok_reply : OkF replyR OkReply := fun s h8 hl => by
  unfold replyR
  split
  · have hl2 := (fwd_byte s).length_le
    exact ok_cert _ (h8.suffix (fwd_byte s)) (by omega)
  · exact ⟨⟨by simp [OkLen], fun m hm => by simp at hm⟩, by simp [OkLen], fun m hm => by simp at hm⟩
theorem cut_size (p : Nat × Rd) : (cutR p).1.size ≤ p.2.xs.length ∧ (cutR p).1.size = min p.1 p.2.xs.length := by
  have : (cutR p).1.size = min p.1 p.2.xs.length := by simp [cutR, toText, ByteArray.size]
  exact ⟨by omega, this⟩
theorem bnd_record : Bnd recordR recordB := fun s h8 hl h => by
  have hl2 := (fwd_many s).length_le
  have hl3 := (fwd_cut (manyR s)).length_le
  obtain ⟨h1, h2⟩ := bnd_several bnd_reply fwd_reply _ ((h8.suffix (fwd_many s)).suffix (fwd_cut (manyR s))) (by omega) h
  have h3 : (manyR s).2.bad = false := h1
  obtain ⟨h4, h5⟩ := many_bad h3
  refine ⟨h4, ?_⟩
  obtain ⟨c1, c2⟩ := cut_size (manyR s)
  have c3 : (cutR (manyR s)).2.xs.length = (manyR s).2.xs.length - (manyR s).1 := by simp [cutR]
  have c4 := many_le s
  have h6 := num_len (len_64 (n := (cutR (manyR s)).1.size) (by omega))
  have hN : (cutR (manyR s)).1.data.toList.length = (cutR (manyR s)).1.size := by simp
  have h7 : (several replyB (recordR s).1.A).length + 10 * (recordR s).2.xs.length ≤ 10 * (cutR (manyR s)).2.xs.length := h2
  have h8 : (recordB (recordR s).1).length = (num (cutR (manyR s)).1.size).length + (cutR (manyR s)).1.size + (several replyB (recordR s).1.A).length := by
    unfold recordB
    simp only [List.length_append, List.length_map]
    rw [show (recordR s).1.N = (cutR (manyR s)).1 from rfl, hN]
  omega
theorem ok_record : OkF recordR OkRecord := fun s h8 hl => by
  have hl2 := (fwd_many s).length_le
  have hl3 := (fwd_cut (manyR s)).length_le
  obtain ⟨c1, _⟩ := cut_size (manyR s)
  have h := ok_several ok_reply fwd_reply _ ((h8.suffix (fwd_many s)).suffix (fwd_cut (manyR s))) (by omega)
  exact ⟨by (show (cutR (manyR s)).1.size ≤ _); omega, h.1, h.2⟩
theorem read_ok {b : List Nat} (h8 : Is8 b) : (OkLen (readR b).1 ∧ ∀ r ∈ (readR b).1, OkRecord r) ∧ (witnessB (readR b).1).length + 20 ≤ 140737488355328 := by
  have hnil : (OkLen ([] : List RecordD) ∧ ∀ r ∈ ([] : List RecordD), OkRecord r) ∧ (witnessB []).length + 20 ≤ 140737488355328 := by
    refine ⟨⟨by simp [OkLen], fun r hr => by simp at hr⟩, ?_⟩
    have : (witnessB []).length ≤ 10 + 0 * 0 := several_bound (by decide) (Nat.le_refl _) fun x hx => by simp at hx
    omega
  unfold readR
  split
  · exact hnil
  · split
    · exact hnil
    · split
      · exact hnil
      · rename_i h1 h2 h3
        have h2' : (severalR recordR ⟨b, false⟩).2.bad = false := by simpa using h2
        obtain ⟨k1, k2⟩ := bnd_several bnd_record fwd_record ⟨b, false⟩ h8 (by simp only; omega) h2'
        refine ⟨ok_several ok_record fwd_record ⟨b, false⟩ h8 (by simp only; omega), ?_⟩
        unfold witnessB
        simp only at k2 ⊢
        omega
theorem bytes_8 : ∀ n, ∀ b ∈ nb n, b < 256 := nb_byte
theorem several_8 {α : Type} {f : α → List Nat} {l : List α} (h : ∀ x ∈ l, Is8 (f x)) : Is8 (several f l) := fun b hb => by
  unfold several at hb
  rcases List.mem_append.1 hb with hb | hb
  · exact nb_byte _ b hb
  · obtain ⟨x, hx, hb⟩ := List.mem_flatMap.1 hb
    exact h x hx b hb
theorem app_8 {a b : List Nat} (ha : Is8 a) (hb : Is8 b) : Is8 (a ++ b) := fun x hx => (List.mem_append.1 hx).elim (ha x) (hb x)
theorem num_8 (z : Int) : Is8 (num z) := nb_byte _
theorem witness_8 (w : List RecordD) : Is8 (witnessB w) := several_8 fun r _ => app_8 (app_8 (num_8 _) fun b hb => by
    obtain ⟨x, _, rfl⟩ := List.mem_map.1 hb
    exact x.toNat_lt) (several_8 fun x _ => by
  unfold replyB
  split
  · exact fun b hb => by
      rcases List.mem_cons.1 hb with rfl | hb
      · decide
      · exact app_8 (several_8 fun m _ => app_8 (several_8 fun _ _ => num_8 _) (several_8 fun s _ => app_8 (several_8 fun p _ => app_8 (num_8 _) (num_8 _)) (num_8 _))) (several_8 fun c _ => several_8 fun _ _ => num_8 _) b hb
  · exact fun b hb => by simp at hb; subst hb; decide)
end Go.Proofs.Ytjgfhblciapkfaa

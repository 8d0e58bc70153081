/- strings.IndexByte and scan.run, in the world; then in K. -/
import Derived.Test.YteohaabijmdkgaaDoorTold
import Derived.Lib.Bytealg
import Derived.Laws.StandIn
import Derived.Laws.RangeAny
import Derived.Laws.Runes
import Derived.LoopTactic
namespace Go.Proofs.YteohaabijmdkgaaDoor
set_option linter.unusedSimpArgs false
set_option linter.unusedVariables false
open Go.RowKit Go.Extern
theorem rIndexByte (s : ByteArray) (c : Int) (w : World) :
    Calls Tryd.prog 28 #[.string s, .int .u8 c] w fun e w' => e = .returned (.int .i64 (firstIdx s c.toNat.toUInt8)) ∧ w' = w := by
  have hx := @run_callFunc_indexByte Tryd.prog 43 _ Tryd.func43 (by kernel_rfl) (by kernel_rfl) (by kernel_rfl) (by kernel_rfl)
  have hi : Calls Tryd.prog 39 #[.string s, .int .u8 c] w fun e w' => e = .returned (.int .i64 (firstIdx s c.toNat.toUInt8)) ∧ w' = w := by
    have he := run_indexByte_string (P := Tryd.prog) s c w
    go_enter Tryd.func39, Tryd.ntmps39
    go_wp2
    go_ret
    exact ⟨rfl, rfl⟩
  go_enter Tryd.func28, Tryd.ntmps28
  go_wp2_with (first | (go_at_call 39; refine hi.mono ?_; rintro e W ⟨rfl, rfl⟩) | fail)
  go_ret
  exact ⟨rfl, rfl⟩
/-- The bytes of a text that are among some, from its head on. -/
def among (some l : List UInt8) : Nat := (l.takeWhile fun c => some.contains c).length
theorem among_stop {some l : List UInt8} {p : Nat} (hp : p < l.length) (h : ∀ j (hj : j < l.length), j < p → some.contains l[j] = true) (hn : some.contains l[p] = false) : among some l = p := by
  unfold among
  induction l generalizing p with
  | nil => simp at hp
  | cons x l ih =>
    cases p with
    | zero => simp at hn; simp [List.takeWhile_cons, hn]
    | succ p =>
      have h0 := h 0 (by simp) (by omega)
      simp only [List.getElem_cons_zero] at h0
      rw [List.takeWhile_cons, if_pos h0, List.length_cons, ih (Nat.lt_of_succ_lt_succ hp) (fun j hj hjp => h (j + 1) (Nat.succ_lt_succ hj) (Nat.succ_lt_succ hjp)) hn]
theorem among_all {some l : List UInt8} (h : ∀ j (hj : j < l.length), some.contains l[j] = true) : among some l = l.length := by
  unfold among
  induction l with
  | nil => rfl
  | cons x l ih =>
    have h0 := h 0 (by simp)
    simp only [List.getElem_cons_zero] at h0
    rw [List.takeWhile_cons, if_pos h0, List.length_cons, ih fun j hj => h (j + 1) (Nat.succ_lt_succ hj)]
    rfl
theorem iter_below (w : World) (s : ByteArray) (pos : Nat) : Below w.heap.size w (w.iter s pos) := (Below.refl _ w).alloc (Nat.le_refl _) _
set_option maxRecDepth 100000 in
set_option maxHeartbeats 4000000 in
theorem run_any (s some : ByteArray) (hs : ∀ c ∈ some.data.toList, c.toNat < 128) (a : Nat) (ha : a ≤ s.size) (hl : s.size ≤ 4611686018427387904) (w : World) :
    Calls Tryd.prog 17 #[.string s, .int .i64 a, .string some] w fun e w' => e = .returned (.int .i64 (among some.data.toList (s.extract a s.size).data.toList)) ∧ Below w.heap.size w w' := by
  generalize ht : s.extract a s.size = t
  have hts : t.size = s.size - a := by rw [← ht, ByteArray.size_extract]; omega
  have hget : ∀ j (hj : j < t.size), t.data.toList[j]'(by simpa using hj) = t[j] := fun j hj => rfl
  go_enter Tryd.func17, Tryd.ntmps17
  go_wp2
  go_loopw [7] (fun _ w' => ∃ pos : Nat, w' = w.iter t pos ∧ pos ≤ t.size ∧ ∀ j (hj : j < t.size), j < pos → some.data.toList.contains t[j] = true) (fun _ w' => t.size - w'.iterPos w.heap.size)
  case atStart => exact ⟨0, rfl, Nat.zero_le _, fun j _ h => absurd h (by omega)⟩
  case round =>
    obtain ⟨pos, rfl, hpos, hall⟩ := hrel
    by_cases hp : pos < t.size
    · have hnx : ∀ ty, (Instr.next (.pointer (Option.some ⟨w.heap.size, 0, none⟩)) true ty).run Tryd.prog (w.iter t pos) = _ := fun ty => run_next_any w t pos ty hp
      by_cases hb : (t[pos]).toNat < 128
      · rw [decode_ascii t pos hp hb] at hnx
        have hidx := rIndexByte some ((t[pos]).toNat : Int) (w.iter t (pos + 1))
        simp only [Int.toNat_natCast, UInt8.ofNat_toNat] at hidx
        have hnn := firstIdx_nonneg some t[pos]
        have h127 : ¬ (127 : Int) < ((t[pos]).toNat : Int) := by omega
        have hcv : IntKind.u8.wrap ((t[pos]).toNat : Int) = ((t[pos]).toNat : Int) := by
          have := (t[pos]).toNat_lt
          rw [IntKind.wrap_u8]; omega
        by_cases hm : some.data.toList.contains t[pos] = true
        · have h0 : ¬ firstIdx some t[pos] < 0 := by
            have e : (some.data.toList.any fun x => x == t[pos]) = true := by rw [List.any_eq_true]; exact ⟨_, List.contains_iff_mem.1 hm, by simp⟩
            rw [e] at hnn
            have := of_decide_eq_true hnn
            omega
          clear hnn
          go_wp2_with (first | (go_at_call 28; refine hidx.mono ?_; rintro e W ⟨rfl, rfl⟩) | fail)
          go_roundw
          case rel =>
            refine ⟨pos + 1, rfl, by omega, fun j hj hjp => ?_⟩
            by_cases hjq : j = pos
            · subst hjq; exact hm
            · exact hall j hj (by omega)
          case measure =>
            simp
            omega
        · have h0 : firstIdx some t[pos] < 0 := by
            have e : (some.data.toList.any fun x => x == t[pos]) = false := by
              rw [List.any_eq_false]; intro x hx hxe; rw [beq_iff_eq] at hxe; subst hxe; exact hm (List.contains_iff_mem.2 hx)
            rw [e] at hnn
            have := of_decide_eq_false hnn
            omega
          clear hnn
          go_wp2_with (first | (go_at_call 28; refine hidx.mono ?_; rintro e W ⟨rfl, rfl⟩) | fail)
          go_ret
          have e := among_stop (some := some.data.toList) (l := t.data.toList) (p := pos) (by simpa using hp) (fun j hj hjp => hall j (by simpa using hj) hjp) (Bool.eq_false_iff.2 hm)
          rw [e]
          exact ⟨rfl, iter_below _ _ _⟩
      · have hdh := (decode_high t pos hp (by omega)).1
        have h127 : (127 : Int) < ((Utf8.decode t pos).1 : Int) := by omega
        go_wp2
        go_ret
        have hm : some.data.toList.contains t[pos] = false := by
          cases h : some.data.toList.contains t[pos] with
          | false => rfl
          | true => exact absurd (hs _ (List.contains_iff_mem.1 h)) hb
        have e := among_stop (some := some.data.toList) (l := t.data.toList) (p := pos) (by simpa using hp) (fun j hj hjp => hall j (by simpa using hj) hjp) hm
        rw [e]
        exact ⟨rfl, iter_below _ _ _⟩
    · have hnx : ∀ ty, (Instr.next (.pointer (Option.some ⟨w.heap.size, 0, none⟩)) true ty).run Tryd.prog (w.iter t pos) = _ := fun ty => run_next_end w t pos ty hp
      go_wp2
      go_ret
      have hpt : pos = t.size := by omega
      have e := among_all (some := some.data.toList) (l := t.data.toList) fun j hj => hall j (by simpa using hj) (by rw [hpt]; simpa using hj)
      rw [e]
      have e2 : (s.size : Int) - (a : Int) = (t.data.toList.length : Int) := by
        have : t.data.toList.length = t.size := by simp
        rw [this]; omega
      exact ⟨by rw [← e2]; rfl, iter_below _ _ _⟩
/-- The bytes of a text, in K. -/
abbrev bs (l : List UInt8) : AV := .c (.string ⟨l.toArray⟩)
theorem run_k (l some : List UInt8) (hs : ∀ c ∈ some, c.toNat < 128) (a : Nat) (ha : a ≤ l.length) (hl : l.length ≤ 4611686018427387904) :
    AFn Tryd.prog 17 [bs l, .c (.int .i64 a), bs some] [] (.c (.int .i64 (among some (l.drop a)))) [] :=
  afn_below fun w G vs hag hgl hs' hargs => by
    have h0 := inv_c (hargs 0 (by simp))
    have h1 := inv_c (hargs 1 (by simp))
    have h2 := inv_c (hargs 2 (by simp))
    obtain rfl := args3 hs' h0 h1 h2
    have h := run_any ⟨l.toArray⟩ ⟨some.toArray⟩ hs a ha hl w
    rw [show (ByteArray.mk l.toArray).size = l.length from rfl, ByteArray.extract_mk] at h
    have e : (ByteArray.mk ((l.drop a).take (l.length - a)).toArray).data.toList = l.drop a := by
      show (l.drop a).take (l.length - a) = l.drop a
      rw [List.take_of_length_le (by simp)]
    rw [e] at h
    exact h
end Go.Proofs.YteohaabijmdkgaaDoor

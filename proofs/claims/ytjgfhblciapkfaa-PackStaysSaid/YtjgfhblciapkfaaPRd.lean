/- What reading does, in plain numbers. No program is in sight. -/
import Derived.Test.YtjgfhblciapkfaaPackD
namespace Go.Proofs.Ytjgfhblciapkfaa
set_option linter.unusedSimpArgs false
set_option linter.unusedVariables false
open Go.RowKit

theorem and_all : ∀ x : Fin 256, bits .and .u8 ((x.val : Nat) : Int) 127 = ((x.val % 128 : Nat) : Int) := by decide +kernel
theorem and_byte {c : Nat} (h : c < 256) : bits .and .u8 (c : Int) 127 = ((c % 128 : Nat) : Int) := and_all ⟨c, h⟩
theorem ofInt_nat {a : Nat} (ha : a < 18446744073709551616) : (BitVec.ofInt 64 (a : Int)).toNat = a := by
  rw [BitVec.ofInt_natCast, BitVec.toNat_ofNat]; exact Nat.mod_eq_of_lt (by omega)
theorem wrap_nat {a : Nat} (ha : a < 18446744073709551616) : IntKind.u64.wrap (a : Int) = (a : Int) := by
  simp [IntKind.wrap, IntKind.bits, IntKind.signed]; omega
theorem wrap_nat8 {a : Nat} (ha : a < 256) : IntKind.u8.wrap (a : Int) = (a : Int) := by
  simp [IntKind.wrap, IntKind.bits, IntKind.signed]; omega
theorem or_low {n c i : Nat} (h : n < 2 ^ i) (h2 : n + c * 2 ^ i < 18446744073709551616) : bits .or .u64 (n : Int) ((c * 2 ^ i : Nat) : Int) = ((n + c * 2 ^ i : Nat) : Int) := by
  show IntKind.u64.wrap ((BitVec.ofInt 64 (n : Int) ||| BitVec.ofInt 64 ((c * 2 ^ i : Nat) : Int)).toNat : Int) = _
  rw [BitVec.toNat_or, ofInt_nat (by omega), ofInt_nat (by omega)]
  have e : n ||| c * 2 ^ i = n + c * 2 ^ i := by
    rw [Nat.or_comm, Nat.mul_comm, ← Nat.two_pow_add_eq_or_of_lt h, Nat.add_comm]
  rw [e]
  exact wrap_nat h2
theorem and_one {n : Nat} (h : n < 18446744073709551616) : bits .and .u64 (n : Int) 1 = ((n % 2 : Nat) : Int) := by
  show IntKind.u64.wrap ((BitVec.ofInt 64 (n : Int) &&& BitVec.ofInt 64 ((1 : Nat) : Int)).toNat : Int) = _
  rw [BitVec.toNat_and, ofInt_nat h, ofInt_nat (by omega), Nat.and_one_is_mod]
  exact wrap_nat (by omega)
theorem wrap_i {a : Nat} (ha : a < 9223372036854775808) : IntKind.i64.wrap (a : Int) = (a : Int) := by
  simp [IntKind.wrap, IntKind.bits, IntKind.signed]; omega
theorem xor_i0 {m : Nat} (h : m < 9223372036854775808) : bits .xor .i64 (m : Int) 0 = (m : Int) := by
  show IntKind.i64.wrap ((BitVec.ofInt 64 (m : Int) ^^^ BitVec.ofInt 64 0).toNat : Int) = _
  rw [show BitVec.ofInt 64 0 = 0#64 by decide, BitVec.xor_zero, ofInt_nat (by omega)]
  exact wrap_i h
theorem xor_i1 {m : Nat} (h : m < 9223372036854775808) : bits .xor .i64 (m : Int) (-1) = -(m : Int) - 1 := by
  have h2 : (BitVec.ofInt 64 (-1)) = BitVec.allOnes 64 := by decide
  show IntKind.i64.wrap ((BitVec.ofInt 64 (m : Int) ^^^ BitVec.ofInt 64 (-1)).toNat : Int) = _
  rw [h2, BitVec.xor_allOnes, BitVec.toNat_not, ofInt_nat (by omega)]
  simp [IntKind.wrap, IntKind.bits, IntKind.signed]; omega

/-! ### The reader. -/
structure Rd where
  xs : List Nat
  bad : Bool
def Rd.fail (s : Rd) : Rd := ⟨s.xs, true⟩
def byteR (s : Rd) : Nat × Rd := match s with
  | ⟨x :: r, false⟩ => (x, ⟨r, false⟩)
  | _ => (0, s.fail)
def unzig (n : Nat) : Int := if n % 2 = 1 then -((n / 2 : Nat) : Int) - 1 else ((n / 2 : Nat) : Int)
def numGo : Nat → Nat → Nat → Rd → Int × Rd
  | 0, _, _, s => (0, s.fail)
  | f + 1, k, n, s => if (byteR s).2.bad = true ∨ (k = 9 ∧ 1 < (byteR s).1) ∨ (0 < k ∧ (byteR s).1 = 0) then (0, (byteR s).2.fail)
    else if (byteR s).1 < 128 then (unzig (n + (byteR s).1 % 128 * 2 ^ (7 * k)), (byteR s).2) else numGo f (k + 1) (n + (byteR s).1 % 128 * 2 ^ (7 * k)) (byteR s).2
def numR (s : Rd) : Int × Rd := numGo 10 0 0 s
def manyR (s : Rd) : Nat × Rd := if (numR s).1 < 0 ∨ ((numR s).2.xs.length : Int) < (numR s).1 then (0, (numR s).2.fail) else ((numR s).1.toNat, (numR s).2)
/-- So many, one after another, while nothing is amiss. -/
def loopR {α : Type} (f : Rd → α × Rd) : Nat → Rd → List α × Rd
  | 0, s => ([], s)
  | n + 1, s => if s.bad = true then ([], s) else ((f s).1 :: (loopR f n (f s).2).1, (loopR f n (f s).2).2)
def severalR {α : Type} (f : Rd → α × Rd) (s : Rd) : List α × Rd := loopR f (manyR s).1 (manyR s).2
def partR (s : Rd) : (Int × Int) × Rd := (((numR s).1, (numR (numR s).2).1), (numR (numR s).2).2)
def stepR (s : Rd) : StepD × Rd := (⟨(severalR partR s).1, (numR (severalR partR s).2).1⟩, (numR (severalR partR s).2).2)
def lemmaR (s : Rd) : LemmaD × Rd := (⟨(severalR numR s).1, (severalR stepR (severalR numR s).2).1⟩, (severalR stepR (severalR numR s).2).2)
def certR (s : Rd) : (List LemmaD × List (List Int)) × Rd := (((severalR lemmaR s).1, (severalR (severalR numR) (severalR lemmaR s).2).1), (severalR (severalR numR) (severalR lemmaR s).2).2)
def replyR (s : Rd) : ReplyD × Rd := if (byteR s).1 = 1 then (⟨true, (certR (byteR s).2).1.1, (certR (byteR s).2).1.2⟩, (certR (byteR s).2).2)
  else (⟨false, [], []⟩, if (byteR s).1 = 0 then (byteR s).2 else (byteR s).2.fail)
def toText (xs : List Nat) : ByteArray := ⟨(xs.map UInt8.ofNat).toArray⟩
/-- A name of k bytes. -/
def cutR (p : Nat × Rd) : ByteArray × Rd := (toText (p.2.xs.take p.1), ⟨p.2.xs.drop p.1, p.2.bad⟩)
def recordR (s : Rd) : RecordD × Rd := (⟨(cutR (manyR s)).1, (severalR replyR (cutR (manyR s)).2).1⟩, (severalR replyR (cutR (manyR s)).2).2)
/-- The witness of bytes, or an error's number. -/
def readR (xs : List Nat) : List RecordD × Nat :=
  if 4194304 < xs.length then ([], 2)
  else if (severalR recordR ⟨xs, false⟩).2.bad = true then ([], 5)
  else if 0 < (severalR recordR ⟨xs, false⟩).2.xs.length then ([], 16)
  else ((severalR recordR ⟨xs, false⟩).1, 0)

theorem unzig_bits {m : Nat} (h : m < 18446744073709551616) : bits .xor .i64 (IntKind.i64.wrap ((m : Int).fdiv 2)) (IntKind.i64.wrap (0 - IntKind.i64.wrap (bits .and .u64 (m : Int) 1))) = unzig m := by
  have e1 : ((m : Int)).fdiv 2 = ((m / 2 : Nat) : Int) := by rw [Int.fdiv_eq_ediv_of_nonneg _ (by decide)]; rfl
  rw [e1, and_one h, wrap_i (a := m / 2) (by omega), wrap_i (a := m % 2) (by omega)]
  unfold unzig
  by_cases hm : m % 2 = 1
  · rw [if_pos hm, hm, show IntKind.i64.wrap (0 - ((1 : Nat) : Int)) = -1 by decide, xor_i1 (by omega)]
  · have hm0 : m % 2 = 0 := by omega
    rw [if_neg hm, hm0, show IntKind.i64.wrap (0 - ((0 : Nat) : Int)) = 0 by decide, xor_i0 (by omega)]
theorem shl_wrap {c k : Nat} (h : c * 2 ^ k < 18446744073709551616) : IntKind.u64.wrap ((c : Int) * 2 ^ k) = ((c * 2 ^ k : Nat) : Int) := by
  have e : ((c : Int) * 2 ^ k) = ((c * 2 ^ k : Nat) : Int) := by push_cast; rfl
  rw [e]; exact wrap_nat h
/-! ### What stays so. -/
/-- Reading goes on: what is left is an end of what there was, in length less than it may be; if something was amiss nothing is read. -/
def Fwd {α : Type} (f : Rd → α × Rd) : Prop := ∀ s, (f s).2.xs <:+ s.xs
theorem fwd_byte : Fwd byteR := fun s => by
  unfold byteR
  split
  · exact List.suffix_cons _ _
  · exact List.suffix_refl _
theorem fwd_go : ∀ f k n, Fwd (numGo f k n)
  | 0, k, n, s => List.suffix_refl _
  | f + 1, k, n, s => by
    unfold numGo
    split
    · exact fwd_byte s
    · split
      · exact fwd_byte s
      · exact (fwd_go f _ _ _).trans (fwd_byte s)
theorem fwd_num : Fwd numR := fwd_go 10 0 0
theorem fwd_many : Fwd manyR := fun s => by
  unfold manyR
  split
  · exact fwd_num s
  · exact fwd_num s
theorem many_le (s : Rd) : (manyR s).1 ≤ (manyR s).2.xs.length := by
  unfold manyR
  split
  · exact Nat.zero_le _
  · show (numR s).1.toNat ≤ (numR s).2.xs.length
    omega
theorem fwd_loop {α : Type} {f : Rd → α × Rd} (hf : Fwd f) : ∀ n, Fwd (loopR f n)
  | 0, s => List.suffix_refl _
  | n + 1, s => by
    unfold loopR
    split
    · exact List.suffix_refl _
    · exact (fwd_loop hf n _).trans (hf s)
theorem fwd_several {α : Type} {f : Rd → α × Rd} (hf : Fwd f) : Fwd (severalR f) := fun s => (fwd_loop hf _ _).trans (fwd_many s)
theorem fwd_part : Fwd partR := fun s => (fwd_num _).trans (fwd_num s)
theorem fwd_step : Fwd stepR := fun s => (fwd_num _).trans (fwd_several fwd_part s)
theorem fwd_lemma : Fwd lemmaR := fun s => (fwd_several fwd_step _).trans (fwd_several fwd_num s)
theorem fwd_cert : Fwd certR := fun s => (fwd_several (fwd_several fwd_num) _).trans (fwd_several fwd_lemma s)
theorem fwd_reply : Fwd replyR := fun s => by
  unfold replyR
  split
  · exact (fwd_cert _).trans (fwd_byte s)
  · split
    · exact fwd_byte s
    · exact fwd_byte s
theorem fwd_cut (p : Nat × Rd) : (cutR p).2.xs <:+ p.2.xs := List.drop_suffix _ _
theorem fwd_record : Fwd recordR := fun s => (fwd_several fwd_reply _).trans ((fwd_cut _).trans (fwd_many s))
def Is8 (xs : List Nat) : Prop := ∀ b ∈ xs, b < 256
theorem Is8.suffix {xs ys : List Nat} (h : Is8 xs) (hs : ys <:+ xs) : Is8 ys := fun b hb => h b (hs.subset hb)
theorem byte_lt {s : Rd} (h : Is8 s.xs) : (byteR s).1 < 256 := by
  unfold byteR
  split
  · exact h _ (by simp)
  · exact Nat.zero_lt_succ _
theorem unzig_64 {n : Nat} (h : n < 18446744073709551616) : Is64 (unzig n) := by
  unfold unzig Is64
  split <;> constructor <;> omega
theorem go_step {n c k : Nat} (hn : n < 2 ^ (7 * k)) (hc : c < 256) (hk : k < 10) (h9 : ¬ (k = 9 ∧ 1 < c)) : n + c % 128 * 2 ^ (7 * k) < 2 ^ (7 * (k + 1)) ∧ n + c % 128 * 2 ^ (7 * k) < 18446744073709551616 := by
  have h1 : n + c % 128 * 2 ^ (7 * k) < 2 ^ (7 * (k + 1)) := by
    rw [show 7 * (k + 1) = 7 * k + 7 by omega, Nat.pow_add]
    have h2 : c % 128 * 2 ^ (7 * k) ≤ 127 * 2 ^ (7 * k) := Nat.mul_le_mul_right _ (by omega)
    omega
  refine ⟨h1, ?_⟩
  by_cases h : k = 9
  · subst h
    have h2 : c % 128 ≤ 1 := by omega
    have h3 : c % 128 * 2 ^ (7 * 9) ≤ 1 * 2 ^ (7 * 9) := Nat.mul_le_mul_right _ h2
    omega
  · have h2 : 2 ^ (7 * (k + 1)) ≤ 2 ^ 63 := Nat.pow_le_pow_right (by decide) (by omega)
    have h3 : (2 : Nat) ^ 63 < 18446744073709551616 := by decide
    omega
theorem go_64 : ∀ (f k n : Nat) (s : Rd), Is8 s.xs → n < 2 ^ (7 * k) → k + f = 10 → Is64 (numGo f k n s).1
  | 0, k, n, s, h, hn, hk => by constructor <;> simp [numGo]
  | f + 1, k, n, s, h, hn, hk => by
    unfold numGo
    split
    · constructor <;> simp
    · rename_i hc
      have hs := go_step hn (byte_lt h) (by omega) (fun hh => hc (.inr (.inl hh)))
      split
      · exact unzig_64 hs.2
      · exact go_64 f (k + 1) _ _ (h.suffix (fwd_byte s)) hs.1 (by omega)
theorem num_64 {s : Rd} (h : Is8 s.xs) : Is64 (numR s).1 := go_64 10 0 0 s h (by simp) rfl
theorem many_num {s : Rd} (h : Is8 s.xs) : (manyR s).1 ≤ 9223372036854775807 := by
  have := num_64 h
  unfold Is64 at this
  unfold manyR
  split <;> simp <;> omega
theorem tmod_nat (a b : Nat) : (a : Int).tmod (b : Int) = ((a % b : Nat) : Int) := by
  rw [Int.tmod_eq_emod_of_nonneg (Int.natCast_nonneg a)]; rfl
theorem tdiv_nat (a b : Nat) : (a : Int).tdiv (b : Int) = ((a / b : Nat) : Int) := by
  rw [Int.tdiv_eq_ediv_of_nonneg (Int.natCast_nonneg a)]; rfl
theorem unzig_odd {m : Nat} (h : m < 18446744073709551616) (ho : m % 2 = 1) : IntKind.i64.wrap (IntKind.i64.wrap (0 - IntKind.i64.wrap (IntKind.u64.wrap ((m : Int).tdiv 2))) - 1) = unzig m := by
  have e : (m : Int).tdiv 2 = ((m / 2 : Nat) : Int) := tdiv_nat m 2
  rw [e, wrap_nat (by omega), wrap_i (a := m / 2) (by omega)]
  unfold unzig
  rw [if_pos ho]
  simp only [IntKind.wrap, IntKind.bits, IntKind.signed]
  simp; omega
theorem unzig_even {m : Nat} (h : m < 18446744073709551616) (ho : ¬ m % 2 = 1) : IntKind.i64.wrap (IntKind.u64.wrap ((m : Int).tdiv 2)) = unzig m := by
  have e : (m : Int).tdiv 2 = ((m / 2 : Nat) : Int) := tdiv_nat m 2
  rw [e, wrap_nat (by omega), wrap_i (a := m / 2) (by omega)]
  unfold unzig
  rw [if_neg ho]
/-! ### Where a loop stands. -/
def LoopI {α : Type} (f : Rd → α × Rd) (s : Rd) (acc : List α) (n : Nat) (s' : Rd) : Prop := acc ++ (loopR f n s').1 = (severalR f s).1 ∧ (loopR f n s').2 = (severalR f s).2
theorem li_start {α : Type} (f : Rd → α × Rd) (s : Rd) : LoopI f s [] (manyR s).1 (manyR s).2 := ⟨rfl, rfl⟩
theorem li_zero {α : Type} {f : Rd → α × Rd} {s s' : Rd} {acc : List α} {n : Nat} (h : LoopI f s acc n s') (hn : n = 0) : severalR f s = (acc, s') := by
  subst hn; obtain ⟨h1, h2⟩ := h
  simp only [loopR, List.append_nil] at h1 h2
  rw [h1, h2]
theorem li_bad {α : Type} {f : Rd → α × Rd} {s s' : Rd} {acc : List α} {n : Nat} (h : LoopI f s acc n s') (hb : s'.bad = true) : severalR f s = (acc, s') := by
  cases n with
  | zero => exact li_zero h rfl
  | succ n =>
    obtain ⟨h1, h2⟩ := h
    simp only [loopR, hb, if_true, List.append_nil] at h1 h2
    rw [h1, h2]
theorem li_step {α : Type} {f : Rd → α × Rd} {s s' : Rd} {acc : List α} {n : Nat} (h : LoopI f s acc n s') (hb : s'.bad = false) (hn : 0 < n) : LoopI f s (acc ++ [(f s').1]) (n - 1) (f s').2 := by
  obtain ⟨n, rfl⟩ : ∃ m, n = m + 1 := ⟨n - 1, by omega⟩
  obtain ⟨h1, h2⟩ := h
  simp only [loopR, hb] at h1 h2
  exact ⟨by simpa using h1, h2⟩
theorem wrap_pred {n : Nat} (hn : 0 < n) (h : n ≤ 9223372036854775807) : IntKind.i64.wrap ((n : Int) - 1) = ((n - 1 : Nat) : Int) := by
  rw [show (n : Int) - 1 = ((n - 1 : Nat) : Int) by omega]; exact wrap_i (by omega)
end Go.Proofs.Ytjgfhblciapkfaa

/- Formulas as data, in K; what is computed of them. -/
import Derived.Test.YtbcakdhgbjgkgaaCtA
namespace Go.Proofs.Ytbcakdhgbjgkgaa
set_option linter.unusedSimpArgs false
set_option linter.unusedVariables false
open Go.RowKit
inductive Fo where
  | mk (k : Int) (l : Ln) (ks : List Fo)
def Fo.kind : Fo → Int
  | .mk k _ _ => k
def Fo.lin : Fo → Ln
  | .mk _ l _ => l
def Fo.kids : Fo → List Fo
  | .mk _ _ ks => ks
instance : Inhabited Fo := ⟨.mk 0 ⟨0, []⟩ []⟩
mutual
def foA : Fo → List AV
  | .mk k l ks => [inA k, inA l.c, .sl (cellsM l.t) l.t.length .none, .sl (fosA ks) ks.length .none]
def fosA : List Fo → List AV
  | [] => []
  | f :: r => foA f ++ fosA r
end
theorem foA_len : ∀ f, (foA f).length = 4
  | .mk k l ks => by simp [foA]
theorem fosA_fm : ∀ l : List Fo, fosA l = l.flatMap foA
  | [] => rfl
  | f :: r => by rw [fosA, fosA_fm r, List.flatMap_cons]
theorem fosA_len (l : List Fo) : (fosA l).length = l.length * 4 := by rw [fosA_fm]; exact fm_len foA_len l
theorem fos_at {l : List Fo} {i : Nat} (h : i < l.length) : ((fosA l).drop (i * 4)).take 4 = foA l[i] := by rw [fosA_fm]; exact fm_at foA_len h
mutual
def OkF : Fo → Prop
  | .mk _ l ks => Lg l.t ∧ Lg ks ∧ OkFs ks
def OkFs : List Fo → Prop
  | [] => True
  | f :: r => OkF f ∧ OkFs r
end
theorem okFs_all : ∀ {l : List Fo}, OkFs l → ∀ f ∈ l, OkF f
  | [], _ => fun f h => absurd h List.not_mem_nil
  | a :: l, h => fun f hf => by
    rcases List.mem_cons.1 hf with rfl | hf
    · exact h.1
    · exact okFs_all h.2 f hf
theorem okFs_of : ∀ {l : List Fo}, (∀ f ∈ l, OkF f) → OkFs l
  | [], _ => trivial
  | a :: l, h => ⟨h a (by simp), okFs_of fun f hf => h f (by simp [hf])⟩
mutual
theorem fo_ind {P : Fo → Prop} (step : ∀ k l ks, Lg l.t → Lg ks → OkFs ks → (∀ f ∈ ks, P f) → P (.mk k l ks)) : ∀ f, OkF f → P f
  | .mk k l ks, h => step k l ks h.1 h.2.1 h.2.2 (fos_ind step ks h.2.2)
theorem fos_ind {P : Fo → Prop} (step : ∀ k l ks, Lg l.t → Lg ks → OkFs ks → (∀ f ∈ ks, P f) → P (.mk k l ks)) : ∀ ks, OkFs ks → ∀ f ∈ ks, P f
  | [], _ => fun f h => absurd h List.not_mem_nil
  | a :: r, h => fun f hf => (List.mem_cons.1 hf).elim (fun e => e ▸ fo_ind step a h.1) (fos_ind step r h.2 f)
end
/-! ### Depth. -/
def deepF : Nat → Fo → Bool
  | 0, _ => true
  | b + 1, f => f.kids.any (deepF b)
def maxD (g : Fo → Int) : List Fo → Int → Int
  | [], m => m
  | f :: r, m => maxD g r (if m < g f then g f else m)
def depF : Nat → Fo → Int
  | 0, _ => 1
  | b + 1, f => maxD (depF b) f.kids 0 + 1
theorem maxD_gt (g : Fo → Int) (c : Int) : ∀ (l : List Fo) (m : Int), c < maxD g l m ↔ c < m ∨ ∃ f ∈ l, c < g f
  | [], m => by simp [maxD]
  | a :: l, m => by
    rw [maxD, maxD_gt g c l]
    simp only [List.mem_cons, exists_eq_or_imp]
    by_cases hm : m < g a
    · rw [if_pos hm]
      exact ⟨fun h => h.elim (fun h => .inr (.inl h)) fun h => .inr (.inr h), fun h => h.elim (fun h => .inl (by omega)) fun h => h.elim .inl .inr⟩
    · rw [if_neg hm]
      exact ⟨fun h => h.elim .inl fun h => .inr (.inr h), fun h => h.elim .inl fun h => h.elim (fun h => .inl (by omega)) .inr⟩
theorem depF_gt : ∀ (b : Nat) (f : Fo), (b : Int) < depF b f ↔ deepF b f = true
  | 0, f => by simp [depF, deepF]
  | b + 1, f => by
    rw [depF, deepF, List.any_eq_true]
    have h := maxD_gt (depF b) b f.kids 0
    constructor
    · intro h1
      rcases h.1 (by omega) with h2 | ⟨x, hx, h2⟩
      · omega
      · exact ⟨x, hx, (depF_gt b x).1 h2⟩
    · rintro ⟨x, hx, h1⟩
      have := h.2 (.inr ⟨x, hx, (depF_gt b x).2 h1⟩)
      omega
theorem maxD_bd (g : Fo → Int) (B : Int) : ∀ (l : List Fo) (m : Int), 0 ≤ m → m ≤ B → (∀ f, 0 ≤ g f ∧ g f ≤ B) → 0 ≤ maxD g l m ∧ maxD g l m ≤ B
  | [], m, h0, hm, _ => ⟨h0, hm⟩
  | a :: l, m, h0, hm, hg => by
    rw [maxD]
    have := hg a
    split
    · exact maxD_bd g B l _ (by omega) (by omega) hg
    · exact maxD_bd g B l _ h0 hm hg
theorem depF_bd : ∀ (b : Nat) (f : Fo), 0 ≤ depF b f ∧ depF b f ≤ b + 1
  | 0, f => by simp [depF]
  | b + 1, f => by
    have := maxD_bd (depF b) (b + 1) f.kids 0 (by omega) (by omega) fun f => depF_bd b f
    rw [depF]; omega
/-! ### Size. -/
mutual
def tot : Fo → Nat
  | .mk _ _ ks => tots ks + 1
def tots : List Fo → Nat
  | [] => 0
  | f :: r => tot f + tots r
end
mutual
def szF : Fo → Nat
  | .mk _ _ ks => szFs ks 1
def szFs : List Fo → Nat → Nat
  | [], n => n
  | f :: r, n => if n ≤ 4096 then szFs r (n + szF f) else n
end
mutual
def rzF : Fo → Int → Int
  | .mk _ _ ks, z => rzFs ks (z - 1)
def rzFs : List Fo → Int → Int
  | [], z => z
  | f :: r, z => if 0 ≤ z then rzFs r (rzF f z) else z
end
mutual
theorem szF_tot : ∀ f : Fo, (szF f ≤ 4096 → szF f = tot f) ∧ (4096 < szF f → 4096 < tot f)
  | .mk k l ks => by
    have h := szFs_tot ks 1
    rw [szF, tot]
    exact ⟨fun h1 => by rw [h.1 h1]; omega, fun h1 => by have := h.2 h1; omega⟩
theorem szFs_tot : ∀ (l : List Fo) (n : Nat), (szFs l n ≤ 4096 → szFs l n = n + tots l) ∧ (4096 < szFs l n → 4096 < n + tots l)
  | [], n => by simp [szFs, tots]
  | f :: r, n => by
    have h1 := szF_tot f
    rw [szFs, tots]
    split
    · have h2 := szFs_tot r (n + szF f)
      constructor
      · intro h3
        have h4 := h2.1 h3
        have h5 := h1.1 (by omega)
        omega
      · intro h3
        have h4 := h2.2 h3
        by_cases h6 : szF f ≤ 4096
        · have := h1.1 h6; omega
        · have := h1.2 (by omega); omega
    · exact ⟨fun h3 => by omega, fun h3 => by omega⟩
end
mutual
theorem rzF_tot : ∀ (f : Fo) (z : Int), 0 ≤ z → (tot f ≤ z → rzF f z = z - tot f) ∧ (z < tot f → rzF f z = -1)
  | .mk k l ks, z, hz => by
    rw [rzF, tot]
    by_cases h0 : z = 0
    · subst h0
      have h : rzFs ks (0 - 1) = -1 := by cases ks <;> rfl
      exact ⟨fun h1 => by omega, fun _ => h⟩
    · have h := rzFs_tot ks (z - 1) (by omega)
      exact ⟨fun h1 => by rw [h.1 (by omega)]; omega, fun h1 => h.2 (by omega)⟩
theorem rzFs_tot : ∀ (l : List Fo) (z : Int), 0 ≤ z → (tots l ≤ z → rzFs l z = z - tots l) ∧ (z < tots l → rzFs l z = -1)
  | [], z, hz => by simp [rzFs, tots]; omega
  | f :: r, z, hz => by
    have h1 := rzF_tot f z hz
    rw [rzFs, tots, if_pos hz]
    by_cases h : tot f ≤ z
    · rw [h1.1 h]
      have h2 := rzFs_tot r (z - tot f) (by omega)
      exact ⟨fun h3 => by rw [h2.1 (by omega)]; omega, fun h3 => h2.2 (by omega)⟩
    · rw [h1.2 (by omega)]
      have : rzFs r (-1) = -1 := by cases r <;> rfl
      exact ⟨fun h3 => by omega, fun _ => this⟩
end
theorem rz_neg (f : Fo) : rzF f 4096 < 0 ↔ 4096 < szF f := by
  have h1 := rzF_tot f 4096 (by decide)
  have h2 := szF_tot f
  constructor
  · intro h
    by_cases h3 : tot f ≤ 4096
    · rw [h1.1 (by omega)] at h; omega
    · by_cases h4 : szF f ≤ 4096
      · have := h2.1 h4; omega
      · omega
  · intro h
    rw [h1.2 (by have := h2.2 h; omega)]; decide
theorem szFs_le (b : Nat) : ∀ (l : List Fo) (n : Nat), (∀ f ∈ l, szF f ≤ b) → n ≤ 4096 + b → szFs l n ≤ 4096 + b
  | [], n, _, hn => hn
  | f :: r, n, h, hn => by
    rw [szFs]
    split
    · have := h f (by simp)
      exact szFs_le b r _ (fun x hx => h x (by simp [hx])) (by omega)
    · exact hn
theorem szF_le : ∀ (b : Nat) (f : Fo), deepF b f = false → szF f ≤ 4097 * b
  | 0, f, h => by simp [deepF] at h
  | b + 1, .mk k l ks, h => by
    rw [deepF, List.any_eq_false] at h
    rw [szF]
    have := szFs_le (4097 * b) ks 1 (fun f hf => szF_le b f (by simpa using h f hf)) (by omega)
    by_cases hb : ks = []
    · subst hb; simp [szFs]; omega
    · omega
theorem rz_ge (f : Fo) (z : Int) (hz : 0 ≤ z) : -1 ≤ rzF f z ∧ rzF f z ≤ z := by
  have h := rzF_tot f z hz
  by_cases h1 : tot f ≤ z
  · have := h.1 h1; omega
  · have := h.2 (by omega); omega
/-! ### Sound otherwise. -/
def noneB (l : Ln) : Bool := decide (l.c = 0) && decide ((l.t.length : Int) = 0)
def okH (k : Int) (l : Ln) (n : Nat) : Bool :=
  if k = 0 ∨ k = 1 then noneB l && decide ((n : Int) = 0) else if k = 2 ∨ k = 3 then linB l && decide ((n : Int) = 0) else if k = 4 then noneB l && decide ((n : Int) = 1) else if k = 5 ∨ k = 6 then noneB l else false
mutual
def fineF : Fo → Bool
  | .mk k l ks => okH k l ks.length && fineFs ks
def fineFs : List Fo → Bool
  | [] => true
  | f :: r => fineF f && fineFs r
end
theorem fineFs_all : ∀ l : List Fo, fineFs l = l.all fineF
  | [] => rfl
  | f :: r => by rw [fineFs, List.all_cons, fineFs_all r]
theorem all_not {α : Type} (p : α → Bool) (l : List α) : (!l.any fun x => !p x) = l.all p := by
  induction l with
  | nil => rfl
  | cons a r ih => rw [List.any_cons, List.all_cons, ← ih]; cases p a <;> simp
def checkF (f : Fo) : Nat := if deepF 64 f then 4 else if 4096 < szF f then 2 else if fineF f then 0 else 5
/-! ### Variables. -/
mutual
def varsF : Fo → List Int
  | .mk _ l ks => l.t.map (·.1) ++ varsFs ks
def varsFs : List Fo → List Int
  | [] => []
  | f :: r => varsF f ++ varsFs r
end
mutual
theorem varsF_len : ∀ f : Fo, fineF f = true → (varsF f).length ≤ 64 * tot f
  | .mk k l ks, h => by
    rw [fineF, Bool.and_eq_true] at h
    have ih := varsFs_len ks h.2
    have hl : l.t.length ≤ 64 := by
      have h1 := h.1
      unfold okH noneB at h1
      split at h1
      · simp at h1; simp [h1.1.2]
      · split at h1
        · rw [Bool.and_eq_true] at h1; exact (linB_ok h1.1).2.1
        · split at h1
          · simp at h1; simp [h1.1.2]
          · split at h1
            · simp at h1; simp [h1.2]
            · cases h1
    rw [varsF, tot, List.length_append, List.length_map]; omega
theorem varsFs_len : ∀ l : List Fo, fineFs l = true → (varsFs l).length ≤ 64 * tots l
  | [], _ => by simp [varsFs]
  | f :: r, h => by
    rw [fineFs, Bool.and_eq_true] at h
    have h1 := varsF_len f h.1
    have h2 := varsFs_len r h.2
    rw [varsFs, tots, List.length_append]; omega
end
mutual
theorem varsF_var : ∀ f : Fo, fineF f = true → ∀ v ∈ varsF f, 0 ≤ v ∧ v < 1048576
  | .mk k l ks, h => by
    rw [fineF, Bool.and_eq_true] at h
    have ih := varsFs_var ks h.2
    have hl : ∀ v ∈ l.t.map (·.1), 0 ≤ v ∧ v < 1048576 := by
      have h1 := h.1
      unfold okH noneB at h1
      split at h1
      · simp at h1; simp [h1.1.2]
      · split at h1
        · rw [Bool.and_eq_true] at h1
          intro v hv
          obtain ⟨m, hm, rfl⟩ := List.mem_map.1 hv
          have := (linB_ok h1.1).2.2 m hm
          exact ⟨this.1, this.2.1⟩
        · split at h1
          · simp at h1; simp [h1.1.2]
          · split at h1
            · simp at h1; simp [h1.2]
            · cases h1
    intro v hv
    rw [varsF] at hv
    rcases List.mem_append.1 hv with hv | hv
    · exact hl v hv
    · exact ih v hv
theorem varsFs_var : ∀ l : List Fo, fineFs l = true → ∀ v ∈ varsFs l, 0 ≤ v ∧ v < 1048576
  | [], _ => fun v hv => absurd hv List.not_mem_nil
  | f :: r, h => fun v hv => by
    rw [fineFs, Bool.and_eq_true] at h
    rw [varsFs] at hv
    rcases List.mem_append.1 hv with hv | hv
    · exact varsF_var f h.1 v hv
    · exact varsFs_var r h.2 v hv
end
end Go.Proofs.Ytbcakdhgbjgkgaa

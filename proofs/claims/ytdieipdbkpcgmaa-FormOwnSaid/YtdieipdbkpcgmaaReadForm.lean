/- Forms and formulas, read as arguments. -/
import Derived.Test.YtdieipdbkpcgmaaRead
import Derived.Test.YtdieipdbkpcgmaaLinB
import Derived.Test.YtdieipdbkpcgmaaForm
namespace Go.Proofs.Ytdieipdbkpcgmaa
set_option linter.unusedSimpArgs false
set_option linter.unusedVariables false
open Go.RowKit Go.ChangeShapes Go.WideShapes

theorem cellsMono : Try.prog.cellsOf 51 = 2 := by kernel_rfl
theorem cellsInt : Try.prog.cellsOf 3 = 1 := by kernel_rfl
theorem cellsLin : Try.prog.cellsOf 29 = 2 := by kernel_rfl
theorem cellsForm : Try.prog.cellsOf 31 = 4 := by kernel_rfl
theorem cellsMonos : Try.prog.cellsOf 27 = 1 := by kernel_rfl
theorem cellsForms : Try.prog.cellsOf 26 = 1 := by kernel_rfl
theorem bytesMono : Try.prog.bytesOf 51 = 16 := by kernel_rfl
theorem bytesInt : Try.prog.bytesOf 3 = 8 := by kernel_rfl
theorem bytesForm : Try.prog.bytesOf 31 = 64 := by kernel_rfl

theorem isForm_le {w : World} : ∀ {n m : Nat} {F : Form} {cs : List Value}, n ≤ m → IsForm w n F cs → IsForm w m F cs
  | 0, _, _, _, _, h => h.elim
  | n + 1, 0, _, _, hl, _ => absurd hl (by omega)
  | n + 1, m + 1, F, cs, hl, ⟨h1, vT, vK, h2, h3, h4⟩ => ⟨h1, vT, vK, h2, h3, h4.mono (grew_refl w) fun _ _ _ h => isForm_le (by omega) h⟩

theorem agg_of_form {w : World} {n : Nat} {F : Form} {v : Value} (h : IsForm w n F v.cells.toList) : ∃ cs, v.cells.toList = cs ∧ v = .agg cs.toArray := by
  obtain ⟨a1, c1, a2, c2, e⟩ := form_cells h
  refine ⟨_, rfl, ?_⟩
  cases v <;> first | rfl | (simp [Value.cells] at e)

section
variable {H : Type} {enc : TypeId × Value → H} {w : World} {base : Nat} {spare : Nat → Bool} {held : Bool}
theorem read_int {fuel : Nat} {cs : List Value} {x : DataW H × List MemPlace} (h : DataW.trod enc Try.prog w base spare held fuel 3 cs = some x) : ∃ z, cs = [.int .i64 z] ∧ I64 z := by
  obtain ⟨n, rfl, _, hw⟩ := DataW.trod_int Try.underlying3 h
  exact ⟨n, rfl, i64_of hw⟩
theorem read_mono {fuel : Nat} {cs : List Value} {x : DataW H × List MemPlace} (h : DataW.trod enc Try.prog w base spare held fuel 51 cs = some x) : ∃ m, IsMono m cs := by
  obtain ⟨y0, y1, n, _, hl, h0, h1⟩ := trod_struct2 Try.underlying51 h
  rw [cellsMono] at hl
  obtain ⟨c0, c1, rfl⟩ := Go.Proofs.Ytdieipdbkpcgmaa.len2 hl
  simp only [cellsInt, List.drop_zero, List.take_succ_cons, List.take_zero, List.drop_succ_cons] at h0 h1
  obtain ⟨V, hV, h64⟩ := read_int h0
  obtain ⟨K, hK, h64'⟩ := read_int h1
  simp only [List.cons.injEq, and_true] at hV hK
  subst hV hK
  exact ⟨⟨V, K⟩, rfl, h64, h64'⟩
theorem read_ints {fuel : Nat} {cs : List Value} {x : DataW H × List MemPlace} (h : DataW.trod enc Try.prog w base spare held fuel 34 cs = some x) (hw : Weighs Try.prog 34 x.1) : ∃ v l, cs = [v] ∧ IsInts w v l ∧ l.length * 8 ≤ 140737488351232 := by
  have := read_slice Try.underlying34 cellsInt (by rw [bytesInt]; decide) (by decide) (R := IsInt) h hw (fun n cs' x' _ h' _ _ => by
    obtain ⟨z, hz, h64⟩ := read_int h'
    exact ⟨z, hz, h64⟩)
  rwa [bytesInt] at this
theorem read_lin {fuel : Nat} {cs : List Value} {x : DataW H × List MemPlace} (h : DataW.trod enc Try.prog w base spare held fuel 29 cs = some x) (hw : Weighs Try.prog 29 x.1) :
    ∃ L v, cs = [.int .i64 L.C, v] ∧ IsLin w L v := by
  obtain ⟨y0, y1, n, rfl, hl, h0, h1⟩ := trod_struct2 Try.underlying29 h
  rw [cellsLin] at hl
  obtain ⟨c0, c1, rfl⟩ := Go.Proofs.Ytdieipdbkpcgmaa.len2 hl
  simp only [cellsInt, cellsMonos, List.drop_zero, List.take_succ_cons, List.take_zero, List.drop_succ_cons] at h0 h1
  have hw1 := weighs_struct Try.underlying29 hw 1 _ y1.1 rfl rfl
  obtain ⟨C, hC, h64⟩ := read_int h0
  obtain ⟨v, l, hv, hs, _⟩ := read_slice (R := IsMono) Try.underlying27 cellsMono (by rw [bytesMono]; decide) (by decide) h1 hw1 (fun n cs' x' _ h' _ _ => read_mono h')
  simp only [List.cons.injEq, and_true] at hC hv
  subst hC hv
  exact ⟨⟨C, l⟩, c1, rfl, h64, hs⟩
theorem read_form : ∀ (fuel : Nat) {cs : List Value} {x : DataW H × List MemPlace}, DataW.trod enc Try.prog w base spare held fuel 31 cs = some x → Weighs Try.prog 31 x.1 → ∃ F, IsForm w fuel F cs := by
  intro fuel
  induction fuel using Nat.strongRecOn with
  | _ fuel ih =>
  intro cs x h hw
  obtain ⟨xs, n, hfuel, rfl, hl, hlen, hf⟩ := DataW.trod_struct Try.underlying31 h
  rw [cellsForm] at hl
  obtain ⟨c0, c1, c2, c3, rfl⟩ := len4 hl
  have h0 := hf 0 _ rfl
  have h1 := hf 1 _ rfl
  have h2 := hf 2 _ rfl
  match xs, hlen with
  | [y0, y1, y2], _ =>
  simp only [cellsInt, cellsLin, cellsForms, List.drop_zero, List.take_succ_cons, List.take_zero, List.drop_succ_cons, List.getElem?_cons_zero, List.getElem?_cons_succ] at h0 h1 h2
  have hw1 := weighs_struct Try.underlying31 hw 1 _ y1.1 rfl rfl
  have hw2 := weighs_struct Try.underlying31 hw 2 _ y2.1 rfl rfl
  obtain ⟨K, hK, h64⟩ := read_int h0
  obtain ⟨L, v, hv, hL⟩ := read_lin h1 hw1
  subst hfuel
  obtain ⟨vK, ks, hvK, hs, _⟩ := read_slice (R := IsForm w n) Try.underlying26 cellsForm (by rw [bytesForm]; decide) (by decide) h2 hw2 (fun m cs' x' hm h' hw' _ => by
    obtain ⟨F, hF⟩ := ih m (by omega) h' hw'
    exact ⟨F, isForm_le (by omega) hF⟩)
  cases hK
  cases hv
  cases hvK
  exact ⟨⟨K, L, ks⟩, h64, _, _, rfl, hL, hs⟩
end
end Go.Proofs.Ytdieipdbkpcgmaa

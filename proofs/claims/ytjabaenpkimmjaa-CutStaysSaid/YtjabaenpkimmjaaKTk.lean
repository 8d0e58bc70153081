/- K: rows handed back with their token, or without; rows handed in whose room is none. No program is in sight. -/
import Derived.Test.YtjabaenpkimmjaaKP
namespace Go.Proofs.Ytjabaenpkimmjaa
set_option linter.unusedSimpArgs false
set_option linter.unusedVariables false
open Go.RowKit
theorem ext_bt (n : Nat) (e : TypeId) (k : Nat) : extGet [.bt n e] k = if k = 20000 then .bt n e else .u := ext_one _ rfl k
theorem noγ {P : Program} {Pr : Nat → Prop} {G : Gh} {w : World} (h : BSim P Pr G (extGet []) w) (k : Nat) : G.γ k = none := by
  cases hg : G.γ k with
  | none => rfl
  | some g =>
    exact ((h.box k g hg).2.2.not_u (ext_nil k)).elim
/-- The token that comes back is let go. -/
theorem afn_drop {P : Program} {f : FuncId} {args : List AV} {cs : List AV} {n m : Nat} {e : TypeId} (h : AFn P f args [] (.sl cs n (.tok 20000)) [.bt m e]) : AFn P f args [] (.sl cs n .none) [] := fun w G vs hst hX hvs hargs => by
  refine (h w G vs hst hX hvs hargs).mono fun e' w' ⟨v, G', h1, h2, h3, h4, h5, h6⟩ => ?_
  obtain ⟨ad, cap, b, off, f', rfl, ⟨p1, p2, p3, p4, p5⟩, _, _⟩ := inv_sl h2
  exact ⟨_, ⟨G'.Z, fun _ => none, G'.κ, G'.β⟩, h1, .p (.sl ad b off n cap .none cs f' (.inl rfl) p1 p2 p3 p4 p5), ⟨h3.agree, (fun k g hk => by cases hk), (fun k cs ty _ hc => by rw [ext_nil] at hc; cases hc), (fun k k' g hk => by cases hk), h3.gl⟩, h4,
    ⟨h5.1, fun k _ => .u (ext_nil k)⟩, h6⟩
/-- A row without room may be handed in as one with a token; in the second place. -/
theorem afn_tokIn {P : Program} {f : FuncId} {x : AV} {cs cs' : List AV} {n n' m : Nat} {e : TypeId} (h : AFn P f [x, .sl cs n (.tok 20000)] [.bt n e] (.sl cs' n' (.tok 20000)) [.bt m e]) : AFn P f [x, .sl cs n .full] [] (.sl cs' n' .none) [] := fun w G vs hst hX hvs hargs => by
  have hγ := noγ hst
  have hs : BStep G (extGet []) G (extGet [.bt n e]) := ⟨.refl _, fun k _ => .u (ext_nil k)⟩
  have hst' : BSim P (fun b => b < w.heap.size ∧ ∀ k, G.γ k ≠ some b) G (extGet [.bt n e]) w := ⟨hst.agree, (fun k g hk => by rw [hγ] at hk; cases hk), (fun k cs ty _ hc => by rw [ext_bt] at hc; split at hc <;> cases hc), (fun k k' g hk => by rw [hγ] at hk; cases hk), hst.gl⟩
  refine (h w G vs hst' hX hvs fun j hj => ?_).mono fun e' w' ⟨v, G', h1, h2, h3, h4, h5, h6⟩ => ?_
  · match j, hj with
    | 0, _ => exact (hargs 0 (by simp)).step hs
    | 1, _ =>
      obtain ⟨ad, cap, b, off, f', ev, ⟨p1, p2, p3, p4, p5⟩, hf, _⟩ := inv_sl (hargs 1 (by simp))
      show VRel G _ (vs.getD 1 undef) (.sl cs n (.tok 20000))
      rw [ev]
      exact .tok ad n cap cs 20000 n e (.sl ad b off n cap .none cs f' (.inl rfl) p1 p2 p3 p4 p5) (by decide) (by rw [ext_bt, if_pos rfl]) (Nat.le_refl _) fun _ => ⟨fun _ => hf rfl, fun g hg => by rw [hγ] at hg; cases hg⟩
  · obtain ⟨ad, cap, b, off, f', rfl, ⟨p1, p2, p3, p4, p5⟩, _, _⟩ := inv_sl h2
    exact ⟨_, ⟨G'.Z, fun _ => none, G'.κ, G'.β⟩, h1, .p (.sl ad b off n' cap .none cs' f' (.inl rfl) p1 p2 p3 p4 p5), ⟨h3.agree, (fun k g hk => by cases hk), (fun k cs ty _ hc => by rw [ext_nil] at hc; cases hc), (fun k k' g hk => by cases hk), h3.gl⟩, h4,
      ⟨h5.1, fun k _ => .u (ext_nil k)⟩, h6⟩
end Go.Proofs.Ytjabaenpkimmjaa

/- K: a result may be told with less. No program is in sight. -/
import Derived.Test.YtjabaenpkimmjaaKS
namespace Go.Proofs.Ytjabaenpkimmjaa
set_option linter.unusedSimpArgs false
set_option linter.unusedVariables false
open Go.RowKit
/-- That a slice is full is forgotten. -/
def wkA : Nat → AV → AV
  | 0, x => x
  | _ + 1, .sl cs n .full => .sl cs n .none
  | k + 1, .agg cs => .agg (cs.map (wkA k))
  | k + 1, .tup cs => .tup (cs.map (wkA k))
  | k + 1, .ifc t x => .ifc t (wkA k x)
  | _ + 1, x => x
theorem wkA_rel {G : Gh} {B : Nat → AV} : ∀ (k : Nat) {x : AV} {v : Value}, VRel G B v x → VRel G B v (wkA k x)
  | 0, x, v, h => h
  | k + 1, .sl cs n .full, v, h => by
    obtain ⟨ad, cap, b, off, f, rfl, hs, _⟩ := inv_sl h
    exact hs.rel
  | k + 1, .agg cs, v, h => by
    obtain ⟨vs, rfl, hs, h1, hp⟩ := inv_agg h
    exact .agg vs _ (by simpa using hs) (fun j hj => h1 j (by simpa using hj)) fun j hj => by
      have hj' : j < cs.length := by simpa using hj
      rw [List.getElem_map]; exact wkA_rel k (hp j hj')
  | k + 1, .tup cs, v, h => by
    obtain ⟨vs, rfl, hs, hp⟩ := inv_tup h
    exact .tup vs _ (by simpa using hs) fun j hj => by
      have hj' : j < cs.length := by simpa using hj
      rw [List.getElem_map]; exact wkA_rel k (hp j hj')
  | k + 1, .ifc t x, v, h => by
    obtain ⟨v', rfl, h'⟩ := inv_ifc h
    exact .ifc t v' _ (wkA_rel k h')
  | _ + 1, .sl cs n .none, v, h => h
  | _ + 1, .sl cs n (.tok b), v, h => h
  | _ + 1, .c _, v, h => h
  | _ + 1, .u, v, h => h
  | _ + 1, .rf _ _, v, h => h
  | _ + 1, .fn _ _ _, v, h => h
  | _ + 1, .loc _ _, v, h => h
  | _ + 1, .arr _ _ _ _, v, h => h
  | _ + 1, .bc _ _, v, h => h
  | _ + 1, .bt _ _, v, h => h
  | _ + 1, .mp _, v, h => h
  | _ + 1, .ow _ _ _ _, v, h => h
  | _ + 1, .lo _ _ _, v, h => h
  | _ + 1, .br _ _ _ _, v, h => h
theorem afn_wk {P : Program} {f : FuncId} {args bxs bxs' : List AV} {r r' : AV} (h : AFn P f args bxs r bxs') (k : Nat) (e : wkA k r = r') : AFn P f args bxs r' bxs' := fun w G vs hst hX hvs hargs => by
  refine (h w G vs hst hX hvs hargs).mono fun e' w' ⟨v, G', h1, h2, h3⟩ => ⟨v, G', h1, e ▸ wkA_rel k h2, h3⟩
end Go.Proofs.Ytjabaenpkimmjaa

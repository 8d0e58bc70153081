/- K: arguments may be told with less, deep down. No program is in sight. -/
import Derived.Test.YtjabaenpkimmjaaKR
import Derived.LaidEql
import Derived.Lib.IfaceEq
namespace Go.Proofs.Ytjabaenpkimmjaa
set_option linter.unusedSimpArgs false
set_option linter.unusedVariables false
open Go.RowKit
/-- That slices are full is forgotten, in cells too. -/
def wkD : Nat → AV → AV
  | 0, x => x
  | k + 1, .sl cs n .full => .sl (cs.map (wkD k)) n .none
  | k + 1, .sl cs n .none => .sl (cs.map (wkD k)) n .none
  | k + 1, .agg cs => .agg (cs.map (wkD k))
  | k + 1, .tup cs => .tup (cs.map (wkD k))
  | k + 1, .ifc t x => .ifc t (wkD k x)
  | k + 1, .rf cs o => .rf (cs.map (wkD k)) o
  | _ + 1, x => x
theorem wkD_prel {Z : Seal} : ∀ (k : Nat) {x : AV} {v : Value}, PRel Z v x → PRel Z v (wkD k x)
  | 0, x, v, h => h
  | k + 1, .sl cs n .full, v, h => by
    cases h with
    | sl a b off n cap o cs f ho hn ha hc hz hp =>
      exact .sl a b off n cap .none _ f (.inl rfl) hn ha (hc.imp (fun ⟨h1, h2⟩ => ⟨h1, by simp [h2]⟩) id) (fun j hj => hz j (by simpa using hj)) fun j hj => by
        rw [List.getElem_map]; exact wkD_prel k (hp j (by simpa using hj))
  | k + 1, .sl cs n .none, v, h => by
    cases h with
    | sl a b off n cap o cs f ho hn ha hc hz hp =>
      exact .sl a b off n cap .none _ f (.inl rfl) hn ha (hc.imp (fun ⟨h1, h2⟩ => ⟨h1, by simp [h2]⟩) id) (fun j hj => hz j (by simpa using hj)) fun j hj => by
        rw [List.getElem_map]; exact wkD_prel k (hp j (by simpa using hj))
  | k + 1, .agg cs, v, h => by
    cases h with
    | agg vs cs hs h1 hp =>
      exact .agg vs _ (by simpa using hs) (fun j hj => h1 j (by simpa using hj)) fun j hj => by
        rw [List.getElem_map]; exact wkD_prel k (hp j (by simpa using hj))
  | k + 1, .tup cs, v, h => by
    cases h with
    | tup vs cs hs hp =>
      exact .tup vs _ (by simpa using hs) fun j hj => by
        rw [List.getElem_map]; exact wkD_prel k (hp j (by simpa using hj))
  | k + 1, .ifc t x, v, h => by
    cases h with
    | ifc t v x h => exact .ifc t v _ (wkD_prel k h)
  | k + 1, .rf cs o, v, h => by
    cases h with
    | rf b off o cs f hz hp =>
      exact .rf b off o _ f (fun j hj => hz j (by simpa using hj)) fun j hj => by
        rw [List.getElem_map]; exact wkD_prel k (hp j (by simpa using hj))
  | _ + 1, .sl cs n (.tok b), v, h => h
  | _ + 1, .c _, v, h => h
  | _ + 1, .u, v, h => h
  | _ + 1, .fn _ _ _, v, h => h
  | _ + 1, .loc _ _, v, h => h
  | _ + 1, .arr _ _ _ _, v, h => h
  | _ + 1, .bc _ _, v, h => h
  | _ + 1, .bt _ _, v, h => h
  | _ + 1, .mp _, v, h => h
theorem wkD_rel {G : Gh} {B : Nat → AV} : ∀ (k : Nat) {x : AV} {v : Value}, VRel G B v x → VRel G B v (wkD k x)
  | 0, x, v, h => h
  | k + 1, .sl cs n .full, v, h => by
    cases h with
    | p h => exact .p (wkD_prel (k + 1) h)
  | k + 1, .sl cs n .none, v, h => by
    cases h with
    | p h => exact .p (wkD_prel (k + 1) h)
  | k + 1, .agg cs, v, h => by
    obtain ⟨vs, rfl, hs, h1, hp⟩ := inv_agg h
    exact .agg vs _ (by simpa using hs) (fun j hj => h1 j (by simpa using hj)) fun j hj => by
      have hj' : j < cs.length := by simpa using hj
      rw [List.getElem_map]; exact wkD_rel k (hp j hj')
  | k + 1, .tup cs, v, h => by
    obtain ⟨vs, rfl, hs, hp⟩ := inv_tup h
    exact .tup vs _ (by simpa using hs) fun j hj => by
      have hj' : j < cs.length := by simpa using hj
      rw [List.getElem_map]; exact wkD_rel k (hp j hj')
  | k + 1, .ifc t x, v, h => by
    obtain ⟨v', rfl, h'⟩ := inv_ifc h
    exact .ifc t v' _ (wkD_rel k h')
  | k + 1, .rf cs o, v, h => by
    cases h with
    | p h => exact .p (wkD_prel (k + 1) h)
  | _ + 1, .sl cs n (.tok b), v, h => h
  | _ + 1, .c _, v, h => h
  | _ + 1, .u, v, h => h
  | _ + 1, .fn _ _ _, v, h => h
  | _ + 1, .loc _ _, v, h => h
  | _ + 1, .arr _ _ _ _, v, h => h
  | _ + 1, .bc _ _, v, h => h
  | _ + 1, .bt _ _, v, h => h
  | _ + 1, .mp _, v, h => h
  | _ + 1, .ow _ _ _ _, v, h => h
  | _ + 1, .lo _ _ _, v, h => h
  | _ + 1, .br _ _ _ _, v, h => h
theorem afn_args {P : Program} {f : FuncId} {args args' bxs bxs' : List AV} {r : AV} (k : Nat) (h : AFn P f args' bxs r bxs') (e : args.map (wkD k) = args') : AFn P f args bxs r bxs' := fun w G vs hst hX hvs hargs =>
  h w G vs hst hX (by rw [hvs, ← e]; simp) fun j hj => by
    subst e
    have hj' : j < args.length := by simpa using hj
    rw [List.getElem_map]; exact wkD_rel k (hargs j hj')
theorem ex_ok {X : World → Result Value} {v : Value} {Q : Value → Prop} (h : ∀ w, X w = .ok v w) (k : Q v) : ∃ v, (∀ w, X w = .ok v w) ∧ Q v := ⟨v, h, k⟩
/-- Two texts, held against each other. -/
theorem eql_str {P : Program} {t : TypeId} (a b : ByteArray) : ∀ w, (((pure () : Sem Unit) >>= fun _ => binOp .eql t (.string a) (.string b)) : Sem Value).run P w = .ok (.bool (a.toList == b.toList)) w := fun w => by
  simp [go_sem]
theorem eql_same {P : Program} {t : TypeId} (a : ByteArray) : ∀ w, (((pure () : Sem Unit) >>= fun _ => binOp .eql t (.string a) (.string a)) : Sem Value).run P w = .ok (.bool true) w := fun w => by
  simp [go_sem]
theorem eql_pure {P : Program} (v : Value) : ∀ w, (((pure () : Sem Unit) >>= fun _ => pure v) : Sem Value).run P w = .ok v w := fun w => by
  simp [go_sem]
end Go.Proofs.Ytjabaenpkimmjaa

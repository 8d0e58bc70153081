/- The element types' rows, and the append law at each. -/
import Derived.Test.YtdieipdbkpcgmaaOwn
namespace Go.Proofs.Ytdieipdbkpcgmaa
set_option linter.unusedSimpArgs false
set_option linter.unusedVariables false
open Go.RowKit

theorem info_int : (Try.prog.info? 3).map (fun i => (i.zero, i.size, i.bytes)) = some (some (.int .i64 0), 1, 8) := by kernel_rfl

theorem app_int {W0 w : World} {ops : Array Oper} {rest : List Oper} {o : Oper} {a : Act} {Q : Exit → Act → World → Prop} (hgd : o.guard = none) (s x : Operand)
    (ho : o.op = .call { callee := .builtin .append, args := #[s, x], argTypes := #[34, 34] })
    {v : Value} {n : Nat} {xs : List Value} (hown : w.ownsRow W0.heap.size 3 1 v n xs) (hs : a.eval s = v) (hbel : Below W0.heap.size W0 w)
    {vx : Value} {m : Nat} {news : List Value} (hsrc : Src w 1 vx m news) (hx : a.eval x = vx)
    (hbytes : (n + m) * 8 ≤ 140737488355328)
    (h : ∀ v' y, (ext W0 y).ownsRow W0.heap.size 3 1 v' (n + m) (xs ++ news) → w.grownBy (ext W0 y) v.ownBlock → wpList Try.prog ops Q rest (a.put o.dst v') (ext W0 y)) : wpList Try.prog ops Q (o :: rest) a w :=
  wpList_app hgd s x 34 ho 3 (.int .i64 0) 1 8 Try.underlying34 info_int rfl (by decide) (by decide) hown hs hbel hsrc hx hbytes h
end Go.Proofs.Ytdieipdbkpcgmaa

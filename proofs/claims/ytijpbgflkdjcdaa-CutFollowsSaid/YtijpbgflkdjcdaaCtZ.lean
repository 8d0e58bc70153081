/- Cut: where no variable is laid. -/
import Derived.Test.YtijpbgflkdjcdaaCtQ
namespace Go.Proofs.Ytijpbgflkdjcdaa
set_option linter.unusedSimpArgs false
set_option linter.unusedVariables false
open Go.RowKit Go.ChangeShapes Go.WideShapes
theorem gl_none {W : World} : Gl (Ztot W) := fun g cs hg => by cases hg
end Go.Proofs.Ytijpbgflkdjcdaa

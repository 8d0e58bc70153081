/- Cut: where no variable is laid. -/
import Derived.Test.YtjabaenpkimmjaaCtQ
namespace Go.Proofs.Ytjabaenpkimmjaa
set_option linter.unusedSimpArgs false
set_option linter.unusedVariables false
open Go.RowKit Go.ChangeShapes Go.WideShapes
theorem gl_none {W : World} : Gl (Ztot W) := fun g cs hg => by cases hg
end Go.Proofs.Ytjabaenpkimmjaa

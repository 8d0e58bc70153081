/- The shelf's contracts laid at this seat, in plain words (written by the kit's lay-plain.mjs). -/
import Derived.Shelf.SlIterI.Sorted
import Derived.Ground.GgzProg
import Derived.Shelf.SlIterI.Collect
import Derived.Shelf.SlIterI.Nil
import Derived.Shelf.Sort.Plain
import Derived.Shelf.Slices.In.SortNone
import Derived.Ground.NamesProg
import Derived.Test.YtiiaokjgbjhfhaaGreatDoorProg
namespace Go.Proofs
open Go.Shelf
end Go.Proofs

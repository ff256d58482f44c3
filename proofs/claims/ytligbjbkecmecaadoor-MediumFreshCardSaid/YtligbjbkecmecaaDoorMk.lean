/- The map types: none. -/
import Derived.Test.YtligbjbkecmecaaDoorChecked
import Derived.Test.YtligbjbkecmecaaDoorSwp
namespace Go.Proofs.YtligbjbkecmecaaDoor
set_option linter.unusedVariables false
set_option linter.unusedSimpArgs false
theorem map_ok : ∀ t m, mapT t = some m → MapOk Tryd.prog t m := fun t m h => by cases h
end Go.Proofs.YtligbjbkecmecaaDoor

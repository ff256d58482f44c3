/- The package's variable that is read: a medium of three nodes in a row. -/
import Derived.Test.YtligbjbkecmecaaDoorEv
namespace Go.Proofs.YtligbjbkecmecaaDoor
set_option linter.unusedVariables false
set_option linter.unusedSimpArgs false
def glob (g : Nat) : Option SV := match g with
  | 0 => some (.eptr none (.lst none [.lst none [.int .i64 0, .int .i64 256, .int .i64 0], .lst none [.int .i64 256, .int .i64 0, .int .i64 256], .lst none [.int .i64 0, .int .i64 256, .int .i64 0]]) 0)
  | _ => none
theorem glob_noref {g : Nat} {x : SV} (h : glob g = some x) (d : Nat) : noref d x = true := by
  unfold glob at h
  split at h
  · injection h with h; subst h; rfl
  · cases h
/-- Map types: the key, the element, the kinds of the key's cells. -/
def mapT : Nat → Option (Nat × Nat × List IntKind) := fun _ => none
end Go.Proofs.YtligbjbkecmecaaDoor

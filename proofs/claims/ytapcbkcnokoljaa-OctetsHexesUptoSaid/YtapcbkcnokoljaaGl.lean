/- The package's variables that are read: none. -/
import Derived.Test.YtapcbkcnokoljaaEv
namespace Go.Proofs.Ytapcbkcnokoljaa
set_option linter.unusedVariables false
set_option linter.unusedSimpArgs false
def glob : Nat → Option SV := fun _ => none
theorem glob_noref {g : Nat} {x : SV} (h : glob g = some x) (d : Nat) : noref d x = true := by cases h
end Go.Proofs.Ytapcbkcnokoljaa

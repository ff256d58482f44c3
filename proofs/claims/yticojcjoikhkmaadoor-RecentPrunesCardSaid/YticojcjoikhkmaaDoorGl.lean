/- The package's variable that is read: a link address. -/
import Derived.Test.YticojcjoikhkmaaDoorEv
namespace Go.Proofs.YticojcjoikhkmaaDoor
set_option linter.unusedVariables false
set_option linter.unusedSimpArgs false
def glob (g : Nat) : Option SV := match g with
  | 0 => some (.eptr (some 3) (.agg [.int .i64 2, .int .u16 1, .int .u64 0]) 0)
  | _ => none
theorem glob_noref {g : Nat} {x : SV} (h : glob g = some x) (d : Nat) : noref d x = true := by
  unfold glob at h
  split at h
  · injection h with h; subst h; rfl
  · cases h
end Go.Proofs.YticojcjoikhkmaaDoor

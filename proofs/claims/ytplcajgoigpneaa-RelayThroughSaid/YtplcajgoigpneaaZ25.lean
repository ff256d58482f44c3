/- Texts put together: FT. -/
import Derived.Test.YtplcajgoigpneaaZ24
namespace Go.Proofs.Ytplcajgoigpneaa
set_option linter.unusedVariables false
set_option linter.unusedSimpArgs false
open Go.RowKit
set_option maxHeartbeats 8000000
theorem encF_len (n t a : Int) (bs : List UInt8) : (encF n t a bs).length = (if a > 0 then 5 else 4) + bs.length := by
  unfold encF
  split <;> simp [bytesOf_length] <;> omega
def frV4 (f : Fr) (X : List SV) : SV := .agg [.int .i64 f.n, .int .u16 f.t, .int .i64 f.a, .lst none X]
end Go.Proofs.Ytplcajgoigpneaa

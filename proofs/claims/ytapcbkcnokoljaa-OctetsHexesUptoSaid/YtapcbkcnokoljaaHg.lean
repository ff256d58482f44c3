/- The law OctetsHexes for what is opened. -/
import Derived.Test.YtapcbkcnokoljaaHw
import Derived.Test.YtapcbkcnokoljaaHf
namespace Go.Proofs.Ytapcbkcnokoljaa
set_option linter.unusedVariables false
set_option linter.unusedSimpArgs false
open Go.RowKit
theorem hexes_l (zs : List Int) (hz : ∀ v ∈ zs, 0 ≤ v ∧ v ≤ 255) (s : ByteArray) (hb : zs.length ≤ 1048576) (hs : s.size ≤ 1048576) (a y : Int) (ha : -9223372036854775808 ≤ a ∧ a ≤ 9223372036854775807) (hy : 0 ≤ y ∧ y ≤ 255) :
    Good 5 (pu [.lst none (ints .u8 zs), .str s, .int .i64 a, .int .u8 y] (.bool true)) := by
  obtain ⟨bs, h1, h2⟩ := u8l_of zs hz
  exact hexes_c bs _ s a y h1 (by omega) hs ha hy
end Go.Proofs.Ytapcbkcnokoljaa

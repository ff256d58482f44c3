/- What the bound on the bulk of a list gives; the law OctetsHexBack for what is opened. -/
import Derived.Test.YtapcbkcnokoljaaRows
import Derived.Test.YtapcbkcnokoljaaOpn
import Derived.Test.YtapcbkcnokoljaaHx
namespace Go.Proofs.Ytapcbkcnokoljaa
set_option linter.unusedVariables false
set_option linter.unusedSimpArgs false
open Go.ChangeShapes Go.WideShapes Go.ChangeAt Go.RowKit Go.WideElems Go.Deep
section
variable {H : Type} {enc : TypeId × Value → H} {P : Program} {w : World}
theorem bulkAll_len : ∀ l : List (DataW H), l.length ≤ Rows.uptoBulkAll l
  | [] => Nat.zero_le _
  | d :: r => by
    have ih := bulkAll_len r
    have h1 : 1 ≤ Rows.uptoBulk d := by
      cases d with
      | lit l => cases l <;> simp [Rows.uptoBulk]
      | _ => simp [Rows.uptoBulk]
    simp only [Rows.uptoBulkAll, List.length_cons]
    omega
theorem SliceDatum.bulk {d : DataW H} {l c : Nat} (h : SliceDatum d l c) : l ≤ Rows.uptoBulk d := by
  rcases h with ⟨_, h, _⟩ | ⟨es, sp, h1, h2, _⟩
  · omega
  · subst h1
    have := bulkAll_len es
    simp only [Rows.uptoBulk]
    omega
theorem str_len (s : ByteArray) : s.data.toList.length = s.size := by show s.data.toList.length = s.data.size; simp
end
theorem hexBack_l (zs : List Int) (hz : ∀ v ∈ zs, 0 ≤ v ∧ v ≤ 255) (s : ByteArray) (hb : zs.length ≤ 1048576) (hs : s.size ≤ 1048576) :
    Good 6 (pu [.lst none (ints .u8 zs), .str s] (.bool true)) := by
  obtain ⟨bs, h1, h2⟩ := u8l_of zs hz
  exact hexBack_c bs _ s h1 (by omega) hs
end Go.Proofs.Ytapcbkcnokoljaa

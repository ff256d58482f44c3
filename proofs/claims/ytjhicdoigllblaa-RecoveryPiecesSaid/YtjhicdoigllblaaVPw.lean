/- RecoveryPieces over the row's arguments. -/
import Derived.Test.YtjhicdoigllblaaVQ
import Derived.Test.YtjhicdoigllblaaVR
namespace Go.Proofs.Ytjhicdoigllblaa
set_option linter.unusedVariables false
set_option linter.unusedSimpArgs false
open Go.RowKit
theorem pieces_c (p : Pce) (hp : p.fits) (PD : List SV) (hPD : PD = u8l p.d) (b : List UInt8) (hb : b.length ≤ 140737488351232) (B : List SV) (hB : B = u8l b) (t m n c a y : Int) (ht : 0 ≤ t ∧ t ≤ 255) (hm : 0 ≤ m ∧ m ≤ 4294967295)
    (hn : -9223372036854775808 ≤ n ∧ n ≤ 9223372036854775807) (hc : -9223372036854775808 ≤ c ∧ c ≤ 9223372036854775807) (ha : -9223372036854775808 ≤ a ∧ a ≤ 9223372036854775807) (hy : 0 ≤ y ∧ y ≤ 255) :
    Good 9 (pu [.agg [.int .u8 p.tag, .int .i64 p.n, .int .i64 p.c, .bool p.ack, .lst none PD], .lst none B, .int .u8 t, .int .u32 m, .int .i64 n, .int .i64 c, .int .i64 a, .int .u8 y] (.bool true)) := by
  by_cases h100 : 100 < y
  · cases hval : valP (n % 34 - 1) (c % 34) b.length with
    | true => exact pieces_1 p hp PD hPD b hb B hB t m n c a y ht hm hn hc ha hy h100 hval
    | false => exact pieces_3 p hp PD hPD b hb B hB t m n c a y ht hm hn hc ha hy h100 hval
  · cases hval : valP (n % 34 - 1) (c % 34) b.length with
    | true => exact pieces_2 p hp PD hPD b hb B hB t m n c a y ht hm hn hc ha hy h100 hval
    | false => exact pieces_4 p hp PD hPD b hb B hB t m n c a y ht hm hn hc ha hy h100 hval
theorem pieces_l (p : Pce) (hp : p.fits) (zs : List Int) (hz : ∀ v ∈ zs, 0 ≤ v ∧ v ≤ 255) (hl : zs.length ≤ 140737488351232) (t m n c a y : Int) (ht : 0 ≤ t ∧ t ≤ 255) (hm : 0 ≤ m ∧ m ≤ 4294967295)
    (hn : -9223372036854775808 ≤ n ∧ n ≤ 9223372036854775807) (hc : -9223372036854775808 ≤ c ∧ c ≤ 9223372036854775807) (ha : -9223372036854775808 ≤ a ∧ a ≤ 9223372036854775807) (hy : 0 ≤ y ∧ y ≤ 255) :
    Good 9 (pu [.agg [.int .u8 p.tag, .int .i64 p.n, .int .i64 p.c, .bool p.ack, .lst none (u8l p.d)], .lst none (ints .u8 zs), .int .u8 t, .int .u32 m, .int .i64 n, .int .i64 c, .int .i64 a, .int .u8 y] (.bool true)) := by
  obtain ⟨b, h1, h2⟩ := u8l_of zs hz
  exact pieces_c p hp _ rfl b (by omega) _ h1 t m n c a y ht hm hn hc ha hy
end Go.Proofs.Ytjhicdoigllblaa

/- Hexadecimal texts: back and forth. -/
import Derived.Test.YtapcbkcnokoljaaHz
namespace Go.Proofs.Ytapcbkcnokoljaa
set_option linter.unusedVariables false
set_option linter.unusedSimpArgs false
open Go.RowKit
set_option maxHeartbeats 4000000
set_option linter.unusedSimpArgs false
theorem hexL_get : ∀ (l : List UInt8) (i : Nat) (b : UInt8), l[i]? = some b → (hexL l)[2 * i]? = some (hxd (b.toNat / 16)) ∧ (hexL l)[2 * i + 1]? = some (hxd (b.toNat % 16))
  | [], i, b, h => by simp at h
  | x :: l, 0, b, h => by
    simp at h
    subst h
    simp [hexL, hx2]
  | x :: l, i + 1, b, h => by
    have := hexL_get l i b (by simpa using h)
    have e : hexL (x :: l) = hxd (x.toNat / 16) :: hxd (x.toNat % 16) :: hexL l := by simp [hexL, hx2]
    rw [e, show 2 * (i + 1) = 2 * i + 2 by omega]
    simpa using this
theorem dgI_hxd : ∀ k, k < 16 → dgI ((hxd k).toNat : Int) = k := by decide
set_option maxRecDepth 20000 in
theorem hxd_dgI : ∀ n, n < 256 → 0 ≤ dgI (n : Nat) → (hxd (dgI (n : Nat)).toNat).toNat = n := by decide
theorem hexB_size (l : List UInt8) : (hexB l).size = 2 * l.length := by
  show (hexL l).toArray.size = _
  rw [List.size_toArray, hexL_len]
theorem byteAt_hexB (l : List UInt8) (i : Nat) (b : UInt8) (h : l[i]? = some b) : byteAt (hexB l) ((2 * i : Nat) : Int) = (hxd (b.toNat / 16)).toNat ∧ byteAt (hexB l) ((2 * i + 1 : Nat) : Int) = (hxd (b.toNat % 16)).toNat := by
  obtain ⟨h1, h2⟩ := hexL_get l i b h
  simp only [byteAt, hexB, Int.toNat_natCast]
  rw [h1, h2]
  exact ⟨rfl, rfl⟩
theorem back1 (l : List UInt8) (f : Nat → Int) (hf : ∀ k, f k = dgI (byteAt (hexB l) (k : Nat))) :
    (∀ k, k < 2 * l.length → 0 ≤ f k) ∧ ints .u8 ((List.range l.length).map fun k => 16 * f (2 * k) + f (2 * k + 1)) = u8l l := by
  have key : ∀ i b, l[i]? = some b → f (2 * i) = (b.toNat / 16 : Nat) ∧ f (2 * i + 1) = (b.toNat % 16 : Nat) := fun i b h => by
    obtain ⟨h1, h2⟩ := byteAt_hexB l i b h
    have hb := b.toNat_lt
    rw [hf, hf, h1, h2, dgI_hxd _ (by omega), dgI_hxd _ (by omega)]
    exact ⟨rfl, rfl⟩
  refine ⟨fun k hk => ?_, ?_⟩
  · obtain ⟨h1, h2⟩ := key (k / 2) _ (List.getElem?_eq_getElem (by omega))
    rcases Nat.mod_two_eq_zero_or_one k with h | h
    · rw [show 2 * (k / 2) = k by omega] at h1
      rw [h1]; omega
    · rw [show 2 * (k / 2) + 1 = k by omega] at h2
      rw [h2]; omega
  · unfold ints u8l
    apply List.ext_getElem (by simp)
    intro i h1 h2
    have hi : i < l.length := by simpa using h2
    obtain ⟨k1, k2⟩ := key i _ (List.getElem?_eq_getElem hi)
    have hb := (l[i]).toNat_lt
    simp only [List.getElem_map, List.getElem_range, k1, k2]
    congr 1
    omega
/-- The bytes of a text of digits. -/
def unhL (f : Nat → Int) (n : Nat) : List UInt8 := (List.range n).map fun k => UInt8.ofNat (16 * f (2 * k) + f (2 * k + 1)).toNat
theorem unhL_ints (f : Nat → Int) (n : Nat) (hf : ∀ k, k < 2 * n → 0 ≤ f k ∧ f k ≤ 15) : ints .u8 ((List.range n).map fun k => 16 * f (2 * k) + f (2 * k + 1)) = u8l (unhL f n) := by
  unfold ints u8l unhL
  rw [List.map_map, List.map_map]
  apply List.map_congr_left
  intro k hk
  have hk' := List.mem_range.1 hk
  have h1 := hf (2 * k) (by omega)
  have h2 := hf (2 * k + 1) (by omega)
  simp only [Function.comp_def, UInt8.toNat_ofNat']
  congr 1
  omega
theorem back2 (s : ByteArray) (n : Nat) (f : Nat → Int) (hs : s.size = 2 * n) (hf : ∀ k, f k = dgI (byteAt s (k : Nat))) (hok : ∀ k, k < 2 * n → 0 ≤ f k) : hexB (unhL f n) = s := by
  have hlen : (unhL f n).length = n := by simp [unhL]
  have hg : ∀ k, k < 2 * n → ∃ c : UInt8, s.data.toList[k]? = some c ∧ f k = dgI c.toNat ∧ 0 ≤ dgI (c.toNat : Nat) := fun k hk => by
    have hk' : k < s.data.toList.length := by
      show k < s.data.toList.length
      have : s.data.toList.length = s.size := by show s.data.toList.length = s.data.size; simp
      omega
    refine ⟨_, List.getElem?_eq_getElem hk', ?_, ?_⟩
    · rw [hf]; simp only [byteAt, Int.toNat_natCast, List.getElem?_eq_getElem hk']; rfl
    · have := hok k hk
      rw [hf] at this; simp only [byteAt, Int.toNat_natCast, List.getElem?_eq_getElem hk'] at this; exact this
  have hv : ∀ c : UInt8, 0 ≤ dgI (c.toNat : Nat) → hxd (dgI c.toNat).toNat = c := fun c h => by
    apply UInt8.toNat_inj.1
    exact hxd_dgI c.toNat c.toNat_lt h
  apply ByteArray.ext
  apply Array.ext'
  show hexL (unhL f n) = s.data.toList
  apply List.ext_getElem?
  intro j
  by_cases hj : j < 2 * n
  · have hy : (unhL f n)[j / 2]? = some (UInt8.ofNat (16 * f (2 * (j / 2)) + f (2 * (j / 2) + 1)).toNat) := by
      simp [unhL, show j / 2 < n by omega]
    obtain ⟨g1, g2⟩ := hexL_get _ _ _ hy
    obtain ⟨c1, d1, d2, d3⟩ := hg (2 * (j / 2)) (by omega)
    obtain ⟨c2, e1, e2, e3⟩ := hg (2 * (j / 2) + 1) (by omega)
    have b1 := dgI_le c1.toNat
    have b2 := dgI_le c2.toNat
    have hy2 : (UInt8.ofNat (16 * f (2 * (j / 2)) + f (2 * (j / 2) + 1)).toNat).toNat = 16 * (dgI c1.toNat).toNat + (dgI c2.toNat).toNat := by
      rw [d2, e2, UInt8.toNat_ofNat']; omega
    rw [hy2, show (16 * (dgI c1.toNat).toNat + (dgI c2.toNat).toNat) / 16 = (dgI c1.toNat).toNat by omega, hv c1 d3] at g1
    rw [hy2, show (16 * (dgI c1.toNat).toNat + (dgI c2.toNat).toNat) % 16 = (dgI c2.toNat).toNat by omega, hv c2 e3] at g2
    rcases Nat.mod_two_eq_zero_or_one j with h | h
    · rw [show 2 * (j / 2) = j by omega] at g1 d1
      rw [g1, d1]
    · rw [show 2 * (j / 2) + 1 = j by omega] at g2 e1
      rw [g2, e1]
  · have h1 : (hexL (unhL f n)).length ≤ j := by rw [hexL_len, hlen]; omega
    have h2 : s.data.toList.length ≤ j := by
      have : s.data.toList.length = s.size := by show s.data.toList.length = s.data.size; simp
      omega
    rw [List.getElem?_eq_none h1, List.getElem?_eq_none h2]
end Go.Proofs.Ytapcbkcnokoljaa

/- The sender of a datagram that fits: plain laws. -/
import Derived.Test.YtjhicdoigllblaaVK
namespace Go.Proofs.Ytjhicdoigllblaa
set_option linter.unusedVariables false
set_option linter.unusedSimpArgs false
open Go.RowKit
theorem tape1 (zs : List Int) (hz : ∀ v ∈ zs, -9223372036854775808 ≤ v ∧ v ≤ 9223372036854775807) : Tp ((ints .i64 zs).take 400) 0 :=
  ⟨⟨zs.take 400, by simp [ints], fun v hv => hz v (List.mem_of_mem_take hv), by rw [List.length_take]; omega⟩, by omega⟩
/-- A list of pieces that a sender may have. -/
structure Pcs (ps : List (List UInt8)) : Prop where
  n1 : 1 ≤ ps.length
  n2 : ps.length ≤ 32
  ne : ∀ p ∈ ps, p ≠ []
  b : ∀ p ∈ ps, p.length ≤ 140737488351232
theorem Pcs.fits {ps : List (List UInt8)} (h : Pcs ps) {st tag ak rd un : Int} (h1 : 0 ≤ st ∧ st ≤ 3) (h2 : 0 ≤ tag ∧ tag ≤ 255) (h3 : 0 ≤ ak ∧ ak ≤ 4294967295) (h4 : 0 ≤ rd ∧ rd ≤ 8) (h5 : 0 ≤ un ∧ un ≤ 1099511627776) : Snd.fits ⟨st, tag, ps, ak, rd, un⟩ :=
  ⟨by dsimp only; omega, h2, h3, by dsimp only; omega, by dsimp only; omega, by have := h.n2; dsimp only; omega, h.b⟩
theorem allI_pos {n : Nat} (h : 1 ≤ n) : 1 ≤ allI n := by
  rw [allI_nat]
  have : 2 ^ 1 ≤ 2 ^ n := Nat.pow_le_pow_right (by omega) h
  omega
theorem Pcs.vs {ps : List (List UInt8)} (h : Pcs ps) {st tag ak rd un : Int} (h1 : st = 1 ∨ st = 3) (h3 : ak < allI ps.length) (h4 : 0 ≤ rd ∧ rd ≤ 8) (h5 : 0 ≤ un ∧ un ≤ 1099511627776) : vs ⟨st, tag, ps, ak, rd, un⟩ = true :=
  (vs_iff _).2 ⟨h.n1, h.n2, h.ne, by dsimp only; omega, h4.1, h4.2, h5.1, h5.2, fun e => by dsimp only at e; omega, fun _ => h1⟩
theorem Pcs.vs2 {ps : List (List UInt8)} (h : Pcs ps) {tag ak rd un : Int} (h3 : ak = allI ps.length) (h4 : 0 ≤ rd ∧ rd ≤ 8) (h5 : 0 ≤ un ∧ un ≤ 1099511627776) : Go.Proofs.Ytjhicdoigllblaa.vs ⟨2, tag, ps, ak, rd, un⟩ = true :=
  (vs_iff _).2 ⟨h.n1, h.n2, h.ne, by dsimp only; omega, h4.1, h4.2, h5.1, h5.2, fun e => rfl, fun e => absurd h3 e⟩
/-- What Begin makes of a datagram that fits. -/
theorem beg_ok (b : List UInt8) (tag : Int) (sz : Nat) (hb : b.length ≤ 140737488351232) (h1 : 1 ≤ b.length) (hs : 1 ≤ sz) (hn : (b.length - 1) / sz < 32) :
    begP b tag (4 + sz) = (⟨1, tag, chk sz b (nPc b.length sz), 0, 0, 0⟩, 0) ∧ Pcs (chk sz b (nPc b.length sz)) := by
  have e1 : (4 + (sz : Int) - 4).toNat = sz := by omega
  have e2 : ((b.length : Int) - 1) / (4 + (sz : Int) - 4) = (((b.length - 1) / sz : Nat) : Int) := by
    rw [show (4 + (sz : Int) - 4) = sz by omega, show ((b.length : Int) - 1) = ((b.length - 1 : Nat) : Int) by omega]
    exact (Int.natCast_ediv _ _).symm
  refine ⟨?_, ?_, ?_, ?_, ?_⟩
  · rw [begP, if_neg (show ¬ (4 + (sz : Int) ≤ 4) by omega), if_neg (show ¬ (b.length = 0 ∨ 32 ≤ ((b.length : Int) - 1) / (4 + (sz : Int) - 4)) by rw [e2]; omega), e1]
  · rw [chk_len, nPc]; exact Nat.le_add_left 1 _
  · rw [chk_len, nPc]; exact hn
  · intro p hp
    simp only [chk, List.mem_map, List.mem_range] at hp
    obtain ⟨i, hi, rfl⟩ := hp
    have := nPc_lt h1 hs hi
    intro e
    have := congrArg List.length e
    rw [List.length_take, List.length_drop, List.length_nil] at this
    omega
  · intro p hp
    simp only [chk, List.mem_map] at hp
    obtain ⟨i, _, rfl⟩ := hp
    rw [List.length_take, List.length_drop]
    omega
theorem nextP_send {ps : List (List UInt8)} (h : Pcs ps) {tag ak rd un now : Int} (hak : 0 ≤ ak ∧ ak < allI ps.length) (hrd : 0 ≤ rd ∧ rd < 8) (hun : 0 ≤ un ∧ un ≤ 1099511627776) (hnow : un ≤ now ∧ now ≤ 1099511627776) :
    nextP ⟨1, tag, ps, ak, rd, un⟩ now = (⟨1, tag, ps, ak, rd + 1, min (now + 8) 1099511627776⟩, mark (pre tag ps ak (min (opn ak ps.length).length 8)), 0) ∧ 1 ≤ (opn ak ps.length).length := by
  refine ⟨?_, opn_pos hak.1 (by omega) (by omega)⟩
  rw [nextP, if_neg (by rw [h.vs (.inl rfl) hak.2 (by omega) hun]; simp), if_neg (by omega), if_neg (by dsimp only; omega), if_neg (by dsimp only; omega)]
theorem nextP_wait {ps : List (List UInt8)} (h : Pcs ps) {tag ak rd un now : Int} (hak : 0 ≤ ak ∧ ak < allI ps.length) (hrd : 0 ≤ rd ∧ rd ≤ 8) (hun : 0 ≤ un ∧ un ≤ 1099511627776) (hnow : 0 ≤ now ∧ now < un) :
    nextP ⟨1, tag, ps, ak, rd, un⟩ now = (⟨1, tag, ps, ak, rd, un⟩, [], 0) := by
  rw [nextP, if_neg (by rw [h.vs (.inl rfl) hak.2 hrd hun]; simp), if_neg (by omega), if_pos (by dsimp only; omega)]
theorem nextP_fail {ps : List (List UInt8)} (h : Pcs ps) {tag ak un now : Int} (hak : 0 ≤ ak ∧ ak < allI ps.length) (hun : 0 ≤ un ∧ un ≤ 1099511627776) (hnow : un ≤ now ∧ now ≤ 1099511627776) :
    nextP ⟨1, tag, ps, ak, 8, un⟩ now = (⟨3, tag, ps, ak, 8, un⟩, [], 0) := by
  rw [nextP, if_neg (by rw [h.vs (.inl rfl) hak.2 (by omega) hun]; simp), if_neg (by omega), if_neg (by dsimp only; omega), if_pos (by dsimp only)]
theorem sent_len (tag : Int) (ps : List (List UInt8)) (ak : Int) : (mark (pre tag ps ak (min (opn ak ps.length).length 8))).length = min (opn ak ps.length).length 8 := by
  rw [mark_len, pre_len _ _ _ _ (by omega)]
end Go.Proofs.Ytjhicdoigllblaa

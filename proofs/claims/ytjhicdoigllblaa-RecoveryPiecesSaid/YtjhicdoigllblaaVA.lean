/- recovery.missing: an iterator's contract. -/
import Derived.Test.YtjhicdoigllblaaTac
import Derived.RangeFuncBound
import Derived.RangeFuncCalls
import Derived.RangeFuncLeaves
import Derived.Shelf.Abstract
import Derived.WalkKit
import Derived.OwnWalkIn
import Derived.TacticsInMore
import Derived.LoopNIn
import Derived.LoopIn
namespace Go.Proofs.Ytjhicdoigllblaa
set_option linter.unusedVariables false
set_option linter.unusedSimpArgs false
open Go.RowKit Go.Shelf
/-- What has not been acknowledged, with its numbers. -/
def misX (m : Int) : Nat → List SV → List (List SV)
  | _, [] => []
  | i, x :: L => if m / 2 ^ i % 2 = 0 then [.int .i64 i, x] :: misX m (i + 1) L else misX m (i + 1) L
def cntF (m : Int) : Nat → Nat → Nat
  | _, 0 => 0
  | j, i + 1 => (if m / 2 ^ j % 2 = 0 then 1 else 0) + cntF m (j + 1) i
theorem cntF_succ (m : Int) : ∀ (i j : Nat), cntF m j (i + 1) = cntF m j i + (if m / 2 ^ (j + i) % 2 = 0 then 1 else 0)
  | 0, j => by simp [cntF]
  | i + 1, j => by
    rw [cntF, cntF_succ m i (j + 1), cntF]
    have : j + 1 + i = j + (i + 1) := by omega
    rw [this]
    omega
theorem misX_at (m : Int) : ∀ (L : List SV) (j i : Nat) (x : SV), L[i]? = some x → m / 2 ^ (j + i) % 2 = 0 → (misX m j L)[cntF m j i]? = some [.int .i64 ((j + i : Nat) : Int), x]
  | [], j, i, x, h, _ => by simp at h
  | y :: L, j, 0, x, h, hm => by
    simp at h
    subst h
    simp only [Nat.add_zero] at hm ⊢
    simp [misX, cntF, hm]
  | y :: L, j, i + 1, x, h, hm => by
    have e : j + 1 + i = j + (i + 1) := by omega
    have ih := misX_at m L (j + 1) i x (by simpa using h) (by rw [e]; exact hm)
    rw [e] at ih
    simp only [misX, cntF]
    split
    · rw [Nat.add_comm 1]; simpa using ih
    · simpa using ih
theorem misX_len (m : Int) : ∀ (L : List SV) (j : Nat), (misX m j L).length = cntF m j L.length
  | [], j => rfl
  | y :: L, j => by
    simp only [misX, List.length_cons, cntF]
    split
    · rw [List.length_cons, misX_len m L (j + 1)]; omega
    · rw [misX_len m L (j + 1)]; omega
theorem and1 (m : Int) (h : 0 ≤ m ∧ m < 4294967296) (i : Nat) (hi : i < 32) : ((BitVec.ofInt 32 (m / 2 ^ i) &&& 1#32).toNat : Int) = m / 2 ^ i % 2 := by
  have h0 : 0 ≤ m / 2 ^ i := Int.ediv_nonneg h.1 (Int.pow_nonneg (by omega))
  have h1 : m / 2 ^ i ≤ m := Int.ediv_le_self _ h.1
  obtain ⟨k, hk⟩ := Int.eq_ofNat_of_zero_le h0
  rw [hk] at h1 ⊢
  have : (BitVec.ofInt 32 (k : Int)).toNat = k := by rw [BitVec.toNat_ofInt]; omega
  rw [BitVec.toNat_and, this]
  simp only [BitVec.toNat_ofNat]
  have e : (1 : Nat) % 2 ^ 32 = 1 := by decide
  rw [e, Nat.and_one_is_mod]
  omega
theorem and1b (m : Int) (h : 0 ≤ m ∧ m < 4294967296) (i : Nat) (hi : i < 32) : bits .and .u32 (m / 2 ^ i) 1 = m / 2 ^ i % 2 := by
  have := and1 m h i hi
  have h1 := Int.emod_nonneg (m / 2 ^ i) (show (2 : Int) ≠ 0 by omega)
  have h2 := Int.emod_lt_of_pos (m / 2 ^ i) (show (0 : Int) < 2 by omega)
  unfold bits
  show IntKind.u32.wrap ((BitVec.ofInt 32 (m / 2 ^ i) &&& 1#32).toNat : Int) = _
  rw [IntKind.wrap_u32, this]
  omega
attribute [local go_sem] Oper.semAt_some
set_option maxRecDepth 100000 in
set_option maxHeartbeats 4000000 in
theorem missing1_in (l Bs b off len cap : Nat) (m : Int) (hm : 0 ≤ m ∧ m < 4294967296) (hlen : len ≤ 32) (V : Nat → Value) (o : Nat) (Kp : World → Prop) (J : Nat → World → Prop) (Jx : World → Prop)
    (hK : ∀ W, Kp W → W.cell? ⟨Bs, o + 2, none⟩ = some (.slice (some ⟨b, off, none⟩) len cap) ∧ W.cell? ⟨Bs, o + 3, none⟩ = some (.int .u32 m) ∧ ∀ j, j < len → W.cell? ⟨b, off + j, none⟩ = some (V j))
    (hJK : ∀ k W, J k W → Kp W)
    (hY : ∀ i W, i < len → m / 2 ^ i % 2 = 0 → J (cntF m 0 i) W → ∀ q, YieldAt Fence.wide q Try.prog l #[.int .i64 (i : Int), V i] W fun e W' =>
      (e = .returned (.bool true) ∧ J (cntF m 0 i + 1) W') ∨ (e = .returned (.bool false) ∧ Jx W'))
    (W : World) (h0 : J 0 W) (n : Nat) (hn : 1 ≤ n) :
    CallsIn Fence.wide n Try.prog 67 #[.func (.yield l) #[] #[], .pointer (some ⟨Bs, o, none⟩)] W fun e W' => (∃ v, e = .returned v) ∧ (J (cntF m 0 len) W' ∨ Jx W') := by
  refine callsIn_of_wp Try.func67 rfl trivial ?_ rfl
  simp only [Try.ntmps67, List.size_toArray, List.length_cons, List.length_nil, Nat.reduceAdd, Nat.reduceSub, Array.replicate_succ, Array.replicate_zero, List.push_toArray, List.append_toArray, List.nil_append, List.cons_append]
  obtain ⟨hc2, hc3, hcs⟩ := hK W (hJK _ _ h0)
  gi_wp2
  gi_loopw [8] (fun i wr => ∃ k : Nat, k ≤ len ∧ i = .int .i64 k ∧ J (cntF m 0 k) wr) (fun i _ => len - (intOf i).toNat)
  case atStart => exact ⟨0, Nat.zero_le _, rfl, h0⟩
  case round =>
    obtain ⟨k, hk, rfl, hJs⟩ := hrel
    obtain ⟨hd2, hd3, hds⟩ := hK _ (hJK _ _ hJs)
    have hcx := fun h : k < len => hds k h
    by_cases hlt : k < len
    · have hcx' := hcx hlt
      have hk32 : k < 32 := by omega
      have han : bits .and .u32 (m / 2 ^ k) 1 = m / 2 ^ k % 2 := and1b m hm k hk32
      by_cases hbit : m / 2 ^ k % 2 = 0
      · obtain ⟨fn, tmps, assign, body, hy, hR⟩ := hY k wr hlt hbit hJs (n - 1)
        rw [hbit] at han
        gi_wp2
        refine hR.mono ?_
        rintro e W3 (⟨rfl, hJ3⟩ | ⟨rfl, hJx3⟩)
        · gi_wp2
          go_roundw
          case rel => exact ⟨k + 1, by omega, by simp, by rw [cntF_succ, Nat.zero_add, if_pos hbit]; exact hJ3⟩
          case measure => simp [intOf]; omega
        · gi_wp2
          refine bodyPost_ret (results_none rfl _ _ _) rfl ?_
          exact ⟨⟨_, rfl⟩, .inr hJx3⟩
      · have hb1 : m / 2 ^ k % 2 = 1 := by
          have h1 := Int.emod_nonneg (m / 2 ^ k) (show (2 : Int) ≠ 0 by omega)
          have h2 := Int.emod_lt_of_pos (m / 2 ^ k) (show (0 : Int) < 2 by omega)
          omega
        have hcn : cntF m 0 (k + 1) = cntF m 0 k := by rw [cntF_succ, Nat.zero_add, if_neg hbit, Nat.add_zero]
        rw [hb1] at han
        clear hb1 hbit
        gi_wp2
        refine ⟨fun _ h => (by cases h), ?_⟩
        gi_wp2
        go_roundw
        case rel => exact ⟨k + 1, by omega, by simp, by rw [hcn]; exact hJs⟩
        case measure => simp [intOf]; omega
    · obtain rfl : k = len := by omega
      gi_wp2
      go_end0
      exact ⟨⟨_, rfl⟩, .inl hJs⟩
set_option maxRecDepth 100000 in
set_option maxHeartbeats 4000000 in
theorem missing1_nil (l Bs cap : Nat) (ad : Option Addr) (o : Nat) (J : Nat → World → Prop) (W : World) (hc2 : W.cell? ⟨Bs, o + 2, none⟩ = some (.slice ad 0 cap)) (h0 : J 0 W) (n : Nat) (hn : 1 ≤ n) :
    CallsIn Fence.wide n Try.prog 67 #[.func (.yield l) #[] #[], .pointer (some ⟨Bs, o, none⟩)] W fun e W' => (∃ v, e = .returned v) ∧ J 0 W' := by
  refine callsIn_of_wp Try.func67 rfl trivial ?_ rfl
  simp only [Try.ntmps67, List.size_toArray, List.length_cons, List.length_nil, Nat.reduceAdd, Nat.reduceSub, Array.replicate_succ, Array.replicate_zero, List.push_toArray, List.append_toArray, List.nil_append, List.cons_append]
  gi_wp2
  gi_loopw [8] (fun i wr => i = .int .i64 0 ∧ J 0 wr) (fun _ _ => 0)
  case atStart => exact ⟨rfl, h0⟩
  case round =>
    obtain ⟨rfl, hJs⟩ := hrel
    gi_wp2
    go_end0
    exact ⟨⟨_, rfl⟩, hJs⟩
theorem missing1_q (st tag rd un m : Int) (L : List SV) (hm : 0 ≤ m ∧ m < 4294967296) (hl : L.length ≤ 32) :
    Good 67 (seqC [.eptr (some 6) (.agg [.int .i64 st, .int .u8 tag, .lst none L, .int .u32 m, .int .i64 rd, .int .i64 un]) 0] (misX m 0 L)) := by
  refine ⟨⟨⟨Try.f67, Try.func67, rfl, by kernel_rfl⟩, fun _ => ?_, fun h => by simp [isSeq, seqC] at h⟩⟩
  rw [seqC_L]
  refine ⟨fun w Y us hus l J Jx W hJb hJxb hKY hY h0 n => ?_⟩
  obtain ⟨v, rfl⟩ := List.length_eq_one_iff.1 (show us.length = 1 from hus.1.symm)
  have hv := hus.2 0 _ v rfl rfl
  cases hv with
  | eptr _ _ _ _ B o cs hb hx hu hcl hy =>
  rw [valAt_some_full (by rw [hcl]; exact Nat.le_refl _)] at hy
  obtain ⟨cs', e, hd⟩ := Den.agg_iff.1 hy
  injection e with e
  injection e with e
  subst e
  have hcs : cs.length = 6 := hcl
  have hc3 : cs[3]? = some (.int .u32 m) := by
    have h3 : (3 : Nat) < cs.length := by omega
    have := hd.2 3 _ _ rfl (List.getElem?_eq_getElem h3)
    rw [List.getElem?_eq_getElem h3, Den.int_iff.1 this]
  have h2 : (2 : Nat) < cs.length := by omega
  have hc2 := hd.2 2 _ _ rfl (List.getElem?_eq_getElem h2)
  have hu2 := hu 2 _ (List.getElem?_eq_getElem h2)
  have hu3 := hu 3 _ hc3
  have same : ∀ {W1 : World}, KeepY Y w W1 → ∀ {b : Nat}, b < w.heap.size → ¬ Y b → ∀ off, W1.cell? ⟨b, off, none⟩ = w.cell? ⟨b, off, none⟩ := fun hk b hb hy off => World.cell?_of_block (hk.same b hb hy)
  refine (callsIn_wide (n := n)).2 ((callsIn_wide (n := 1)).1 ?_)
  have hk0 := hKY 0 W h0
  generalize hcv : cs[2] = c2 at hc2 hu2
  cases hc2 with
  | lst0 _ _ ad cap =>
    exact (missing1_nil l B cap ad (o + 0) J W (by rw [Nat.add_zero, same hk0 hb hx]; exact hu2) h0 1 (Nat.le_refl _)).mono fun e W' ⟨h1, h2⟩ => ⟨h1, .inl h2⟩
  | lst _ _ _ b off cap us2 hb2 hx2 hc2' hu2' hl2 ho2 hd2 =>
    have hl2' : us2.length = L.length := by simpa [wid] using hl2
    refine (missing1_in l B b off L.length cap m hm hl (fun j => (us2[j]?).getD undef) (o + 0) (fun W1 => KeepY Y w W1) J Jx (fun W1 hk => ⟨?_, ?_, fun j hj => ?_⟩) hKY (fun i W1 hi hbit hJ q => ?_) W h0 1 (Nat.le_refl _)).mono fun e W' ⟨h1, h2⟩ => ⟨h1, ?_⟩
    · rw [Nat.add_zero, same hk hb hx]; exact hu2
    · rw [Nat.add_zero, same hk hb hx]; exact hu3
    · rw [same hk hb2 hx2, hu2' j _ (List.getElem?_eq_getElem (by omega))]
      simp [hl2', hj]
    · have hx := misX_at m L 0 i L[i] (List.getElem?_eq_getElem hi) (by rw [Nat.zero_add]; exact hbit)
      rw [Nat.zero_add] at hx
      refine hY _ _ [.int .i64 (i : Int), (us2[i]?).getD undef] W1 hJ hx ⟨rfl, fun j x u hxx huu => ?_⟩ q
      match j, hxx, huu with
      | 0, hxx, huu => simp at hxx huu; subst hxx; subst huu; exact .int _ _ _
      | 1, hxx, huu => simp at hxx huu; subst hxx; subst huu; exact hd2 i hi
    · rw [misX_len]; exact h2
end Go.Proofs.Ytjhicdoigllblaa

/- What a round sends: the plain words. -/
import Derived.Test.YtjhicdoigllblaaVD
import Derived.Test.YtjhicdoigllblaaVA
namespace Go.Proofs.Ytjhicdoigllblaa
set_option linter.unusedVariables false
set_option linter.unusedSimpArgs false
open Go.RowKit
structure Pce where
  tag : Int
  n : Int
  c : Int
  ack : Bool
  d : List UInt8
def Pce.v (p : Pce) : SV := .agg [.int .u8 p.tag, .int .i64 p.n, .int .i64 p.c, .bool p.ack, .lst none (u8l p.d)]
def pcL (l : List Pce) : List SV := l.map Pce.v
theorem pcL_len (l : List Pce) : (pcL l).length = l.length := by simp [pcL]
/-- The numbers, below n, that are not acknowledged. -/
def opn (ak : Int) (n : Nat) : List Nat := (List.range n).filter fun i => decide (ak / 2 ^ i % 2 = 0)
theorem misX_eq (m : Int) : ∀ (L : List SV) (j : Nat), misX m j L = ((List.range L.length).filter fun i => decide (m / 2 ^ (j + i) % 2 = 0)).map fun i => [.int .i64 ((j + i : Nat) : Int), L.getD i .any]
  | [], j => rfl
  | y :: L, j => by
    have ih := misX_eq m L (j + 1)
    have e : ∀ i, j + 1 + i = j + (i + 1) := fun i => by omega
    simp only [e] at ih
    simp only [misX, List.length_cons, List.range_succ_eq_map, List.filter_cons, Nat.add_zero, List.filter_map, ih]
    by_cases h : m / 2 ^ j % 2 = 0
    · rw [if_pos h]
      simp only [h, decide_true, if_true, List.map_cons, List.map_map]
      rfl
    · rw [if_neg h]
      simp only [h, decide_false, Bool.false_eq_true, if_false, List.map_map]
      rfl
/-- The first k pieces that a round sends, none of which asks for an acknowledgement. -/
def pre (tag : Int) (ps : List (List UInt8)) (ak : Int) (k : Nat) : List Pce := ((opn ak ps.length).take k).map fun (i : Nat) => (⟨tag, (i : Int), (ps.length : Int), false, ps.getD i []⟩ : Pce)
/-- .. of which the last one asks for an acknowledgement. -/
def mark : List Pce → List Pce
  | [] => []
  | [p] => [{ p with ack := true }]
  | p :: q :: l => p :: mark (q :: l)
theorem mark_len : ∀ l, (mark l).length = l.length
  | [] => rfl
  | [p] => rfl
  | p :: q :: l => by simp [mark, mark_len (q :: l)]
theorem mark_set : ∀ (l : List Pce) (k : Nat) (p : Pce), l.length = k + 1 → l[k]? = some p → l.set k { p with ack := true } = mark l
  | [], k, p, h, _ => by simp at h
  | [q], 0, p, _, h => by simp at h; subst h; rfl
  | [q], k + 1, p, h, _ => by simp at h
  | q :: r :: l, 0, p, h, _ => by simp at h
  | q :: r :: l, k + 1, p, h, g => by
    rw [List.set_cons_succ, mark_set (r :: l) k p (by simpa using h) (by simpa using g)]
    rfl
theorem pre_len (tag : Int) (ps : List (List UInt8)) (ak : Int) (k : Nat) (h : k ≤ (opn ak ps.length).length) : (pre tag ps ak k).length = k := by simp [pre]; omega
theorem pre_succ (tag : Int) (ps : List (List UInt8)) (ak : Int) (k i : Nat) (h : (opn ak ps.length)[k]? = some i) : pre tag ps ak (k + 1) = pre tag ps ak k ++ [⟨tag, i, ps.length, false, ps.getD i []⟩] := by
  obtain ⟨h1, h2⟩ := List.getElem?_eq_some_iff.1 h
  rw [pre, pre, ← List.take_append_getElem h1, List.map_append, h2]
  rfl
theorem opn_lt {ak : Int} {n k i : Nat} (h : (opn ak n)[k]? = some i) : i < n ∧ ak / 2 ^ i % 2 = 0 := by
  have := List.mem_of_getElem? h
  unfold opn at this
  rw [List.mem_filter, List.mem_range] at this
  exact ⟨this.1, of_decide_eq_true this.2⟩
theorem opn_pos {ak : Int} {n : Nat} (h0 : 0 ≤ ak) (h1 : ak ≤ allI n) (h2 : ak ≠ allI n) : 1 ≤ (opn ak n).length := by
  rcases Nat.eq_zero_or_pos (opn ak n).length with h | h
  · exfalso
    have h3 : ∀ i, i < n → ¬ ak / 2 ^ i % 2 = 0 := fun i hi he => by
      have : i ∈ opn ak n := by unfold opn; rw [List.mem_filter, List.mem_range]; exact ⟨hi, decide_eq_true he⟩
      rw [List.length_eq_zero_iff.1 h] at this
      cases this
    obtain ⟨a, ha⟩ := Int.eq_ofNat_of_zero_le h0
    subst ha
    rw [allI_nat] at h1 h2
    have hp : 1 ≤ 2 ^ n := Nat.one_le_two_pow
    apply h2
    congr 1
    apply Nat.eq_of_testBit_eq
    intro i
    rw [Nat.testBit_two_pow_sub_one]
    by_cases hi : i < n
    · have := h3 i hi
      have e : ((a : Int) / 2 ^ i % 2) = ((a / 2 ^ i % 2 : Nat) : Int) := by simp
      rw [e] at this
      rw [Nat.testBit_eq_decide_div_mod_eq]
      simp only [hi, decide_true, decide_eq_true_eq]
      have := Nat.mod_lt (a / 2 ^ i) (show 0 < 2 by omega)
      omega
    · rw [Nat.testBit_lt_two_pow (Nat.lt_of_lt_of_le (show a < 2 ^ n by omega) (Nat.pow_le_pow_right (by omega) (by omega)))]
      simp [hi]
  · exact h
/-- What Next returns. -/
def nextX (s : Snd) (ok : Bool) (now : Int) : SV × List Pce × Int :=
  if ok = false then (.agg [.int .i64 0, .int .u8 0, .nil, .int .u32 0, .int .i64 0, .int .i64 0], [], 1)
  else if now < 0 ∨ 1099511627776 < now then (.agg [.int .i64 0, .int .u8 0, .nil, .int .u32 0, .int .i64 0, .int .i64 0], [], 2)
  else if s.st ≠ 1 ∨ now < s.un then (s.v, [], 0)
  else if s.rd = 8 then (({ s with st := 3 } : Snd).v, [], 0)
  else (({ s with rd := s.rd + 1, un := min (now + 8) 1099511627776 } : Snd).v, mark (pre s.tag s.ps s.ak (min (opn s.ak s.ps.length).length 8)), 0)
end Go.Proofs.Ytjhicdoigllblaa

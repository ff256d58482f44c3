/- Contracts of the maker's tape. -/
import Derived.Test.YtapcbkcnokoljaaTac
namespace Go.Proofs.Ytapcbkcnokoljaa
set_option linter.unusedVariables false
set_option linter.unusedSimpArgs false
set_option maxHeartbeats 1000000
set_option linter.unusedSimpArgs false
theorem new_c (L R : List SV) (hR : R = L.take 400) : Good 27 (nu [.lst none L] (.ptr 1 0) (.chunk 59 (.agg [.lst none R, .int .i64 0]))) := by
  refine Good.of Try.func27 rfl (by rfl) (by kernel_rfl) ?_
  cbv
  (repeat' (first
| (refine q1w (fun z hz => ?_); (try simp only at hz); cbv)
| (refine rqw ?_; cbv)
| (refine QC.tw ?_; cbv)
| (refine QC.tt ?_ ?_; (focus (simp only [decide_true, Bool.and_true, Bool.and_self] <;> fail)); cbv)
| (refine QC.ff ?_ ?_; (focus (simp only [decide_true, Bool.and_true, Bool.and_self, decide_false, Bool.false_and, reduceCtorEq, not_false_eq_true] <;> fail)); cbv)
| (refine QC.fw ?_; cbv)
| (refine QC.mk (fun hc => ?_) (fun hc => ?_) <;> (try dsimp only at hc) <;> cbv)
| (refine br_mk2 (fun hb => ?_) (fun hb => ?_) <;> (try subst hb) <;> cbv)))
  · refine ⟨rfl, ?_, rfl⟩
    rw [hR]
    simp only [sm]
    rfl
  · refine ⟨rfl, ?_, rfl⟩
    rw [hR]
    simp only [sm] at hz
    rw [List.take_of_length_le (by omega)]

def tapeV (L : List SV) (a : Int) : SV := .agg [.lst none L, .int .i64 a]
theorem mod_c (v n : Int) (hv : -9223372036854775808 ≤ v ∧ v ≤ 9223372036854775807) (hn : 1 ≤ n ∧ n ≤ 1000000) : Good 10 (pu [.int .i64 v, .int .i64 n] (.int .i64 (v % n))) := by
  have h1 := Int.tmod_lt_of_pos v (show 0 < n by omega)
  have h2 := Int.lt_tmod_of_pos v (show 0 < n by omega)
  have h3 : v % n = if v.tmod n < 0 then v.tmod n + n else v.tmod n := by
    have e : v % n = v.tmod n % n := by
      conv => lhs; rw [← Int.tmod_add_mul_tdiv v n]
      rw [Int.add_mul_emod_self_left]
    rw [e]
    split
    · rw [← Int.add_emod_right]
      exact Int.emod_eq_of_lt (by omega) (by omega)
    · exact Int.emod_eq_of_lt (by omega) (by omega)
  generalize hr : v % n = r at *
  refine Good.of Try.func10 rfl (by rfl) (by kernel_rfl) ?_
  cbv
  (repeat' (first
| (refine q1w (fun z hz => ?_); (try simp only at hz); cbv)
| (refine rqw ?_; cbv)
| (refine QC.tw ?_; cbv)
| (refine QC.tt ?_ ?_; (focus (simp only [decide_true, Bool.and_true, Bool.and_self] <;> fail)); cbv)
| (refine QC.ff ?_ ?_; (focus (simp only [decide_true, Bool.and_true, Bool.and_self, decide_false, Bool.false_and, reduceCtorEq, not_false_eq_true] <;> fail)); cbv)
| (refine QC.fw ?_; cbv)
| (refine QC.mk (fun hc => ?_) (fun hc => ?_) <;> (try dsimp only at hc) <;> cbv)
| (refine br_mk2 (fun hb => ?_) (fun hb => ?_) <;> (try subst hb) <;> cbv)))
  all_goals refine ⟨?_, rfl, rfl⟩
  · rw [h3, if_pos (by omega), hz]; rename_i y hy; rw [hy.1]
  · rw [h3, if_neg (by omega), hz.1]

/-- The next number of a tape. -/
def nextT (l : List Int) (a n : Int) : Int := if l.length ≤ a then 0 else (l.getD a.toNat 0) % n
def nextA (l : List Int) (a : Int) : Int := if l.length ≤ a then a else a + 1
theorem next_c (L : List SV) (l : List Int) (hL : L = ints .i64 l) (hl : ∀ v ∈ l, -9223372036854775808 ≤ v ∧ v ≤ 9223372036854775807) (h400 : l.length ≤ 400) (a n r b : Int) (ha : 0 ≤ a ∧ a ≤ 400) (hn : 1 ≤ n ∧ n ≤ 1000000) (hr : r = nextT l a n) (hb : b = nextA l a) :
    Good 28 (le 59 (.agg [.lst none L, .int .i64 a]) [.int .i64 n] (.int .i64 r) (.agg [.lst none L, .int .i64 b])) := by
  refine Good.of Try.func28 rfl (by rfl) (by kernel_rfl) ?_
  cbv
  have hlen : L.length = l.length := by rw [hL, ints_len]
  (repeat' (first
| (refine q1w (fun z hz => ?_); (try simp only at hz); cbv)
| (refine rqw ?_; cbv)
| (refine QC.tw ?_; cbv)
| (refine QC.tt ?_ ?_; (focus (simp only [decide_true, Bool.and_true, Bool.and_self] <;> fail)); cbv)
| (refine QC.ff ?_ ?_; (focus (simp only [decide_true, Bool.and_true, Bool.and_self, decide_false, Bool.false_and, reduceCtorEq, not_false_eq_true] <;> fail)); cbv)
| (refine QC.fw ?_; cbv)
| (refine QC.mk (fun hc => ?_) (fun hc => ?_) <;> (try dsimp only at hc) <;> cbv)
| (refine br_mk2 (fun hb => ?_) (fun hb => ?_) <;> (try subst hb) <;> cbv)))
  · have hz' : z = l.length := by rw [hz, oln, hlen]
    refine ⟨?_, rfl, ?_⟩
    · rw [hr, nextT, if_pos (by omega)]
    · rw [hb, nextA, if_pos (by omega)]
  · have hz' : z = l.length := by rw [hz, oln, hlen]
    have hlt : a.toNat < l.length := by omega
    have hv := hl _ (getD_mem hlt)
    have hr' : r = l.getD a.toNat 0 % n := by rw [hr, nextT, if_neg (by omega)]
    have hb' : b = a + 1 := by rw [hb, nextA, if_neg (by omega)]
    refine qv (a.toNat, .int .i64 (l.getD a.toNat 0)) ⟨?_, ?_⟩ ?_
    · show a = (a.toNat : Int); omega
    · rw [hL]; exact ints_at _ hlt
    generalize l.getD a.toNat 0 = v at *
    have h1 := Int.tmod_lt_of_pos v (show 0 < n by omega)
    have h2 := Int.lt_tmod_of_pos v (show 0 < n by omega)
    have h3 : v % n = if v.tmod n < 0 then v.tmod n + n else v.tmod n := by
      have e : v % n = v.tmod n % n := by
        conv => lhs; rw [← Int.tmod_add_mul_tdiv v n]
        rw [Int.add_mul_emod_self_left]
      rw [e]
      split
      · rw [← Int.add_emod_right]
        exact Int.emod_eq_of_lt (by omega) (by omega)
      · exact Int.emod_eq_of_lt (by omega) (by omega)
    clear hz hr hb
    cbv
    (repeat' (first
| (refine q1w (fun z hz => ?_); (try simp only at hz); cbv)
| (refine rqw ?_; cbv)
| (refine QC.tw ?_; cbv)
| (refine QC.tt ?_ ?_; (focus (simp only [decide_true, Bool.and_true, Bool.and_self] <;> fail)); cbv)
| (refine QC.ff ?_ ?_; (focus (simp only [decide_true, Bool.and_true, Bool.and_self, decide_false, Bool.false_and, reduceCtorEq, not_false_eq_true] <;> fail)); cbv)
| (refine QC.fw ?_; cbv)
| (refine QC.mk (fun hc => ?_) (fun hc => ?_) <;> (try dsimp only at hc) <;> cbv)
| (refine br_mk2 (fun hb => ?_) (fun hb => ?_) <;> (try subst hb) <;> cbv)))
    · rename_i y hy _ _
      refine ⟨?_, rfl, ?_⟩
      · rw [hr', h3, if_pos (by omega), ← hy.1, hz]
      · subst_vars; rfl
    · rename_i y hy
      refine ⟨?_, rfl, ?_⟩
      · rw [hr', h3, if_neg (by omega), ← hy.1]
      · subst_vars; rfl
theorem bool_c (L : List SV) (l : List Int) (hL : L = ints .i64 l) (hl : ∀ v ∈ l, -9223372036854775808 ≤ v ∧ v ≤ 9223372036854775807) (h400 : l.length ≤ 400) (a n b : Int) (r : Bool) (ha : 0 ≤ a ∧ a ≤ 400) (hn : 1 ≤ n ∧ n ≤ 1000000) (hr : r = decide (nextT l a n = n - 1)) (hb : b = nextA l a) :
    Good 30 (le 59 (.agg [.lst none L, .int .i64 a]) [.int .i64 n] (.bool r) (.agg [.lst none L, .int .i64 b])) := by
  have h1 := next_c L l hL hl h400 a n _ _ ha hn rfl hb
  generalize nextT l a n = x at *
  refine Good.of Try.func30 rfl (by rfl) (by kernel_rfl) ?_
  cbv
  (repeat' (first
| (refine q1w (fun z hz => ?_); (try simp only at hz); cbv)
| (refine rqw ?_; cbv)
| (refine QC.tw ?_; cbv)
| (refine QC.tt ?_ ?_; (focus (simp only [decide_true, Bool.and_true, Bool.and_self] <;> fail)); cbv)
| (refine QC.ff ?_ ?_; (focus (simp only [decide_true, Bool.and_true, Bool.and_self, decide_false, Bool.false_and, reduceCtorEq, not_false_eq_true] <;> fail)); cbv)
| (refine QC.fw ?_; cbv)
| (refine QC.mk (fun hc => ?_) (fun hc => ?_) <;> (try dsimp only at hc) <;> cbv)
| (refine br_mk2 (fun hb => ?_) (fun hb => ?_) <;> (try subst hb) <;> cbv)))
  refine callq h1 rfl rfl ?_
  cbv
  (repeat' (first
| (refine q1w (fun z hz => ?_); (try simp only at hz); cbv)
| (refine rqw ?_; cbv)
| (refine QC.tw ?_; cbv)
| (refine QC.tt ?_ ?_; (focus (simp only [decide_true, Bool.and_true, Bool.and_self] <;> fail)); cbv)
| (refine QC.ff ?_ ?_; (focus (simp only [decide_true, Bool.and_true, Bool.and_self, decide_false, Bool.false_and, reduceCtorEq, not_false_eq_true] <;> fail)); cbv)
| (refine QC.fw ?_; cbv)
| (refine QC.mk (fun hc => ?_) (fun hc => ?_) <;> (try dsimp only at hc) <;> cbv)
| (refine br_mk2 (fun hb => ?_) (fun hb => ?_) <;> (try subst hb) <;> cbv)))
  · refine ⟨?_, rfl, rfl⟩
    rw [hr, decide_eq_true (by omega)]
  · refine ⟨?_, rfl, rfl⟩
    rw [hr, decide_eq_false (by omega)]

/-- A tape. -/
def Tp (L : List SV) (a : Int) : Prop := (∃ l, L = ints .i64 l ∧ (∀ v ∈ l, -9223372036854775808 ≤ v ∧ v ≤ 9223372036854775807) ∧ l.length ≤ 400) ∧ 0 ≤ a ∧ a ≤ 400
theorem next_e {L : List SV} {a : Int} (h : Tp L a) (n : Int) (hn : 1 ≤ n ∧ n ≤ 1000000) : ∃ r b, 0 ≤ r ∧ r < n ∧ Tp L b ∧ Good 28 (le 59 (.agg [.lst none L, .int .i64 a]) [.int .i64 n] (.int .i64 r) (.agg [.lst none L, .int .i64 b])) := by
  obtain ⟨⟨l, h1, h2, h3⟩, h4⟩ := h
  refine ⟨_, _, ?_, ?_, ⟨⟨l, h1, h2, h3⟩, ?_⟩, next_c L l h1 h2 h3 a n _ _ h4 hn rfl rfl⟩
  · unfold nextT; split
    · omega
    · exact Int.emod_nonneg _ (by omega)
  · unfold nextT; split
    · omega
    · exact Int.emod_lt_of_pos _ (by omega)
  · unfold nextA; split <;> omega
/-- A tape's numbers, by where it stands. -/
theorem next_f {L : List SV} {a0 : Int} (h0 : Tp L a0) : ∃ (N : Int → Int → Int) (B : Int → Int), ∀ a n, Tp L a → 1 ≤ n ∧ n ≤ 1000000 → 0 ≤ N a n ∧ N a n < n ∧ Tp L (B a) ∧
    Good 28 (le 59 (.agg [.lst none L, .int .i64 a]) [.int .i64 n] (.int .i64 (N a n)) (.agg [.lst none L, .int .i64 (B a)])) := by
  obtain ⟨⟨l, h1, h2, h3⟩, _⟩ := h0
  refine ⟨nextT l, nextA l, fun a n ha hn => ?_⟩
  obtain ⟨_, h4⟩ := ha
  refine ⟨?_, ?_, ⟨⟨l, h1, h2, h3⟩, ?_⟩, next_c L l h1 h2 h3 a n _ _ h4 hn rfl rfl⟩
  · unfold nextT; split
    · omega
    · exact Int.emod_nonneg _ (by omega)
  · unfold nextT; split
    · omega
    · exact Int.emod_lt_of_pos _ (by omega)
  · unfold nextA; split <;> omega
theorem bool_e {L : List SV} {a : Int} (h : Tp L a) (n : Int) (hn : 1 ≤ n ∧ n ≤ 1000000) : ∃ r b, Tp L b ∧ Good 30 (le 59 (.agg [.lst none L, .int .i64 a]) [.int .i64 n] (.bool r) (.agg [.lst none L, .int .i64 b])) := by
  obtain ⟨⟨l, h1, h2, h3⟩, h4⟩ := h
  refine ⟨_, _, ⟨⟨l, h1, h2, h3⟩, ?_⟩, bool_c L l h1 h2 h3 a n _ _ h4 hn rfl rfl⟩
  unfold nextA; split <;> omega

/-- The fill of a tape's bytes. -/
theorem fillG (n : Nat) (f : Nat → Int) (a : SV) (ha : a = .int .u8 0) : ∃ G : Nat → List SV, G 0 = O.rp (n : Int) a ∧ (∀ i, (G i).length = n) ∧ (∀ i, i < n → O.st (G i) i (.int .u8 (f i)) = G (i + 1)) ∧ G n = ints .u8 ((List.range n).map f) := by
  subst ha
  refine ⟨fun i => ints .u8 (((List.range n).map f).take i ++ List.replicate (n - i) 0), ?_, ?_, ?_, ?_⟩
  · simp only [orp]; simp [ints]
  · intro i; simp [ints]; omega
  · intro i hi
    simp only [ost, ints_set]
    congr 1
    apply List.ext_getElem
    · simp; omega
    · intro k h1 h2
      simp only [List.getElem_set, List.getElem_append, List.length_take, List.length_map, List.length_range, List.getElem_take, List.getElem_map, List.getElem_range, List.getElem_replicate]
      split
      · subst_vars; split
        · rfl
        · omega
      · split <;> split <;> first | rfl | omega
  · simp [List.take_of_length_le]
theorem fill_e {L : List SV} {a : Int} (h : Tp L a) (n : Int) (hn : 0 ≤ n ∧ n ≤ 1000000) : ∃ R bs b, R = ints .u8 bs ∧ (bs.length : Int) = n ∧ (∀ v ∈ bs, 0 ≤ v ∧ v ≤ 255) ∧ Tp L b ∧
    Good 29 (leN 59 (.agg [.lst none L, .int .i64 a]) [.int .i64 n] (.row 1) (.agg [.lst none L, .int .i64 b]) (.row none 5 R)) := by
  obtain ⟨x1, b1, p1, u1, t1, g1⟩ := next_e h 256 (by omega)
  obtain ⟨x2, b2, p2, u2, t2, g2⟩ := next_e t1 256 (by omega)
  obtain ⟨x3, b3, p3, u3, t3, g3⟩ := next_e t2 256 (by omega)
  obtain ⟨m, hm⟩ := Int.eq_ofNat_of_zero_le hn.1
  obtain ⟨F, hF⟩ : ∃ F : Nat → Int, ∀ i, F i = ([x1, x2, 0, x3, 7].getD (i % 5) 0 + (i / 5 : Nat)) % 256 := ⟨_, fun i => rfl⟩
  obtain ⟨G, G0, Gl, Gs, Gn⟩ := fillG m F (.int .u8 0) rfl
  have hFb : ∀ i, 0 ≤ F i ∧ F i ≤ 255 := fun i => by rw [hF]; omega
  refine ⟨_, (List.range m).map F, b3, rfl, by simp [hm], fun v hv => by simp at hv; obtain ⟨i, _, rfl⟩ := hv; exact hFb i, t3, ?_⟩
  rw [← hm] at G0
  rw [← Gn]
  generalize hR : G m = R
  refine Good.of Try.func29 rfl (by rfl) (by kernel_rfl) ?_
  cbv
  (repeat' (first
| (refine q1w (fun z hz => ?_); (try simp only at hz); cbv)
| (refine rqw ?_; cbv)
| (refine QC.tw ?_; cbv)
| (refine QC.tt ?_ ?_; (focus (simp only [decide_true, Bool.and_true, Bool.and_self] <;> fail)); cbv)
| (refine QC.ff ?_ ?_; (focus (simp only [decide_true, Bool.and_true, Bool.and_self, decide_false, Bool.false_and, reduceCtorEq, not_false_eq_true] <;> fail)); cbv)
| (refine QC.fw ?_; cbv)
| (refine QC.mk (fun hc => ?_) (fun hc => ?_) <;> (try dsimp only at hc) <;> cbv)
| (refine br_mk2 (fun hb => ?_) (fun hb => ?_) <;> (try subst hb) <;> cbv)))
  (refine callq (g1) rfl rfl ?_; cbv; (repeat' (first
| (refine q1w (fun z hz => ?_); (try simp only at hz); cbv)
| (refine rqw ?_; cbv)
| (refine QC.tw ?_; cbv)
| (refine QC.tt ?_ ?_; (focus (simp only [decide_true, Bool.and_true, Bool.and_self] <;> fail)); cbv)
| (refine QC.ff ?_ ?_; (focus (simp only [decide_true, Bool.and_true, Bool.and_self, decide_false, Bool.false_and, reduceCtorEq, not_false_eq_true] <;> fail)); cbv)
| (refine QC.fw ?_; cbv)
| (refine QC.mk (fun hc => ?_) (fun hc => ?_) <;> (try dsimp only at hc) <;> cbv)
| (refine br_mk2 (fun hb => ?_) (fun hb => ?_) <;> (try subst hb) <;> cbv))))
  (refine callq (g2) rfl rfl ?_; cbv; (repeat' (first
| (refine q1w (fun z hz => ?_); (try simp only at hz); cbv)
| (refine rqw ?_; cbv)
| (refine QC.tw ?_; cbv)
| (refine QC.tt ?_ ?_; (focus (simp only [decide_true, Bool.and_true, Bool.and_self] <;> fail)); cbv)
| (refine QC.ff ?_ ?_; (focus (simp only [decide_true, Bool.and_true, Bool.and_self, decide_false, Bool.false_and, reduceCtorEq, not_false_eq_true] <;> fail)); cbv)
| (refine QC.fw ?_; cbv)
| (refine QC.mk (fun hc => ?_) (fun hc => ?_) <;> (try dsimp only at hc) <;> cbv)
| (refine br_mk2 (fun hb => ?_) (fun hb => ?_) <;> (try subst hb) <;> cbv))))
  (refine callq (g3) rfl rfl ?_; cbv; (repeat' (first
| (refine q1w (fun z hz => ?_); (try simp only at hz); cbv)
| (refine rqw ?_; cbv)
| (refine QC.tw ?_; cbv)
| (refine QC.tt ?_ ?_; (focus (simp only [decide_true, Bool.and_true, Bool.and_self] <;> fail)); cbv)
| (refine QC.ff ?_ ?_; (focus (simp only [decide_true, Bool.and_true, Bool.and_self, decide_false, Bool.false_and, reduceCtorEq, not_false_eq_true] <;> fail)); cbv)
| (refine QC.fw ?_; cbv)
| (refine QC.mk (fun hc => ?_) (fun hc => ?_) <;> (try dsimp only at hc) <;> cbv)
| (refine br_mk2 (fun hb => ?_) (fun hb => ?_) <;> (try subst hb) <;> cbv))))
  refine loopQ (A := Nat × Int) (fun p => p.2 = p.1 ∧ p.1 ≤ m) (fun p => m - p.1) (fun p => [(6, .row 6), (7, .int .i64 p.2)]) (fun p => [(6, .row none 5 (G p.1))]) (0, 0) ⟨rfl, Nat.zero_le _⟩ ?_ ?_
  · cbv
    rw [G0]
    exact ⟨rfl, trivial⟩
  · intro ⟨i, j⟩ h
    have hj : j = (i : Int) := h.1
    have hi : i ≤ m := h.2
    clear h
    have hF' := hF i
    have hl := Gl i
    cbv
    (repeat' (first
| (refine q1w (fun z hz => ?_); (try simp only at hz); cbv)
| (refine rqw ?_; cbv)
| (refine QC.tw ?_; cbv)
| (refine QC.tt ?_ ?_; (focus (simp only [decide_true, Bool.and_true, Bool.and_self] <;> fail)); cbv)
| (refine QC.ff ?_ ?_; (focus (simp only [decide_true, Bool.and_true, Bool.and_self, decide_false, Bool.false_and, reduceCtorEq, not_false_eq_true] <;> fail)); cbv)
| (refine QC.fw ?_; cbv)
| (refine QC.mk (fun hc => ?_) (fun hc => ?_) <;> (try dsimp only at hc) <;> cbv)
| (refine br_mk2 (fun hb => ?_) (fun hb => ?_) <;> (try subst hb) <;> cbv)))
    · have hjm : i < m := by (first | omega | (simp only [cst] at *; omega) | (simp only [sm] at *; omega))
      rcases (show i % 5 = 0 ∨ i % 5 = 1 ∨ i % 5 = 2 ∨ i % 5 = 3 ∨ i % 5 = 4 by omega) with e | e | e | e | e
      all_goals rw [e] at hF'
      all_goals first
        | refine qv 0 (by (first | omega | (simp only [cst] at *; omega) | (simp only [sm] at *; omega))) ?_
        | refine qv 1 (by (first | omega | (simp only [cst] at *; omega) | (simp only [sm] at *; omega))) ?_
        | refine qv 2 (by (first | omega | (simp only [cst] at *; omega) | (simp only [sm] at *; omega))) ?_
        | refine qv 3 (by (first | omega | (simp only [cst] at *; omega) | (simp only [sm] at *; omega))) ?_
        | refine qv 4 (by (first | omega | (simp only [cst] at *; omega) | (simp only [sm] at *; omega))) ?_
      all_goals cbv
      all_goals (repeat' (first
| (refine q1w (fun z hz => ?_); (try simp only at hz); cbv)
| (refine rqw ?_; cbv)
| (refine QC.tw ?_; cbv)
| (refine QC.tt ?_ ?_; (focus (simp only [decide_true, Bool.and_true, Bool.and_self] <;> fail)); cbv)
| (refine QC.ff ?_ ?_; (focus (simp only [decide_true, Bool.and_true, Bool.and_self, decide_false, Bool.false_and, reduceCtorEq, not_false_eq_true] <;> fail)); cbv)
| (refine QC.fw ?_; cbv)
| (refine QC.mk (fun hc => ?_) (fun hc => ?_) <;> (try dsimp only at hc) <;> cbv)
| (refine br_mk2 (fun hb => ?_) (fun hb => ?_) <;> (try subst hb) <;> cbv)))
      all_goals refine qv i (by (first | omega | (simp only [cst] at *; omega) | (simp only [sm] at *; omega))) ?_
      all_goals cbv
      all_goals (repeat' (first
| (refine q1w (fun z hz => ?_); (try simp only at hz); cbv)
| (refine rqw ?_; cbv)
| (refine QC.tw ?_; cbv)
| (refine QC.tt ?_ ?_; (focus (simp only [decide_true, Bool.and_true, Bool.and_self] <;> fail)); cbv)
| (refine QC.ff ?_ ?_; (focus (simp only [decide_true, Bool.and_true, Bool.and_self, decide_false, Bool.false_and, reduceCtorEq, not_false_eq_true] <;> fail)); cbv)
| (refine QC.fw ?_; cbv)
| (refine QC.mk (fun hc => ?_) (fun hc => ?_) <;> (try dsimp only at hc) <;> cbv)
| (refine br_mk2 (fun hb => ?_) (fun hb => ?_) <;> (try subst hb) <;> cbv)))
      all_goals rename_i z hz
      all_goals refine ⟨(i + 1, z), ⟨by (first | omega | (simp only [cst] at *; omega) | (simp only [sm] at *; omega)), by omega⟩, by (first | omega | (simp only [cst] at *; omega) | (simp only [sm] at *; omega)), ?_⟩
      all_goals cbv
      all_goals refine ⟨?_, trivial⟩
      all_goals show Blk.row none 5 (O.st (G i) i (.int .u8 _)) = .row none 5 (G (i + 1))
      all_goals rw [← Gs i hjm]
      all_goals congr 3
      all_goals rw [hF']
      all_goals simp only [List.getD_cons_zero, List.getD_cons_succ]
      all_goals (first | omega | (simp only [cst] at *; omega) | (simp only [sm] at *; omega))
    · have e : i = m := by (first | omega | (simp only [cst] at *; omega) | (simp only [sm] at *; omega))
      subst e
      exact ⟨rfl, by rw [← hR], rfl⟩
end Go.Proofs.Ytapcbkcnokoljaa

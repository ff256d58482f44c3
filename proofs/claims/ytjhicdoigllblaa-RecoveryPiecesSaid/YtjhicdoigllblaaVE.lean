/- Contracts: Begin of the program and of the document. -/
import Derived.Test.YtjhicdoigllblaaVC
namespace Go.Proofs.Ytjhicdoigllblaa
set_option linter.unusedVariables false
set_option linter.unusedSimpArgs false
open Go.RowKit
set_option maxHeartbeats 8000000
/-- The first n pieces of sz bytes. -/
def chk (sz : Nat) (b : List UInt8) (n : Nat) : List (List UInt8) := (List.range n).map fun i => (b.drop (i * sz)).take sz
theorem chk_len (sz : Nat) (b : List UInt8) (n : Nat) : (chk sz b n).length = n := by simp [chk]
theorem chk_succ (sz : Nat) (b : List UInt8) (n : Nat) : chk sz b (n + 1) = chk sz b n ++ [(b.drop (n * sz)).take sz] := by simp [chk, List.range_succ]
/-- How many pieces there are. -/
def nPc (len sz : Nat) : Nat := (len - 1) / sz + 1
theorem nPc_lt {len sz i : Nat} (h1 : 1 ≤ len) (hs : 1 ≤ sz) (h : i < nPc len sz) : i * sz < len := by
  have h2 : i ≤ (len - 1) / sz := by unfold nPc at h; omega
  have h3 := (Nat.le_div_iff_mul_le (by omega)).1 h2
  omega
theorem nPc_ge {len sz : Nat} (h1 : 1 ≤ len) (hs : 1 ≤ sz) : len ≤ nPc len sz * sz := by
  have h2 := Nat.lt_div_mul_add (show 0 < sz by omega) (a := len - 1)
  unfold nPc
  rw [Nat.add_mul]
  omega
def zeroS : SV := .agg [.int .i64 0, .int .u8 0, .nil, .int .u32 0, .int .i64 0, .int .i64 0]
/-- What Begin returns. -/
def begX (b : List UInt8) (tag room : Int) : SV × Int :=
  if room ≤ 4 then (zeroS, 2) else if b.length = 0 ∨ 32 ≤ ((b.length : Int) - 1) / (room - 4) then (zeroS, 3)
  else ((⟨1, tag, chk (room - 4).toNat b (nPc b.length (room - 4).toNat), 0, 0, 0⟩ : Snd).v, 0)
theorem begin_c (b : List UInt8) (B : List SV) (hB : B = u8l b) (hb : b.length ≤ 140737488351232) (tag room : Int) (hr : -9223372036854775808 ≤ room ∧ room ≤ 9223372036854775807) (X : SV) (e : Int) (hX : begX b tag room = (X, e)) :
    Good 24 (pu [.lst none B, .int .u8 tag, .int .i64 room] (.tup [X, .int .i64 e])) := by
  have hBl : B.length = b.length := by rw [hB, u8l_len]
  unfold begX at hX
  refine Good.of Try.func24 rfl (by rfl) (by kernel_rfl) ?_
  cbv
  have hmk : True := trivial
  (repeat' (first
    | (refine q1 (by first | exact trivial | omega | (dsimp only; omega) | exact pow62 _ (by omega) | exact mul9 (by omega) (by omega) | (simp only [sm] at *; omega)) (fun z hz => ?_); (try simp only at hz); cbv)
    | (refine rq (by first | exact trivial | omega | (dsimp only; omega) | (simp only [sm] at *; omega)) ?_; cbv)
    | (refine QC.tt (by first | omega | (dsimp only; omega) | exact rfl | (simp only [sm] at *; omega)) ?_; cbv)
    | (refine QC.tt ?_ ?_; (focus (simp only [decide_true, Bool.and_true, Bool.and_self] <;> fail)); cbv)
    | (refine QC.ff ?_ ?_; (focus (simp only [decide_true, Bool.and_true, Bool.and_self, decide_false, Bool.false_and, reduceCtorEq, not_false_eq_true] <;> fail)); cbv)
    | (refine QC.ff (by first | omega | (dsimp only; omega) | (simp only [sm] at *; omega)) ?_; cbv)
    | (refine QC.mk (fun hc => ?_) (fun hc => ?_) <;> (try dsimp only at hc) <;> cbv)
    | (refine br_mk2 (fun hb => ?_) (fun hb => ?_) <;> (try subst hb) <;> cbv)))
  · rw [if_pos hc] at hX
    obtain ⟨rfl, rfl⟩ := Prod.mk.inj hX
    exact ⟨rfl, rfl, rfl⟩
  · rename_i h4 z0 hz0
    rw [if_neg h4, if_pos (.inl (by (first | omega | (simp only [cst] at *; omega) | (simp only [sm] at *; omega))))] at hX
    obtain ⟨rfl, rfl⟩ := Prod.mk.inj hX
    exact ⟨rfl, rfl, rfl⟩
  · rename_i h4 z0 hz0 z1 hz1 h5 z2 hz2 z3 hz3
    have hz3b : 0 ≤ z3 := by (first | omega | (simp only [cst] at *; omega) | (simp only [sm] at *; omega))
    have e3 : z3 = (b.length : Int) - 1 := by (first | omega | (simp only [cst] at *; omega) | (simp only [sm] at *; omega))
    have e1 : z = ((b.length : Int) - 1) / (room - 4) := by rw [hz.1 hz3b, e3, hz0]
    rw [e1] at hc
    rw [if_neg h4, if_pos (.inr hc)] at hX
    obtain ⟨rfl, rfl⟩ := Prod.mk.inj hX
    exact ⟨rfl, rfl, rfl⟩
  · rename_i h4 z0 hz0 z1 hz1 h5 z2 hz2 z3 hz3
    have hz3b : 0 ≤ z3 := by (first | omega | (simp only [cst] at *; omega) | (simp only [sm] at *; omega))
    have e3 : z3 = (b.length : Int) - 1 := by (first | omega | (simp only [cst] at *; omega) | (simp only [sm] at *; omega))
    have e1 : z = ((b.length : Int) - 1) / (room - 4) := by rw [hz.1 hz3b, e3, hz0]
    rw [e1] at hc
    have hb1 : 1 ≤ b.length := by (first | omega | (simp only [cst] at *; omega) | (simp only [sm] at *; omega))
    rw [if_neg h4, if_neg (by rintro (h | h); omega; exact hc h)] at hX
    obtain ⟨hXv, rfl⟩ := Prod.mk.inj hX
    obtain ⟨sz, hsz⟩ : ∃ sz : Nat, sz = (room - 4).toNat := ⟨_, rfl⟩
    have hsz1 : 1 ≤ sz := by omega
    have hz0' : z0 = sz := by omega
    obtain ⟨n, hn⟩ : ∃ n, n = nPc b.length sz := ⟨_, rfl⟩
    have hn32 : n ≤ 32 := by
      rw [hn, nPc]
      have e4 : ((b.length : Int) - 1) / (room - 4) = (((b.length - 1) / sz : Nat) : Int) := by
        rw [show (b.length : Int) - 1 = ((b.length - 1 : Nat) : Int) by omega, show room - 4 = (sz : Int) by omega]
        rfl
      rw [e4] at hc
      omega
    rw [← hsz, ← hn] at hXv
    obtain ⟨q, hq⟩ : ∃ q : Nat → Nat, ∀ i, q i = i * sz := ⟨_, fun _ => rfl⟩
    have hq0 : q 0 = 0 := by rw [hq]; simp
    have hqs : ∀ i, q (i + 1) = q i + sz := fun i => by rw [hq, hq, Nat.add_mul, Nat.one_mul]
    have hql : ∀ i, i < n → q i < b.length := fun i hi => by rw [hq]; exact nPc_lt hb1 hsz1 (hn ▸ hi)
    have hqn : b.length ≤ q n := by rw [hq, hn]; exact nPc_ge hb1 hsz1
    have hcs : ∀ i, chk sz b (i + 1) = chk sz b i ++ [(b.drop (q i)).take sz] := fun i => by rw [hq]; exact chk_succ sz b i
    clear hq hX hn e1 hc hz hz3 hz2
    obtain ⟨G, hG⟩ : ∃ G : Nat → List SV, ∀ i, G i = u8l (b.drop (q i)) := ⟨_, fun _ => rfl⟩
    obtain ⟨U, hU⟩ : ∃ U : Nat → List SV, ∀ i, U i = rowsB (chk sz b i) := ⟨_, fun _ => rfl⟩
    have hG0 : B = G 0 := by rw [hG, hq0, hB]; rfl
    have hGl : ∀ i, (G i).length = b.length - q i := fun i => by rw [hG, u8l_len, List.length_drop]
    have hU0 : [] = U 0 := by rw [hU]; rfl
    have hUl : ∀ i, (U i).length = i := fun i => by rw [hU, rowsB_len, chk_len]
    refine loopQ (A := Nat) (fun p => p ≤ n) (fun p => n - p) (fun p => [(10, .lst none (G p)), (9, .row 9)]) (fun p => [(9, .row none 26 (U p))]) 0 (Nat.zero_le _) ?_ ?_
    · cbv
      refine ⟨⟨by rw [hG0], trivial⟩, ?_, trivial⟩
      show Blk.row none 26 [] = .row none 26 (U 0)
      rw [← hU0]
    · intro i hi
      have hmk : True := trivial
      have hgl := hGl i
      have hul := hUl i
      cbv
      (repeat' (first
    | (refine q1 (by first | exact trivial | omega | (dsimp only; omega) | exact pow62 _ (by omega) | exact mul9 (by omega) (by omega) | (simp only [sm] at *; omega)) (fun z hz => ?_); (try simp only at hz); cbv)
    | (refine rq (by first | exact trivial | omega | (dsimp only; omega) | (simp only [sm] at *; omega)) ?_; cbv)
    | (refine QC.tt (by first | omega | (dsimp only; omega) | exact rfl | (simp only [sm] at *; omega)) ?_; cbv)
    | (refine QC.tt ?_ ?_; (focus (simp only [decide_true, Bool.and_true, Bool.and_self] <;> fail)); cbv)
    | (refine QC.ff ?_ ?_; (focus (simp only [decide_true, Bool.and_true, Bool.and_self, decide_false, Bool.false_and, reduceCtorEq, not_false_eq_true] <;> fail)); cbv)
    | (refine QC.ff (by first | omega | (dsimp only; omega) | (simp only [sm] at *; omega)) ?_; cbv)
    | (refine QC.mk (fun hc => ?_) (fun hc => ?_) <;> (try dsimp only at hc) <;> cbv)
    | (refine br_mk2 (fun hb => ?_) (fun hb => ?_) <;> (try subst hb) <;> cbv)))
      · rename_i zl hzl hzp zm hzm
        have hlt : i < n := by
          rcases Nat.lt_or_ge i n with h | h
          · exact h
          · exfalso
            have : b.length ≤ q i := by rw [show i = n by omega]; exact hqn
            (first | omega | (simp only [cst] at *; omega) | (simp only [sm] at *; omega))
        obtain ⟨P, hP⟩ : ∃ P, P = (b.drop (q i)).take sz := ⟨_, rfl⟩
        have hzn : z.toNat = min sz (b.length - q i) := by (first | omega | (simp only [cst] at *; omega) | (simp only [sm] at *; omega))
        have hT : O.tk z (G i) = u8l P := by
          rw [otk, hG, u8l_take, hP, hzn]
          congr 1
          rw [List.take_eq_take_iff, List.length_drop]
          omega
        have hD : O.dr z (G i) = G (i + 1) := by
          rw [odr, hG, hG, u8l_drop, List.drop_drop, hqs, hzn]
          congr 1
          rw [List.drop_eq_drop_iff]
          omega
        have hPl : P.length ≤ b.length := by rw [hP, List.length_take, List.length_drop]; omega
        have hUs : apL (U i) [.lst none (O.tk z (G i))] = U (i + 1) := by
          rw [apL_eq, hU, hU, hcs, hT, ← hP]
          simp [rowsB]
        have g1 := cloned_c P _ hT (by omega)
        (refine callq (g1) rfl rfl ?_; cbv; (repeat' (first
    | (refine q1 (by first | exact trivial | omega | (dsimp only; omega) | exact pow62 _ (by omega) | exact mul9 (by omega) (by omega) | (simp only [sm] at *; omega)) (fun z hz => ?_); (try simp only at hz); cbv)
    | (refine rq (by first | exact trivial | omega | (dsimp only; omega) | (simp only [sm] at *; omega)) ?_; cbv)
    | (refine QC.tt (by first | omega | (dsimp only; omega) | exact rfl | (simp only [sm] at *; omega)) ?_; cbv)
    | (refine QC.tt ?_ ?_; (focus (simp only [decide_true, Bool.and_true, Bool.and_self] <;> fail)); cbv)
    | (refine QC.ff ?_ ?_; (focus (simp only [decide_true, Bool.and_true, Bool.and_self, decide_false, Bool.false_and, reduceCtorEq, not_false_eq_true] <;> fail)); cbv)
    | (refine QC.ff (by first | omega | (dsimp only; omega) | (simp only [sm] at *; omega)) ?_; cbv)
    | (refine QC.mk (fun hc => ?_) (fun hc => ?_) <;> (try dsimp only at hc) <;> cbv)
    | (refine br_mk2 (fun hb => ?_) (fun hb => ?_) <;> (try subst hb) <;> cbv))))
        refine ⟨i + 1, hlt, by show n - (i + 1) < n - i; omega, ?_⟩
        cbv
        refine ⟨⟨?_, trivial⟩, ?_, trivial⟩
        · show SV.lst none (O.dr z (G i)) = .lst none (G (i + 1))
          rw [hD]
        · show Blk.row none 26 (apL (U i) [.lst none (O.tk z (G i))]) = .row none 26 (U (i + 1))
          rw [hUs]
      · have e : i = n := by
          rcases Nat.lt_or_ge i n with h | h
          · have := hql i h
            exfalso
            (first | omega | (simp only [cst] at *; omega) | (simp only [sm] at *; omega))
          · omega
        refine ⟨?_, rfl, rfl⟩
        rw [← hXv]
        show SV.tup [.agg [.int .i64 1, .int .u8 tag, .lst none (U i), .int .u32 0, .int .i64 0, .int .i64 0], .int .i64 0] = _
        rw [e, hU]
        rfl
set_option maxRecDepth 4000 in
theorem rbegin_c (b : List UInt8) (B : List SV) (hB : B = u8l b) (hb : b.length ≤ 140737488351232) (tag room : Int) (hr : -9223372036854775808 ≤ room ∧ room ≤ 9223372036854775807) (X : SV) (e : Int) (hX : begX b tag room = (X, e)) :
    Good 25 (pu [.lst none B, .int .u8 tag, .int .i64 room] (.tup [X, .int .i64 e])) := by
  have hBl : B.length = b.length := by rw [hB, u8l_len]
  unfold begX at hX
  refine Good.of Try.func25 rfl (by rfl) (by kernel_rfl) ?_
  cbv
  have hmk : True := trivial
  (repeat' (first
    | (refine q1 (by first | exact trivial | omega | (dsimp only; omega) | exact pow62 _ (by omega) | exact mul9 (by omega) (by omega) | (simp only [sm] at *; omega)) (fun z hz => ?_); (try simp only at hz); cbv)
    | (refine rq (by first | exact trivial | omega | (dsimp only; omega) | (simp only [sm] at *; omega)) ?_; cbv)
    | (refine QC.tt (by first | omega | (dsimp only; omega) | exact rfl | (simp only [sm] at *; omega)) ?_; cbv)
    | (refine QC.tt ?_ ?_; (focus (simp only [decide_true, Bool.and_true, Bool.and_self] <;> fail)); cbv)
    | (refine QC.ff ?_ ?_; (focus (simp only [decide_true, Bool.and_true, Bool.and_self, decide_false, Bool.false_and, reduceCtorEq, not_false_eq_true] <;> fail)); cbv)
    | (refine QC.ff (by first | omega | (dsimp only; omega) | (simp only [sm] at *; omega)) ?_; cbv)
    | (refine QC.mk (fun hc => ?_) (fun hc => ?_) <;> (try dsimp only at hc) <;> cbv)
    | (refine br_mk2 (fun hb => ?_) (fun hb => ?_) <;> (try subst hb) <;> cbv)))
  · rw [if_pos (by omega)] at hX
    obtain ⟨rfl, rfl⟩ := Prod.mk.inj hX
    exact ⟨rfl, rfl, rfl⟩
  · rename_i h4 z0 hz0
    rw [if_neg (by omega), if_pos (.inl (by (first | omega | (simp only [cst] at *; omega) | (simp only [sm] at *; omega))))] at hX
    obtain ⟨rfl, rfl⟩ := Prod.mk.inj hX
    exact ⟨rfl, rfl, rfl⟩
  rename_i h4 z0 hz0 z1 hz1 z2 hz2 z3 hz3
  have h5 := hc
  have hz3b : 0 ≤ z3 := by (first | omega | (simp only [cst] at *; omega) | (simp only [sm] at *; omega))
  have e3 : z3 = (b.length : Int) - 1 := by (first | omega | (simp only [cst] at *; omega) | (simp only [sm] at *; omega))
  have e1 : z = ((b.length : Int) - 1) / (room - 4) := by rw [hz.1 hz3b, e3, hz0]
  have hzz1 : z ≤ z3 := by rw [hz.1 hz3b]; exact Int.ediv_le_self _ hz3b
  have hzz2 : 0 ≤ z := by rw [hz.1 hz3b]; exact Int.ediv_nonneg hz3b (by omega)
  have hb1 : 1 ≤ b.length := by (first | omega | (simp only [cst] at *; omega) | (simp only [sm] at *; omega))
  clear hz
  (repeat' (first
    | (refine q1 (by first | exact trivial | omega | (dsimp only; omega) | exact pow62 _ (by omega) | exact mul9 (by omega) (by omega) | (simp only [sm] at *; omega)) (fun z hz => ?_); (try simp only at hz); cbv)
    | (refine rq (by first | exact trivial | omega | (dsimp only; omega) | (simp only [sm] at *; omega)) ?_; cbv)
    | (refine QC.tt (by first | omega | (dsimp only; omega) | exact rfl | (simp only [sm] at *; omega)) ?_; cbv)
    | (refine QC.tt ?_ ?_; (focus (simp only [decide_true, Bool.and_true, Bool.and_self] <;> fail)); cbv)
    | (refine QC.ff ?_ ?_; (focus (simp only [decide_true, Bool.and_true, Bool.and_self, decide_false, Bool.false_and, reduceCtorEq, not_false_eq_true] <;> fail)); cbv)
    | (refine QC.ff (by first | omega | (dsimp only; omega) | (simp only [sm] at *; omega)) ?_; cbv)
    | (refine QC.mk (fun hc => ?_) (fun hc => ?_) <;> (try dsimp only at hc) <;> cbv)
    | (refine br_mk2 (fun hb => ?_) (fun hb => ?_) <;> (try subst hb) <;> cbv)))
  · rw [if_neg (by omega), if_pos (.inr (by omega))] at hX
    obtain ⟨rfl, rfl⟩ := Prod.mk.inj hX
    exact ⟨rfl, rfl, rfl⟩
  · rename_i z4 hz4
    rw [if_neg (by omega), if_neg (by rintro (h | h) <;> omega)] at hX
    obtain ⟨hXv, rfl⟩ := Prod.mk.inj hX
    obtain ⟨sz, hsz⟩ : ∃ sz : Nat, sz = (room - 4).toNat := ⟨_, rfl⟩
    have hsz1 : 1 ≤ sz := by omega
    have hz0' : z0 = sz := by omega
    obtain ⟨n, hn⟩ : ∃ n, n = nPc b.length sz := ⟨_, rfl⟩
    have hn32 : n ≤ 32 := by
      rw [hn, nPc]
      have e4 : ((b.length : Int) - 1) / (room - 4) = (((b.length - 1) / sz : Nat) : Int) := by
        rw [show (b.length : Int) - 1 = ((b.length - 1 : Nat) : Int) by omega, show room - 4 = (sz : Int) by omega]
        rfl
      rw [e4] at e1
      omega
    rw [← hsz, ← hn] at hXv
    obtain ⟨q, hq⟩ : ∃ q : Nat → Nat, ∀ i, q i = i * sz := ⟨_, fun _ => rfl⟩
    have hq0 : q 0 = 0 := by rw [hq]; simp
    have hqs : ∀ i, q (i + 1) = q i + sz := fun i => by rw [hq, hq, Nat.add_mul, Nat.one_mul]
    have hql : ∀ i, i < n → q i < b.length := fun i hi => by rw [hq]; exact nPc_lt hb1 hsz1 (hn ▸ hi)
    have hqn : b.length ≤ q n := by rw [hq, hn]; exact nPc_ge hb1 hsz1
    have hcs : ∀ i, chk sz b (i + 1) = chk sz b i ++ [(b.drop (q i)).take sz] := fun i => by rw [hq]; exact chk_succ sz b i
    clear hq hX hn e1 hz3 hz2
    obtain ⟨U, hU⟩ : ∃ U : Nat → List SV, ∀ i, U i = rowsB (chk sz b i) := ⟨_, fun _ => rfl⟩
    have hU0 : [] = U 0 := by rw [hU]; rfl
    have hUl : ∀ i, (U i).length = i := fun i => by rw [hU, rowsB_len, chk_len]
    have hn1 : 1 ≤ n := by
      rcases Nat.eq_zero_or_pos n with h | h
      · rw [h, hq0] at hqn; omega
      · exact h
    refine loopQ (A := Option (Nat × Int)) (fun p => match p with | none => True | some p => (((q p.1 : Int) ≤ b.length → p.2 = q p.1) ∧ ((b.length : Int) ≤ q p.1 → p.2 = b.length)) ∧ 1 ≤ p.1 ∧ p.1 ≤ n) (fun p => match p with | none => n | some p => n - p.1)
      (fun p => match p with | none => [(10, .int .i64 0)] | some p => [(10, .int .i64 p.2)])
      (fun p => match p with
        | none => [(9, .chunk 25 (.agg [.int .i64 1, .int .u8 tag, .nil, .int .u32 0, .int .i64 0, .int .i64 0])), (53, .no)]
        | some p => [(9, .chunk 25 (.agg [.int .i64 1, .int .u8 tag, .row 53, .int .u32 0, .int .i64 0, .int .i64 0])), (53, .row none 26 (U p.1))]) none trivial ?_ ?_
    · cbv
      try trace_state
    · intro p hp
      cases p with
      | none =>
        clear hp
        have hmk : True := trivial
        cbv
        (repeat' (first
    | (refine q1 (by first | exact trivial | omega | (dsimp only; omega) | exact pow62 _ (by omega) | exact mul9 (by omega) (by omega) | (simp only [sm] at *; omega)) (fun z hz => ?_); (try simp only at hz); cbv)
    | (refine rq (by first | exact trivial | omega | (dsimp only; omega) | (simp only [sm] at *; omega)) ?_; cbv)
    | (refine QC.tt (by first | omega | (dsimp only; omega) | exact rfl | (simp only [sm] at *; omega)) ?_; cbv)
    | (refine QC.tt ?_ ?_; (focus (simp only [decide_true, Bool.and_true, Bool.and_self] <;> fail)); cbv)
    | (refine QC.ff ?_ ?_; (focus (simp only [decide_true, Bool.and_true, Bool.and_self, decide_false, Bool.false_and, reduceCtorEq, not_false_eq_true] <;> fail)); cbv)
    | (refine QC.ff (by first | omega | (dsimp only; omega) | (simp only [sm] at *; omega)) ?_; cbv)
    | (refine QC.mk (fun hc => ?_) (fun hc => ?_) <;> (try dsimp only at hc) <;> cbv)
    | (refine br_mk2 (fun hb => ?_) (fun hb => ?_) <;> (try subst hb) <;> cbv)))
        have hq1 : q 1 = sz := by show q (0 + 1) = sz; rw [hqs, hq0]; omega
        rename_i a1 g1 a2 g2 a3 g3 a4 g4 a5 g5
        have hUs : O.sg B (O.tn 0) (O.si a5 0) = u8l ((b.drop (q 0)).take sz) := by
          have e0 : Int.toNat 0 = 0 := rfl
          rw [osg, otn, osi, hq0, hB, u8l_drop, u8l_take, e0]
          congr 1
          rw [List.take_eq_take_iff, List.length_drop]
          (first | omega | (simp only [cst] at *; omega) | (simp only [sm] at *; omega))
        refine ⟨some (1, z), ⟨⟨fun h => by show z = ((q 1 : Nat) : Int); rw [hq1] at h ⊢; (first | omega | (simp only [cst] at *; omega) | (simp only [sm] at *; omega)), fun h => by show z = (b.length : Int); rw [hq1] at h; (first | omega | (simp only [cst] at *; omega) | (simp only [sm] at *; omega))⟩, Nat.le_refl _, hn1⟩, by show n - 1 < n; omega, ?_⟩
        cbv
        refine ⟨?_, trivial⟩
        show Blk.row none 26 [.lst none (O.sg B (O.tn 0) (O.si a5 0))] = .row none 26 (U 1)
        rw [hUs, hU, hcs 0]
        rfl
      | some p =>
        obtain ⟨i, j⟩ := p
        have hj1 : (q i : Int) ≤ b.length → j = q i := hp.1.1
        have hj2 : (b.length : Int) ≤ q i → j = b.length := hp.1.2
        have hi1 : 1 ≤ i := hp.2.1
        have hin : i ≤ n := hp.2.2
        clear hp
        have hqi := hqs i
        have hql := hql i
        have hul := hUl i
        have hmk : True := trivial
        cbv
        (repeat' (first
    | (refine q1 (by first | exact trivial | omega | (dsimp only; omega) | exact pow62 _ (by omega) | exact mul9 (by omega) (by omega) | (simp only [sm] at *; omega)) (fun z hz => ?_); (try simp only at hz); cbv)
    | (refine rq (by first | exact trivial | omega | (dsimp only; omega) | (simp only [sm] at *; omega)) ?_; cbv)
    | (refine QC.tt (by first | omega | (dsimp only; omega) | exact rfl | (simp only [sm] at *; omega)) ?_; cbv)
    | (refine QC.tt ?_ ?_; (focus (simp only [decide_true, Bool.and_true, Bool.and_self] <;> fail)); cbv)
    | (refine QC.ff ?_ ?_; (focus (simp only [decide_true, Bool.and_true, Bool.and_self, decide_false, Bool.false_and, reduceCtorEq, not_false_eq_true] <;> fail)); cbv)
    | (refine QC.ff (by first | omega | (dsimp only; omega) | (simp only [sm] at *; omega)) ?_; cbv)
    | (refine QC.mk (fun hc => ?_) (fun hc => ?_) <;> (try dsimp only at hc) <;> cbv)
    | (refine br_mk2 (fun hb => ?_) (fun hb => ?_) <;> (try subst hb) <;> cbv)))
        · rename_i a0 g0 hjl a1 g1 a2 g2 a3 g3 a4 g4 a5 g5
          have hlt : i < n := by
            rcases Nat.lt_or_ge i n with h | h
            · exact h
            · exfalso
              have h6 : b.length ≤ q i := by rw [show i = n by omega]; exact hqn
              have h7 := hj2 (by (first | omega | (simp only [cst] at *; omega) | (simp only [sm] at *; omega)))
              (first | omega | (simp only [cst] at *; omega) | (simp only [sm] at *; omega))
          have hql := hql hlt
          have hjq : j = q i := hj1 (by (first | omega | (simp only [cst] at *; omega) | (simp only [sm] at *; omega)))
          have hUs : O.sg B (O.tn j) (O.si a5 j) = u8l ((b.drop (q i)).take sz) := by
            rw [osg, otn, osi, hB, u8l_drop, u8l_take, hjq, Int.toNat_natCast]
            congr 1
            rw [List.take_eq_take_iff, List.length_drop]
            (first | omega | (simp only [cst] at *; omega) | (simp only [sm] at *; omega))
          refine ⟨some (i + 1, z), ⟨⟨fun h => by show z = ((q (i + 1) : Nat) : Int); rw [hqi] at h ⊢; (first | omega | (simp only [cst] at *; omega) | (simp only [sm] at *; omega)), fun h => by show z = (b.length : Int); rw [hqi] at h; (first | omega | (simp only [cst] at *; omega) | (simp only [sm] at *; omega))⟩, by show 1 ≤ i + 1; omega, hlt⟩, by show n - (i + 1) < n - i; omega, ?_⟩
          cbv
          refine ⟨?_, trivial⟩
          show Blk.row none 26 (apL (U i) [.lst none (O.sg B (O.tn j) (O.si a5 j))]) = .row none 26 (U (i + 1))
          rw [apL_eq, hUs, hU, hU, hcs i]
          simp [rowsB]
        · have e : i = n := by
            rcases Nat.lt_or_ge i n with h | h
            · have := hql h
              exfalso
              (first | omega | (simp only [cst] at *; omega) | (simp only [sm] at *; omega))
            · omega
          refine ⟨?_, rfl, rfl⟩
          rw [← hXv]
          show SV.tup [.agg [.int .i64 1, .int .u8 tag, .lst none (U i), .int .u32 0, .int .i64 0, .int .i64 0], .int .i64 0] = _
          rw [e, hU]
          rfl
end Go.Proofs.Ytjhicdoigllblaa

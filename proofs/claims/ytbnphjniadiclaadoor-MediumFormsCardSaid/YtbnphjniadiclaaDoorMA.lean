/- The maker's medium. -/
import Derived.Test.YtbnphjniadiclaaDoorOA
namespace Go.Proofs.YtbnphjniadiclaaDoor
set_option linter.unusedVariables false
set_option linter.unusedSimpArgs false
open Go.RowKit
set_option maxHeartbeats 8000000
def rowV (r : List Int) : SV := .lst none (ints .i64 r)
def matV (M : List (List Int)) : List SV := M.map rowV
theorem matV_len (M : List (List Int)) : (matV M).length = M.length := by simp [matV]
def pick4 (x y : Int) : Int := if y = 0 then 0 else if y = 1 then 256 else if y = 2 then 256 else 1 + x
def rowF (N : Int → Int → Int) (B : Int → Int) (a : Nat) : Nat → Nat → Int → List Int → List Int × Int
  | 0, _, c, row => (row, c)
  | k + 1, b, c, row => if a = b then rowF N B a k (b + 1) c row else rowF N B a k (b + 1) (B (B c)) (row.set b (pick4 (N c 256) (N (B c) 4)))
def matF (N : Int → Int → Int) (B : Int → Int) (n : Nat) : Nat → Nat → Int → List (List Int) → List (List Int) × Int
  | 0, _, c, M => (M, c)
  | k + 1, a, c, M => matF N B n k (a + 1) (rowF N B a n 0 c (List.replicate n 0)).2 (M ++ [(rowF N B a n 0 c (List.replicate n 0)).1])
/-- A row of a medium. -/
structure RowOk (n a : Nat) (r : List Int) : Prop where
  l : r.length = n
  z : r.getD a 0 = 0
  v : ∀ v ∈ r, 0 ≤ v ∧ v ≤ 256
theorem rowF_ok {L : List SV} {N : Int → Int → Int} {B : Int → Int} (hN : ∀ a n, Tp L a → 1 ≤ n ∧ n ≤ 1000000 → 0 ≤ N a n ∧ N a n < n ∧ Tp L (B a)) (n a : Nat) :
    ∀ (k b : Nat) (c : Int) (row : List Int), Tp L c → RowOk n a row → RowOk n a (rowF N B a k b c row).1 ∧ Tp L (rowF N B a k b c row).2
  | 0, b, c, row, hc, hr => ⟨hr, hc⟩
  | k + 1, b, c, row, hc, hr => by
    unfold rowF
    split
    · exact rowF_ok hN n a k (b + 1) c row hc hr
    · rename_i hab
      obtain ⟨d1, d2, d3⟩ := hN c 256 hc (by omega)
      obtain ⟨e1, e2, e3⟩ := hN (B c) 4 d3 (by omega)
      refine rowF_ok hN n a k (b + 1) _ _ e3 ⟨by rw [List.length_set]; exact hr.l, ?_, fun v hv => ?_⟩
      · have := hr.z
        simp only [List.getD_eq_getElem?_getD] at this ⊢
        rw [List.getElem?_set_ne (by omega)]
        exact this
      · rcases List.mem_or_eq_of_mem_set hv with h | h
        · exact hr.v v h
        · rw [h]; unfold pick4; repeat' split
          all_goals omega
theorem matF_ok {L : List SV} {N : Int → Int → Int} {B : Int → Int} (hN : ∀ a n, Tp L a → 1 ≤ n ∧ n ≤ 1000000 → 0 ≤ N a n ∧ N a n < n ∧ Tp L (B a)) (n : Nat) :
    ∀ (k a : Nat) (c : Int) (M : List (List Int)), Tp L c → M.length = a → (∀ i r, M[i]? = some r → RowOk n i r) → (matF N B n k a c M).1.length = a + k ∧ (∀ i r, (matF N B n k a c M).1[i]? = some r → RowOk n i r) ∧ Tp L (matF N B n k a c M).2
  | 0, a, c, M, hc, hl, hr => ⟨by rw [matF]; omega, hr, hc⟩
  | k + 1, a, c, M, hc, hl, hr => by
    unfold matF
    obtain ⟨h1, h2⟩ := rowF_ok hN n a n 0 c (List.replicate n 0) hc ⟨by simp, by simp [List.getD_eq_getElem?_getD, List.getElem?_replicate]; split <;> rfl, fun v hv => by simp at hv; omega⟩
    have := matF_ok hN n k (a + 1) _ (M ++ [(rowF N B a n 0 c (List.replicate n 0)).1]) h2 (by simp [hl]) (fun i r h => by
      rw [List.getElem?_append] at h
      split at h
      · exact hr i r h
      · rename_i hi
        rw [List.getElem?_singleton] at h
        split at h
        · injection h with h; subst h
          have : i = a := by omega
          subst this; exact h1
        · cases h)
    exact ⟨by rw [this.1]; omega, this.2⟩
/-- A medium. -/
structure Med (M : List (List Int)) : Prop where
  p : 1 ≤ M.length
  q : M.length ≤ 6
  r : ∀ i r, M[i]? = some r → RowOk M.length i r
theorem medium_e {L : List SV} {a : Int} (h : Tp L a) : ∃ (M : List (List Int)) (W : List SV) (b : Int), Med M ∧ W = matV M ∧ Tp L b ∧
    Good 10 (le 54 (.agg [.lst none L, .int .i64 a]) [] (.lst none W) (.agg [.lst none L, .int .i64 b])) := by
  obtain ⟨r, b, p1, u1, t1, g1⟩ := next_e h 6 (by omega)
  obtain ⟨r', hr'⟩ : ∃ n : Nat, r = (n : Int) := Int.eq_ofNat_of_zero_le p1
  obtain ⟨n, hn⟩ : ∃ n, n = r' + 1 := ⟨_, rfl⟩
  obtain ⟨N, B, hNB⟩ := next_f h
  have hN : ∀ a n, Tp L a → 1 ≤ n ∧ n ≤ 1000000 → 0 ≤ N a n ∧ N a n < n ∧ Tp L (B a) := fun a n ha hn => by have := hNB a n ha hn; exact ⟨this.1, this.2.1, this.2.2.1⟩
  have hok := matF_ok hN n n 0 b [] t1 rfl (fun i r h => by simp at h)
  generalize hfin : matF N B n n 0 b [] = fin at hok
  obtain ⟨Mf, d⟩ := fin
  obtain ⟨hl, hrs, td⟩ := hok
  dsimp only at hl hrs td
  rw [Nat.zero_add] at hl
  obtain ⟨C, hC⟩ : ∃ C : Nat → List (List Int) → List SV, ∀ a Ms, C a Ms = matV Ms ++ List.replicate (n - a) .nil := ⟨_, fun _ _ => rfl⟩
  obtain ⟨U, hU⟩ : ∃ U : List Int → List SV, ∀ r, U r = ints .i64 r := ⟨_, fun _ => rfl⟩
  have hC0 : ∀ z : Int, z = n → O.rp z .nil = C 0 [] := fun z hz => by rw [hC, orp, hz]; simp [matV]
  have hCl : ∀ a Ms, Ms.length = a → a ≤ n → (C a Ms).length = n := fun a Ms h1 h2 => by rw [hC]; simp [matV_len]; omega
  have hCs : ∀ a Ms r, Ms.length = a → a < n → O.st (C a Ms) a (.lst none (U r)) = C (a + 1) (Ms ++ [r]) := fun a Ms r h1 h2 => by
    rw [hC, hC, ost, hU]
    have e : n - a = (n - (a + 1)) + 1 := by omega
    rw [e, List.replicate_succ, List.set_append_right _ _ (by rw [matV_len]; omega), matV_len, h1, Nat.sub_self, List.set_cons_zero]
    simp [matV, rowV]
  have hCn : C n Mf = matV Mf := by rw [hC, Nat.sub_self]; simp
  have hU0 : ∀ z : Int, z = n → O.rp z (.int .i64 0) = U (List.replicate n 0) := fun z hz => by rw [hU, orp, hz]; simp [ints]
  have hUl : ∀ r, (U r).length = r.length := fun r => by rw [hU]; simp [ints]
  have hUs : ∀ r i v, O.st (U r) i (.int .i64 v) = U (r.set i v) := fun r i v => by rw [hU, hU, ost, ints_set]
  refine ⟨Mf, matV Mf, d, ⟨by omega, by omega, by rw [hl]; exact hrs⟩, rfl, td, ?_⟩
  rw [← hCn]
  refine Good.of Tryd.func10 rfl (by rfl) (by kernel_rfl) ?_
  cbv
  (repeat' (first
    | (refine q1 (by first | exact trivial | omega | (dsimp only; omega) | exact pow62 _ (by omega) | exact mul9 (by omega) (by omega) | (simp only [sm] at *; omega)) (fun z hz => ?_); (try simp only at hz); cbv)
    | (refine rq (by first | exact trivial | omega | (dsimp only; omega) | (simp only [sm] at *; omega)) ?_; cbv)
    | (refine QC.tt (by first | omega | (dsimp only; omega) | exact rfl | (simp only [sm] at *; omega)) ?_; cbv)
    | (refine QC.tt ?_ ?_; (focus (simp only [decide_true, Bool.and_true, Bool.and_self] <;> fail)); cbv)
    | (refine QC.ff ?_ ?_; (focus (simp only [decide_true, Bool.and_true, Bool.and_self, decide_false, Bool.false_and, reduceCtorEq, not_false_eq_true] <;> fail)); cbv)
    | (refine QC.ff (by first | omega | (dsimp only; omega) | (simp only [sm] at *; omega)) ?_; cbv)
    | (refine QC.mk (fun hc => ?_) (fun hc => ?_) <;> (try dsimp only at hc) <;> cbv)
    | (refine br_mk2 (fun hb => ?_) (fun hb => ?_) <;> (try subst hb) <;> cbv)))
  (refine callq (g1) rfl rfl ?_; cbv; (repeat' (first
    | (refine q1 (by first | exact trivial | omega | (dsimp only; omega) | exact pow62 _ (by omega) | exact mul9 (by omega) (by omega) | (simp only [sm] at *; omega)) (fun z hz => ?_); (try simp only at hz); cbv)
    | (refine rq (by first | exact trivial | omega | (dsimp only; omega) | (simp only [sm] at *; omega)) ?_; cbv)
    | (refine QC.tt (by first | omega | (dsimp only; omega) | exact rfl | (simp only [sm] at *; omega)) ?_; cbv)
    | (refine QC.tt ?_ ?_; (focus (simp only [decide_true, Bool.and_true, Bool.and_self] <;> fail)); cbv)
    | (refine QC.ff ?_ ?_; (focus (simp only [decide_true, Bool.and_true, Bool.and_self, decide_false, Bool.false_and, reduceCtorEq, not_false_eq_true] <;> fail)); cbv)
    | (refine QC.ff (by first | omega | (dsimp only; omega) | (simp only [sm] at *; omega)) ?_; cbv)
    | (refine QC.mk (fun hc => ?_) (fun hc => ?_) <;> (try dsimp only at hc) <;> cbv)
    | (refine br_mk2 (fun hb => ?_) (fun hb => ?_) <;> (try subst hb) <;> cbv))))
  have hz1 : z = n := by (first | omega | (simp only [cst] at *; omega) | (simp only [sm] at *; omega))
  have hCz := hC0 z hz1
  refine loopQ (A := Nat × Int × List (List Int) × Int) (fun p => p.2.1 = p.1 ∧ p.1 ≤ n ∧ p.2.2.1.length = p.1 ∧ Tp L p.2.2.2 ∧ matF N B n (n - p.1) p.1 p.2.2.2 p.2.2.1 = (Mf, d)) (fun p => n - p.1) (fun p => [(5, .int .i64 p.2.1), (4, .row 11)]) (fun p => [(0, .chunk 54 (.agg [.lst none L, .int .i64 p.2.2.2])), (11, .row none 22 (C p.1 p.2.2.1))])
    (0, 0, [], b) ⟨rfl, Nat.zero_le _, rfl, t1, hfin⟩ ?_ ?_
  · cbv
    refine ⟨?_, trivial⟩
    show Blk.row none 22 (O.rp z .nil) = .row none 22 (C 0 [])
    rw [hCz]
  · intro ⟨i, j, Ms, c⟩ hh
    have hi : j = (i : Int) := hh.1
    have hin : i ≤ n := hh.2.1
    have hlm : Ms.length = i := hh.2.2.1
    have htc : Tp L c := hh.2.2.2.1
    have hm : matF N B n (n - i) i c Ms = (Mf, d) := hh.2.2.2.2
    clear hh
    have hmk : True := trivial
    have hcl := hCl i Ms hlm hin
    cbv
    (repeat' (first
    | (refine q1 (by first | exact trivial | omega | (dsimp only; omega) | exact pow62 _ (by omega) | exact mul9 (by omega) (by omega) | (simp only [sm] at *; omega)) (fun z hz => ?_); (try simp only at hz); cbv)
    | (refine rq (by first | exact trivial | omega | (dsimp only; omega) | (simp only [sm] at *; omega)) ?_; cbv)
    | (refine QC.tt (by first | omega | (dsimp only; omega) | exact rfl | (simp only [sm] at *; omega)) ?_; cbv)
    | (refine QC.tt ?_ ?_; (focus (simp only [decide_true, Bool.and_true, Bool.and_self] <;> fail)); cbv)
    | (refine QC.ff ?_ ?_; (focus (simp only [decide_true, Bool.and_true, Bool.and_self, decide_false, Bool.false_and, reduceCtorEq, not_false_eq_true] <;> fail)); cbv)
    | (refine QC.ff (by first | omega | (dsimp only; omega) | (simp only [sm] at *; omega)) ?_; cbv)
    | (refine QC.mk (fun hc => ?_) (fun hc => ?_) <;> (try dsimp only at hc) <;> cbv)
    | (refine br_mk2 (fun hb => ?_) (fun hb => ?_) <;> (try subst hb) <;> cbv)))
    · have hlt : i < n := by (first | omega | (simp only [cst] at *; omega) | (simp only [sm] at *; omega))
      have hmf : matF N B n (n - (i + 1)) (i + 1) (rowF N B i n 0 c (List.replicate n 0)).2 (Ms ++ [(rowF N B i n 0 c (List.replicate n 0)).1]) = (Mf, d) := by
        have e : n - i = (n - (i + 1)) + 1 := by omega
        rw [e, matF] at hm
        exact hm
      have hro := (rowF_ok hN n i n 0 c (List.replicate n 0) htc ⟨by simp, by simp [List.getD_eq_getElem?_getD, List.getElem?_replicate]; split <;> rfl, fun v hv => by simp at hv; omega⟩)
      generalize hrf : rowF N B i n 0 c (List.replicate n 0) = fr at hmf hro
      obtain ⟨Rf, cf⟩ := fr
      dsimp only at hmf hro
      have hcs := hCs i Ms Rf hlm hlt
      have hu0 := hU0 z hz1
      (refine qv (i) (by (first | omega | (simp only [cst] at *; omega) | (simp only [sm] at *; omega))) ?_; cbv; (repeat' (first
    | (refine q1 (by first | exact trivial | omega | (dsimp only; omega) | exact pow62 _ (by omega) | exact mul9 (by omega) (by omega) | (simp only [sm] at *; omega)) (fun z hz => ?_); (try simp only at hz); cbv)
    | (refine rq (by first | exact trivial | omega | (dsimp only; omega) | (simp only [sm] at *; omega)) ?_; cbv)
    | (refine QC.tt (by first | omega | (dsimp only; omega) | exact rfl | (simp only [sm] at *; omega)) ?_; cbv)
    | (refine QC.tt ?_ ?_; (focus (simp only [decide_true, Bool.and_true, Bool.and_self] <;> fail)); cbv)
    | (refine QC.ff ?_ ?_; (focus (simp only [decide_true, Bool.and_true, Bool.and_self, decide_false, Bool.false_and, reduceCtorEq, not_false_eq_true] <;> fail)); cbv)
    | (refine QC.ff (by first | omega | (dsimp only; omega) | (simp only [sm] at *; omega)) ?_; cbv)
    | (refine QC.mk (fun hc => ?_) (fun hc => ?_) <;> (try dsimp only at hc) <;> cbv)
    | (refine br_mk2 (fun hb => ?_) (fun hb => ?_) <;> (try subst hb) <;> cbv))))
      refine chB ?_
      cbv
      (repeat' (first
    | (refine q1 (by first | exact trivial | omega | (dsimp only; omega) | exact pow62 _ (by omega) | exact mul9 (by omega) (by omega) | (simp only [sm] at *; omega)) (fun z hz => ?_); (try simp only at hz); cbv)
    | (refine rq (by first | exact trivial | omega | (dsimp only; omega) | (simp only [sm] at *; omega)) ?_; cbv)
    | (refine QC.tt (by first | omega | (dsimp only; omega) | exact rfl | (simp only [sm] at *; omega)) ?_; cbv)
    | (refine QC.tt ?_ ?_; (focus (simp only [decide_true, Bool.and_true, Bool.and_self] <;> fail)); cbv)
    | (refine QC.ff ?_ ?_; (focus (simp only [decide_true, Bool.and_true, Bool.and_self, decide_false, Bool.false_and, reduceCtorEq, not_false_eq_true] <;> fail)); cbv)
    | (refine QC.ff (by first | omega | (dsimp only; omega) | (simp only [sm] at *; omega)) ?_; cbv)
    | (refine QC.mk (fun hc => ?_) (fun hc => ?_) <;> (try dsimp only at hc) <;> cbv)
    | (refine br_mk2 (fun hb => ?_) (fun hb => ?_) <;> (try subst hb) <;> cbv)))
      refine loopQ (A := Nat × Int × List Int × Int) (fun p => p.2.1 = p.1 ∧ p.1 ≤ n ∧ p.2.2.1.length = n ∧ Tp L p.2.2.2 ∧ rowF N B i (n - p.1) p.1 p.2.2.2 p.2.2.1 = (Rf, cf)) (fun p => n - p.1) (fun p => [(6, .int .i64 p.2.1)]) (fun p => [(0, .chunk 54 (.agg [.lst none L, .int .i64 p.2.2.2])), (20, .row none 3 (U p.2.2.1))])
        (0, 0, List.replicate n 0, c) ⟨rfl, Nat.zero_le _, by show (List.replicate n 0).length = n; simp, htc, hrf⟩ ?_ ?_
      · cbv
        refine ⟨?_, trivial⟩
        show Blk.row none 3 (O.rp z (.int .i64 0)) = .row none 3 (U (List.replicate n 0))
        rw [hu0]
      · intro ⟨k, jj, row, cc⟩ hh
        have hk : jj = (k : Int) := hh.1
        have hkn : k ≤ n := hh.2.1
        have hrl : row.length = n := hh.2.2.1
        have hcc : Tp L cc := hh.2.2.2.1
        have hrr : rowF N B i (n - k) k cc row = (Rf, cf) := hh.2.2.2.2
        clear hh
        have hmk : True := trivial
        have hul := hUl row
        have key : k < n → rowF N B i (n - (k + 1)) (k + 1) (if i = k then cc else B (B cc)) (if i = k then row else row.set k (pick4 (N cc 256) (N (B cc) 4))) = (Rf, cf) := fun hk => by
          have e : n - k = (n - (k + 1)) + 1 := by omega
          rw [e, rowF] at hrr
          split at hrr
          · rename_i h; rw [if_pos h, if_pos h]; exact hrr
          · rename_i h; rw [if_neg h, if_neg h]; exact hrr
        have hus := hUs row k
        cbv
        (repeat' (first
    | (refine q1 (by first | exact trivial | omega | (dsimp only; omega) | exact pow62 _ (by omega) | exact mul9 (by omega) (by omega) | (simp only [sm] at *; omega)) (fun z hz => ?_); (try simp only at hz); cbv)
    | (refine rq (by first | exact trivial | omega | (dsimp only; omega) | (simp only [sm] at *; omega)) ?_; cbv)
    | (refine QC.tt (by first | omega | (dsimp only; omega) | exact rfl | (simp only [sm] at *; omega)) ?_; cbv)
    | (refine QC.tt ?_ ?_; (focus (simp only [decide_true, Bool.and_true, Bool.and_self] <;> fail)); cbv)
    | (refine QC.ff ?_ ?_; (focus (simp only [decide_true, Bool.and_true, Bool.and_self, decide_false, Bool.false_and, reduceCtorEq, not_false_eq_true] <;> fail)); cbv)
    | (refine QC.ff (by first | omega | (dsimp only; omega) | (simp only [sm] at *; omega)) ?_; cbv)
    | (refine QC.mk (fun hc => ?_) (fun hc => ?_) <;> (try dsimp only at hc) <;> cbv)
    | (refine br_mk2 (fun hb => ?_) (fun hb => ?_) <;> (try subst hb) <;> cbv)))
        all_goals obtain ⟨dd5, dd6, dd7, dd8⟩ := hNB cc 256 hcc (by omega)
        all_goals obtain ⟨dd9, dd10, dd11, dd12⟩ := hNB (B cc) 4 dd7 (by omega)
        · obtain ⟨x, hx⟩ : ∃ x, x = N cc 256 := ⟨_, rfl⟩
          obtain ⟨y, hy⟩ : ∃ y, y = N (B cc) 4 := ⟨_, rfl⟩
          obtain ⟨c2, hc2⟩ : ∃ y, y = B (B cc) := ⟨_, rfl⟩
          have hkl : k < n := by (first | omega | (simp only [cst] at *; omega) | (simp only [sm] at *; omega))
          have hik : ¬ i = k := by (first | omega | (simp only [cst] at *; omega) | (simp only [sm] at *; omega))
          have hkey := key hkl
          rw [if_neg hik, if_neg hik] at hkey
          rw [← hx] at dd8 dd5 dd6 hkey
          rw [← hy] at dd12 dd9 dd10 hkey
          rw [← hc2] at dd12 dd11 hkey
          have hv := hus (pick4 x y)
          (refine qv (i) (by (first | omega | (simp only [cst] at *; omega) | (simp only [sm] at *; omega))) ?_; cbv; (repeat' (first
    | (refine q1 (by first | exact trivial | omega | (dsimp only; omega) | exact pow62 _ (by omega) | exact mul9 (by omega) (by omega) | (simp only [sm] at *; omega)) (fun z hz => ?_); (try simp only at hz); cbv)
    | (refine rq (by first | exact trivial | omega | (dsimp only; omega) | (simp only [sm] at *; omega)) ?_; cbv)
    | (refine QC.tt (by first | omega | (dsimp only; omega) | exact rfl | (simp only [sm] at *; omega)) ?_; cbv)
    | (refine QC.tt ?_ ?_; (focus (simp only [decide_true, Bool.and_true, Bool.and_self] <;> fail)); cbv)
    | (refine QC.ff ?_ ?_; (focus (simp only [decide_true, Bool.and_true, Bool.and_self, decide_false, Bool.false_and, reduceCtorEq, not_false_eq_true] <;> fail)); cbv)
    | (refine QC.ff (by first | omega | (dsimp only; omega) | (simp only [sm] at *; omega)) ?_; cbv)
    | (refine QC.mk (fun hc => ?_) (fun hc => ?_) <;> (try dsimp only at hc) <;> cbv)
    | (refine br_mk2 (fun hb => ?_) (fun hb => ?_) <;> (try subst hb) <;> cbv))))
          (refine callq (dd8) rfl rfl ?_; cbv; (repeat' (first
    | (refine q1 (by first | exact trivial | omega | (dsimp only; omega) | exact pow62 _ (by omega) | exact mul9 (by omega) (by omega) | (simp only [sm] at *; omega)) (fun z hz => ?_); (try simp only at hz); cbv)
    | (refine rq (by first | exact trivial | omega | (dsimp only; omega) | (simp only [sm] at *; omega)) ?_; cbv)
    | (refine QC.tt (by first | omega | (dsimp only; omega) | exact rfl | (simp only [sm] at *; omega)) ?_; cbv)
    | (refine QC.tt ?_ ?_; (focus (simp only [decide_true, Bool.and_true, Bool.and_self] <;> fail)); cbv)
    | (refine QC.ff ?_ ?_; (focus (simp only [decide_true, Bool.and_true, Bool.and_self, decide_false, Bool.false_and, reduceCtorEq, not_false_eq_true] <;> fail)); cbv)
    | (refine QC.ff (by first | omega | (dsimp only; omega) | (simp only [sm] at *; omega)) ?_; cbv)
    | (refine QC.mk (fun hc => ?_) (fun hc => ?_) <;> (try dsimp only at hc) <;> cbv)
    | (refine br_mk2 (fun hb => ?_) (fun hb => ?_) <;> (try subst hb) <;> cbv))))
          (refine callq (dd12) rfl rfl ?_; cbv; (repeat' (first
    | (refine q1 (by first | exact trivial | omega | (dsimp only; omega) | exact pow62 _ (by omega) | exact mul9 (by omega) (by omega) | (simp only [sm] at *; omega)) (fun z hz => ?_); (try simp only at hz); cbv)
    | (refine rq (by first | exact trivial | omega | (dsimp only; omega) | (simp only [sm] at *; omega)) ?_; cbv)
    | (refine QC.tt (by first | omega | (dsimp only; omega) | exact rfl | (simp only [sm] at *; omega)) ?_; cbv)
    | (refine QC.tt ?_ ?_; (focus (simp only [decide_true, Bool.and_true, Bool.and_self] <;> fail)); cbv)
    | (refine QC.ff ?_ ?_; (focus (simp only [decide_true, Bool.and_true, Bool.and_self, decide_false, Bool.false_and, reduceCtorEq, not_false_eq_true] <;> fail)); cbv)
    | (refine QC.ff (by first | omega | (dsimp only; omega) | (simp only [sm] at *; omega)) ?_; cbv)
    | (refine QC.mk (fun hc => ?_) (fun hc => ?_) <;> (try dsimp only at hc) <;> cbv)
    | (refine br_mk2 (fun hb => ?_) (fun hb => ?_) <;> (try subst hb) <;> cbv))))
          rcases (show y = 0 ∨ y = 1 ∨ y = 2 ∨ y = 3 by omega) with e | e | e | e
          all_goals rw [e] at hv hkey
          · refine qv 0 ⟨by omega, by (first | omega | (simp only [cst] at *; omega) | (simp only [sm] at *; omega))⟩ ?_
            cbv
            (repeat' (first
    | (refine q1 (by first | exact trivial | omega | (dsimp only; omega) | exact pow62 _ (by omega) | exact mul9 (by omega) (by omega) | (simp only [sm] at *; omega)) (fun z hz => ?_); (try simp only at hz); cbv)
    | (refine rq (by first | exact trivial | omega | (dsimp only; omega) | (simp only [sm] at *; omega)) ?_; cbv)
    | (refine QC.tt (by first | omega | (dsimp only; omega) | exact rfl | (simp only [sm] at *; omega)) ?_; cbv)
    | (refine QC.tt ?_ ?_; (focus (simp only [decide_true, Bool.and_true, Bool.and_self] <;> fail)); cbv)
    | (refine QC.ff ?_ ?_; (focus (simp only [decide_true, Bool.and_true, Bool.and_self, decide_false, Bool.false_and, reduceCtorEq, not_false_eq_true] <;> fail)); cbv)
    | (refine QC.ff (by first | omega | (dsimp only; omega) | (simp only [sm] at *; omega)) ?_; cbv)
    | (refine QC.mk (fun hc => ?_) (fun hc => ?_) <;> (try dsimp only at hc) <;> cbv)
    | (refine br_mk2 (fun hb => ?_) (fun hb => ?_) <;> (try subst hb) <;> cbv)))
            refine qv _ rfl ?_
            cbv
            (repeat' (first
    | (refine q1 (by first | exact trivial | omega | (dsimp only; omega) | exact pow62 _ (by omega) | exact mul9 (by omega) (by omega) | (simp only [sm] at *; omega)) (fun z hz => ?_); (try simp only at hz); cbv)
    | (refine rq (by first | exact trivial | omega | (dsimp only; omega) | (simp only [sm] at *; omega)) ?_; cbv)
    | (refine QC.tt (by first | omega | (dsimp only; omega) | exact rfl | (simp only [sm] at *; omega)) ?_; cbv)
    | (refine QC.tt ?_ ?_; (focus (simp only [decide_true, Bool.and_true, Bool.and_self] <;> fail)); cbv)
    | (refine QC.ff ?_ ?_; (focus (simp only [decide_true, Bool.and_true, Bool.and_self, decide_false, Bool.false_and, reduceCtorEq, not_false_eq_true] <;> fail)); cbv)
    | (refine QC.ff (by first | omega | (dsimp only; omega) | (simp only [sm] at *; omega)) ?_; cbv)
    | (refine QC.mk (fun hc => ?_) (fun hc => ?_) <;> (try dsimp only at hc) <;> cbv)
    | (refine br_mk2 (fun hb => ?_) (fun hb => ?_) <;> (try subst hb) <;> cbv)))
            (refine qv (k) (by (first | omega | (simp only [cst] at *; omega) | (simp only [sm] at *; omega))) ?_; cbv; (repeat' (first
    | (refine q1 (by first | exact trivial | omega | (dsimp only; omega) | exact pow62 _ (by omega) | exact mul9 (by omega) (by omega) | (simp only [sm] at *; omega)) (fun z hz => ?_); (try simp only at hz); cbv)
    | (refine rq (by first | exact trivial | omega | (dsimp only; omega) | (simp only [sm] at *; omega)) ?_; cbv)
    | (refine QC.tt (by first | omega | (dsimp only; omega) | exact rfl | (simp only [sm] at *; omega)) ?_; cbv)
    | (refine QC.tt ?_ ?_; (focus (simp only [decide_true, Bool.and_true, Bool.and_self] <;> fail)); cbv)
    | (refine QC.ff ?_ ?_; (focus (simp only [decide_true, Bool.and_true, Bool.and_self, decide_false, Bool.false_and, reduceCtorEq, not_false_eq_true] <;> fail)); cbv)
    | (refine QC.ff (by first | omega | (dsimp only; omega) | (simp only [sm] at *; omega)) ?_; cbv)
    | (refine QC.mk (fun hc => ?_) (fun hc => ?_) <;> (try dsimp only at hc) <;> cbv)
    | (refine br_mk2 (fun hb => ?_) (fun hb => ?_) <;> (try subst hb) <;> cbv))))
            rename_i z0 hz0 _ _
            refine ⟨(k + 1, z, row.set k (pick4 x 0), c2), ⟨by show z = ((k + 1 : Nat) : Int); (first | omega | (simp only [cst] at *; omega) | (simp only [sm] at *; omega)), by show k + 1 ≤ n; omega, by show (row.set k _).length = n; rw [List.length_set]; exact hrl, dd11, hkey⟩, by show n - (k + 1) < n - k; omega, ?_⟩
            cbv
            refine ⟨?_, trivial⟩
            show Blk.row none 3 (O.st (U row) k (.int .i64 0)) = .row none 3 (U (row.set k (pick4 x 0)))
            rw [← hv]
            rfl
          · refine qv 1 ⟨by omega, by (first | omega | (simp only [cst] at *; omega) | (simp only [sm] at *; omega))⟩ ?_
            cbv
            (repeat' (first
    | (refine q1 (by first | exact trivial | omega | (dsimp only; omega) | exact pow62 _ (by omega) | exact mul9 (by omega) (by omega) | (simp only [sm] at *; omega)) (fun z hz => ?_); (try simp only at hz); cbv)
    | (refine rq (by first | exact trivial | omega | (dsimp only; omega) | (simp only [sm] at *; omega)) ?_; cbv)
    | (refine QC.tt (by first | omega | (dsimp only; omega) | exact rfl | (simp only [sm] at *; omega)) ?_; cbv)
    | (refine QC.tt ?_ ?_; (focus (simp only [decide_true, Bool.and_true, Bool.and_self] <;> fail)); cbv)
    | (refine QC.ff ?_ ?_; (focus (simp only [decide_true, Bool.and_true, Bool.and_self, decide_false, Bool.false_and, reduceCtorEq, not_false_eq_true] <;> fail)); cbv)
    | (refine QC.ff (by first | omega | (dsimp only; omega) | (simp only [sm] at *; omega)) ?_; cbv)
    | (refine QC.mk (fun hc => ?_) (fun hc => ?_) <;> (try dsimp only at hc) <;> cbv)
    | (refine br_mk2 (fun hb => ?_) (fun hb => ?_) <;> (try subst hb) <;> cbv)))
            refine qv _ rfl ?_
            cbv
            (repeat' (first
    | (refine q1 (by first | exact trivial | omega | (dsimp only; omega) | exact pow62 _ (by omega) | exact mul9 (by omega) (by omega) | (simp only [sm] at *; omega)) (fun z hz => ?_); (try simp only at hz); cbv)
    | (refine rq (by first | exact trivial | omega | (dsimp only; omega) | (simp only [sm] at *; omega)) ?_; cbv)
    | (refine QC.tt (by first | omega | (dsimp only; omega) | exact rfl | (simp only [sm] at *; omega)) ?_; cbv)
    | (refine QC.tt ?_ ?_; (focus (simp only [decide_true, Bool.and_true, Bool.and_self] <;> fail)); cbv)
    | (refine QC.ff ?_ ?_; (focus (simp only [decide_true, Bool.and_true, Bool.and_self, decide_false, Bool.false_and, reduceCtorEq, not_false_eq_true] <;> fail)); cbv)
    | (refine QC.ff (by first | omega | (dsimp only; omega) | (simp only [sm] at *; omega)) ?_; cbv)
    | (refine QC.mk (fun hc => ?_) (fun hc => ?_) <;> (try dsimp only at hc) <;> cbv)
    | (refine br_mk2 (fun hb => ?_) (fun hb => ?_) <;> (try subst hb) <;> cbv)))
            (refine qv (k) (by (first | omega | (simp only [cst] at *; omega) | (simp only [sm] at *; omega))) ?_; cbv; (repeat' (first
    | (refine q1 (by first | exact trivial | omega | (dsimp only; omega) | exact pow62 _ (by omega) | exact mul9 (by omega) (by omega) | (simp only [sm] at *; omega)) (fun z hz => ?_); (try simp only at hz); cbv)
    | (refine rq (by first | exact trivial | omega | (dsimp only; omega) | (simp only [sm] at *; omega)) ?_; cbv)
    | (refine QC.tt (by first | omega | (dsimp only; omega) | exact rfl | (simp only [sm] at *; omega)) ?_; cbv)
    | (refine QC.tt ?_ ?_; (focus (simp only [decide_true, Bool.and_true, Bool.and_self] <;> fail)); cbv)
    | (refine QC.ff ?_ ?_; (focus (simp only [decide_true, Bool.and_true, Bool.and_self, decide_false, Bool.false_and, reduceCtorEq, not_false_eq_true] <;> fail)); cbv)
    | (refine QC.ff (by first | omega | (dsimp only; omega) | (simp only [sm] at *; omega)) ?_; cbv)
    | (refine QC.mk (fun hc => ?_) (fun hc => ?_) <;> (try dsimp only at hc) <;> cbv)
    | (refine br_mk2 (fun hb => ?_) (fun hb => ?_) <;> (try subst hb) <;> cbv))))
            rename_i z0 hz0 _ _
            refine ⟨(k + 1, z, row.set k (pick4 x 1), c2), ⟨by show z = ((k + 1 : Nat) : Int); (first | omega | (simp only [cst] at *; omega) | (simp only [sm] at *; omega)), by show k + 1 ≤ n; omega, by show (row.set k _).length = n; rw [List.length_set]; exact hrl, dd11, hkey⟩, by show n - (k + 1) < n - k; omega, ?_⟩
            cbv
            refine ⟨?_, trivial⟩
            show Blk.row none 3 (O.st (U row) k (.int .i64 256)) = .row none 3 (U (row.set k (pick4 x 1)))
            rw [← hv]
            rfl
          · refine qv 2 ⟨by omega, by (first | omega | (simp only [cst] at *; omega) | (simp only [sm] at *; omega))⟩ ?_
            cbv
            (repeat' (first
    | (refine q1 (by first | exact trivial | omega | (dsimp only; omega) | exact pow62 _ (by omega) | exact mul9 (by omega) (by omega) | (simp only [sm] at *; omega)) (fun z hz => ?_); (try simp only at hz); cbv)
    | (refine rq (by first | exact trivial | omega | (dsimp only; omega) | (simp only [sm] at *; omega)) ?_; cbv)
    | (refine QC.tt (by first | omega | (dsimp only; omega) | exact rfl | (simp only [sm] at *; omega)) ?_; cbv)
    | (refine QC.tt ?_ ?_; (focus (simp only [decide_true, Bool.and_true, Bool.and_self] <;> fail)); cbv)
    | (refine QC.ff ?_ ?_; (focus (simp only [decide_true, Bool.and_true, Bool.and_self, decide_false, Bool.false_and, reduceCtorEq, not_false_eq_true] <;> fail)); cbv)
    | (refine QC.ff (by first | omega | (dsimp only; omega) | (simp only [sm] at *; omega)) ?_; cbv)
    | (refine QC.mk (fun hc => ?_) (fun hc => ?_) <;> (try dsimp only at hc) <;> cbv)
    | (refine br_mk2 (fun hb => ?_) (fun hb => ?_) <;> (try subst hb) <;> cbv)))
            refine qv _ rfl ?_
            cbv
            (repeat' (first
    | (refine q1 (by first | exact trivial | omega | (dsimp only; omega) | exact pow62 _ (by omega) | exact mul9 (by omega) (by omega) | (simp only [sm] at *; omega)) (fun z hz => ?_); (try simp only at hz); cbv)
    | (refine rq (by first | exact trivial | omega | (dsimp only; omega) | (simp only [sm] at *; omega)) ?_; cbv)
    | (refine QC.tt (by first | omega | (dsimp only; omega) | exact rfl | (simp only [sm] at *; omega)) ?_; cbv)
    | (refine QC.tt ?_ ?_; (focus (simp only [decide_true, Bool.and_true, Bool.and_self] <;> fail)); cbv)
    | (refine QC.ff ?_ ?_; (focus (simp only [decide_true, Bool.and_true, Bool.and_self, decide_false, Bool.false_and, reduceCtorEq, not_false_eq_true] <;> fail)); cbv)
    | (refine QC.ff (by first | omega | (dsimp only; omega) | (simp only [sm] at *; omega)) ?_; cbv)
    | (refine QC.mk (fun hc => ?_) (fun hc => ?_) <;> (try dsimp only at hc) <;> cbv)
    | (refine br_mk2 (fun hb => ?_) (fun hb => ?_) <;> (try subst hb) <;> cbv)))
            (refine qv (k) (by (first | omega | (simp only [cst] at *; omega) | (simp only [sm] at *; omega))) ?_; cbv; (repeat' (first
    | (refine q1 (by first | exact trivial | omega | (dsimp only; omega) | exact pow62 _ (by omega) | exact mul9 (by omega) (by omega) | (simp only [sm] at *; omega)) (fun z hz => ?_); (try simp only at hz); cbv)
    | (refine rq (by first | exact trivial | omega | (dsimp only; omega) | (simp only [sm] at *; omega)) ?_; cbv)
    | (refine QC.tt (by first | omega | (dsimp only; omega) | exact rfl | (simp only [sm] at *; omega)) ?_; cbv)
    | (refine QC.tt ?_ ?_; (focus (simp only [decide_true, Bool.and_true, Bool.and_self] <;> fail)); cbv)
    | (refine QC.ff ?_ ?_; (focus (simp only [decide_true, Bool.and_true, Bool.and_self, decide_false, Bool.false_and, reduceCtorEq, not_false_eq_true] <;> fail)); cbv)
    | (refine QC.ff (by first | omega | (dsimp only; omega) | (simp only [sm] at *; omega)) ?_; cbv)
    | (refine QC.mk (fun hc => ?_) (fun hc => ?_) <;> (try dsimp only at hc) <;> cbv)
    | (refine br_mk2 (fun hb => ?_) (fun hb => ?_) <;> (try subst hb) <;> cbv))))
            rename_i z0 hz0 _ _
            refine ⟨(k + 1, z, row.set k (pick4 x 2), c2), ⟨by show z = ((k + 1 : Nat) : Int); (first | omega | (simp only [cst] at *; omega) | (simp only [sm] at *; omega)), by show k + 1 ≤ n; omega, by show (row.set k _).length = n; rw [List.length_set]; exact hrl, dd11, hkey⟩, by show n - (k + 1) < n - k; omega, ?_⟩
            cbv
            refine ⟨?_, trivial⟩
            show Blk.row none 3 (O.st (U row) k (.int .i64 256)) = .row none 3 (U (row.set k (pick4 x 2)))
            rw [← hv]
            rfl
          · refine qv 3 ⟨by omega, by (first | omega | (simp only [cst] at *; omega) | (simp only [sm] at *; omega))⟩ ?_
            cbv
            (repeat' (first
    | (refine q1 (by first | exact trivial | omega | (dsimp only; omega) | exact pow62 _ (by omega) | exact mul9 (by omega) (by omega) | (simp only [sm] at *; omega)) (fun z hz => ?_); (try simp only at hz); cbv)
    | (refine rq (by first | exact trivial | omega | (dsimp only; omega) | (simp only [sm] at *; omega)) ?_; cbv)
    | (refine QC.tt (by first | omega | (dsimp only; omega) | exact rfl | (simp only [sm] at *; omega)) ?_; cbv)
    | (refine QC.tt ?_ ?_; (focus (simp only [decide_true, Bool.and_true, Bool.and_self] <;> fail)); cbv)
    | (refine QC.ff ?_ ?_; (focus (simp only [decide_true, Bool.and_true, Bool.and_self, decide_false, Bool.false_and, reduceCtorEq, not_false_eq_true] <;> fail)); cbv)
    | (refine QC.ff (by first | omega | (dsimp only; omega) | (simp only [sm] at *; omega)) ?_; cbv)
    | (refine QC.mk (fun hc => ?_) (fun hc => ?_) <;> (try dsimp only at hc) <;> cbv)
    | (refine br_mk2 (fun hb => ?_) (fun hb => ?_) <;> (try subst hb) <;> cbv)))
            refine qv _ rfl ?_
            cbv
            (repeat' (first
    | (refine q1 (by first | exact trivial | omega | (dsimp only; omega) | exact pow62 _ (by omega) | exact mul9 (by omega) (by omega) | (simp only [sm] at *; omega)) (fun z hz => ?_); (try simp only at hz); cbv)
    | (refine rq (by first | exact trivial | omega | (dsimp only; omega) | (simp only [sm] at *; omega)) ?_; cbv)
    | (refine QC.tt (by first | omega | (dsimp only; omega) | exact rfl | (simp only [sm] at *; omega)) ?_; cbv)
    | (refine QC.tt ?_ ?_; (focus (simp only [decide_true, Bool.and_true, Bool.and_self] <;> fail)); cbv)
    | (refine QC.ff ?_ ?_; (focus (simp only [decide_true, Bool.and_true, Bool.and_self, decide_false, Bool.false_and, reduceCtorEq, not_false_eq_true] <;> fail)); cbv)
    | (refine QC.ff (by first | omega | (dsimp only; omega) | (simp only [sm] at *; omega)) ?_; cbv)
    | (refine QC.mk (fun hc => ?_) (fun hc => ?_) <;> (try dsimp only at hc) <;> cbv)
    | (refine br_mk2 (fun hb => ?_) (fun hb => ?_) <;> (try subst hb) <;> cbv)))
            (refine qv (k) (by (first | omega | (simp only [cst] at *; omega) | (simp only [sm] at *; omega))) ?_; cbv; (repeat' (first
    | (refine q1 (by first | exact trivial | omega | (dsimp only; omega) | exact pow62 _ (by omega) | exact mul9 (by omega) (by omega) | (simp only [sm] at *; omega)) (fun z hz => ?_); (try simp only at hz); cbv)
    | (refine rq (by first | exact trivial | omega | (dsimp only; omega) | (simp only [sm] at *; omega)) ?_; cbv)
    | (refine QC.tt (by first | omega | (dsimp only; omega) | exact rfl | (simp only [sm] at *; omega)) ?_; cbv)
    | (refine QC.tt ?_ ?_; (focus (simp only [decide_true, Bool.and_true, Bool.and_self] <;> fail)); cbv)
    | (refine QC.ff ?_ ?_; (focus (simp only [decide_true, Bool.and_true, Bool.and_self, decide_false, Bool.false_and, reduceCtorEq, not_false_eq_true] <;> fail)); cbv)
    | (refine QC.ff (by first | omega | (dsimp only; omega) | (simp only [sm] at *; omega)) ?_; cbv)
    | (refine QC.mk (fun hc => ?_) (fun hc => ?_) <;> (try dsimp only at hc) <;> cbv)
    | (refine br_mk2 (fun hb => ?_) (fun hb => ?_) <;> (try subst hb) <;> cbv))))
            rename_i z0 hz0 _ _
            refine ⟨(k + 1, z, row.set k (pick4 x 3), c2), ⟨by show z = ((k + 1 : Nat) : Int); (first | omega | (simp only [cst] at *; omega) | (simp only [sm] at *; omega)), by show k + 1 ≤ n; omega, by show (row.set k _).length = n; rw [List.length_set]; exact hrl, dd11, hkey⟩, by show n - (k + 1) < n - k; omega, ?_⟩
            cbv
            refine ⟨?_, trivial⟩
            show Blk.row none 3 (O.st (U row) k (.int .i64 _)) = .row none 3 (U (row.set k (pick4 x 3)))
            rw [← hv]
            have e3 : ∀ w : Int, w = 1 + x → SV.int .i64 w = .int .i64 (pick4 x 3) := fun w hw => by rw [hw]; simp [pick4]
            rw [e3 _ (by assumption)]
        · have hkl : k < n := by (first | omega | (simp only [cst] at *; omega) | (simp only [sm] at *; omega))
          have hik : i = k := by (first | omega | (simp only [cst] at *; omega) | (simp only [sm] at *; omega))
          have hkey := key hkl
          rw [if_pos hik, if_pos hik] at hkey
          refine ⟨(k + 1, z, row, cc), ⟨by show z = ((k + 1 : Nat) : Int); (first | omega | (simp only [cst] at *; omega) | (simp only [sm] at *; omega)), by show k + 1 ≤ n; omega, hrl, hcc, hkey⟩, by show n - (k + 1) < n - k; omega, ?_⟩
          cbv
          exact ⟨rfl, trivial⟩
        · have hkl : k = n := by (first | omega | (simp only [cst] at *; omega) | (simp only [sm] at *; omega))
          rw [hkl, Nat.sub_self, rowF] at hrr
          injection hrr with hr1 hr2
          subst hr1
          subst hr2
          refine ⟨(i + 1, z, Ms ++ [row], cc), ⟨by show z = ((i + 1 : Nat) : Int); (first | omega | (simp only [cst] at *; omega) | (simp only [sm] at *; omega)), by show i + 1 ≤ n; omega, by show (Ms ++ [row]).length = i + 1; rw [List.length_append, hlm]; rfl, hcc, hmf⟩, by show n - (i + 1) < n - i; omega, ?_⟩
          cbv
          refine ⟨?_, trivial⟩
          show Blk.row none 22 (O.st (C i Ms) i (.lst none (U row))) = .row none 22 (C (i + 1) (Ms ++ [row]))
          rw [hcs]
    · have e : i = n := by (first | omega | (simp only [cst] at *; omega) | (simp only [sm] at *; omega))
      subst e
      rw [Nat.sub_self, matF] at hm
      injection hm with h1 h2
      subst h1; subst h2
      exact ⟨rfl, rfl, rfl⟩
end Go.Proofs.YtbnphjniadiclaaDoor

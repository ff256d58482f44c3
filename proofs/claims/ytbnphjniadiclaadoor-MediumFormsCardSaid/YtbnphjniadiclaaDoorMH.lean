/- The maker's bytes and transmissions. -/
import Derived.Test.YtbnphjniadiclaaDoorMC
namespace Go.Proofs.YtbnphjniadiclaaDoor
set_option linter.unusedVariables false
set_option linter.unusedSimpArgs false
open Go.RowKit
set_option maxHeartbeats 8000000
def byF (N : Int → Int → Int) (B : Int → Int) : Nat → Nat → Int → List Int → List Int × Int
  | 0, _, c, r => (r, c)
  | k + 1, i, c, r => byF N B k (i + 1) (B c) (r.set i (N c 256))
theorem byF_ok {L : List SV} {N : Int → Int → Int} {B : Int → Int} (hN : ∀ a n, Tp L a → 1 ≤ n ∧ n ≤ 1000000 → 0 ≤ N a n ∧ N a n < n ∧ Tp L (B a)) : ∀ (k i : Nat) (c : Int) (r : List Int), Tp L c → (∀ v ∈ r, 0 ≤ v ∧ v ≤ 255) → (byF N B k i c r).1.length = r.length ∧ (∀ v ∈ (byF N B k i c r).1, 0 ≤ v ∧ v ≤ 255) ∧ Tp L (byF N B k i c r).2
  | 0, i, c, r, hc, hr => ⟨rfl, hr, hc⟩
  | k + 1, i, c, r, hc, hr => by
    obtain ⟨d1, d2, d3⟩ := hN c 256 hc (by omega)
    have := byF_ok hN k (i + 1) (B c) (r.set i (N c 256)) d3 (fun v hv => by
      rcases List.mem_or_eq_of_mem_set hv with h | h
      · exact hr v h
      · omega)
    unfold byF
    rw [List.length_set] at this
    exact this
theorem bytes_e {L : List SV} {a : Int} (h : Tp L a) (m : Int) (hm : 0 ≤ m ∧ m ≤ 1000) : ∃ (bs : List UInt8) (b : Int), (bs.length : Int) ≤ m ∧ Tp L b ∧
    Good 23 (leN 54 (.agg [.lst none L, .int .i64 a]) [.int .i64 m] (.row 1) (.agg [.lst none L, .int .i64 b]) (.row none 5 (u8l bs))) := by
  obtain ⟨r, b, p1, u1, t1, g1⟩ := next_e h (m + 1) (by omega)
  obtain ⟨n, hn⟩ : ∃ n : Nat, r = (n : Int) := Int.eq_ofNat_of_zero_le p1
  obtain ⟨N, B, hNB⟩ := next_f h
  have hN : ∀ a n, Tp L a → 1 ≤ n ∧ n ≤ 1000000 → 0 ≤ N a n ∧ N a n < n ∧ Tp L (B a) := fun a n ha hn => by have := hNB a n ha hn; exact ⟨this.1, this.2.1, this.2.2.1⟩
  have hok := byF_ok hN n 0 b (List.replicate n 0) t1 (fun v hv => by simp at hv; omega)
  generalize hfin : byF N B n 0 b (List.replicate n 0) = fin at hok
  obtain ⟨rf, d⟩ := fin
  obtain ⟨h1, h2, td⟩ := hok
  dsimp only at h1 h2 td
  rw [List.length_replicate] at h1
  obtain ⟨bs, hbs, hbl⟩ := u8l_of rf h2
  obtain ⟨U, hU⟩ : ∃ U : List Int → List SV, ∀ r, U r = ints .u8 r := ⟨_, fun _ => rfl⟩
  have hU0 : ∀ z : Int, z = n → O.rp z (.int .u8 0) = U (List.replicate n 0) := fun z hz => by rw [hU, orp, hz]; simp [ints]
  have hUl : ∀ r, (U r).length = r.length := fun r => by rw [hU]; simp [ints]
  have hUs : ∀ r i v, O.st (U r) i (.int .u8 v) = U (r.set i v) := fun r i v => by rw [hU, hU, ost, ints_set]
  refine ⟨bs, d, by omega, td, ?_⟩
  rw [← hbs, ← hU]
  refine Good.of Tryd.func23 rfl (by rfl) (by kernel_rfl) ?_
  cbv
  (repeat' (first
    | (refine q1 (by first | exact trivial | omega | (dsimp only; omega) | exact pow62 _ (by omega) | exact mul9 (by omega) (by omega) | (simp only [sm] at *; omega)) (fun z hz => ?_); (try simp only at hz); cbv)
    | (refine rq (by first | exact trivial | omega | (dsimp only; omega) | (simp only [sm] at *; omega)) ?_; cbv)
    | (refine QC.tt (by first | omega | (dsimp only; omega) | exact rfl | (simp only [sm] at *; omega)) ?_; cbv)
    | (refine QC.tt ?_ ?_; (focus (simp only [decide_true, Bool.and_true, Bool.and_self] <;> fail)); cbv)
    | (refine QC.ff ?_ ?_; (focus (simp only [decide_true, Bool.and_true, Bool.and_self, decide_false, Bool.false_and, reduceCtorEq, not_false_eq_true] <;> fail)); cbv)
    | (refine QC.ff (by first | omega | (dsimp only; omega) | (simp only [sm] at *; omega)) ?_; cbv)
    | (refine QC.mk (fun hc => ?_) (fun hc => ?_) <;> (try dsimp only at hc) <;> cbv)
    | (refine br_mk2 (fun hb => ?_) (fun hb => ?_) <;> (try subst hb) <;> cbv)))
  have ez : m + 1 = z := by (first | omega | (simp only [cst] at *; omega) | (simp only [sm] at *; omega))
  rw [ez] at g1
  (refine callq (g1) rfl rfl ?_; cbv; (repeat' (first
    | (refine q1 (by first | exact trivial | omega | (dsimp only; omega) | exact pow62 _ (by omega) | exact mul9 (by omega) (by omega) | (simp only [sm] at *; omega)) (fun z hz => ?_); (try simp only at hz); cbv)
    | (refine rq (by first | exact trivial | omega | (dsimp only; omega) | (simp only [sm] at *; omega)) ?_; cbv)
    | (refine QC.tt (by first | omega | (dsimp only; omega) | exact rfl | (simp only [sm] at *; omega)) ?_; cbv)
    | (refine QC.tt ?_ ?_; (focus (simp only [decide_true, Bool.and_true, Bool.and_self] <;> fail)); cbv)
    | (refine QC.ff ?_ ?_; (focus (simp only [decide_true, Bool.and_true, Bool.and_self, decide_false, Bool.false_and, reduceCtorEq, not_false_eq_true] <;> fail)); cbv)
    | (refine QC.ff (by first | omega | (dsimp only; omega) | (simp only [sm] at *; omega)) ?_; cbv)
    | (refine QC.mk (fun hc => ?_) (fun hc => ?_) <;> (try dsimp only at hc) <;> cbv)
    | (refine br_mk2 (fun hb => ?_) (fun hb => ?_) <;> (try subst hb) <;> cbv))))
  have hu0 := hU0 r hn
  refine loopQ (A := Nat × Int × List Int × Int) (fun p => p.2.1 = p.1 ∧ p.1 ≤ n ∧ p.2.2.1.length = n ∧ Tp L p.2.2.2 ∧ byF N B (n - p.1) p.1 p.2.2.2 p.2.2.1 = (rf, d)) (fun p => n - p.1) (fun p => [(6, .int .i64 p.2.1), (5, .row 11)]) (fun p => [(0, .chunk 54 (.agg [.lst none L, .int .i64 p.2.2.2])), (11, .row none 5 (U p.2.2.1))])
    (0, 0, List.replicate n 0, b) ⟨rfl, Nat.zero_le _, by show (List.replicate n 0).length = n; simp, t1, hfin⟩ ?_ ?_
  · cbv
    refine ⟨?_, trivial⟩
    show Blk.row none 5 (O.rp r (.int .u8 0)) = .row none 5 (U (List.replicate n 0))
    rw [hu0]
  · intro ⟨i, j, row, c⟩ hh
    have hj : j = (i : Int) := hh.1
    have hi : i ≤ n := hh.2.1
    have hrl : row.length = n := hh.2.2.1
    have tc0 : Tp L c := hh.2.2.2.1
    have hrr : byF N B (n - i) i c row = (rf, d) := hh.2.2.2.2
    clear hh
    have hmk : True := trivial
    have hul := hUl row
    have hus := hUs row i
    cbv
    (repeat' (first
    | (refine q1 (by first | exact trivial | omega | (dsimp only; omega) | exact pow62 _ (by omega) | exact mul9 (by omega) (by omega) | (simp only [sm] at *; omega)) (fun z hz => ?_); (try simp only at hz); cbv)
    | (refine rq (by first | exact trivial | omega | (dsimp only; omega) | (simp only [sm] at *; omega)) ?_; cbv)
    | (refine QC.tt (by first | omega | (dsimp only; omega) | exact rfl | (simp only [sm] at *; omega)) ?_; cbv)
    | (refine QC.tt ?_ ?_; (focus (simp only [decide_true, Bool.and_true, Bool.and_self] <;> fail)); cbv)
    | (refine QC.ff ?_ ?_; (focus (simp only [decide_true, Bool.and_true, Bool.and_self, decide_false, Bool.false_and, reduceCtorEq, not_false_eq_true] <;> fail)); cbv)
    | (refine QC.ff (by first | omega | (dsimp only; omega) | (simp only [sm] at *; omega)) ?_; cbv)
    | (refine QC.mk (fun hc => ?_) (fun hc => ?_) <;> (try dsimp only at hc) <;> cbv)
    | (refine br_mk2 (fun hb => ?_) (fun hb => ?_) <;> (try subst hb) <;> cbv)))
    · have hlt : i < n := by (first | omega | (simp only [cst] at *; omega) | (simp only [sm] at *; omega))
      obtain ⟨dd5, dd6, dd7, dd8⟩ := hNB c 256 tc0 (by omega)
      have hkey : byF N B (n - (i + 1)) (i + 1) (B c) (row.set i (N c 256)) = (rf, d) := by
        have e : n - i = (n - (i + 1)) + 1 := by omega
        rw [e, byF] at hrr
        exact hrr
      obtain ⟨x, hx⟩ : ∃ x, x = N c 256 := ⟨_, rfl⟩
      obtain ⟨c2, hc2⟩ : ∃ y, y = B c := ⟨_, rfl⟩
      rw [← hx] at dd5 dd6 dd8 hkey
      rw [← hc2] at dd7 dd8 hkey
      have hv := hus x
      (refine callq (dd8) rfl rfl ?_; cbv; (repeat' (first
    | (refine q1 (by first | exact trivial | omega | (dsimp only; omega) | exact pow62 _ (by omega) | exact mul9 (by omega) (by omega) | (simp only [sm] at *; omega)) (fun z hz => ?_); (try simp only at hz); cbv)
    | (refine rq (by first | exact trivial | omega | (dsimp only; omega) | (simp only [sm] at *; omega)) ?_; cbv)
    | (refine QC.tt (by first | omega | (dsimp only; omega) | exact rfl | (simp only [sm] at *; omega)) ?_; cbv)
    | (refine QC.tt ?_ ?_; (focus (simp only [decide_true, Bool.and_true, Bool.and_self] <;> fail)); cbv)
    | (refine QC.ff ?_ ?_; (focus (simp only [decide_true, Bool.and_true, Bool.and_self, decide_false, Bool.false_and, reduceCtorEq, not_false_eq_true] <;> fail)); cbv)
    | (refine QC.ff (by first | omega | (dsimp only; omega) | (simp only [sm] at *; omega)) ?_; cbv)
    | (refine QC.mk (fun hc => ?_) (fun hc => ?_) <;> (try dsimp only at hc) <;> cbv)
    | (refine br_mk2 (fun hb => ?_) (fun hb => ?_) <;> (try subst hb) <;> cbv))))
      have ez : x = z := by (first | omega | (simp only [cst] at *; omega) | (simp only [sm] at *; omega))
      subst ez
      (refine qv (i) (by (first | omega | (simp only [cst] at *; omega) | (simp only [sm] at *; omega))) ?_; cbv; (repeat' (first
    | (refine q1 (by first | exact trivial | omega | (dsimp only; omega) | exact pow62 _ (by omega) | exact mul9 (by omega) (by omega) | (simp only [sm] at *; omega)) (fun z hz => ?_); (try simp only at hz); cbv)
    | (refine rq (by first | exact trivial | omega | (dsimp only; omega) | (simp only [sm] at *; omega)) ?_; cbv)
    | (refine QC.tt (by first | omega | (dsimp only; omega) | exact rfl | (simp only [sm] at *; omega)) ?_; cbv)
    | (refine QC.tt ?_ ?_; (focus (simp only [decide_true, Bool.and_true, Bool.and_self] <;> fail)); cbv)
    | (refine QC.ff ?_ ?_; (focus (simp only [decide_true, Bool.and_true, Bool.and_self, decide_false, Bool.false_and, reduceCtorEq, not_false_eq_true] <;> fail)); cbv)
    | (refine QC.ff (by first | omega | (dsimp only; omega) | (simp only [sm] at *; omega)) ?_; cbv)
    | (refine QC.mk (fun hc => ?_) (fun hc => ?_) <;> (try dsimp only at hc) <;> cbv)
    | (refine br_mk2 (fun hb => ?_) (fun hb => ?_) <;> (try subst hb) <;> cbv))))
      refine ⟨(i + 1, z, row.set i x, c2), ⟨by show z = ((i + 1 : Nat) : Int); (first | omega | (simp only [cst] at *; omega) | (simp only [sm] at *; omega)), by show i + 1 ≤ n; omega, by show (row.set i x).length = n; rw [List.length_set]; exact hrl, dd7, hkey⟩, by show n - (i + 1) < n - i; omega, ?_⟩
      cbv
      refine ⟨?_, trivial⟩
      show Blk.row none 5 (O.st (U row) i (.int .u8 x)) = .row none 5 (U (row.set i x))
      rw [hv]
    · have e : i = n := by (first | omega | (simp only [cst] at *; omega) | (simp only [sm] at *; omega))
      rw [e, Nat.sub_self, byF] at hrr
      injection hrr with hr1 hr2
      subst hr1; subst hr2
      exact ⟨rfl, rfl, rfl⟩
theorem bytes_f (L : List SV) (m : Int) (hm : 0 ≤ m ∧ m ≤ 1000) : ∃ (F : Int → List UInt8) (B : Int → Int), ∀ a, Tp L a → ((F a).length : Int) ≤ m ∧ Tp L (B a) ∧
    Good 23 (leN 54 (.agg [.lst none L, .int .i64 a]) [.int .i64 m] (.row 1) (.agg [.lst none L, .int .i64 (B a)]) (.row none 5 (u8l (F a)))) := by
  have h : ∀ a, ∃ p : List UInt8 × Int, Tp L a → (p.1.length : Int) ≤ m ∧ Tp L p.2 ∧
    Good 23 (leN 54 (.agg [.lst none L, .int .i64 a]) [.int .i64 m] (.row 1) (.agg [.lst none L, .int .i64 p.2]) (.row none 5 (u8l p.1))) := fun a => by
    by_cases h : Tp L a
    · obtain ⟨bs, b, h1, h2, h3⟩ := bytes_e h m hm
      exact ⟨(bs, b), fun _ => ⟨h1, h2, h3⟩⟩
    · exact ⟨([], 0), fun h' => absurd h' h⟩
  exact ⟨fun a => (Classical.choose (h a)).1, fun a => (Classical.choose (h a)).2, fun a ha => Classical.choose_spec (h a) ha⟩
theorem bool_f (L : List SV) (m : Int) (hm : 1 ≤ m ∧ m ≤ 1000) : ∃ (F : Int → Bool) (B : Int → Int), ∀ a, Tp L a → Tp L (B a) ∧
    Good 22 (le 54 (.agg [.lst none L, .int .i64 a]) [.int .i64 m] (.bool (F a)) (.agg [.lst none L, .int .i64 (B a)])) := by
  have h : ∀ a, ∃ p : Bool × Int, Tp L a → Tp L p.2 ∧
    Good 22 (le 54 (.agg [.lst none L, .int .i64 a]) [.int .i64 m] (.bool p.1) (.agg [.lst none L, .int .i64 p.2])) := fun a => by
    by_cases h : Tp L a
    · obtain ⟨bs, b, h1, h2⟩ := bool_e h m (by omega)
      exact ⟨(bs, b), fun _ => ⟨h1, h2⟩⟩
    · exact ⟨(false, 0), fun h' => absurd h' h⟩
  exact ⟨fun a => (Classical.choose (h a)).1, fun a => (Classical.choose (h a)).2, fun a ha => Classical.choose_spec (h a) ha⟩
def txF (T : Int → Bool) (B : Int → Int) (F : Int → List UInt8) (C : Int → Int) : Nat → Nat → Int → List Txn → List Txn × Int
  | 0, _, c, o => (o, c)
  | k + 1, a, c, o => if T c = true then txF T B F C k (a + 1) (C (B c)) (o ++ [⟨a, F (B c)⟩]) else txF T B F C k (a + 1) (B c) o
structure TxI (n a : Nat) (o : List Txn) : Prop where
  v : VT n o
  l : ∀ t ∈ o, t.f < a
  n : o.length ≤ a
theorem txI_snoc {n a : Nat} {o : List Txn} (h : TxI n a o) (ha : a < n) (b : List UInt8) (hb : b.length ≤ 127) : TxI n (a + 1) (o ++ [⟨a, b⟩]) := by
  refine ⟨fun i t ht => ?_, fun t ht => ?_, by have := h.n; simp; omega⟩
  · have hp : i ≤ o.length → prevF (o ++ [⟨(a : Int), b⟩]) i = prevF o i := fun hi => by
      unfold prevF
      split
      · rfl
      · rw [List.getElem?_append_left (by omega)]
    rw [List.getElem?_append] at ht
    split at ht
    · rename_i hi
      have := h.v i t ht
      exact ⟨by rw [hp (by omega)]; exact this.a, this.b, this.c⟩
    · rename_i hi
      rw [List.getElem?_singleton] at ht
      split at ht
      · injection ht with ht
        subst ht
        have hil : i = o.length := by omega
        refine ⟨?_, by dsimp only; omega, hb⟩
        rw [hp (by omega)]
        unfold prevF
        split
        · dsimp only; omega
        · rename_i h0
          have hlt : i - 1 < o.length := by omega
          rw [List.getElem?_eq_getElem hlt]
          exact h.l _ (List.getElem_mem hlt)
      · cases ht
  · rcases List.mem_append.1 ht with ht | ht
    · have := h.l t ht; omega
    · simp at ht; subst ht; dsimp only; omega
theorem txF_ok {L : List SV} {T : Int → Bool} {B : Int → Int} {F : Int → List UInt8} {C : Int → Int} (hB : ∀ a, Tp L a → Tp L (B a)) (hF : ∀ a, Tp L a → ((F a).length : Int) ≤ 5 ∧ Tp L (C a)) (n : Nat) : ∀ (k a : Nat) (c : Int) (o : List Txn), a + k ≤ n → Tp L c → TxI n a o → TxI n (a + k) (txF T B F C k a c o).1 ∧ Tp L (txF T B F C k a c o).2
  | 0, a, c, o, hn, hc, ho => ⟨ho, hc⟩
  | k + 1, a, c, o, hn, hc, ho => by
    have h1 := hB c hc
    obtain ⟨h2, h3⟩ := hF (B c) h1
    unfold txF
    split
    · have := txF_ok (T := T) hB hF n k (a + 1) (C (B c)) (o ++ [⟨a, F (B c)⟩]) (by omega) h3 (txI_snoc ho (by omega) _ (by omega))
      rw [show a + (k + 1) = a + 1 + k by omega]
      exact this
    · have := txF_ok (T := T) hB hF n k (a + 1) (B c) o (by omega) h1 ⟨ho.v, fun t ht => by have := ho.l t ht; omega, by have := ho.n; omega⟩
      rw [show a + (k + 1) = a + 1 + k by omega]
      exact this
theorem trans_e {L : List SV} {a : Int} (h : Tp L a) (M : List (List Int)) (W : List SV) (hW : W = matV M) (hM : M.length ≤ 100) : ∃ (tx : List Txn) (K : List SV) (b : Int), VT M.length tx ∧ tx.length ≤ M.length ∧ K = txL tx ∧ Tp L b ∧
    Good 14 (le 54 (.agg [.lst none L, .int .i64 a]) [.lst none W] (.lst (some 2) K) (.agg [.lst none L, .int .i64 b])) := by
  obtain ⟨T, B, hTB⟩ := bool_f L 3 (by omega)
  obtain ⟨F, C, hFC⟩ := bytes_f L 5 (by omega)
  have hok := txF_ok (T := T) (fun a ha => (hTB a ha).1) (fun a ha => ⟨(hFC a ha).1, (hFC a ha).2.1⟩) M.length M.length 0 a [] (by omega) h ⟨fun i t h => by simp at h, fun t h => by simp at h, by simp⟩
  generalize hfin : txF T B F C M.length 0 a [] = fin at hok
  obtain ⟨tx, d⟩ := fin
  obtain ⟨htx, td⟩ := hok
  rw [Nat.zero_add] at htx
  dsimp only at htx td
  obtain ⟨U, hU⟩ : ∃ U : List Txn → List SV, ∀ l, U l = txL l := ⟨_, fun _ => rfl⟩
  have hU0 : [] = U [] := by rw [hU]; rfl
  have hUl : ∀ l, (U l).length = l.length := fun l => by rw [hU, txL_len]
  have hUs : ∀ l f b, apL (U l) [.agg [.int .i64 f, .lst none (u8l b)]] = U (l ++ [⟨f, b⟩]) := fun l f b => by rw [apL_eq, hU, hU]; simp [txL, Txn.v]
  have hWl : W.length = M.length := by rw [hW, matV_len]
  refine ⟨tx, U tx, d, htx.v, htx.n, hU _, td, ?_⟩
  refine Good.of Tryd.func14 rfl (by rfl) (by kernel_rfl) ?_
  cbv
  (repeat' (first
    | (refine q1 (by first | exact trivial | omega | (dsimp only; omega) | exact pow62 _ (by omega) | exact mul9 (by omega) (by omega) | (simp only [sm] at *; omega)) (fun z hz => ?_); (try simp only at hz); cbv)
    | (refine rq (by first | exact trivial | omega | (dsimp only; omega) | (simp only [sm] at *; omega)) ?_; cbv)
    | (refine QC.tt (by first | omega | (dsimp only; omega) | exact rfl | (simp only [sm] at *; omega)) ?_; cbv)
    | (refine QC.tt ?_ ?_; (focus (simp only [decide_true, Bool.and_true, Bool.and_self] <;> fail)); cbv)
    | (refine QC.ff ?_ ?_; (focus (simp only [decide_true, Bool.and_true, Bool.and_self, decide_false, Bool.false_and, reduceCtorEq, not_false_eq_true] <;> fail)); cbv)
    | (refine QC.ff (by first | omega | (dsimp only; omega) | (simp only [sm] at *; omega)) ?_; cbv)
    | (refine QC.mk (fun hc => ?_) (fun hc => ?_) <;> (try dsimp only at hc) <;> cbv)
    | (refine br_mk2 (fun hb => ?_) (fun hb => ?_) <;> (try subst hb) <;> cbv)))
  refine loopQ (A := Nat × Int × List Txn × Int) (fun p => p.2.1 = p.1 ∧ p.1 ≤ M.length ∧ p.2.2.1.length ≤ p.1 ∧ Tp L p.2.2.2 ∧ txF T B F C (M.length - p.1) p.1 p.2.2.2 p.2.2.1 = (tx, d)) (fun p => M.length - p.1) (fun p => [(6, .int .i64 p.2.1), (5, .row 5)]) (fun p => [(0, .chunk 54 (.agg [.lst none L, .int .i64 p.2.2.2])), (5, .row (some 2) 34 (U p.2.2.1))])
    (0, 0, [], a) ⟨rfl, Nat.zero_le _, Nat.le_refl _, h, hfin⟩ ?_ ?_
  · cbv
    refine ⟨?_, trivial⟩
    show Blk.row (some 2) 34 [] = .row (some 2) 34 (U [])
    rw [← hU0]
  · intro ⟨i, j, o, c⟩ hh
    have hj : j = (i : Int) := hh.1
    have hi : i ≤ M.length := hh.2.1
    have hol : o.length ≤ i := hh.2.2.1
    have tc0 : Tp L c := hh.2.2.2.1
    have hrr : txF T B F C (M.length - i) i c o = (tx, d) := hh.2.2.2.2
    clear hh
    have hmk : True := trivial
    have hul := hUl o
    cbv
    (repeat' (first
    | (refine q1 (by first | exact trivial | omega | (dsimp only; omega) | exact pow62 _ (by omega) | exact mul9 (by omega) (by omega) | (simp only [sm] at *; omega)) (fun z hz => ?_); (try simp only at hz); cbv)
    | (refine rq (by first | exact trivial | omega | (dsimp only; omega) | (simp only [sm] at *; omega)) ?_; cbv)
    | (refine QC.tt (by first | omega | (dsimp only; omega) | exact rfl | (simp only [sm] at *; omega)) ?_; cbv)
    | (refine QC.tt ?_ ?_; (focus (simp only [decide_true, Bool.and_true, Bool.and_self] <;> fail)); cbv)
    | (refine QC.ff ?_ ?_; (focus (simp only [decide_true, Bool.and_true, Bool.and_self, decide_false, Bool.false_and, reduceCtorEq, not_false_eq_true] <;> fail)); cbv)
    | (refine QC.ff (by first | omega | (dsimp only; omega) | (simp only [sm] at *; omega)) ?_; cbv)
    | (refine QC.mk (fun hc => ?_) (fun hc => ?_) <;> (try dsimp only at hc) <;> cbv)
    | (refine br_mk2 (fun hb => ?_) (fun hb => ?_) <;> (try subst hb) <;> cbv)))
    · have hlt : i < M.length := by (first | omega | (simp only [cst] at *; omega) | (simp only [sm] at *; omega))
      obtain ⟨tb, gb⟩ := hTB c tc0
      obtain ⟨hfl, tc, gc⟩ := hFC (B c) tb
      have e : M.length - i = (M.length - (i + 1)) + 1 := by omega
      rw [e, txF] at hrr
      obtain ⟨tv, htv⟩ : ∃ x, x = T c := ⟨_, rfl⟩
      obtain ⟨bs, hbs⟩ : ∃ x, x = F (B c) := ⟨_, rfl⟩
      obtain ⟨c3, hc3⟩ : ∃ x, x = C (B c) := ⟨_, rfl⟩
      rw [← hbs] at hfl gc hrr
      rw [← hc3] at tc gc hrr
      obtain ⟨c2, hc2⟩ : ∃ x, x = B c := ⟨_, rfl⟩
      rw [← hc2] at tb gb gc hrr
      rw [← htv] at gb hrr
      have hus := hUs o i bs
      obtain ⟨XB, hXB⟩ : ∃ x, x = u8l bs := ⟨_, rfl⟩
      rw [← hXB] at gc hus
      (refine callq (gb) rfl rfl ?_; cbv; (repeat' (first
    | (refine q1 (by first | exact trivial | omega | (dsimp only; omega) | exact pow62 _ (by omega) | exact mul9 (by omega) (by omega) | (simp only [sm] at *; omega)) (fun z hz => ?_); (try simp only at hz); cbv)
    | (refine rq (by first | exact trivial | omega | (dsimp only; omega) | (simp only [sm] at *; omega)) ?_; cbv)
    | (refine QC.tt (by first | omega | (dsimp only; omega) | exact rfl | (simp only [sm] at *; omega)) ?_; cbv)
    | (refine QC.tt ?_ ?_; (focus (simp only [decide_true, Bool.and_true, Bool.and_self] <;> fail)); cbv)
    | (refine QC.ff ?_ ?_; (focus (simp only [decide_true, Bool.and_true, Bool.and_self, decide_false, Bool.false_and, reduceCtorEq, not_false_eq_true] <;> fail)); cbv)
    | (refine QC.ff (by first | omega | (dsimp only; omega) | (simp only [sm] at *; omega)) ?_; cbv)
    | (refine QC.mk (fun hc => ?_) (fun hc => ?_) <;> (try dsimp only at hc) <;> cbv)
    | (refine br_mk2 (fun hb => ?_) (fun hb => ?_) <;> (try subst hb) <;> cbv))))
      · rw [if_pos rfl] at hrr
        (refine callq (gc) rfl rfl ?_; cbv; (repeat' (first
    | (refine q1 (by first | exact trivial | omega | (dsimp only; omega) | exact pow62 _ (by omega) | exact mul9 (by omega) (by omega) | (simp only [sm] at *; omega)) (fun z hz => ?_); (try simp only at hz); cbv)
    | (refine rq (by first | exact trivial | omega | (dsimp only; omega) | (simp only [sm] at *; omega)) ?_; cbv)
    | (refine QC.tt (by first | omega | (dsimp only; omega) | exact rfl | (simp only [sm] at *; omega)) ?_; cbv)
    | (refine QC.tt ?_ ?_; (focus (simp only [decide_true, Bool.and_true, Bool.and_self] <;> fail)); cbv)
    | (refine QC.ff ?_ ?_; (focus (simp only [decide_true, Bool.and_true, Bool.and_self, decide_false, Bool.false_and, reduceCtorEq, not_false_eq_true] <;> fail)); cbv)
    | (refine QC.ff (by first | omega | (dsimp only; omega) | (simp only [sm] at *; omega)) ?_; cbv)
    | (refine QC.mk (fun hc => ?_) (fun hc => ?_) <;> (try dsimp only at hc) <;> cbv)
    | (refine br_mk2 (fun hb => ?_) (fun hb => ?_) <;> (try subst hb) <;> cbv))))
        refine ⟨(i + 1, z, o ++ [⟨i, bs⟩], c3), ⟨by show z = ((i + 1 : Nat) : Int); (first | omega | (simp only [cst] at *; omega) | (simp only [sm] at *; omega)), by show i + 1 ≤ M.length; omega, by show (o ++ [_]).length ≤ i + 1; rw [List.length_append, List.length_singleton]; omega, tc, hrr⟩, by show M.length - (i + 1) < M.length - i; omega, ?_⟩
        cbv
        refine ⟨?_, trivial⟩
        show Blk.row (some 2) 34 (apL (U o) [.agg [.int .i64 j, .lst none XB]]) = .row (some 2) 34 (U (o ++ [⟨i, bs⟩]))
        rw [hj, hus]
      · rw [if_neg (by simp)] at hrr
        refine ⟨(i + 1, z, o, c2), ⟨by show z = ((i + 1 : Nat) : Int); (first | omega | (simp only [cst] at *; omega) | (simp only [sm] at *; omega)), by show i + 1 ≤ M.length; omega, by show o.length ≤ i + 1; omega, tb, hrr⟩, by show M.length - (i + 1) < M.length - i; omega, ?_⟩
        cbv
        exact ⟨rfl, trivial⟩
    · have e : i = M.length := by (first | omega | (simp only [cst] at *; omega) | (simp only [sm] at *; omega))
      rw [e, Nat.sub_self, txF] at hrr
      injection hrr with hr1 hr2
      subst hr1; subst hr2
      exact ⟨rfl, rfl, rfl⟩
end Go.Proofs.YtbnphjniadiclaaDoor

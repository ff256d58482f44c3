/- Slots: contract of medium.ValidSlot. -/
import Derived.Test.YtligbjbkecmecaaDoorMB
import Derived.Test.YtligbjbkecmecaaDoorOM
namespace Go.Proofs.YtligbjbkecmecaaDoor
set_option linter.unusedVariables false
set_option linter.unusedSimpArgs false
open Go.RowKit
set_option maxHeartbeats 8000000
structure Txn where
  f : Int
  b : List UInt8
def Txn.v (x : Txn) : SV := .agg [.int .i64 x.f, .lst none (u8l x.b)]
def txL (l : List Txn) : List SV := l.map Txn.v
theorem txL_len (l : List Txn) : (txL l).length = l.length := by simp [txL]
theorem tx_at {l : List Txn} {K : List SV} (hK : K = txL l) (i : Nat) (hi : i < l.length) : ∃ f b B, l[i]? = some ⟨f, b⟩ ∧ B = u8l b ∧ K[i]? = some (.agg [.int .i64 f, .lst none B]) :=
  ⟨l[i].f, l[i].b, _, List.getElem?_eq_getElem hi, rfl, by rw [hK]; simp [txL, Txn.v, hi]⟩
def prevF (tx : List Txn) (i : Nat) : Int := if i = 0 then -1 else ((tx[i - 1]?).map Txn.f).getD (-1)
structure TxOk (n : Nat) (tx : List Txn) (i : Nat) (t : Txn) : Prop where
  a : prevF tx i < t.f
  b : t.f < n
  c : t.b.length ≤ 127
def VT (n : Nat) (tx : List Txn) : Prop := ∀ (i : Nat) (t : Txn), tx[i]? = some t → TxOk n tx i t
theorem prevF_succ {tx : List Txn} {i : Nat} {t : Txn} (h : tx[i]? = some t) : prevF tx (i + 1) = t.f := by simp [prevF, h]
theorem VT.lo {n : Nat} {tx : List Txn} (h : VT n tx) : ∀ (i : Nat) (t : Txn), tx[i]? = some t → 0 ≤ t.f
  | 0, t, ht => by have := (h 0 t ht).a; simp [prevF] at this; omega
  | i + 1, t, ht => by
    have hlt := (List.getElem?_eq_some_iff.1 ht).1
    have h1 : tx[i]? = some tx[i] := List.getElem?_eq_getElem (by omega)
    have := (h (i + 1) t ht).a
    rw [prevF_succ h1] at this
    have := VT.lo h i _ h1
    omega
theorem vslot_c (M : List (List Int)) (W : List SV) (hW : W = medV M) (hl : M.length ≤ 6000000000000) (hlr : ∀ r ∈ M, r.length ≤ 18000000000000) (tx : List Txn) (K : List SV) (hK : K = txL tx) (hlk : tx.length ≤ 6000000000000) (hlb : ∀ t ∈ tx, t.b.length ≤ 140737488351232) (b : Bool) (hb : b = true ↔ VM M ∧ VT M.length tx) :
    Good 6 (pu [.lst none W, .lst (some 2) K] (.bool b)) := by
  obtain ⟨b1, hb1⟩ : ∃ b, b = true ↔ VM M := ⟨@decide (VM M) (Classical.propDecidable _), by simp⟩
  have g1 := mvalid_c M W hW hl hlr b1 hb1
  have hWl : W.length = M.length := by rw [hW, matV_len]
  have hKl : K.length = tx.length := by rw [hK, txL_len]
  have hE := fun i hi => tx_at hK i hi
  have Wr : Wrap ((b1 = false → b = false) ∧ (∀ (i : Nat) (t : Txn), tx[i]? = some t → ¬ TxOk M.length tx i t → b = false) ∧ (b1 = true → VT M.length tx → b = true)) := by
    refine ⟨fun h => ?_, fun i t ht h => ?_, fun h1 h2 => hb.2 ⟨hb1.1 h1, h2⟩⟩
    · cases b with
      | false => rfl
      | true => have := hb1.2 (hb.1 rfl).1; rw [this] at h; cases h
    · cases b with
      | false => rfl
      | true => exact absurd ((hb.1 rfl).2 i t ht) h
  clear hb hb1
  refine Good.of Tryd.func6 rfl (by rfl) (by kernel_rfl) ?_
  cbv
  (repeat' (first
| (refine q1w (fun z hz => ?_); (try simp only at hz); cbv)
| (refine rqw ?_; cbv)
| (refine rqk ?_; cbv)
| (refine chpA ?_; cbv)
| (refine QC.tw ?_; cbv)
| (refine QC.t3 ?_; cbv)
| (refine QC.f3 ?_; cbv)
| (refine QC.fw ?_; cbv)
| (refine QC.mk (fun hc => ?_) (fun hc => ?_) <;> (try dsimp only at hc) <;> cbv)
| (refine br_mk2 (fun hb => ?_) (fun hb => ?_) <;> (try subst hb) <;> cbv)))
  (refine callq (g1) rfl rfl ?_; cbv; (repeat' (first
| (refine q1w (fun z hz => ?_); (try simp only at hz); cbv)
| (refine rqw ?_; cbv)
| (refine rqk ?_; cbv)
| (refine chpA ?_; cbv)
| (refine QC.tw ?_; cbv)
| (refine QC.t3 ?_; cbv)
| (refine QC.f3 ?_; cbv)
| (refine QC.fw ?_; cbv)
| (refine QC.mk (fun hc => ?_) (fun hc => ?_) <;> (try dsimp only at hc) <;> cbv)
| (refine br_mk2 (fun hb => ?_) (fun hb => ?_) <;> (try subst hb) <;> cbv))))
  · refine loopQ (A := Nat × Int × Int) (fun p => p.2.1 = p.1 ∧ p.1 ≤ tx.length ∧ p.2.2 = prevF tx p.1 ∧ ∀ (k : Nat) (t : Txn), tx[k]? = some t → k < p.1 → TxOk M.length tx k t) (fun p => tx.length - p.1) (fun p => [(13, .int .i64 p.2.1), (5, .int .i64 p.2.2)]) (fun p => []) (0, 0, -1) ⟨rfl, Nat.zero_le _, rfl, fun k y _ h => absurd h (Nat.not_lt_zero k)⟩ ?_ ?_
    · cbv
    · intro ⟨i, j, bf⟩ hh
      have hj : j = (i : Int) := hh.1
      have hi : i ≤ tx.length := hh.2.1
      have hbf : bf = prevF tx i := hh.2.2.1
      have hk := hh.2.2.2
      dsimp only at hk
      clear hh
      have hmk : True := trivial
      cbv
      (repeat' (first
| (refine q1w (fun z hz => ?_); (try simp only at hz); cbv)
| (refine rqw ?_; cbv)
| (refine rqk ?_; cbv)
| (refine chpA ?_; cbv)
| (refine QC.tw ?_; cbv)
| (refine QC.t3 ?_; cbv)
| (refine QC.f3 ?_; cbv)
| (refine QC.fw ?_; cbv)
| (refine QC.mk (fun hc => ?_) (fun hc => ?_) <;> (try dsimp only at hc) <;> cbv)
| (refine br_mk2 (fun hb => ?_) (fun hb => ?_) <;> (try subst hb) <;> cbv)))
      · have hlt : i < tx.length := by (first | omega | (simp only [cst] at *; omega) | (simp only [sm] at *; omega))
        obtain ⟨f, bs, B, ht, hB, hLi⟩ := hE i hlt
        have hBl : B.length = bs.length := by rw [hB, u8l_len]
        have hbl := hlb _ (List.mem_of_getElem? ht)
        (refine qv (i, _) ⟨hj, hLi⟩ ?_; cbv; (repeat' (first
| (refine q1w (fun z hz => ?_); (try simp only at hz); cbv)
| (refine rqw ?_; cbv)
| (refine rqk ?_; cbv)
| (refine chpA ?_; cbv)
| (refine QC.tw ?_; cbv)
| (refine QC.t3 ?_; cbv)
| (refine QC.f3 ?_; cbv)
| (refine QC.fw ?_; cbv)
| (refine QC.mk (fun hc => ?_) (fun hc => ?_) <;> (try dsimp only at hc) <;> cbv)
| (refine br_mk2 (fun hb => ?_) (fun hb => ?_) <;> (try subst hb) <;> cbv))))
        · refine ⟨?_, rfl, rfl⟩
          rw [Wr.h.2.1 i _ ht (fun h => by have := h.a; dsimp only at this; omega)]
        · refine ⟨?_, rfl, rfl⟩
          have hx : ¬ f < M.length := by (first | omega | (simp only [cst] at *; omega) | (simp only [sm] at *; omega))
          rw [Wr.h.2.1 i _ ht (fun h => hx h.b)]
        · refine ⟨?_, rfl, rfl⟩
          have hx : ¬ bs.length ≤ 127 := by (first | omega | (simp only [cst] at *; omega) | (simp only [sm] at *; omega))
          rw [Wr.h.2.1 i _ ht (fun h => hx h.c)]
        · have h1 : prevF tx i < f := by rw [← hbf]; (first | omega | (simp only [cst] at *; omega) | (simp only [sm] at *; omega))
          have h2 : f < M.length := by (first | omega | (simp only [cst] at *; omega) | (simp only [sm] at *; omega))
          have h3 : bs.length ≤ 127 := by (first | omega | (simp only [cst] at *; omega) | (simp only [sm] at *; omega))
          refine ⟨(i + 1, z, f), ⟨by show z = ((i + 1 : Nat) : Int); (first | omega | (simp only [cst] at *; omega) | (simp only [sm] at *; omega)), by show i + 1 ≤ tx.length; omega, (prevF_succ ht).symm, fun q t hq hqi => ?_⟩, by show tx.length - (i + 1) < tx.length - i; omega, ?_⟩
          · by_cases hqk : q = i
            · rw [hqk, ht] at hq; injection hq with hq; rw [hqk, ← hq]; exact ⟨h1, h2, h3⟩
            · exact hk q t hq (by have : q < i + 1 := hqi; omega)
          cbv
      · refine ⟨?_, rfl, rfl⟩
        have e : i = tx.length := by (first | omega | (simp only [cst] at *; omega) | (simp only [sm] at *; omega))
        rw [Wr.h.2.2 rfl (fun q t hq => hk q t hq (by have := (List.getElem?_eq_some_iff.1 hq).1; omega))]
  · refine ⟨?_, rfl, rfl⟩
    rw [Wr.h.1 rfl]
end Go.Proofs.YtligbjbkecmecaaDoor

/- Texts put together: PG. -/
import Derived.Test.YtplcajgoigpneaaZ32
namespace Go.Proofs.Ytplcajgoigpneaa
set_option linter.unusedVariables false
set_option linter.unusedSimpArgs false
open Go.RowKit
set_option maxHeartbeats 8000000
def SL (K : Nat) (n : Int) (A : Nat → Int) (h ti t : Int) (i : Nat) : List Sw := if i = 0 ∨ K ≤ i then [] else [⟨2, h, 0, ti, 2, h + 2, 0, t, n, n - A i, h + 12⟩]
theorem hop_f {bs : List UInt8} {g : Nat → Fr} {K : Nat} {n t0 : Int} {A : Nat → Int} (hs : FSeq bs g K n t0 A) (h ti t : Int) (hh : 0 ≤ h ∧ h ≤ 5) (hti : 0 ≤ ti ∧ ti ≤ 65535) (ht : 0 ≤ t ∧ t ≤ 65535) (i : Nat) (hi : i < K) :
    (∀ x ∈ SL K n A h ti t i, x.fits) ∧ (SL K n A h ti t i).length ≤ 1 ∧ fwdF (SL K n A h ti t i) 2 h 0 n ti (A i) (g i).b.length 2 (h + 2) 0 t h = ⟨SL K n A h ti t (i + 1), n, t, A i, true, 2, h + 2, 0, 0⟩ := by
  have hf := hs.fits hi
  have hl := hs.len i hi
  have hA1 := hs.rg (k := i) (by omega)
  have hA2 := hs.rg (k := i + 1) (by omega)
  have hlt := hs.lt i hi
  have hnb := hs.nb
  have htt : timeT h = true := decide_eq_true (by omega)
  have hsa : ∀ x : Int, someA 2 x 0 = true := fun x => by simp [someA]
  have hlast : i + 1 = K → n - A (i + 1) = 0 := fun e => by rw [e, hs.aK]; omega
  have hmore : i + 1 < K → 0 < n - A (i + 1) := fun e => by
    have h1 := hs.lt (i + 1) e
    have h2 := hs.rg (k := i + 1 + 1) (by omega)
    omega
  by_cases h0 : i = 0
  · subst h0
    have hS0 : SL K n A h ti t 0 = [] := by simp [SL]
    rw [hS0]
    refine ⟨by simp, by simp, ?_⟩
    have hA0 := hs.a0
    rw [hA0] at hf hl ⊢
    rw [fwdF_eq ⟨VS_nil, hsa h, hf.2.2.2, fun _ => hsa _⟩ htt]
    have hmin : min (h + 12) 1099511627776 = h + 12 := by omega
    simp only [fwdG, if_true, expF, List.filter_nil, List.findIdx?_nil, fwd1, List.any_nil, Bool.false_eq_true, if_false, List.length_nil, hmin]
    rw [if_neg (by omega)]
    by_cases e : (0 + 1) = K
    · have := hlast e
      rw [if_pos (by omega)]
      simp [SL, ← e]
    · have := hmore (by omega)
      rw [if_neg (by omega)]
      have e2 : ¬ (0 + 1 = 0 ∨ K ≤ 0 + 1) := by omega
      simp only [SL, if_neg e2, List.nil_append]
      rw [show n - ((g 0).b.length : Int) = n - A (0 + 1) by omega]
  · have e2 : ¬ (i = 0 ∨ K ≤ i) := by omega
    have hSi : SL K n A h ti t i = [⟨2, h, 0, ti, 2, h + 2, 0, t, n, n - A i, h + 12⟩] := by simp only [SL, if_neg e2]
    have hAi : 0 < A i := by have := hs.Kle i (by omega); omega
    rw [hSi]
    have hv : VS [⟨2, h, 0, ti, 2, h + 2, 0, t, n, n - A i, h + 12⟩] := VS_snoc (k := []) VS_nil (by simp) ⟨hsa h, hsa _, decide_eq_true (by dsimp only; omega), decide_eq_true (by dsimp only; omega)⟩ (by simp) (by simp)
    refine ⟨fun x hx => ?_, by simp, ?_⟩
    · simp only [List.mem_singleton] at hx
      subst hx
      exact ⟨by dsimp only; omega, by dsimp only; omega, by dsimp only; omega, by dsimp only; omega, by dsimp only; omega, by dsimp only; omega, by dsimp only; omega, by dsimp only; omega, by dsimp only; omega, by dsimp only; omega, by dsimp only; omega⟩
    · rw [fwdF_eq ⟨hv, hsa h, hf.2.2.2, fun _ => hsa _⟩ htt]
      have hE : expF [(⟨2, h, 0, ti, 2, h + 2, 0, t, n, n - A i, h + 12⟩ : Sw)] h = [⟨2, h, 0, ti, 2, h + 2, 0, t, n, n - A i, h + 12⟩] := by
        have : h < h + 12 := by omega
        simp [expF, this]
      have hF : List.findIdx? (hitI 2 h 0 ti) [(⟨2, h, 0, ti, 2, h + 2, 0, t, n, n - A i, h + 12⟩ : Sw)] = some 0 := by
        simp [List.findIdx?_cons, hitI]
      simp only [fwdG, if_neg (show ¬ A i = 0 by omega), hE, hF, List.getElem?_cons_zero, fwd2, if_true]
      by_cases e : i + 1 = K
      · have := hlast e
        rw [if_pos (by omega)]
        have e3 : (i + 1 = 0 ∨ K ≤ i + 1) := by omega
        simp only [SL, if_pos e3, delN]
        simp
      · have := hmore (by omega)
        rw [if_neg (by omega)]
        have e3 : ¬ (i + 1 = 0 ∨ K ≤ i + 1) := by omega
        simp only [SL, if_neg e3, List.set_cons_zero]
        rw [show n - A i - ((g i).b.length : Int) = n - A (i + 1) by omega]
theorem hop_c {bs : List UInt8} {g : Nat → Fr} {K : Nat} {n t0 : Int} {A : Nat → Int} (hs : FSeq bs g K n t0 A) {U : List Sw → List SV} (hU : ∀ l, U l = swL l) (h h2 ti t : Int) (hh : 0 ≤ h ∧ h ≤ 5) (hh2 : h2 = h + 2) (hti : 0 ≤ ti ∧ ti ≤ 65535) (ht : 0 ≤ t ∧ t ≤ 65535) (i : Nat) (hi : i < K) (X : List SV) (hX : X = u8l (g i).b) :
    Good 18 (pu [.lst (some 11) (U (SL K n A h ti t i)), .agg [.int .i64 2, .int .u16 h, .int .u64 0], .agg [.int .i64 n, .int .u16 ti, .int .i64 (A i), .lst none X], .agg [.int .i64 2, .int .u16 h2, .int .u64 0], .int .u16 t, .int .i64 h]
      (.tup [.lst (some 11) (U (SL K n A h ti t (i + 1))), .agg [.int .i64 n, .int .u16 t, .int .i64 (A i), .lst none X], .agg [.int .i64 2, .int .u16 h2, .int .u64 0], .int .i64 0])) := by
  obtain ⟨f1, f2, f3⟩ := hop_f hs h ti t hh hti ht i hi
  have hf := hs.fits hi
  have hA := hs.rg (k := i) (by omega)
  have hnb := hs.nb
  subst hh2
  have := (forward_p _ (U (SL K n A h ti t i)) (hU _) (by omega) f1 2 h 0 n ti (A i) X (g i).b.length (by rw [hX, u8l_len]) (by omega) (by omega) (by omega) 2 (h + 2) 0 t h _ f3.symm).1
  simpa only [FwR.v, if_true, ← hU] using this
def cellH (C : Nat → Nat → SV) (H i h : Nat) : List SV := (List.range H).map fun x => if x < h then C x (i + 1) else C x i
theorem cellH_ok (C : Nat → Nat → SV) (H : Nat) : ∃ CL : Nat → Nat → List SV, (∀ i h, (CL i h).length = H) ∧ (∀ i h, h < H → (CL i h)[h]? = some (C h i)) ∧ (∀ i h, h < H → O.st (CL i h) h (C h (i + 1)) = CL i (h + 1)) ∧ (∀ i, CL i H = CL (i + 1) 0) ∧
    (∀ v, (∀ h, h < H → C h 0 = v) → CL 0 0 = List.replicate H v) ∧ (∀ i h, h < H → (CL i 0)[h]? = some (C h i)) := by
  refine ⟨cellH C H, fun i h => by simp [cellH], fun i h hh => ?_, fun i h hh => ?_, fun i => ?_, fun v hv => ?_, fun i h hh => ?_⟩
  · rw [cellH, List.getElem?_map, List.getElem?_range hh]; simp
  · rw [ost]
    apply List.ext_getElem?
    intro x
    rw [List.getElem?_set]
    simp only [cellH, List.getElem?_map, List.length_map, List.length_range]
    by_cases hx : h = x
    · subst hx
      rw [if_pos rfl, if_pos hh, List.getElem?_range hh]
      simp
    · rw [if_neg hx]
      by_cases hxH : x < H
      · rw [List.getElem?_range hxH]
        simp only [Option.map_some]
        congr 1
        by_cases h1 : x < h
        · rw [if_pos h1, if_pos (by omega)]
        · rw [if_neg h1, if_neg (by omega)]
      · rw [List.getElem?_eq_none (by simpa using hxH)]; rfl
  · apply List.map_congr_left
    intro x hx
    rw [if_pos (List.mem_range.1 hx), if_neg (Nat.not_lt_zero x)]
  · simp only [cellH, Nat.not_lt_zero, if_false]
    rw [List.eq_replicate_iff]
    refine ⟨by simp, fun b hb => ?_⟩
    obtain ⟨x, hx, rfl⟩ := List.mem_map.1 hb
    exact hv x (List.mem_range.1 hx)
  · rw [cellH, List.getElem?_map, List.getElem?_range hh]; simp
end Go.Proofs.Ytplcajgoigpneaa

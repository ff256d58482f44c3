/- Texts put together: LN. -/
import Derived.Test.YtplcajgoigpneaaZ18
namespace Go.Proofs.Ytplcajgoigpneaa
set_option linter.unusedVariables false
set_option linter.unusedSimpArgs false
open Go.RowKit
set_option maxHeartbeats 8000000
structure FwR where
  R : List Sw
  n : Int
  t : Int
  o : Int
  p : Bool
  d : Int
  e : Int
  f : Int
  er : Int
def errR (er : Int) : FwR := ⟨[], 0, 0, 0, false, 0, 0, 0, er⟩
def fwd1 (k1 : List Sw) (a b c n t : Int) (len : Nat) (d e f u now : Int) : FwR :=
  if k1.any (hitO d e f u) = true then errR 8
  else if 8 ≤ k1.length then errR 10
  else ⟨if n - len ≤ 0 then k1 else k1 ++ [⟨a, b, c, t, d, e, f, u, n, n - len, min (now + 12) 1099511627776⟩], n, u, 0, true, d, e, f, 0⟩
def fwd2 (k : List Sw) (i : Nat) (n o : Int) (len : Nat) : Option Sw → FwR
  | none => errR 9
  | some x => if x.z = n then ⟨if x.l - len ≤ 0 then delN k i else k.set i ⟨x.a, x.b, x.c, x.t, x.d, x.e, x.f, x.u, n, x.l - len, x.w⟩, n, x.u, o, true, x.d, x.e, x.f, 0⟩ else errR 9
def fwdG (k : List Sw) (a b c n t o : Int) (len : Nat) (d e f u now : Int) : FwR :=
  if o = 0 then fwd1 (match k.findIdx? (hitI a b c t) with | none => k | some i => delN k i) a b c n t len d e f u now
  else (match k.findIdx? (hitI a b c t) with | none => errR 9 | some i => fwd2 k i n o len k[i]?)
open Classical in
noncomputable def fwdF (l : List Sw) (a b c n t o : Int) (len : Nat) (d e f u now : Int) : FwR :=
  if ForV l a b c n o len d e f then (if timeT now = true then fwdG (expF l now) a b c n t o len d e f u now else errR 2) else errR 1
def FwR.v (r : FwR) (X : List SV) : SV := .tup [.lst (some 11) (swL r.R), .agg [.int .i64 r.n, .int .u16 r.t, .int .i64 r.o, .lst none (if r.p = true then X else [])], .agg [.int .i64 r.d, .int .u16 r.e, .int .u64 r.f], .int .i64 r.er]
theorem errR_wk (er : Int) (X : List SV) : Wk (.tup [.lst (some 11) [], .agg [.int .i64 0, .int .u16 0, .int .i64 0, .nil], .agg [.int .i64 0, .int .u16 0, .int .u64 0], .int .i64 er]) ((errR er).v X) :=
  Wk.tup ⟨.rfl' _, Wk.agg ⟨.rfl' _, .rfl' _, .rfl' _, Wk.nil none, trivial⟩, .rfl' _, .rfl' _, trivial⟩
theorem idxI_none {p : Sw → Bool} {l : List Sw} (h : l.findIdx? p = none) : -1 = idxI p l := by unfold idxI; rw [h]
theorem idxI_some {p : Sw → Bool} {l : List Sw} {i : Nat} (h : l.findIdx? p = some i) : (i : Int) = idxI p l := by unfold idxI; rw [h]
theorem VS.sz {l : List Sw} (h : VS l) {i : Nat} {x : Sw} (hx : l[i]? = some x) : 1 ≤ x.z ∧ x.z ≤ 2047 ∧ 1 ≤ x.l ∧ x.l ≤ x.z := by
  have := h.2 i x hx
  simp only [ok1, Bool.and_eq_true] at this
  exact of_decide_eq_true this.1.1.1.2
theorem expF_mem {l : List Sw} {now : Int} {x : Sw} (h : x ∈ expF l now) : x ∈ l := (List.mem_filter.1 h).1
theorem VS.mem {l : List Sw} (h : VS l) {x : Sw} (hx : x ∈ l) : someA x.a x.b x.c = true ∧ someA x.d x.e x.f = true ∧ (1 ≤ x.z ∧ x.z ≤ 2047 ∧ 1 ≤ x.l ∧ x.l ≤ x.z) ∧ timeT x.w = true := by
  obtain ⟨i, hi⟩ := List.mem_iff_getElem?.1 hx
  have := h.2 i x hi
  simp only [ok1, Bool.and_eq_true] at this
  exact ⟨this.1.1.1.1.1, this.1.1.1.1.2, of_decide_eq_true this.1.1.1.2, this.1.1.2⟩
theorem forward_p (l : List Sw) (L : List SV) (hL : L = swL l) (hl : l.length ≤ 3600000000000) (hf : ∀ x ∈ l, x.fits) (a b c n t o : Int) (X : List SV) (len : Nat) (hX : X.length = len) (hlen : len ≤ 140737488355328) (hn : -9223372036854775808 ≤ n ∧ n ≤ 9223372036854775807) (ho : -9223372036854775808 ≤ o ∧ o ≤ 9223372036854775807) (d e f u now : Int)
    (r : FwR) (hr : r = fwdF l a b c n t o len d e f u now) :
    Good 18 (pu [.lst (some 11) L, .agg [.int .i64 a, .int .u16 b, .int .u64 c], .agg [.int .i64 n, .int .u16 t, .int .i64 o, .lst none X], .agg [.int .i64 d, .int .u16 e, .int .u64 f], .int .u16 u, .int .i64 now] (r.v X)) ∧
    Good 19 (pu [.lst (some 11) L, .agg [.int .i64 a, .int .u16 b, .int .u64 c], .agg [.int .i64 n, .int .u16 t, .int .i64 o, .lst none X], .agg [.int .i64 d, .int .u16 e, .int .u64 f], .int .u16 u, .int .i64 now] (r.v X)) := by
  unfold fwdF at hr
  by_cases h : ForV l a b c n o len d e f
  case neg =>
    rw [if_neg h] at hr
    subst hr
    exact ⟨Good.res (fwd_no l L hL hl hf a b c n t o X len hX hlen hn ho d e f u now 1 (.inl ⟨h, rfl⟩)) (errR_wk 1 X), Good.res (rfwd_no l L hL hl a b c n t o X len hX hlen hn ho d e f u now 1 (.inl ⟨h, rfl⟩)) (errR_wk 1 X)⟩
  rw [if_pos h] at hr
  by_cases ht : timeT now = true
  case neg =>
    rw [if_neg ht] at hr
    have ht : timeT now = false := by simpa using ht
    subst hr
    exact ⟨Good.res (fwd_no l L hL hl hf a b c n t o X len hX hlen hn ho d e f u now 2 (.inr ⟨h, ht, rfl⟩)) (errR_wk 2 X), Good.res (rfwd_no l L hL hl a b c n t o X len hX hlen hn ho d e f u now 2 (.inr ⟨h, ht, rfl⟩)) (errR_wk 2 X)⟩
  rw [if_pos ht] at hr
  obtain ⟨hv, hs, hok, hd⟩ := h
  obtain ⟨k, hk⟩ : ∃ k, k = expF l now := ⟨_, rfl⟩
  rw [← hk] at hr
  have hkl : k.length ≤ 8 := by rw [hk]; have := expF_len l now; have := hv.1; omega
  unfold fwdG at hr
  by_cases h0 : o = 0
  · subst h0
    rw [if_pos rfl] at hr
    have hd := hd rfl
    cases hi : k.findIdx? (hitI a b c t) with
    | none =>
      rw [hi] at hr
      simp only [fwd1] at hr
      by_cases h1 : k.any (hitO d e f u) = true
      · rw [if_pos h1] at hr
        subst hr
        exact ⟨Good.res (fwd_dup0 l L hL hf hv now ht a b c hs n t X len hX hok d e f u hd k hk (idxI_none hi) h1) (errR_wk 8 X), Good.res (rfwd_dup0 l L hL hv now ht a b c hs n t X len hX hok d e f u hd k hk (idxI_none hi) h1) (errR_wk 8 X)⟩
      · rw [if_neg h1] at hr
        have h1 : k.any (hitO d e f u) = false := by simpa using h1
        by_cases h2 : 8 ≤ k.length
        · rw [if_pos h2] at hr
          subst hr
          exact ⟨Good.res (fwd_full0 l L hL hf hv now ht a b c hs n t X len hX hok d e f u hd k hk (idxI_none hi) h1 (by omega)) (errR_wk 10 X), Good.res (rfwd_full0 l L hL hv now ht a b c hs n t X len hX hok d e f u hd k hk (idxI_none hi) h1 (by omega)) (errR_wk 10 X)⟩
        · rw [if_neg h2] at hr
          subst hr
          exact ⟨fwd_first0 l L hL hf hv now ht a b c hs n t X len hX hok d e f u hd k hk (idxI_none hi) k rfl (by omega) h1 _ rfl, rfwd_first0 l L hL hv now ht a b c hs n t X len hX hok d e f u hd k hk (idxI_none hi) k rfl (by omega) h1 _ rfl⟩
    | some i =>
      rw [hi] at hr
      simp only [fwd1] at hr
      have hil : i < k.length := (List.findIdx?_eq_some_iff_getElem.1 hi).1
      have hdl : (delN k i).length ≤ 7 := by simp [delN]; omega
      by_cases h1 : (delN k i).any (hitO d e f u) = true
      · rw [if_pos h1] at hr
        subst hr
        exact ⟨Good.res (fwd_dup1 l L hL hf hv now ht a b c hs n t X len hX hok d e f u hd k hk i (idxI_some hi) _ rfl h1) (errR_wk 8 X), Good.res (rfwd_dup1 l L hL hv now ht a b c hs n t X len hX hok d e f u hd k hk i (idxI_some hi) _ rfl h1) (errR_wk 8 X)⟩
      · rw [if_neg h1] at hr
        have h1 : (delN k i).any (hitO d e f u) = false := by simpa using h1
        rw [if_neg (by omega)] at hr
        subst hr
        exact ⟨fwd_first1 l L hL hf hv now ht a b c hs n t X len hX hok d e f u hd k hk i (idxI_some hi) _ rfl h1 _ rfl, rfwd_first1 l L hL hv now ht a b c hs n t X len hX hok d e f u hd k hk i (idxI_some hi) _ rfl h1 _ rfl⟩
  · rw [if_neg h0] at hr
    cases hi : k.findIdx? (hitI a b c t) with
    | none =>
      rw [hi] at hr
      subst hr
      exact ⟨Good.res (fwd_miss0 l L hL hf hv now ht a b c hs n t o X len hX hok h0 d e f u k hk (idxI_none hi)) (errR_wk 9 X), Good.res (rfwd_miss0 l L hL hv now ht a b c hs n t o X len hX hok h0 d e f u k hk (idxI_none hi)) (errR_wk 9 X)⟩
    | some i =>
      rw [hi] at hr
      have hil : i < k.length := (List.findIdx?_eq_some_iff_getElem.1 hi).1
      have hx : k[i]? = some k[i] := List.getElem?_eq_getElem hil
      have hsz := (hv.mem (expF_mem (l := l) (now := now) (by rw [← hk]; exact List.getElem_mem hil))).2.2.1
      dsimp only at hr
      rw [hx] at hr
      generalize k[i] = x at hx hr hsz
      obtain ⟨xa, xb, xc, xt, xd, xe, xf, xu, xz, xl, xw⟩ := x
      simp only [fwd2] at hr
      dsimp only at hsz
      by_cases hz : xz = n
      · rw [if_pos hz] at hr
        subst hz
        subst hr
        exact ⟨fwd_next1 l L hL hf hv now ht a b c hs xz t o X len hX hok h0 d e f u k hk i (idxI_some hi) xa xb xc xt xd xe xf xu xl xw hx (by omega) _ rfl, rfwd_next1 l L hL hv now ht a b c hs xz t o X len hX hok h0 d e f u k hk i (idxI_some hi) xa xb xc xt xd xe xf xu xl xw hx (by omega) _ rfl⟩
      · rw [if_neg hz] at hr
        subst hr
        exact ⟨Good.res (fwd_miss1 l L hL hf hv now ht a b c hs n t o X len hX hok h0 d e f u k hk i (idxI_some hi) xa xb xc xt xd xe xf xu xz xl xw hx hz) (errR_wk 9 X), Good.res (rfwd_miss1 l L hL hv now ht a b c hs n t o X len hX hok h0 d e f u k hk i (idxI_some hi) xa xb xc xt xd xe xf xu xz xl xw hx hz) (errR_wk 9 X)⟩
end Go.Proofs.Ytplcajgoigpneaa

/- Texts put together: LX. -/
import Derived.Test.YtplcajgoigpneaaZ27
namespace Go.Proofs.Ytplcajgoigpneaa
set_option linter.unusedVariables false
set_option linter.unusedSimpArgs false
open Go.RowKit
set_option maxHeartbeats 16000000
theorem expF_idem (l : List Sw) (now : Int) : expF (expF l now) now = expF l now := by simp [expF]
theorem apart_dup {l : List Sw} {now : Int} (hv : VS l) (hq : ∀ x ∈ l, RQ x) (ht : timeT now = true) {i : Nat} {a b c t d e f u z y w : Int} (hx : (expF l now)[i]? = some ⟨a, b, c, t, d, e, f, u, z, y, w⟩) : fwdF (expF l now) 2 77 0 30 999 0 8 d e f u now = errR 8 := by
  have hm := List.mem_of_getElem? hx
  have hv' := VS_sub hv (expF_sub l now)
  rw [fwdF_eq ⟨hv', by decide, by decide, fun _ => (hv'.mem hm).2.1⟩ ht, expF_idem]
  have h1 : (expF l now).findIdx? (hitI 2 77 0 999) = none := by
    rw [List.findIdx?_eq_none_iff]
    intro x hx
    have := (hq x (expF_mem hx)).b
    exact decide_eq_false (by omega)
  have h2 : (expF l now).any (hitO d e f u) = true := List.any_eq_true.2 ⟨_, hm, decide_eq_true ⟨rfl, rfl, rfl, rfl⟩⟩
  simp only [fwdG, if_true, h1, fwd1, h2]
theorem sep_at {l : List Sw} (hv : VS l) {i j : Nat} (hji : j < i) {a b c t d e f u z y w a2 b2 c2 t2 d2 e2 f2 u2 z2 y2 w2 : Int} (hx : l[i]? = some ⟨a, b, c, t, d, e, f, u, z, y, w⟩) (hy : l[j]? = some ⟨a2, b2, c2, t2, d2, e2, f2, u2, z2, y2, w2⟩) :
    ¬ (a2 = a ∧ b2 = b ∧ c2 = c ∧ t2 = t) ∧ ¬ (d2 = d ∧ e2 = e ∧ f2 = f ∧ u2 = u) := by
  have h3 := ((VS_iff l).1 hv).2.2
  rw [List.pairwise_iff_getElem] at h3
  obtain ⟨hi, h1⟩ := List.getElem?_eq_some_iff.1 hx
  obtain ⟨hj, h2⟩ := List.getElem?_eq_some_iff.1 hy
  have := h3 j i (by simpa using hj) (by simpa using hi) hji
  simp only [List.getElem_map, h1, h2, Sw.key, sepK] at this
  exact this
set_option maxRecDepth 6000 in
theorem apart_c (zs : List Int) (hz : ∀ v ∈ zs, -9223372036854775808 ≤ v ∧ v ≤ 9223372036854775807) :
    Good 7 (pu [.lst none (ints .i64 zs)] (.bool true)) := by
  obtain ⟨L, hL⟩ : ∃ L, L = (ints .i64 zs).take 400 := ⟨_, rfl⟩
  have g0 := new_c (ints .i64 zs) L hL
  have t0 : Tp L 0 := hL ▸ tape0 zs hz
  obtain ⟨U, hU⟩ : ∃ U : List Sw → List SV, ∀ l, U l = swL l := ⟨swL, fun _ => rfl⟩
  obtain ⟨l, now, b1, hv, hq, hw, t1, g1⟩ := reached_e t0 hU
  have ht : timeT now = true := decide_eq_true (by omega)
  obtain ⟨m, hm⟩ : ∃ m, m = expF l now := ⟨_, rfl⟩
  obtain ⟨M, hM⟩ : ∃ M, M = swL m := ⟨_, rfl⟩
  have g2 := expire_n l (U l) (hU l) (fun x hx => (hq x hx).f) now M (by rw [hM, hm]) hv ht
  have hvm : VS m := by rw [hm]; exact VS_sub hv (expF_sub l now)
  have hfm : ∀ x ∈ m, x.fits := fun x hx => (hq x (expF_mem (by rw [← hm]; exact hx))).f
  have hml := hvm.1
  have hMl : M.length = m.length := by rw [hM, swL_len]
  have hE := fun i hi => swL_at hM i hi
  have g3 := svalid_c m M hM (by omega) hfm true ⟨fun _ => hvm, fun _ => rfl⟩
  have gk := known_c
  obtain ⟨bs, hbs⟩ : ∃ bs : List UInt8, bs = List.replicate 30 0 := ⟨_, rfl⟩
  obtain ⟨X, hX⟩ : ∃ X : List SV, X = O.rp 30 (.int .u8 0) := ⟨_, rfl⟩
  have hXb : X = u8l bs := by rw [hX, orp, hbs, ← u8l_rep]; rfl
  obtain ⟨W, hW⟩ : ∃ W, W = splitL bs 999 13 4 := ⟨_, rfl⟩
  have g4 := cut_c bs X W 999 4 hXb (by rw [hbs]; simp) (by omega) (by rw [hbs]; decide) (by rw [hbs]; decide) hW
  obtain ⟨b0, hb0⟩ : ∃ b0 : List UInt8, b0 = List.replicate 8 0 := ⟨_, rfl⟩
  obtain ⟨X0, hX0⟩ : ∃ X, X = u8l b0 := ⟨_, rfl⟩
  have hW0 : W[0]? = some (.agg [.int .i64 30, .int .u16 999, .int .i64 0, .lst none X0]) := by rw [hW, splitL_frL, hX0, hb0, hbs]; rfl
  have g4 : Good 24 (pu [.lst none (O.rp 30 (.int .u8 0)), .int .u16 999] (.lst (some 4) W)) := hX ▸ g4
  have d7 := device_c 77 (by omega)
  have hF : ∀ (i : Nat) (a b c t d e f u z y w : Int), m[i]? = some ⟨a, b, c, t, d, e, f, u, z, y, w⟩ → Good 18 (pu [.lst (some 11) M, .agg [.int .i64 2, .int .u16 77, .int .u64 0], .agg [.int .i64 30, .int .u16 999, .int .i64 0, .lst none X0], .agg [.int .i64 d, .int .u16 e, .int .u64 f], .int .u16 u, .int .i64 now]
      (.tup [.lst (some 11) [], .agg [.int .i64 0, .int .u16 0, .int .i64 0, .lst none []], .agg [.int .i64 0, .int .u16 0, .int .u64 0], .int .i64 8])) := fun i a b c t d e f u z y w hx => by
    have := (forward_p m M hM (by omega) hfm 2 77 0 30 999 0 X0 8 (by rw [hX0, u8l_len, hb0]; simp) (by omega) (by omega) (by omega) d e f u now (errR 8) (by rw [hm] at hx ⊢; exact (apart_dup hv hq ht hx).symm)).1
    have hnil : swL [] = [] := rfl
    simpa only [FwR.v, errR, Bool.false_eq_true, if_false, hnil] using this
  have hsep : ∀ (i j : Nat), j < i → ∀ {a b c t d e f u z y w a2 b2 c2 t2 d2 e2 f2 u2 z2 y2 w2 : Int}, m[i]? = some ⟨a, b, c, t, d, e, f, u, z, y, w⟩ → m[j]? = some ⟨a2, b2, c2, t2, d2, e2, f2, u2, z2, y2, w2⟩ → ¬ (a2 = a ∧ b2 = b ∧ c2 = c ∧ t2 = t) ∧ ¬ (d2 = d ∧ e2 = e ∧ f2 = f ∧ u2 = u) := fun i j hji => sep_at hvm hji
  have WF := Wrap.mk hF
  have WS := Wrap.mk @hsep
  generalize ints .i64 zs = Z at g0 ⊢
  generalize U l = K at g1 g2
  clear hX hXb hW hX0 hb0 hbs hq hv hfm hvm hM hm hF hsep
  refine Good.of Try.func7 rfl (by rfl) (by kernel_rfl) ?_
  cbv
  (repeat' (first
| (refine q1w (fun z hz => ?_); (try simp only at hz); cbv)
| (refine rqw ?_; cbv)
| (refine rq (show kfitQ _ _ from by simp [kfitQ, IntKind.min, IntKind.max, IntKind.signed, IntKind.bits]; omega) ?_; cbv)
| (refine chpA ?_; cbv)
| (refine QC.tw ?_; cbv)
| (refine QC.tt ?_ ?_; (focus (simp only [decide_true, Bool.and_true, Bool.and_self] <;> fail)); cbv)
| (refine QC.ff ?_ ?_; (focus (simp only [decide_true, Bool.and_true, Bool.and_self, decide_false, Bool.false_and, reduceCtorEq, not_false_eq_true] <;> fail)); cbv)
| (refine QC.fw ?_; cbv)
| (refine QC.mk (fun hc => ?_) (fun hc => ?_) <;> (try dsimp only at hc) <;> cbv)
| (refine br_mk2 (fun hb => ?_) (fun hb => ?_) <;> (try subst hb) <;> cbv)))
  (refine callq (g0) rfl rfl ?_; cbv; (repeat' (first
| (refine q1w (fun z hz => ?_); (try simp only at hz); cbv)
| (refine rqw ?_; cbv)
| (refine rq (show kfitQ _ _ from by simp [kfitQ, IntKind.min, IntKind.max, IntKind.signed, IntKind.bits]; omega) ?_; cbv)
| (refine chpA ?_; cbv)
| (refine QC.tw ?_; cbv)
| (refine QC.tt ?_ ?_; (focus (simp only [decide_true, Bool.and_true, Bool.and_self] <;> fail)); cbv)
| (refine QC.ff ?_ ?_; (focus (simp only [decide_true, Bool.and_true, Bool.and_self, decide_false, Bool.false_and, reduceCtorEq, not_false_eq_true] <;> fail)); cbv)
| (refine QC.fw ?_; cbv)
| (refine QC.mk (fun hc => ?_) (fun hc => ?_) <;> (try dsimp only at hc) <;> cbv)
| (refine br_mk2 (fun hb => ?_) (fun hb => ?_) <;> (try subst hb) <;> cbv))))
  (refine callq (g1) rfl rfl ?_; cbv; (repeat' (first
| (refine q1w (fun z hz => ?_); (try simp only at hz); cbv)
| (refine rqw ?_; cbv)
| (refine rq (show kfitQ _ _ from by simp [kfitQ, IntKind.min, IntKind.max, IntKind.signed, IntKind.bits]; omega) ?_; cbv)
| (refine chpA ?_; cbv)
| (refine QC.tw ?_; cbv)
| (refine QC.tt ?_ ?_; (focus (simp only [decide_true, Bool.and_true, Bool.and_self] <;> fail)); cbv)
| (refine QC.ff ?_ ?_; (focus (simp only [decide_true, Bool.and_true, Bool.and_self, decide_false, Bool.false_and, reduceCtorEq, not_false_eq_true] <;> fail)); cbv)
| (refine QC.fw ?_; cbv)
| (refine QC.mk (fun hc => ?_) (fun hc => ?_) <;> (try dsimp only at hc) <;> cbv)
| (refine br_mk2 (fun hb => ?_) (fun hb => ?_) <;> (try subst hb) <;> cbv))))
  (refine callq (g2) rfl rfl ?_; cbv; (repeat' (first
| (refine q1w (fun z hz => ?_); (try simp only at hz); cbv)
| (refine rqw ?_; cbv)
| (refine rq (show kfitQ _ _ from by simp [kfitQ, IntKind.min, IntKind.max, IntKind.signed, IntKind.bits]; omega) ?_; cbv)
| (refine chpA ?_; cbv)
| (refine QC.tw ?_; cbv)
| (refine QC.tt ?_ ?_; (focus (simp only [decide_true, Bool.and_true, Bool.and_self] <;> fail)); cbv)
| (refine QC.ff ?_ ?_; (focus (simp only [decide_true, Bool.and_true, Bool.and_self, decide_false, Bool.false_and, reduceCtorEq, not_false_eq_true] <;> fail)); cbv)
| (refine QC.fw ?_; cbv)
| (refine QC.mk (fun hc => ?_) (fun hc => ?_) <;> (try dsimp only at hc) <;> cbv)
| (refine br_mk2 (fun hb => ?_) (fun hb => ?_) <;> (try subst hb) <;> cbv))))
  refine loopQ (A := Nat × Int) (fun p => p.2 = p.1 ∧ p.1 ≤ m.length) (fun p => m.length - p.1) (fun p => [(8, .int .i64 p.2)]) (fun p => []) (0, 0) ⟨rfl, Nat.zero_le _⟩ ?_ ?_
  · cbv
  · intro ⟨i, ii⟩ hh
    have hi : ii = (i : Int) := hh.1
    have hil : i ≤ m.length := hh.2
    clear hh
    have hmk : True := trivial
    cbv
    (repeat' (first
| (refine q1w (fun z hz => ?_); (try simp only at hz); cbv)
| (refine rqw ?_; cbv)
| (refine rq (show kfitQ _ _ from by simp [kfitQ, IntKind.min, IntKind.max, IntKind.signed, IntKind.bits]; omega) ?_; cbv)
| (refine chpA ?_; cbv)
| (refine QC.tw ?_; cbv)
| (refine QC.tt ?_ ?_; (focus (simp only [decide_true, Bool.and_true, Bool.and_self] <;> fail)); cbv)
| (refine QC.ff ?_ ?_; (focus (simp only [decide_true, Bool.and_true, Bool.and_self, decide_false, Bool.false_and, reduceCtorEq, not_false_eq_true] <;> fail)); cbv)
| (refine QC.fw ?_; cbv)
| (refine QC.mk (fun hc => ?_) (fun hc => ?_) <;> (try dsimp only at hc) <;> cbv)
| (refine br_mk2 (fun hb => ?_) (fun hb => ?_) <;> (try subst hb) <;> cbv)))
    · have hlt : i < m.length := by (first | omega | (simp only [cst] at *; omega) | (simp only [sm] at *; omega))
      obtain ⟨a, b, c, t, d, e, f, u, sz, y, w, hx, hLi⟩ := hE i hlt
      refine loopQ (A := Nat × Int) (fun p => p.2 = p.1 ∧ p.1 ≤ i) (fun p => i - p.1) (fun p => [(9, .int .i64 p.2)]) (fun p => []) (0, 0) ⟨rfl, Nat.zero_le _⟩ ?_ ?_
      · cbv
      · intro ⟨j, jj⟩ hh
        have hj : jj = (j : Int) := hh.1
        have hji : j ≤ i := hh.2
        clear hh
        have hmm : True := trivial
        cbv
        (repeat' (first
| (refine q1w (fun z hz => ?_); (try simp only at hz); cbv)
| (refine rqw ?_; cbv)
| (refine rq (show kfitQ _ _ from by simp [kfitQ, IntKind.min, IntKind.max, IntKind.signed, IntKind.bits]; omega) ?_; cbv)
| (refine chpA ?_; cbv)
| (refine QC.tw ?_; cbv)
| (refine QC.tt ?_ ?_; (focus (simp only [decide_true, Bool.and_true, Bool.and_self] <;> fail)); cbv)
| (refine QC.ff ?_ ?_; (focus (simp only [decide_true, Bool.and_true, Bool.and_self, decide_false, Bool.false_and, reduceCtorEq, not_false_eq_true] <;> fail)); cbv)
| (refine QC.fw ?_; cbv)
| (refine QC.mk (fun hc => ?_) (fun hc => ?_) <;> (try dsimp only at hc) <;> cbv)
| (refine br_mk2 (fun hb => ?_) (fun hb => ?_) <;> (try subst hb) <;> cbv)))
        · have hlt2 : j < i := by (first | omega | (simp only [cst] at *; omega) | (simp only [sm] at *; omega))
          obtain ⟨a2, b2, c2, t2, d2, e2, f2, u2, sz2, y2, w2, hy, hLj⟩ := hE j (by omega)
          have hs := WS.h i j hlt2 hx hy
          (repeat' (first
| (refine q1w (fun z hz => ?_); (try simp only at hz); cbv)
| (refine rqw ?_; cbv)
| (refine rq (show kfitQ _ _ from by simp [kfitQ, IntKind.min, IntKind.max, IntKind.signed, IntKind.bits]; omega) ?_; cbv)
| (refine chpA ?_; cbv)
| (refine QC.tw ?_; cbv)
| (refine QC.tt ?_ ?_; (focus (simp only [decide_true, Bool.and_true, Bool.and_self] <;> fail)); cbv)
| (refine QC.ff ?_ ?_; (focus (simp only [decide_true, Bool.and_true, Bool.and_self, decide_false, Bool.false_and, reduceCtorEq, not_false_eq_true] <;> fail)); cbv)
| (refine QC.fw ?_; cbv)
| (refine QC.mk (fun hc => ?_) (fun hc => ?_) <;> (try dsimp only at hc) <;> cbv)
| (refine br_mk2 (fun hb => ?_) (fun hb => ?_) <;> (try subst hb) <;> cbv)
| (refine qv (i) (by (first | omega | (simp only [cst] at *; omega) | (simp only [sm] at *; omega))) ?_; cbv)
| (refine qv (j) (by (first | omega | (simp only [cst] at *; omega) | (simp only [sm] at *; omega))) ?_; cbv)
| (refine qv _ (hLi) ?_; cbv)
| (refine qv _ (hLj) ?_; cbv)))
          all_goals first
            | (refine ⟨(j + 1, z), ⟨by show z = ((j + 1 : Nat) : Int); (first | omega | (simp only [cst] at *; omega) | (simp only [sm] at *; omega)), by show j + 1 ≤ i; omega⟩, by show i - (j + 1) < i - j; omega, ?_⟩
               cbv
               done)
            | (exfalso
               simp only [Bool.and_eq_true, decide_eq_true_eq, and_true] at *
               omega)
        · refine ⟨(i + 1, z), ⟨by show z = ((i + 1 : Nat) : Int); (first | omega | (simp only [cst] at *; omega) | (simp only [sm] at *; omega)), by show i + 1 ≤ m.length; omega⟩, by show m.length - (i + 1) < m.length - i; omega, ?_⟩
          cbv
    · (refine callq (g4) rfl rfl ?_; cbv; (repeat' (first
| (refine q1w (fun z hz => ?_); (try simp only at hz); cbv)
| (refine rqw ?_; cbv)
| (refine rq (show kfitQ _ _ from by simp [kfitQ, IntKind.min, IntKind.max, IntKind.signed, IntKind.bits]; omega) ?_; cbv)
| (refine chpA ?_; cbv)
| (refine QC.tw ?_; cbv)
| (refine QC.tt ?_ ?_; (focus (simp only [decide_true, Bool.and_true, Bool.and_self] <;> fail)); cbv)
| (refine QC.ff ?_ ?_; (focus (simp only [decide_true, Bool.and_true, Bool.and_self, decide_false, Bool.false_and, reduceCtorEq, not_false_eq_true] <;> fail)); cbv)
| (refine QC.fw ?_; cbv)
| (refine QC.mk (fun hc => ?_) (fun hc => ?_) <;> (try dsimp only at hc) <;> cbv)
| (refine br_mk2 (fun hb => ?_) (fun hb => ?_) <;> (try subst hb) <;> cbv))))
      (refine qv (0, _) ⟨rfl, hW0⟩ ?_; cbv; (repeat' (first
| (refine q1w (fun z hz => ?_); (try simp only at hz); cbv)
| (refine rqw ?_; cbv)
| (refine rq (show kfitQ _ _ from by simp [kfitQ, IntKind.min, IntKind.max, IntKind.signed, IntKind.bits]; omega) ?_; cbv)
| (refine chpA ?_; cbv)
| (refine QC.tw ?_; cbv)
| (refine QC.tt ?_ ?_; (focus (simp only [decide_true, Bool.and_true, Bool.and_self] <;> fail)); cbv)
| (refine QC.ff ?_ ?_; (focus (simp only [decide_true, Bool.and_true, Bool.and_self, decide_false, Bool.false_and, reduceCtorEq, not_false_eq_true] <;> fail)); cbv)
| (refine QC.fw ?_; cbv)
| (refine QC.mk (fun hc => ?_) (fun hc => ?_) <;> (try dsimp only at hc) <;> cbv)
| (refine br_mk2 (fun hb => ?_) (fun hb => ?_) <;> (try subst hb) <;> cbv))))
      refine loopQF [26] (A := Nat × Int) (fun p => p.2 = p.1 ∧ p.1 ≤ m.length) (fun p => m.length - p.1) (fun p => [(11, .int .i64 p.2)]) (fun p => [(13, .no), (14, .no)]) (0, 0) ⟨rfl, Nat.zero_le _⟩ ?_ ?_
      · cbv
      · intro ⟨i2, ii2⟩ hh
        have hi2 : ii2 = (i2 : Int) := hh.1
        have hil2 : i2 ≤ m.length := hh.2
        clear hh
        have hmk2 : True := trivial
        cbv
        (repeat' (first
| (refine q1w (fun z hz => ?_); (try simp only at hz); cbv)
| (refine rqw ?_; cbv)
| (refine rq (show kfitQ _ _ from by simp [kfitQ, IntKind.min, IntKind.max, IntKind.signed, IntKind.bits]; omega) ?_; cbv)
| (refine chpA ?_; cbv)
| (refine QC.tw ?_; cbv)
| (refine QC.tt ?_ ?_; (focus (simp only [decide_true, Bool.and_true, Bool.and_self] <;> fail)); cbv)
| (refine QC.ff ?_ ?_; (focus (simp only [decide_true, Bool.and_true, Bool.and_self, decide_false, Bool.false_and, reduceCtorEq, not_false_eq_true] <;> fail)); cbv)
| (refine QC.fw ?_; cbv)
| (refine QC.mk (fun hc => ?_) (fun hc => ?_) <;> (try dsimp only at hc) <;> cbv)
| (refine br_mk2 (fun hb => ?_) (fun hb => ?_) <;> (try subst hb) <;> cbv)))
        · have hlt : i2 < m.length := by (first | omega | (simp only [cst] at *; omega) | (simp only [sm] at *; omega))
          obtain ⟨a, b, c, t, d, e, f, u, sz, y, w, hx, hLi⟩ := hE i2 hlt
          have gF := WF.h i2 _ _ _ _ _ _ _ _ _ _ _ hx
          (repeat' (first
| (refine q1w (fun z hz => ?_); (try simp only at hz); cbv)
| (refine rqw ?_; cbv)
| (refine rq (show kfitQ _ _ from by simp [kfitQ, IntKind.min, IntKind.max, IntKind.signed, IntKind.bits]; omega) ?_; cbv)
| (refine chpA ?_; cbv)
| (refine QC.tw ?_; cbv)
| (refine QC.tt ?_ ?_; (focus (simp only [decide_true, Bool.and_true, Bool.and_self] <;> fail)); cbv)
| (refine QC.ff ?_ ?_; (focus (simp only [decide_true, Bool.and_true, Bool.and_self, decide_false, Bool.false_and, reduceCtorEq, not_false_eq_true] <;> fail)); cbv)
| (refine QC.fw ?_; cbv)
| (refine QC.mk (fun hc => ?_) (fun hc => ?_) <;> (try dsimp only at hc) <;> cbv)
| (refine br_mk2 (fun hb => ?_) (fun hb => ?_) <;> (try subst hb) <;> cbv)
| (refine callq (d7) rfl rfl ?_; cbv)
| (refine callq (gF) rfl rfl ?_; cbv)
| (refine qv (i2, _) ⟨hi2, hLi⟩ ?_; cbv)))
          refine ⟨(i2 + 1, z), ⟨by show z = ((i2 + 1 : Nat) : Int); (first | omega | (simp only [cst] at *; omega) | (simp only [sm] at *; omega)), by show i2 + 1 ≤ m.length; omega⟩, by show m.length - (i2 + 1) < m.length - i2; omega, ?_⟩
          cbv
        · (refine callq (gk) rfl rfl ?_; cbv; (repeat' (first
| (refine q1w (fun z hz => ?_); (try simp only at hz); cbv)
| (refine rqw ?_; cbv)
| (refine rq (show kfitQ _ _ from by simp [kfitQ, IntKind.min, IntKind.max, IntKind.signed, IntKind.bits]; omega) ?_; cbv)
| (refine chpA ?_; cbv)
| (refine QC.tw ?_; cbv)
| (refine QC.tt ?_ ?_; (focus (simp only [decide_true, Bool.and_true, Bool.and_self] <;> fail)); cbv)
| (refine QC.ff ?_ ?_; (focus (simp only [decide_true, Bool.and_true, Bool.and_self, decide_false, Bool.false_and, reduceCtorEq, not_false_eq_true] <;> fail)); cbv)
| (refine QC.fw ?_; cbv)
| (refine QC.mk (fun hc => ?_) (fun hc => ?_) <;> (try dsimp only at hc) <;> cbv)
| (refine br_mk2 (fun hb => ?_) (fun hb => ?_) <;> (try subst hb) <;> cbv))))
          (refine callq (g3) rfl rfl ?_; cbv; (repeat' (first
| (refine q1w (fun z hz => ?_); (try simp only at hz); cbv)
| (refine rqw ?_; cbv)
| (refine rq (show kfitQ _ _ from by simp [kfitQ, IntKind.min, IntKind.max, IntKind.signed, IntKind.bits]; omega) ?_; cbv)
| (refine chpA ?_; cbv)
| (refine QC.tw ?_; cbv)
| (refine QC.tt ?_ ?_; (focus (simp only [decide_true, Bool.and_true, Bool.and_self] <;> fail)); cbv)
| (refine QC.ff ?_ ?_; (focus (simp only [decide_true, Bool.and_true, Bool.and_self, decide_false, Bool.false_and, reduceCtorEq, not_false_eq_true] <;> fail)); cbv)
| (refine QC.fw ?_; cbv)
| (refine QC.mk (fun hc => ?_) (fun hc => ?_) <;> (try dsimp only at hc) <;> cbv)
| (refine br_mk2 (fun hb => ?_) (fun hb => ?_) <;> (try subst hb) <;> cbv))))
          exact ⟨rfl, rfl, rfl⟩
end Go.Proofs.Ytplcajgoigpneaa

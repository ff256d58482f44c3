/- Texts put together: LR. -/
import Derived.Test.YtplcajgoigpneaaZ24
namespace Go.Proofs.Ytplcajgoigpneaa
set_option linter.unusedVariables false
set_option linter.unusedSimpArgs false
open Go.RowKit
set_option maxHeartbeats 16000000
structure RQ (x : Sw) : Prop where
  f : x.fits
  b : x.b ≤ 4
theorem RQ.new {a b c n t d e f u : Int} (ha : 0 ≤ b ∧ b ≤ 4 ∧ 0 ≤ c ∧ c ≤ 18446744073709551615 ∧ 0 ≤ a ∧ a ≤ 3) (ht : 0 ≤ t ∧ t ≤ 65535) (hd : 0 ≤ e ∧ e ≤ 4 ∧ 0 ≤ f ∧ f ≤ 18446744073709551615 ∧ 0 ≤ d ∧ d ≤ 3) (hu : 0 ≤ u ∧ u ≤ 65535) (hn : 1 ≤ n ∧ n ≤ 2047) (z w : Int) (hz : 1 ≤ z ∧ z ≤ 2047) (hw : 0 ≤ w ∧ w ≤ 1099511627776) : RQ ⟨a, b, c, t, d, e, f, u, n, z, w⟩ :=
  ⟨⟨by dsimp only; omega, by dsimp only; omega, by dsimp only; omega, by dsimp only; omega, by dsimp only; omega, by dsimp only; omega, by dsimp only; omega, by dsimp only; omega, by dsimp only; omega, by dsimp only; omega, by dsimp only; omega⟩, ha.2.1⟩
theorem RQ.set {x : Sw} (h : RQ x) (z : Int) (hz : 1 ≤ z ∧ z ≤ 2047) : RQ ⟨x.a, x.b, x.c, x.t, x.d, x.e, x.f, x.u, x.z, z, x.w⟩ :=
  ⟨⟨h.f.a, h.f.b, h.f.c, h.f.t, h.f.d, h.f.e, h.f.f, h.f.u, h.f.z, by dsimp only; omega, h.f.w⟩, h.b⟩
structure RiS where
  j : Nat
  c : Int
  l : List Sw
structure RiI (L : List SV) (a : RiS) : Prop where
  tp : Tp L a.c
  v : VS a.l
  q : ∀ x ∈ a.l, RQ x
def RiR (U : List Sw → List SV) (L W : List SV) (now : Int) (a b : RiS) : Prop := ∃ (m1 s1 e1 c1 n t o : Int) (X : List SV) (m2 s2 e2 c2 tg : Int) (r : FwR) (Y : List SV),
  Good 13 (le 70 (.agg [.lst none L, .int .i64 a.c]) [] (.agg [.int .i64 m1, .int .u16 s1, .int .u64 e1]) (.agg [.lst none L, .int .i64 c1])) ∧
  W[a.j]? = some (.agg [.int .i64 n, .int .u16 t, .int .i64 o, .lst none X]) ∧
  Good 13 (le 70 (.agg [.lst none L, .int .i64 c1]) [] (.agg [.int .i64 m2, .int .u16 s2, .int .u64 e2]) (.agg [.lst none L, .int .i64 c2])) ∧
  Good 11 (le 70 (.agg [.lst none L, .int .i64 c2]) [.int .i64 9] (.int .i64 tg) (.agg [.lst none L, .int .i64 b.c])) ∧ (0 ≤ tg ∧ tg < 9) ∧
  Good 19 (pu [.lst (some 11) (U a.l), .agg [.int .i64 m1, .int .u16 s1, .int .u64 e1], .agg [.int .i64 n, .int .u16 t, .int .i64 o, .lst none X], .agg [.int .i64 m2, .int .u16 s2, .int .u64 e2], .int .u16 tg, .int .i64 now]
    (.tup [.lst (some 11) (U r.R), .agg [.int .i64 r.n, .int .u16 r.t, .int .i64 r.o, .lst none Y], .agg [.int .i64 r.d, .int .u16 r.e, .int .u64 r.f], .int .i64 r.er])) ∧
  (r.er = 0 → b.l = r.R) ∧ (r.er ≠ 0 → b.l = a.l) ∧ b.j = a.j + 1
theorem ri_round {U : List Sw → List SV} (hU : ∀ l, U l = swL l) {L W : List SV} {fs : List Fr} (hfs : Frs fs) (hW : W = frL fs) (now : Int) (a : RiS) (h : RiI L a) (hk : a.j < fs.length ∧ a.j < 2) : ∃ b, RiI L b ∧ 2 - b.j < 2 - a.j ∧ RiR U L W now a b := by
  obtain ⟨j, c, l⟩ := a
  have hk : j < fs.length ∧ j < 2 := hk
  obtain ⟨m1, s1, e1, c1, x1, x2, t1, g1⟩ := device_r h.tp
  obtain ⟨m2, s2, e2, c2, y1, y2, t2, g2⟩ := device_r t1
  obtain ⟨tg, c3, p1, p2, t3, g3⟩ := next_e t2 9 (by omega)
  have hf : fs[j]? = some fs[j] := List.getElem?_eq_getElem hk.1
  obtain ⟨f1, f2, f3⟩ := hfs fs[j] (List.getElem_mem hk.1)
  generalize fs[j] = f at hf f1 f2 f3
  have hWj : W[j]? = some (.agg [.int .i64 f.n, .int .u16 f.t, .int .i64 f.a, .lst none (u8l f.b)]) := by rw [hW, frL, List.getElem?_map, hf]; rfl
  have hfb := f1.b
  have g4 := (forward_p l (swL l) rfl (by have := h.v.1; dsimp only at this; omega) (fun x hx => (h.q x hx).f) m1 s1 e1 f.n f.t f.a (u8l f.b) f.b.length (u8l_len _) (by omega) f1.n f1.a m2 s2 e2 tg now _ rfl).2
  have hok := fwdF_ok RQ l m1 s1 e1 f.n f.t f.a f.b.length m2 s2 e2 tg now h.v h.q (fun _ _ hn _ z w hz hw => RQ.new x2 f1.t y2 (by omega) hn z w hz hw) (fun x z hx hz => hx.set z hz)
  generalize fwdF l m1 s1 e1 f.n f.t f.a f.b.length m2 s2 e2 tg now = r at g4 hok
  simp only [FwR.v, ← hU] at g4
  by_cases her : r.er = 0
  · exact ⟨⟨j + 1, c3, r.R⟩, ⟨t3, hok.1, hok.2⟩, by dsimp only; omega, m1, s1, e1, c1, _, _, _, _, m2, s2, e2, c2, tg, r, _, g1, hWj, g2, g3, ⟨p1, p2⟩, g4, fun _ => rfl, fun h => absurd her h, rfl⟩
  · exact ⟨⟨j + 1, c3, l⟩, ⟨t3, h.v, h.q⟩, by dsimp only; omega, m1, s1, e1, c1, _, _, _, _, m2, s2, e2, c2, tg, r, _, g1, hWj, g2, g3, ⟨p1, p2⟩, g4, fun h => absurd h her, fun _ => rfl, rfl⟩
structure RoS where
  k : Nat
  c : Int
  now : Int
  l : List Sw
structure RoI (L : List SV) (a : RoS) : Prop where
  tp : Tp L a.c
  n1 : 0 ≤ a.now
  n2 : a.now + 3 * a.k ≤ 62
  v : VS a.l
  q : ∀ x ∈ a.l, RQ x
def RoR (U : List Sw → List SV) (L : List SV) (a b : RoS) : Prop := ∃ (nf : Nat) (W : List SV) (c1 : Int) (fin : RiS) (S : RiS → Prop) (d : Int),
  Good 10 (le 70 (.agg [.lst none L, .int .i64 a.c]) [] (.lst (some 4) W) (.agg [.lst none L, .int .i64 c1])) ∧ W.length = nf ∧ nf ≤ 60 ∧
  S ⟨0, c1, a.l⟩ ∧ (∀ x, S x → x.j ≤ 2) ∧ (∀ x, S x → x.j < nf ∧ x.j < 2 → ∃ y, S y ∧ 2 - y.j < 2 - x.j ∧ RiR U L W a.now x y) ∧ (∀ x, S x → ¬ (x.j < nf ∧ x.j < 2) → x = fin) ∧
  Good 11 (le 70 (.agg [.lst none L, .int .i64 fin.c]) [.int .i64 3] (.int .i64 d) (.agg [.lst none L, .int .i64 b.c])) ∧ (0 ≤ d ∧ d < 3) ∧ b.now = a.now + d ∧ b.l = fin.l ∧ b.k + 1 = a.k
theorem ro_round {U : List Sw → List SV} (hU : ∀ l, U l = swL l) {L : List SV} (a : RoS) (h : RoI L a) (hk : 0 < a.k) : ∃ b, RoI L b ∧ b.k < a.k ∧ RoR U L a b := by
  obtain ⟨k, c, now, l⟩ := a
  have hk : 0 < k := hk
  have n1 : 0 ≤ now := h.n1
  have n2 : now + 3 * k ≤ 62 := h.n2
  obtain ⟨fs, W, c1, hfs, hl1, hl2, hW, t1, g1⟩ := fragments_e h.tp
  obtain ⟨fin, S, s0, sI, sR, sE, fI, fC⟩ := orbit (fun a : RiS => RiI L a ∧ a.j ≤ 2) (fun a => a.j < fs.length ∧ a.j < 2) (fun a => 2 - a.j) (RiR U L W now) (fun a ha hc => by
    obtain ⟨b, b1, b2, b3⟩ := ri_round hU hfs hW now a ha.1 hc
    obtain ⟨_, _, _, _, _, _, _, _, _, _, _, _, _, _, _, hb⟩ := id b3
    exact ⟨b, ⟨b1, by have := hb.2.2.2.2.2.2.2.2; omega⟩, b2, b3⟩) ⟨0, c1, l⟩ ⟨⟨t1, h.v, h.q⟩, by dsimp only; omega⟩
  obtain ⟨d, c3, p1, p2, t3, g3⟩ := next_e fI.1.tp 3 (by omega)
  exact ⟨⟨k - 1, c3, now + d, fin.l⟩, ⟨t3, by dsimp only; omega, by dsimp only; omega, fI.1.v, fI.1.q⟩, by dsimp only; omega, fs.length, W, c1, fin, S, d, g1, by rw [hW]; simp [frL], hl2, s0, fun x hx => (sI x hx).2, sR, sE, g3, ⟨p1, p2⟩, rfl, rfl, by dsimp only; omega⟩
end Go.Proofs.Ytplcajgoigpneaa

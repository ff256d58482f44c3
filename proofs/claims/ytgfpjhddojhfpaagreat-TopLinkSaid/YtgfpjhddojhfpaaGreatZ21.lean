/- Texts put together: LX. -/
import Derived.Test.YtgfpjhddojhfpaaGreatZ20
namespace Go.Proofs.YtgfpjhddojhfpaaGreat
set_option linter.unusedVariables false
set_option linter.unusedSimpArgs false
open Go.RowKit
set_option maxHeartbeats 8000000
set_option linter.unusedSimpArgs false
set_option linter.unusedVariables false
set_option maxRecDepth 20000 in
theorem link_c (zs : List Int) (hzs : ∀ v ∈ zs, -9223372036854775808 ≤ v ∧ v ≤ 9223372036854775807) (nn : Int) (hnn : -9223372036854775808 ≤ nn ∧ nn ≤ 9223372036854775807) (ds : List Int) (hds : ∀ d ∈ ds, 0 ≤ d ∧ d ≤ 255) (hdl : ds.length ≤ 140737488351232)
    (th bk : Int) (hth : -9223372036854775808 ≤ th ∧ th ≤ 9223372036854775807) (hbk : -9223372036854775808 ≤ bk ∧ bk ≤ 9223372036854775807) (g20 : Good 20 (pu [] (.bool true))) :
    Good 6 (pu [.lst none (ints .i64 zs), .int .i64 nn, .lst none (ints .u8 ds), .int .i64 th, .int .i64 bk] (.bool true)) := by
  obtain ⟨Z, hZ⟩ : ∃ Z, Z = ints .i64 zs := ⟨_, rfl⟩
  obtain ⟨D, hD⟩ : ∃ D, D = ints .u8 ds := ⟨_, rfl⟩
  rw [← hZ, ← hD]
  obtain ⟨R, hR⟩ : ∃ R, R = (ints .i64 zs).take 400 := ⟨_, rfl⟩
  have n1 := new_c (ints .i64 zs) R hR
  rw [← hZ] at n1
  have tp : Tp R 0 := ⟨⟨zs.take 400, by rw [hR]; simp [ints, List.map_take], fun v hv => hzs v (List.mem_of_mem_take hv), by rw [List.length_take]; omega⟩, by omega⟩
  obtain ⟨N, B, hNB⟩ := next_f tp
  obtain ⟨FB, BB, hFB⟩ := bytes_f R 4 (by omega)
  clear hR hZ hzs
  have n2 := mod_c nn 5 hnn (by omega)
  have n3 := mod_c th 257 hth (by omega)
  have n4 := mod_c bk 257 hbk (by omega)
  obtain ⟨n0, hn0⟩ : ∃ y, y = nn % 5 := ⟨_, rfl⟩
  obtain ⟨a, ha⟩ : ∃ y, y = th % 257 := ⟨_, rfl⟩
  obtain ⟨b, hb⟩ : ∃ y, y = bk % 257 := ⟨_, rfl⟩
  rw [← hn0] at n2
  rw [← ha] at n3
  rw [← hb] at n4
  have bn : 0 ≤ n0 ∧ n0 < 5 := by omega
  have ba : 0 ≤ a ∧ a ≤ 256 := by omega
  have bb : 0 ≤ b ∧ b ≤ 256 := by omega
  clear ha hb hn0
  obtain ⟨n, hn⟩ : ∃ n : Nat, 1 + n0 = n := Int.eq_ofNat_of_zero_le (by omega)
  have hn5 : 1 ≤ n ∧ n ≤ 5 := by omega
  obtain ⟨ps, hps0, hps⟩ : ∃ ps : Nat → Int, ps 0 = 0 ∧ ∀ i, ps (i + 1) = B (BB (ps i)) := ⟨fun i => Nat.rec 0 (fun _ x => B (BB x)) i, rfl, fun _ => rfl⟩
  have htp : ∀ i, Tp R (ps i) := fun i => by
    induction i with
    | zero => rw [hps0]; exact tp
    | succ i ih => rw [hps]; exact (hNB _ 100 ((hFB _ ih).2.1) (by omega)).2.2.1
  obtain ⟨F, hF⟩ : ∃ F, F = (List.range n).map (fun (i : Nat) => frT (i : Int) (u8l (FB (ps i)))) := ⟨_, rfl⟩
  have fok : Fok n F fun i => FB (ps i) := ⟨by rw [hF]; simp, fun i hi => ⟨by have := (hFB _ (htp i)).1; show (FB (ps i)).length ≤ 4; omega, by rw [hF]; simp [hi]⟩⟩
  clear hF
  obtain ⟨FT, hFT⟩ : ∃ FT : Nat → List SV, ∀ i, FT i = F.take i := ⟨_, fun _ => rfl⟩
  obtain ⟨PS, hPS⟩ : ∃ PS : Nat → List SV, ∀ i, PS i = u8l (FB (ps i)) := ⟨_, fun _ => rfl⟩
  have d0 := dev0
  have d1 := dev1
  refine Good.of Tryz.func6 rfl (by rfl) (by kernel_rfl) ?_
  cbv
  (repeat' (first
| (refine q1w (fun z hz => ?_); (try simp only at hz); cbv)
| (refine rqw ?_; cbv)
| (refine rqk ?_; cbv)
| (refine chpA ?_; cbv)
| (refine QC.tw ?_; cbv)
| (refine QC.t3 ?_; cbv)
| (refine QC.f3 ?_; cbv)
| (refine QC.fw ?_; cbv)
| (refine QC.mk (fun hc => ?_) (fun hc => ?_) <;> (try dsimp only at hc) <;> cbv)
| (refine br_mk2 (fun hb => ?_) (fun hb => ?_) <;> (try subst hb) <;> cbv)
| (refine callq (n1) rfl rfl ?_; cbv)
| (refine callq (n2) rfl rfl ?_; cbv)
| (refine callq (n3) rfl rfl ?_; cbv)
| (refine callq (n4) rfl rfl ?_; cbv)))
  have hn' : 1 + n0 = (n : Int) := hn
  have ez : z = (n : Int) := by omega
  have hn5' : 1 ≤ z ∧ z ≤ 5 := by omega
  clear hn hn' hz
  revert z
  intro nI hnI hnI5
  refine loopQ (A := Nat × Int × Int × Int × Int × Int × Int) (fun p => p.2.1 = p.1 ∧ p.1 ≤ n ∧ EI p.1 p.2.2.1 p.2.2.2.1 p.2.2.2.2.1 p.2.2.2.2.2.1 p.2.2.2.2.2.2) (fun p => n - p.1) (fun p => [(14, .int .i64 p.2.1)])
    (fun p => [(13, .chunk 117 (lkS (FT p.1) p.2.2.1 0 p.2.2.2.1 0 p.2.2.2.2.1 p.2.2.2.2.2.1 p.2.2.2.2.2.2 0)), (47, .chunk 144 (.agg [.lst none R, .int .i64 (ps p.1)]))]) (0, 0, 0, 0, 0, 0, 0) ⟨rfl, Nat.zero_le _, .inl ⟨rfl, rfl, rfl, rfl, rfl, rfl⟩⟩ ?_ ?_
  · cbv
    exact ⟨by rw [hFT]; rfl, by rw [hps0], trivial⟩
  intro ⟨i, j, ph, st, e, cl, w⟩ hh
  have hj : j = (i : Int) := hh.1
  have hi : i ≤ n := hh.2.1
  have hE := hh.2.2
  dsimp only at hE
  clear hh
  have f1 := hFB (ps i) (htp i)
  have f2 := hNB (BB (ps i)) 100 f1.2.1 (by omega)
  have g1 := f1.2.2
  have g2 := f2.2.2.2
  rw [← hPS] at g1
  have hmk : True := trivial
  cbv
  (repeat' (first
| (refine q1w (fun z hz => ?_); (try simp only at hz); cbv)
| (refine rqw ?_; cbv)
| (refine rqk ?_; cbv)
| (refine chpA ?_; cbv)
| (refine QC.tw ?_; cbv)
| (refine QC.t3 ?_; cbv)
| (refine QC.f3 ?_; cbv)
| (refine QC.fw ?_; cbv)
| (refine QC.mk (fun hc => ?_) (fun hc => ?_) <;> (try dsimp only at hc) <;> cbv)
| (refine br_mk2 (fun hb => ?_) (fun hb => ?_) <;> (try subst hb) <;> cbv)
| (refine callq (d1) rfl rfl ?_; cbv)
| (refine callq (d0) rfl rfl ?_; cbv)
| (refine callq (g1) rfl rfl ?_; cbv)
| (refine callq (g2) rfl rfl ?_; cbv)))
  · rename_i x1 e1
    have hnI' : nI = (n : Int) := hnI
    have hj' : j = (i : Int) := hj
    have hlt : i < n := by omega
    have ex1 : (i : Int) = x1 := by omega
    have hfn := f2.1
    have hfm := f2.2.1
    obtain ⟨ph', st', e', cl', w', c1, hE'⟩ := enq_any n i (by omega) F _ fok hlt ph st e cl w z hE (by omega)
    rw [ex1, ← hFT, ← hFT, ← hPS] at c1
    have c2 := Good.arg c1 (wkF3 _ _ x1 (PS i))
    refine callq c2 rfl rfl ?_
    cbv
    (repeat' (first
| (refine q1w (fun z hz => ?_); (try simp only at hz); cbv)
| (refine rqw ?_; cbv)
| (refine rqk ?_; cbv)
| (refine chpA ?_; cbv)
| (refine QC.tw ?_; cbv)
| (refine QC.t3 ?_; cbv)
| (refine QC.f3 ?_; cbv)
| (refine QC.fw ?_; cbv)
| (refine QC.mk (fun hc => ?_) (fun hc => ?_) <;> (try dsimp only at hc) <;> cbv)
| (refine br_mk2 (fun hb => ?_) (fun hb => ?_) <;> (try subst hb) <;> cbv)))
    have hj2 : j = (i : Int) := hj
    refine ⟨(i + 1, z, ph', st', e', cl', w'), ⟨by show z = ((i + 1 : Nat) : Int); omega, hlt, hE'⟩, by show n - (i + 1) < n - i; omega, ?_⟩
    cbv
    exact ⟨rfl, by rw [hps], trivial⟩
  have hnI' : nI = (n : Int) := hnI
  have hj' : j = (i : Int) := hj
  have hin : i = n := by omega
  have hFn : FT i = F := by rw [hFT, hin, ← fok.1, List.take_length]
  rw [hin] at hE
  obtain ⟨pos0, M0⟩ := EI.md hn5.1 hE
  clear hE f1 f2 g1 g2 d0 d1 hNB hFB
  obtain ⟨FQ, hFQ⟩ : ∃ FQ : Nat → List SV, ∀ i, FQ i = F.drop i := ⟨_, fun _ => rfl⟩
  obtain ⟨SL, hSL⟩ : ∃ SL : List Sn → List SV, ∀ l, SL l = snL l := ⟨_, fun _ => rfl⟩
  obtain ⟨GL, hGL⟩ : ∃ GL : List Nat → List SV, ∀ g, GL g = g.map (fun (k : Nat) => SV.int .u8 (k : Int)) := ⟨_, fun _ => rfl⟩
  (repeat' (first
| (refine q1w (fun z hz => ?_); (try simp only at hz); cbv)
| (refine rqw ?_; cbv)
| (refine rqk ?_; cbv)
| (refine chpA ?_; cbv)
| (refine QC.tw ?_; cbv)
| (refine QC.t3 ?_; cbv)
| (refine QC.f3 ?_; cbv)
| (refine QC.fw ?_; cbv)
| (refine QC.mk (fun hc => ?_) (fun hc => ?_) <;> (try dsimp only at hc) <;> cbv)
| (refine br_mk2 (fun hb => ?_) (fun hb => ?_) <;> (try subst hb) <;> cbv)))
  refine loopQF [57] (A := LS) (fun p => LSI n p) (fun p => 3000 - p.s) (fun p => [(23, .int .i64 p.si), (21, .int .i64 p.ni), (22, .int .i64 p.kj), (19, .bool p.ack), (20, .int .u8 p.ans), (17, .lst (some 5) (SL p.l)), (18, .row 18)])
    (fun p => [(13, .chunk 117 (lkS (FQ p.nx) p.ph p.a p.b0 p.b1 p.b2 p.b3 p.b4 p.lf)), (18, .row none 5 (GL p.g))]) ⟨0, 0, 0, 0, ph, 0, st, 0, e, cl, w, 0, [], [], false, 0, 0, 0⟩
    ⟨rfl, rfl, ⟨pos0, M0, by have := M0.pos; show (0 : Int) ≤ 48 * ((0 : Nat) : Int) + pos0; omega⟩, ⟨rfl, fun x hx => by simp at hx⟩, .nil, fun k hk => by simp at hk, ⟨rfl, Nat.zero_le _⟩, fun h => by cases h⟩ ?_ ?_
  · cbv
    exact ⟨⟨by rw [hSL]; rfl, trivial⟩, by show Blk.chunk 117 (lkS (FT i) ph 0 st 0 e cl w 0) = .chunk 117 (lkS (FQ 0) ph 0 st 0 e cl w 0); rw [hFn, hFQ, List.drop_zero], by rw [hGL]; rfl, trivial⟩
  intro ⟨s, si, nx, ni, ph, at_, b0, b1, b2, b3, b4, lf, l, g, ack, ans, k, kj⟩ hh
  have hsi : si = (s : Int) := hh.fs
  have hni : ni = (nx : Int) := hh.fn
  have hm := hh.fm
  have hsr := hh.fr
  have hga := hh.fg
  have hgb := hh.fb
  have hk := hh.fk
  have hak := hh.fa
  dsimp only at hm hsr hga hgb hk hak
  clear hh
  have hmk2 : True := trivial
  cbv
  (repeat' (first
| (refine q1w (fun z hz => ?_); (try simp only at hz); cbv)
| (refine rqw ?_; cbv)
| (refine rqk ?_; cbv)
| (refine chpA ?_; cbv)
| (refine QC.tw ?_; cbv)
| (refine QC.t3 ?_; cbv)
| (refine QC.f3 ?_; cbv)
| (refine QC.fw ?_; cbv)
| (refine QC.mk (fun hc => ?_) (fun hc => ?_) <;> (try dsimp only at hc) <;> cbv)
| (refine br_mk2 (fun hb => ?_) (fun hb => ?_) <;> (try subst hb) <;> cbv)))
  · have hq5 : (FQ nx).length ≤ 5 := by rw [hFQ, List.length_drop, fok.1]; omega
    refine rq (by show (((O.ln [] : Nat) : Int) + ((O.ln (FQ nx) : Nat) : Int)) * 120 ≤ _; simp only [oln, List.length_nil]; omega) ?_
    cbv
    (repeat' (first
| (refine q1w (fun z hz => ?_); (try simp only at hz); cbv)
| (refine rqw ?_; cbv)
| (refine rqk ?_; cbv)
| (refine chpA ?_; cbv)
| (refine QC.tw ?_; cbv)
| (refine QC.t3 ?_; cbv)
| (refine QC.f3 ?_; cbv)
| (refine QC.fw ?_; cbv)
| (refine QC.mk (fun hc => ?_) (fun hc => ?_) <;> (try dsimp only at hc) <;> cbv)
| (refine br_mk2 (fun hb => ?_) (fun hb => ?_) <;> (try subst hb) <;> cbv)))
    have hsi1 : si = (s : Int) := hsi
    have hni1 : ni = (nx : Int) := hni
    have hnI1 : nI = (n : Int) := hnI
    have hnlt : nx < n := by omega
    obtain ⟨pos, hM, hsp⟩ := hm
    have hMp := hM.pos
    have hsp1 : si ≤ 48 * (nx : Int) + pos := hsp
    have hs2 : s ≤ 239 := by omega
    obtain ⟨nx', ph', at', c0, c1, c2, c3, c4, lf', pos', sent, O, hc1, hM', hcase⟩ := step_any n nx hn5.2 F _ fok ph at_ b0 b1 b2 b3 b4 lf pos hM hnlt ack ans z (by omega) (fun h => ⟨(hak h).1, (hak h).2.1⟩)
    rw [← hFQ, ← hFQ] at hc1
    have hMp' := hM'.pos
    have hL0 : (FQ nx)[0]? = some (frT (nx : Int) (PS nx)) := by rw [hFQ, fok.c nx hnlt, hPS]; rfl
    have hQl : 1 ≤ (FQ nx).length := by rw [hFQ, List.length_drop, fok.1]; omega
    refine callq hc1 rfl rfl ?_
    cbv
    rcases hcase with ⟨hO, hx, hpp, hsent⟩ | ⟨P1, sn, a1, hO, hx, hsent, hsn⟩
    · have hx := hx.symm
      subst hx
      subst hO
      cases sent with
      | false =>
        have hmk4 : True := trivial
        cbv
        as_aux_lemma =>
          (repeat' (first
| ((refine unrollq 1 ?_))
| (refine q1w (fun z hz => ?_); (try simp only at hz); cbv)
| (refine rqw ?_; cbv)
| (refine rqk ?_; cbv)
| (refine chpA ?_; cbv)
| (refine QC.tw ?_; cbv)
| (refine QC.t3 ?_; cbv)
| (refine QC.f3 ?_; cbv)
| (refine QC.fw ?_; cbv)
| (refine QC.mk (fun hc => ?_) (fun hc => ?_) <;> (try dsimp only at hc) <;> cbv)
| (refine br_mk2 (fun hb => ?_) (fun hb => ?_) <;> (try subst hb) <;> cbv)))
          have hsi2 : si = (s : Int) := hsi
          have hpp2 : pos + 1 ≤ pos' := hpp
          have hsp2 : si ≤ 48 * (nx : Int) + pos := hsp
          refine ⟨⟨s + 1, z, nx, ni, ph', at', c0, c1, c2, c3, c4, lf', l, g, false, ans, k, kj⟩, ⟨by show z = ((s + 1 : Nat) : Int); omega, hni, ⟨pos', hM', by show z ≤ 48 * (nx : Int) + pos'; omega⟩, hsr, hga, hgb, ⟨hk.1, by have := hk.2; show k ≤ 2 * (s + 1); omega⟩, fun h => by cases h⟩, by show 3000 - (s + 1) < 3000 - s; omega, ?_⟩
          cbv
          exact ⟨⟨rfl, trivial⟩, rfl, rfl, trivial⟩
      | true =>
        cbv
        (repeat' (first
| (refine q1w (fun z hz => ?_); (try simp only at hz); cbv)
| (refine rqw ?_; cbv)
| (refine rqk ?_; cbv)
| (refine chpA ?_; cbv)
| (refine QC.tw ?_; cbv)
| (refine QC.t3 ?_; cbv)
| (refine QC.f3 ?_; cbv)
| (refine QC.fw ?_; cbv)
| (refine QC.mk (fun hc => ?_) (fun hc => ?_) <;> (try dsimp only at hc) <;> cbv)
| (refine br_mk2 (fun hb => ?_) (fun hb => ?_) <;> (try subst hb) <;> cbv)))
        refine qv 0 ⟨rfl, by rw [oln]; exact hQl⟩ ?_
        cbv
        (repeat' (first
| (refine q1w (fun z hz => ?_); (try simp only at hz); cbv)
| (refine rqw ?_; cbv)
| (refine rqk ?_; cbv)
| (refine chpA ?_; cbv)
| (refine QC.tw ?_; cbv)
| (refine QC.t3 ?_; cbv)
| (refine QC.f3 ?_; cbv)
| (refine QC.fw ?_; cbv)
| (refine QC.mk (fun hc => ?_) (fun hc => ?_) <;> (try dsimp only at hc) <;> cbv)
| (refine br_mk2 (fun hb => ?_) (fun hb => ?_) <;> (try subst hb) <;> cbv)))
        refine qv _ hL0 ?_
        cbv
        obtain ⟨E, hE⟩ : ∃ E, E = u8l (Ft nx (FB (ps nx))).enc := ⟨_, rfl⟩
        have hp4 : (FB (ps nx)).length ≤ 4 := (fok.2 nx hnlt).1
        have e1 := encT nx (by omega) (FB (ps nx)) hp4 (PS nx) E (hPS nx) hE
        have e2 := decT nx (by omega) (FB (ps nx)) hp4 (PS nx) E (hPS nx) hE
        obtain ⟨D1, hD1⟩ : ∃ D1, D1 = ints .u8 ((ds.drop k).take 1) := ⟨_, rfl⟩
        have e3 := draw_c ds D D1 hD k kj hk.1 (by omega) hdl hD1
        have e4 := delA a b ba bb _ E hE (encT_len nx (by omega) _ hp4) _ D1 hD1 (fun d hd => hds d (List.mem_of_mem_drop (List.mem_of_mem_take hd))) (List.length_take_le _ _)
        have hmk4 : True := trivial
        (repeat' (first
| (refine q1w (fun z hz => ?_); (try simp only at hz); cbv)
| (refine rqw ?_; cbv)
| (refine rqk ?_; cbv)
| (refine chpA ?_; cbv)
| (refine QC.tw ?_; cbv)
| (refine QC.t3 ?_; cbv)
| (refine QC.f3 ?_; cbv)
| (refine QC.fw ?_; cbv)
| (refine QC.mk (fun hc => ?_) (fun hc => ?_) <;> (try dsimp only at hc) <;> cbv)
| (refine br_mk2 (fun hb => ?_) (fun hb => ?_) <;> (try subst hb) <;> cbv)
| (refine callq (e1) rfl rfl ?_; cbv)
| (refine callq (e3) rfl rfl ?_; cbv)))
        rcases e4 with e4 | e4
        · refine callq e4 rfl rfl ?_
          cbv
          as_aux_lemma =>
            (repeat' (first
| ((refine unrollq 1 ?_))
| (refine q1w (fun z hz => ?_); (try simp only at hz); cbv)
| (refine rqw ?_; cbv)
| (refine rqk ?_; cbv)
| (refine chpA ?_; cbv)
| (refine QC.tw ?_; cbv)
| (refine QC.t3 ?_; cbv)
| (refine QC.f3 ?_; cbv)
| (refine QC.fw ?_; cbv)
| (refine QC.mk (fun hc => ?_) (fun hc => ?_) <;> (try dsimp only at hc) <;> cbv)
| (refine br_mk2 (fun hb => ?_) (fun hb => ?_) <;> (try subst hb) <;> cbv)))
            rename_i y1 f1 y2 f2 y3 f3
            have hsi2 : si = (s : Int) := hsi
            have hpp2 : pos + 1 ≤ pos' := hpp
            have hsp2 : si ≤ 48 * (nx : Int) + pos := hsp
            have hk1 : kj = (k : Int) := hk.1
            have hk2 : k ≤ 2 * s := hk.2
            refine ⟨⟨s + 1, z, nx, ni, ph', at', c0, c1, c2, c3, c4, lf', l, g, false, ans, k + 1, y1⟩, ⟨by show z = ((s + 1 : Nat) : Int); omega, hni, ⟨pos', hM', by show z ≤ 48 * (nx : Int) + pos'; omega⟩, hsr, hga, hgb, ⟨by show y1 = ((k + 1 : Nat) : Int); omega, by show k + 1 ≤ 2 * (s + 1); omega⟩, fun h => by cases h⟩, by show 3000 - (s + 1) < 3000 - s; omega, ?_⟩
            cbv
            exact ⟨⟨rfl, trivial⟩, rfl, rfl, trivial⟩
        · refine callq e4 rfl rfl ?_
          cbv
          (repeat' (first
| (refine q1w (fun z hz => ?_); (try simp only at hz); cbv)
| (refine rqw ?_; cbv)
| (refine rqk ?_; cbv)
| (refine chpA ?_; cbv)
| (refine QC.tw ?_; cbv)
| (refine QC.t3 ?_; cbv)
| (refine QC.f3 ?_; cbv)
| (refine QC.fw ?_; cbv)
| (refine QC.mk (fun hc => ?_) (fun hc => ?_) <;> (try dsimp only at hc) <;> cbv)
| (refine br_mk2 (fun hb => ?_) (fun hb => ?_) <;> (try subst hb) <;> cbv)))
          refine unrollq 2 ?_
          cbv
          (repeat' (first
| (refine q1w (fun z hz => ?_); (try simp only at hz); cbv)
| (refine rqw ?_; cbv)
| (refine rqk ?_; cbv)
| (refine chpA ?_; cbv)
| (refine QC.tw ?_; cbv)
| (refine QC.t3 ?_; cbv)
| (refine QC.f3 ?_; cbv)
| (refine QC.fw ?_; cbv)
| (refine QC.mk (fun hc => ?_) (fun hc => ?_) <;> (try dsimp only at hc) <;> cbv)
| (refine br_mk2 (fun hb => ?_) (fun hb => ?_) <;> (try subst hb) <;> cbv)
| ((refine qvIdx _ (by rfl) (by decide) ?_; cbv))
| (refine callq (e2) rfl rfl ?_; cbv)))
          have hsi3 : si = (s : Int) := hsi
          have hk1 : kj = (k : Int) := hk.1
          have hzz : 0 ≤ z ∧ z ≤ 2 := by
            have h1 := hz.1 (by omega)
            omega
          rename_i u1 v1 u2 v2
          have hu1 : u1 = ((k + 1 : Nat) : Int) := by omega
          obtain ⟨l', fr, r1, r2, r3⟩ := rec_any g l nx z hsr hga hgb (by omega) hzz
          rw [← hSL, ← hSL] at r1
          have e5 := ackT nx (PS nx) (by rw [hPS, u8l_len]; exact hp4)
          obtain ⟨A, hA⟩ : ∃ A, A = u8l ([128, 0, b8 (nx : Int)] ++ crcL [128, 0, b8 (nx : Int)]) := ⟨_, rfl⟩
          have e6 := encode_a nx (by omega) A hA
          obtain ⟨D2, hD2⟩ : ∃ D2, D2 = ints .u8 ((ds.drop (k + 1)).take 1) := ⟨_, rfl⟩
          have e7 := draw_c ds D D2 hD (k + 1) u1 hu1 (by have := hk.2; omega) hdl hD2
          have e8 := delB a b ba bb _ A hA (by rw [List.length_append]; show 3 + 2 ≤ 127; omega) _ D2 hD2 (fun d hd => hds d (List.mem_of_mem_drop (List.mem_of_mem_take hd))) (List.length_take_le _ _)
          cases fr with
          | true =>
            obtain ⟨hmem, hll⟩ := r2 rfl
            have hsr' : SeenR g l' := hll ▸ hsr
            have hmk5 : True := trivial
            refine callq r1 rfl rfl ?_
            cbv
            (repeat' (first
| (refine q1w (fun z hz => ?_); (try simp only at hz); cbv)
| (refine rqw ?_; cbv)
| (refine rqk ?_; cbv)
| (refine chpA ?_; cbv)
| (refine QC.tw ?_; cbv)
| (refine QC.t3 ?_; cbv)
| (refine QC.f3 ?_; cbv)
| (refine QC.fw ?_; cbv)
| (refine QC.mk (fun hc => ?_) (fun hc => ?_) <;> (try dsimp only at hc) <;> cbv)
| (refine br_mk2 (fun hb => ?_) (fun hb => ?_) <;> (try subst hb) <;> cbv)
| (refine callq (e5) rfl rfl ?_; cbv)
| (refine callq (e6) rfl rfl ?_; cbv)
| (refine callq (e7) rfl rfl ?_; cbv)))
            rcases e8 with e8 | e8
            · refine callq e8 rfl rfl ?_
              cbv
              as_aux_lemma =>
                (repeat' (first
| ((refine unrollq 1 ?_))
| (refine q1w (fun z hz => ?_); (try simp only at hz); cbv)
| (refine rqw ?_; cbv)
| (refine rqk ?_; cbv)
| (refine chpA ?_; cbv)
| (refine QC.tw ?_; cbv)
| (refine QC.t3 ?_; cbv)
| (refine QC.f3 ?_; cbv)
| (refine QC.fw ?_; cbv)
| (refine QC.mk (fun hc => ?_) (fun hc => ?_) <;> (try dsimp only at hc) <;> cbv)
| (refine br_mk2 (fun hb => ?_) (fun hb => ?_) <;> (try subst hb) <;> cbv)))
                rename_i y1 f1 y2 f2 y3 f3 y4 f4 y5 f5
                have hsi4 : si = (s : Int) := hsi
                have hpp2 : pos + 1 ≤ pos' := hpp
                have hsp2 : si ≤ 48 * (nx : Int) + pos := hsp
                have hu2 : u1 = ((k + 1 : Nat) : Int) := hu1
                have hk2 : k ≤ 2 * s := hk.2
                refine ⟨⟨s + 1, z, nx, ni, ph', at', c0, c1, c2, c3, c4, lf', l', g, false, ans, k + 2, y1⟩, ⟨by show z = ((s + 1 : Nat) : Int); omega, hni, ⟨pos', hM', by show z ≤ 48 * (nx : Int) + pos'; omega⟩, hsr', hga, hgb, ⟨by show y1 = ((k + 2 : Nat) : Int); omega, by show k + 2 ≤ 2 * (s + 1); omega⟩, fun h => by cases h⟩, by show 3000 - (s + 1) < 3000 - s; omega, ?_⟩
                cbv
                have hmk6 : True := trivial
                first | exact ⟨⟨rfl, trivial⟩, rfl, rfl, trivial⟩
            · refine callq e8 rfl rfl ?_
              cbv
              as_aux_lemma =>
                (repeat' (first
| ((refine unrollq 1 ?_))
| (refine q1w (fun z hz => ?_); (try simp only at hz); cbv)
| (refine rqw ?_; cbv)
| (refine rqk ?_; cbv)
| (refine chpA ?_; cbv)
| (refine QC.tw ?_; cbv)
| (refine QC.t3 ?_; cbv)
| (refine QC.f3 ?_; cbv)
| (refine QC.fw ?_; cbv)
| (refine QC.mk (fun hc => ?_) (fun hc => ?_) <;> (try dsimp only at hc) <;> cbv)
| (refine br_mk2 (fun hb => ?_) (fun hb => ?_) <;> (try subst hb) <;> cbv)))
                rename_i y1 f1 y2 f2 y3 f3 y4 f4 y5 f5
                have hsi4 : si = (s : Int) := hsi
                have hpp2 : pos + 1 ≤ pos' := hpp
                have hsp2 : si ≤ 48 * (nx : Int) + pos := hsp
                have hu2 : u1 = ((k + 1 : Nat) : Int) := hu1
                have hk2 : k ≤ 2 * s := hk.2
                refine ⟨⟨s + 1, z, nx, ni, ph', at', c0, c1, c2, c3, c4, lf', l', g, true, (nx : Int), k + 2, y1⟩, ⟨by show z = ((s + 1 : Nat) : Int); omega, hni, ⟨pos', hM', by show z ≤ 48 * (nx : Int) + pos'; omega⟩, hsr', hga, hgb, ⟨by show y1 = ((k + 2 : Nat) : Int); omega, by show k + 2 ≤ 2 * (s + 1); omega⟩, fun _ => ⟨hsent rfl, rfl, hmem⟩⟩, by show 3000 - (s + 1) < 3000 - s; omega, ?_⟩
                cbv
                have hmk6 : True := trivial
                first | exact ⟨⟨rfl, trivial⟩, rfl, rfl, trivial⟩
          | false =>
            obtain ⟨hnm, hsr', hga', hgb'⟩ := r3 rfl
            have hG5 : (GL g).length ≤ 5 := by rw [hGL, List.length_map]; have := asc_len g 0 5 hga fun k hk => ⟨Nat.zero_le _, by have := hgb k hk; omega⟩; omega
            have hGa : apL (GL g) [SV.int .u8 (Int.ofNat nx)] = GL (g ++ [nx]) := by rw [apL_eq, hGL, hGL, List.map_append]; rfl
            have hmk5 : True := trivial
            refine callq r1 rfl rfl ?_
            cbv
            (repeat' (first
| (refine q1w (fun z hz => ?_); (try simp only at hz); cbv)
| (refine rqw ?_; cbv)
| (refine rqk ?_; cbv)
| (refine chpA ?_; cbv)
| (refine QC.tw ?_; cbv)
| (refine QC.t3 ?_; cbv)
| (refine QC.f3 ?_; cbv)
| (refine QC.fw ?_; cbv)
| (refine QC.mk (fun hc => ?_) (fun hc => ?_) <;> (try dsimp only at hc) <;> cbv)
| (refine br_mk2 (fun hb => ?_) (fun hb => ?_) <;> (try subst hb) <;> cbv)
| (refine callq (e5) rfl rfl ?_; cbv)
| (refine callq (e6) rfl rfl ?_; cbv)
| (refine callq (e7) rfl rfl ?_; cbv)))
            rcases e8 with e8 | e8
            · refine callq e8 rfl rfl ?_
              cbv
              as_aux_lemma =>
                (repeat' (first
| ((refine unrollq 1 ?_))
| (refine q1w (fun z hz => ?_); (try simp only at hz); cbv)
| (refine rqw ?_; cbv)
| (refine rqk ?_; cbv)
| (refine chpA ?_; cbv)
| (refine QC.tw ?_; cbv)
| (refine QC.t3 ?_; cbv)
| (refine QC.f3 ?_; cbv)
| (refine QC.fw ?_; cbv)
| (refine QC.mk (fun hc => ?_) (fun hc => ?_) <;> (try dsimp only at hc) <;> cbv)
| (refine br_mk2 (fun hb => ?_) (fun hb => ?_) <;> (try subst hb) <;> cbv)))
                rename_i y1 f1 y2 f2 y3 f3 y4 f4 y5 f5
                have hsi4 : si = (s : Int) := hsi
                have hpp2 : pos + 1 ≤ pos' := hpp
                have hsp2 : si ≤ 48 * (nx : Int) + pos := hsp
                have hu2 : u1 = ((k + 1 : Nat) : Int) := hu1
                have hk2 : k ≤ 2 * s := hk.2
                refine ⟨⟨s + 1, z, nx, ni, ph', at', c0, c1, c2, c3, c4, lf', l', g ++ [nx], false, ans, k + 2, y1⟩, ⟨by show z = ((s + 1 : Nat) : Int); omega, hni, ⟨pos', hM', by show z ≤ 48 * (nx : Int) + pos'; omega⟩, hsr', hga', hgb', ⟨by show y1 = ((k + 2 : Nat) : Int); omega, by show k + 2 ≤ 2 * (s + 1); omega⟩, fun h => by cases h⟩, by show 3000 - (s + 1) < 3000 - s; omega, ?_⟩
                cbv
                have hmk6 : True := trivial
                first | exact ⟨⟨rfl, trivial⟩, rfl, congrArg (Blk.row none 5) hGa, trivial⟩
            · refine callq e8 rfl rfl ?_
              cbv
              as_aux_lemma =>
                (repeat' (first
| ((refine unrollq 1 ?_))
| (refine q1w (fun z hz => ?_); (try simp only at hz); cbv)
| (refine rqw ?_; cbv)
| (refine rqk ?_; cbv)
| (refine chpA ?_; cbv)
| (refine QC.tw ?_; cbv)
| (refine QC.t3 ?_; cbv)
| (refine QC.f3 ?_; cbv)
| (refine QC.fw ?_; cbv)
| (refine QC.mk (fun hc => ?_) (fun hc => ?_) <;> (try dsimp only at hc) <;> cbv)
| (refine br_mk2 (fun hb => ?_) (fun hb => ?_) <;> (try subst hb) <;> cbv)))
                rename_i y1 f1 y2 f2 y3 f3 y4 f4 y5 f5
                have hsi4 : si = (s : Int) := hsi
                have hpp2 : pos + 1 ≤ pos' := hpp
                have hsp2 : si ≤ 48 * (nx : Int) + pos := hsp
                have hu2 : u1 = ((k + 1 : Nat) : Int) := hu1
                have hk2 : k ≤ 2 * s := hk.2
                refine ⟨⟨s + 1, z, nx, ni, ph', at', c0, c1, c2, c3, c4, lf', l', g ++ [nx], true, (nx : Int), k + 2, y1⟩, ⟨by show z = ((s + 1 : Nat) : Int); omega, hni, ⟨pos', hM', by show z ≤ 48 * (nx : Int) + pos'; omega⟩, hsr', hga', hgb', ⟨by show y1 = ((k + 2 : Nat) : Int); omega, by show k + 2 ≤ 2 * (s + 1); omega⟩, fun _ => ⟨hsent rfl, rfl, by simp⟩⟩, by show 3000 - (s + 1) < 3000 - s; omega, ?_⟩
                cbv
                have hmk6 : True := trivial
                first | exact ⟨⟨rfl, trivial⟩, rfl, congrArg (Blk.row none 5) hGa, trivial⟩
    · subst hx
      subst hO
      subst hsent
      as_aux_lemma =>
        obtain ⟨AR, AR0, ARs, ARn⟩ := anyF g nx
        have hGt : ∀ (i x : Nat), g[i]? = some x → (GL g)[i]? = some (.int .u8 (x : Int)) := fun i x h => by rw [hGL, List.getElem?_map, h]; rfl
        have hGl : (GL g).length = g.length := by rw [hGL, List.length_map]
        have hG5 : g.length ≤ 5 := by have := asc_len g 0 5 hga fun k hk => ⟨Nat.zero_le _, by have := hgb k hk; omega⟩; omega
        have hmk4 : True := trivial
        cbv
        (repeat' (first
| (refine q1w (fun z hz => ?_); (try simp only at hz); cbv)
| (refine rqw ?_; cbv)
| (refine rqk ?_; cbv)
| (refine chpA ?_; cbv)
| (refine QC.tw ?_; cbv)
| (refine QC.t3 ?_; cbv)
| (refine QC.f3 ?_; cbv)
| (refine QC.fw ?_; cbv)
| (refine QC.mk (fun hc => ?_) (fun hc => ?_) <;> (try dsimp only at hc) <;> cbv)
| (refine br_mk2 (fun hb => ?_) (fun hb => ?_) <;> (try subst hb) <;> cbv)))
        refine unrollq 2 ?_
        cbv
        (repeat' (first
| (refine q1w (fun z hz => ?_); (try simp only at hz); cbv)
| (refine rqw ?_; cbv)
| (refine rqk ?_; cbv)
| (refine chpA ?_; cbv)
| (refine QC.tw ?_; cbv)
| (refine QC.t3 ?_; cbv)
| (refine QC.f3 ?_; cbv)
| (refine QC.fw ?_; cbv)
| (refine QC.mk (fun hc => ?_) (fun hc => ?_) <;> (try dsimp only at hc) <;> cbv)
| (refine br_mk2 (fun hb => ?_) (fun hb => ?_) <;> (try subst hb) <;> cbv)))
        refine loopQ (A := Nat × Int × Bool) (fun p => p.2.1 = p.1 ∧ p.1 ≤ g.length ∧ p.2.2 = AR p.1) (fun p => g.length - p.1) (fun p => [(44, .int .i64 p.2.1), (43, .bool p.2.2)]) (fun p => []) (0, 0, false) ⟨rfl, Nat.zero_le _, AR0.symm⟩ ?_ ?_
        · cbv
        intro ⟨jj, jx, ar⟩ hp
        have hjx : jx = (jj : Int) := hp.1
        have hjl : jj ≤ g.length := hp.2.1
        have har : ar = AR jj := hp.2.2
        clear hp
        have hjb : 0 ≤ jx ∧ jx ≤ 5 := by omega
        have hmk5 : True := trivial
        cbv
        (repeat' (first
| (refine q1w (fun z hz => ?_); (try simp only at hz); cbv)
| (refine rqw ?_; cbv)
| (refine rqk ?_; cbv)
| (refine chpA ?_; cbv)
| (refine QC.tw ?_; cbv)
| (refine QC.t3 ?_; cbv)
| (refine QC.f3 ?_; cbv)
| (refine QC.fw ?_; cbv)
| (refine QC.mk (fun hc => ?_) (fun hc => ?_) <;> (try dsimp only at hc) <;> cbv)
| (refine br_mk2 (fun hb => ?_) (fun hb => ?_) <;> (try subst hb) <;> cbv)))
        · have hjx1 : jx = (jj : Int) := hjx
          rename_i zl hzl
          have hl1 : zl = (g.length : Int) := hzl.trans (by show ((O.ln (GL g) : Nat) : Int) = _; rw [oln, hGl])
          have hlt : jj < g.length := by omega
          obtain ⟨y, hy⟩ : ∃ y, g[jj]? = some y := ⟨_, List.getElem?_eq_getElem hlt⟩
          refine ⟨(jj + 1, z, true), ⟨by show z = ((jj + 1 : Nat) : Int); omega, hlt, by show true = AR (jj + 1); rw [ARs jj y hy, ← har]; rfl⟩, by show g.length - (jj + 1) < g.length - jj; omega, ?_⟩
          cbv
        · have hjx1 : jx = (jj : Int) := hjx
          have hl1 : z = (g.length : Int) := hz.trans (by show ((O.ln (GL g) : Nat) : Int) = _; rw [oln, hGl])
          have hlt : jj < g.length := by omega
          obtain ⟨y, hy⟩ : ∃ y, g[jj]? = some y := ⟨_, List.getElem?_eq_getElem hlt⟩
          have hst := ARs jj y hy
          rw [← har] at hst
          refine qv jj ⟨hjx, by rw [oln, hGl]; exact hlt⟩ ?_
          cbv
          (repeat' (first
| (refine q1w (fun z hz => ?_); (try simp only at hz); cbv)
| (refine rqw ?_; cbv)
| (refine rqk ?_; cbv)
| (refine chpA ?_; cbv)
| (refine QC.tw ?_; cbv)
| (refine QC.t3 ?_; cbv)
| (refine QC.f3 ?_; cbv)
| (refine QC.fw ?_; cbv)
| (refine QC.mk (fun hc => ?_) (fun hc => ?_) <;> (try dsimp only at hc) <;> cbv)
| (refine br_mk2 (fun hb => ?_) (fun hb => ?_) <;> (try subst hb) <;> cbv)))
          refine qv _ (hGt jj y hy) ?_
          cbv
          have hmk6 : True := trivial
          (repeat' (first
| (refine q1w (fun z hz => ?_); (try simp only at hz); cbv)
| (refine rqw ?_; cbv)
| (refine rqk ?_; cbv)
| (refine chpA ?_; cbv)
| (refine QC.tw ?_; cbv)
| (refine QC.t3 ?_; cbv)
| (refine QC.f3 ?_; cbv)
| (refine QC.fw ?_; cbv)
| (refine QC.mk (fun hc => ?_) (fun hc => ?_) <;> (try dsimp only at hc) <;> cbv)
| (refine br_mk2 (fun hb => ?_) (fun hb => ?_) <;> (try subst hb) <;> cbv)
| ((refine qvIdx _ (by rfl) (by decide) ?_; cbv))))
          · have hyn : y = nx := Int.ofNat.inj hc
            have hjx2 : jx = (jj : Int) := hjx
            refine ⟨(jj + 1, z, true), ⟨by show z = ((jj + 1 : Nat) : Int); omega, hlt, by show true = AR (jj + 1); rw [hst, hyn]; simp⟩, by show g.length - (jj + 1) < g.length - jj; omega, ?_⟩
            cbv
          · have hyn : ¬ y = nx := fun h => hc (by rw [h])
            have hjx2 : jx = (jj : Int) := hjx
            refine ⟨(jj + 1, z, false), ⟨by show z = ((jj + 1 : Nat) : Int); omega, hlt, by show false = AR (jj + 1); rw [hst]; simp [hyn]⟩, by show g.length - (jj + 1) < g.length - jj; omega, ?_⟩
            cbv
        · have hjx1 : jx = (jj : Int) := hjx
          have hl1 : z = (g.length : Int) := hz.trans (by show ((O.ln (GL g) : Nat) : Int) = _; rw [oln, hGl])
          have hjg : jj = g.length := by omega
          have hmk6 : True := trivial
          have hni3 : ni = (nx : Int) := hni
          have hb1 : Int.ofNat nx ≤ 5 := by show (nx : Int) ≤ 5; omega
          have hb2 : 0 ≤ Int.ofNat nx := by show 0 ≤ (nx : Int); omega
          have hb3 : Int.ofNat nx = ni := by show (nx : Int) = ni; omega
          cases sn with
          | false =>
            (repeat' (first
| (refine q1w (fun z hz => ?_); (try simp only at hz); cbv)
| (refine rqw ?_; cbv)
| (refine rqk ?_; cbv)
| (refine chpA ?_; cbv)
| (refine QC.tw ?_; cbv)
| (refine QC.t3 ?_; cbv)
| (refine QC.f3 ?_; cbv)
| (refine QC.fw ?_; cbv)
| (refine QC.mk (fun hc => ?_) (fun hc => ?_) <;> (try dsimp only at hc) <;> cbv)
| (refine br_mk2 (fun hb => ?_) (fun hb => ?_) <;> (try subst hb) <;> cbv)
| ((refine qvIdx _ (by rfl) (by decide) ?_; cbv))))
            rename_i y1 f1 y2 f2 y3 f3
            have hsi4 : si = (s : Int) := hsi
            have hni4 : ni = (nx : Int) := hni
            have hsp2 : si ≤ 48 * (nx : Int) + pos := hsp
            have hk2 : k ≤ 2 * s := hk.2
            refine ⟨⟨s + 1, z, nx + 1, y1, ph', at', c0, c1, c2, c3, c4, lf', l, g, false, ans, k, kj⟩, ⟨by show z = ((s + 1 : Nat) : Int); omega, by show y1 = ((nx + 1 : Nat) : Int); omega, ⟨pos', hM', by show z ≤ 48 * ((nx + 1 : Nat) : Int) + pos'; omega⟩, hsr, hga, fun k hk => by have := hgb k hk; show k ≤ nx + 1; omega, ⟨hk.1, by show k ≤ 2 * (s + 1); omega⟩, fun h => by cases h⟩, by show 3000 - (s + 1) < 3000 - s; omega, ?_⟩
            cbv
            have hmk7 : True := trivial
            first | exact ⟨⟨rfl, trivial⟩, rfl, rfl, trivial⟩
          | true =>
            have e : ar = true := by rw [har, hjg]; exact ARn ((hak (hsn rfl)).2.2)
            subst e
            (repeat' (first
| (refine q1w (fun z hz => ?_); (try simp only at hz); cbv)
| (refine rqw ?_; cbv)
| (refine rqk ?_; cbv)
| (refine chpA ?_; cbv)
| (refine QC.tw ?_; cbv)
| (refine QC.t3 ?_; cbv)
| (refine QC.f3 ?_; cbv)
| (refine QC.fw ?_; cbv)
| (refine QC.mk (fun hc => ?_) (fun hc => ?_) <;> (try dsimp only at hc) <;> cbv)
| (refine br_mk2 (fun hb => ?_) (fun hb => ?_) <;> (try subst hb) <;> cbv)
| ((refine qvIdx _ (by rfl) (by decide) ?_; cbv))))
            rename_i y1 f1 y2 f2 y3 f3
            have hsi4 : si = (s : Int) := hsi
            have hni4 : ni = (nx : Int) := hni
            have hsp2 : si ≤ 48 * (nx : Int) + pos := hsp
            have hk2 : k ≤ 2 * s := hk.2
            refine ⟨⟨s + 1, z, nx + 1, y1, ph', at', c0, c1, c2, c3, c4, lf', l, g, false, ans, k, kj⟩, ⟨by show z = ((s + 1 : Nat) : Int); omega, by show y1 = ((nx + 1 : Nat) : Int); omega, ⟨pos', hM', by show z ≤ 48 * ((nx + 1 : Nat) : Int) + pos'; omega⟩, hsr, hga, fun k hk => by have := hgb k hk; show k ≤ nx + 1; omega, ⟨hk.1, by show k ≤ 2 * (s + 1); omega⟩, fun h => by cases h⟩, by show 3000 - (s + 1) < 3000 - s; omega, ?_⟩
            cbv
            have hmk7 : True := trivial
            first | exact ⟨⟨rfl, trivial⟩, rfl, rfl, trivial⟩
  · as_aux_lemma =>
      have hni1 : ni = (nx : Int) := hni
      have hnI1 : nI = (n : Int) := hnI
      obtain ⟨pos, hM, hsp⟩ := hm
      have hMp := hM.pos
      have hnn : ni = nI := by omega
      have hG0 : ∀ (i : Nat), i < g.length → (GL g)[i]? = some (.int .u8 ((g.getD i 0 : Nat) : Int)) := fun i h => by rw [hGL, List.getElem?_map]; simp [h]
      have hGl : (GL g).length = g.length := by rw [hGL, List.length_map]
      have hGa : ∀ i, i + 1 < g.length → g.getD i 0 < g.getD (i + 1) 0 := fun i h => by
        have := (List.pairwise_iff_getElem.1 hga) i (i + 1) (by omega) h (by omega)
        simp only [List.getD, List.getElem?_eq_getElem h, List.getElem?_eq_getElem (show i < g.length by omega), Option.getD_some]
        exact this
      obtain ⟨gv, hgv⟩ : ∃ gv : Nat → Nat, ∀ i, gv i = g.getD i 0 := ⟨_, fun _ => rfl⟩
      simp only [← hgv] at hG0 hGa
      have hG5 : g.length ≤ 6 := by have := asc_len g 0 6 hga fun k hk => ⟨Nat.zero_le _, by have := hgb k hk; omega⟩; omega
      clear hM hsp hsr hga hgb hk hak
      have hmk4 : True := trivial
      refine loopQ (A := Nat × Int) (fun p => p.2 = p.1 ∧ 1 ≤ p.1 ∧ p.1 ≤ g.length + 1) (fun p => g.length + 1 - p.1) (fun p => [(45, .int .i64 p.2)]) (fun p => []) (1, 1) ⟨rfl, Nat.le_refl _, by show 1 ≤ g.length + 1; omega⟩ ?_ ?_
      · cbv
      intro ⟨q, qx⟩ hp
      have hq : qx = (q : Int) := hp.1
      have hq1 : 1 ≤ q := hp.2.1
      have hq2 : q ≤ g.length + 1 := hp.2.2
      clear hp
      have hqb : 0 ≤ qx ∧ qx ≤ 7 := by omega
      have hmk5 : True := trivial
      cbv
      (repeat' (first
| (refine q1w (fun z hz => ?_); (try simp only at hz); cbv)
| (refine rqw ?_; cbv)
| (refine rqk ?_; cbv)
| (refine chpA ?_; cbv)
| (refine QC.tw ?_; cbv)
| (refine QC.t3 ?_; cbv)
| (refine QC.f3 ?_; cbv)
| (refine QC.fw ?_; cbv)
| (refine QC.mk (fun hc => ?_) (fun hc => ?_) <;> (try dsimp only at hc) <;> cbv)
| (refine br_mk2 (fun hb => ?_) (fun hb => ?_) <;> (try subst hb) <;> cbv)
| (refine callq (g20) rfl rfl ?_; cbv)))
      · have hq3 : qx = (q : Int) := hq
        have hl1 : z = (g.length : Int) := hz.trans (by show ((O.ln (GL g) : Nat) : Int) = _; rw [oln, hGl])
        have hlt : q < g.length := by omega
        refine qv q ⟨hq, by rw [oln, hGl]; exact hlt⟩ ?_
        cbv
        (repeat' (first
| (refine q1w (fun z hz => ?_); (try simp only at hz); cbv)
| (refine rqw ?_; cbv)
| (refine rqk ?_; cbv)
| (refine chpA ?_; cbv)
| (refine QC.tw ?_; cbv)
| (refine QC.t3 ?_; cbv)
| (refine QC.f3 ?_; cbv)
| (refine QC.fw ?_; cbv)
| (refine QC.mk (fun hc => ?_) (fun hc => ?_) <;> (try dsimp only at hc) <;> cbv)
| (refine br_mk2 (fun hb => ?_) (fun hb => ?_) <;> (try subst hb) <;> cbv)))
        refine qv _ (hG0 q hlt) ?_
        cbv
        (repeat' (first
| (refine q1w (fun z hz => ?_); (try simp only at hz); cbv)
| (refine rqw ?_; cbv)
| (refine rqk ?_; cbv)
| (refine chpA ?_; cbv)
| (refine QC.tw ?_; cbv)
| (refine QC.t3 ?_; cbv)
| (refine QC.f3 ?_; cbv)
| (refine QC.fw ?_; cbv)
| (refine QC.mk (fun hc => ?_) (fun hc => ?_) <;> (try dsimp only at hc) <;> cbv)
| (refine br_mk2 (fun hb => ?_) (fun hb => ?_) <;> (try subst hb) <;> cbv)))
        have hq4 : qx = (q : Int) := hq
        refine qv (q - 1) ⟨by show z = ((q - 1 : Nat) : Int); omega, by rw [oln, hGl]; omega⟩ ?_
        cbv
        (repeat' (first
| (refine q1w (fun z hz => ?_); (try simp only at hz); cbv)
| (refine rqw ?_; cbv)
| (refine rqk ?_; cbv)
| (refine chpA ?_; cbv)
| (refine QC.tw ?_; cbv)
| (refine QC.t3 ?_; cbv)
| (refine QC.f3 ?_; cbv)
| (refine QC.fw ?_; cbv)
| (refine QC.mk (fun hc => ?_) (fun hc => ?_) <;> (try dsimp only at hc) <;> cbv)
| (refine br_mk2 (fun hb => ?_) (fun hb => ?_) <;> (try subst hb) <;> cbv)))
        refine qv _ (hG0 (q - 1) (by omega)) ?_
        cbv
        have hgl := hGa (q - 1) (by omega)
        rw [show q - 1 + 1 = q by omega] at hgl
        have hmk6 : True := trivial
        (repeat' (first
| (refine q1w (fun z hz => ?_); (try simp only at hz); cbv)
| (refine rqw ?_; cbv)
| (refine rqk ?_; cbv)
| (refine chpA ?_; cbv)
| (refine QC.tw ?_; cbv)
| (refine QC.t3 ?_; cbv)
| (refine QC.f3 ?_; cbv)
| (refine QC.fw ?_; cbv)
| (refine QC.mk (fun hc => ?_) (fun hc => ?_) <;> (try dsimp only at hc) <;> cbv)
| (refine br_mk2 (fun hb => ?_) (fun hb => ?_) <;> (try subst hb) <;> cbv)))
        · exfalso
          have h1 : gv q ≤ gv (q - 1) := Int.ofNat_le.1 hc
          omega
        · have hq5 : qx = (q : Int) := hq
          refine ⟨(q + 1, z), ⟨by show z = ((q + 1 : Nat) : Int); omega, by show 1 ≤ q + 1; omega, by show q + 1 ≤ g.length + 1; omega⟩, by show g.length + 1 - (q + 1) < g.length + 1 - q; omega, ?_⟩
          cbv
      · exact ⟨rfl, rfl, rfl⟩
  · as_aux_lemma =>
      exfalso
      have hsi1 : si = (s : Int) := hsi
      obtain ⟨pos, hM, hsp⟩ := hm
      have hMp := hM.pos
      have hsp1 : si ≤ 48 * (nx : Int) + pos := hsp
      omega
end Go.Proofs.YtgfpjhddojhfpaaGreat

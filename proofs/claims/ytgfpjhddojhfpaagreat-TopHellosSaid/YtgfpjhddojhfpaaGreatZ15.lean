/- Texts put together: QF. -/
import Derived.Test.YtgfpjhddojhfpaaGreatZ03
import Derived.Test.YtgfpjhddojhfpaaGreatZ14
namespace Go.Proofs.YtgfpjhddojhfpaaGreat
set_option linter.unusedVariables false
set_option linter.unusedSimpArgs false
open Go.RowKit
set_option maxHeartbeats 8000000
set_option linter.unusedSimpArgs false
set_option linter.unusedVariables false
structure WinI (st : Int) (i o m : Nat) (L : List Bool) (h c n : Int) : Prop where
  po : o ≤ L.length
  pm : m = (L.drop o).length
  p8 : m ≤ 8
  ph : h = bitsN (L.drop o)
  p1 : 1 ≤ h
  pc : c = m
  pn : n = (st + i) % 65536
theorem cntF (W : List Bool) : ∃ (wk : Nat → Bool) (CN : Nat → Int), CN 0 = 0 ∧ CN W.length = cntB W ∧ (∀ k : Nat, 0 ≤ CN k ∧ CN k ≤ k) ∧ ∀ k, k < W.length → W[k]? = some (wk k) ∧ CN (k + 1) = CN k + b2i (wk k) := by
  have hs : ∀ k, k < W.length → cntB (W.take (k + 1)) = cntB (W.take k) + b2i (W.getD k false) := by
    intro k hk
    rw [List.take_add_one, List.getElem?_eq_getElem hk, Option.toList_some, cntB_snoc]
    simp [List.getD, hk]
  have hb : ∀ k : Nat, 0 ≤ cntB (W.take k) ∧ cntB (W.take k) ≤ k := by
    intro k
    induction k with
    | zero => simp [cntB]
    | succ k ih =>
      by_cases hk : k < W.length
      · have := b2i_le (W.getD k false)
        rw [hs k hk]
        omega
      · rw [List.take_of_length_le (by omega)] at ih ⊢
        omega
  exact ⟨fun k => W.getD k false, fun k => cntB (W.take k), by simp [cntB], by simp, hb, fun k hk => ⟨by simp [List.getD, hk], hs k hk⟩⟩
set_option maxRecDepth 20000 in
theorem hellos_c (st : Int) (hst : 0 ≤ st ∧ st ≤ 65535) (bs : List Bool) (L0 : List SV) (hL0 : L0 = bs.map SV.bool) (hbl : bs.length ≤ 140737488351232) (w20 : Good 20 (pu [] (.bool true))) :
    Good 4 (pu [.int .u16 st, .lst none L0] (.bool true)) := by
  have hLl : L0.length = bs.length := by rw [hL0]; simp
  refine Good.of Tryz.func4 rfl (by rfl) (by kernel_rfl) ?_
  cbv
  refine chpB ?_
  cbv
  refine litq 72 ?_
  cbv
  (repeat' (first
| (refine q1w (fun z hz => ?_); (try simp only at hz); cbv)
| (refine rqw ?_; cbv)
| (refine rqk ?_; cbv)
| (refine chpA ?_; cbv)
| (refine QC.tw ?_; cbv)
| (refine QC.t3 ?_; cbv)
| (refine QC.f3 ?_; cbv)
| (refine QC.fw ?_; cbv)
| (refine QC.mk (fun hc => ?_) (fun hc => ?_) <;> (try dsimp only at hc) <;> cbv)
| (refine br_mk2 (fun hb => ?_) (fun hb => ?_) <;> (try subst hb) <;> cbv)))
  obtain ⟨lb, hlb⟩ : ∃ lb : Nat → Bool, ∀ i, i < bs.length → L0[i]? = some (.bool (lb i)) := ⟨fun i => bs.getD i false, fun i hi => by rw [hL0]; simp [List.getD, hi]⟩
  obtain ⟨BL, hBL⟩ : ∃ BL : List Bool → List SV, ∀ l, BL l = l.map SV.bool := ⟨_, fun _ => rfl⟩
  refine loopQ (A := Nat × Int × Nat × Nat × Nat × List Bool × Int × Int × Int × Int) (fun p => p.2.1 = p.1 ∧ p.1 ≤ bs.length ∧ (2 ≤ p.2.2.1 → WinI st p.1 p.2.2.2.1 p.2.2.2.2.1 p.2.2.2.2.2.1 p.2.2.2.2.2.2.1 p.2.2.2.2.2.2.2.1 p.2.2.2.2.2.2.2.2.1))
    (fun p => bs.length - p.1)
    (fun p => [(10, .int .i64 p.2.1), (20, .any), (9, match p.2.2.1 with | 0 => .nil | 1 => .row 20 | _ => .rsl 9 none p.2.2.2.1 p.2.2.2.2.1 none)])
    (fun p => [(6, .chunk 66 (match p.2.2.1 with | 0 => qZ | 1 => qZ | _ => qS p.2.2.2.2.2.2.1 p.2.2.2.2.2.2.2.1 p.2.2.2.2.2.2.2.2.1)), (16, .chunk 72 (.agg [.int .i64 0, .int .i64 p.2.2.2.2.2.2.2.2.2])), (20, match p.2.2.1 with | 1 => .row none 4 [] | _ => .no), (9, match p.2.2.1 with | 0 => .no | 1 => .no | _ => .row none 4 (BL p.2.2.2.2.2.1))])
    (0, 0, 1, 0, 0, [], 0, 0, 0, 256) ⟨rfl, Nat.zero_le _, fun h => absurd h (by show ¬ (2 ≤ 1); omega)⟩ ?_ ?_
  · cbv
  · intro ⟨i, x, tg, o, m, L, h, c, n, y⟩ hp
    have hx : x = (i : Int) := hp.1
    have hi : i ≤ bs.length := hp.2.1
    have hw := hp.2.2
    clear hp
    cases tg with
    | zero =>
      cbv
      (repeat' (first
| (refine q1w (fun z hz => ?_); (try simp only at hz); cbv)
| (refine rqw ?_; cbv)
| (refine rqk ?_; cbv)
| (refine chpA ?_; cbv)
| (refine QC.tw ?_; cbv)
| (refine QC.t3 ?_; cbv)
| (refine QC.f3 ?_; cbv)
| (refine QC.fw ?_; cbv)
| (refine QC.mk (fun hc => ?_) (fun hc => ?_) <;> (try dsimp only at hc) <;> cbv)
| (refine br_mk2 (fun hb => ?_) (fun hb => ?_) <;> (try subst hb) <;> cbv)
| ((refine qvArr (by decide) (by decide) ?_; cbv))
| (refine callq (w20) rfl rfl ?_; cbv)))
      rotate_left
      · exact ⟨rfl, rfl, rfl⟩
      · exact ⟨rfl, rfl, rfl⟩
      · have hil : i < bs.length := by (first | omega | (simp only [cst] at *; omega) | (simp only [sm] at *; omega))
        have he := hlb i hil
        obtain ⟨b, hb⟩ : ∃ b, b = lb i := ⟨_, rfl⟩
        rw [← hb] at he
        refine qv (i, .bool b) ⟨by show x = (i : Int); (first | omega | (simp only [cst] at *; omega) | (simp only [sm] at *; omega)), he⟩ ?_
        cbv
        (repeat' (first
| (refine q1w (fun z hz => ?_); (try simp only at hz); cbv)
| (refine rqw ?_; cbv)
| (refine rqk ?_; cbv)
| (refine chpA ?_; cbv)
| (refine QC.tw ?_; cbv)
| (refine QC.t3 ?_; cbv)
| (refine QC.f3 ?_; cbv)
| (refine QC.fw ?_; cbv)
| (refine QC.mk (fun hc => ?_) (fun hc => ?_) <;> (try dsimp only at hc) <;> cbv)
| (refine br_mk2 (fun hb => ?_) (fun hb => ?_) <;> (try subst hb) <;> cbv)
| ((refine qvArr (by decide) (by decide) ?_; cbv))))
        · skip
          have ez : z = st + i := by (first | omega | (simp only [cst] at *; omega) | (simp only [sm] at *; omega))
          obtain ⟨B, hB⟩ : ∃ B, B = u8l (bytesOf z 2) := ⟨_, rfl⟩
          have hbl2 : (bytesOf z 2).length = 2 := bytesOf_length _ _
          refine callq (rappend_c [] [] B z 2 2 rfl rfl (by omega) (by omega) (by simp) (by rw [hB]; rfl)) rfl rfl ?_
          cbv
          (repeat' (first
| (refine q1w (fun z hz => ?_); (try simp only at hz); cbv)
| (refine rqw ?_; cbv)
| (refine rqk ?_; cbv)
| (refine chpA ?_; cbv)
| (refine QC.tw ?_; cbv)
| (refine QC.t3 ?_; cbv)
| (refine QC.f3 ?_; cbv)
| (refine QC.fw ?_; cbv)
| (refine QC.mk (fun hc => ?_) (fun hc => ?_) <;> (try dsimp only at hc) <;> cbv)
| (refine br_mk2 (fun hb => ?_) (fun hb => ?_) <;> (try subst hb) <;> cbv)))
          refine matq (del0 _ B hB (by omega)) (away_nil _) rfl ?_
          cbv
          (repeat' (first
| (refine q1w (fun z hz => ?_); (try simp only at hz); cbv)
| (refine rqw ?_; cbv)
| (refine rqk ?_; cbv)
| (refine chpA ?_; cbv)
| (refine QC.tw ?_; cbv)
| (refine QC.t3 ?_; cbv)
| (refine QC.f3 ?_; cbv)
| (refine QC.fw ?_; cbv)
| (refine QC.mk (fun hc => ?_) (fun hc => ?_) <;> (try dsimp only at hc) <;> cbv)
| (refine br_mk2 (fun hb => ?_) (fun hb => ?_) <;> (try subst hb) <;> cbv)))
          refine ⟨(i + 1, z, 0, o, m, L, h, c, n, 0), ⟨by (first | omega | (simp only [cst] at *; omega) | (simp only [sm] at *; omega)), by (first | omega | (simp only [cst] at *; omega) | (simp only [sm] at *; omega)), fun h => absurd h (by show ¬ (2 ≤ 0); omega)⟩, by (first | omega | (simp only [cst] at *; omega) | (simp only [sm] at *; omega)), ?_⟩
          cbv
        · skip
          have ez : z = st + i := by (first | omega | (simp only [cst] at *; omega) | (simp only [sm] at *; omega))
          obtain ⟨B, hB⟩ : ∃ B, B = u8l (bytesOf z 2) := ⟨_, rfl⟩
          have hbl2 : (bytesOf z 2).length = 2 := bytesOf_length _ _
          refine callq (rappend_c [] [] B z 2 2 rfl rfl (by omega) (by omega) (by simp) (by rw [hB]; rfl)) rfl rfl ?_
          cbv
          (repeat' (first
| (refine q1w (fun z hz => ?_); (try simp only at hz); cbv)
| (refine rqw ?_; cbv)
| (refine rqk ?_; cbv)
| (refine chpA ?_; cbv)
| (refine QC.tw ?_; cbv)
| (refine QC.t3 ?_; cbv)
| (refine QC.f3 ?_; cbv)
| (refine QC.fw ?_; cbv)
| (refine QC.mk (fun hc => ?_) (fun hc => ?_) <;> (try dsimp only at hc) <;> cbv)
| (refine br_mk2 (fun hb => ?_) (fun hb => ?_) <;> (try subst hb) <;> cbv)))
          refine matq (del1 _ B hB (by omega)) (away_del _ B hB _ _ _ _ _ _) rfl ?_
          cbv
          (repeat' (first
| (refine q1w (fun z hz => ?_); (try simp only at hz); cbv)
| (refine rqw ?_; cbv)
| (refine rqk ?_; cbv)
| (refine chpA ?_; cbv)
| (refine QC.tw ?_; cbv)
| (refine QC.t3 ?_; cbv)
| (refine QC.f3 ?_; cbv)
| (refine QC.fw ?_; cbv)
| (refine QC.mk (fun hc => ?_) (fun hc => ?_) <;> (try dsimp only at hc) <;> cbv)
| (refine br_mk2 (fun hb => ?_) (fun hb => ?_) <;> (try subst hb) <;> cbv)
| ((refine qvIdx _ (by rfl) (by decide) ?_; cbv))))
          rename_i zz fz
          have ezz : zz = st + i := by omega
          obtain ⟨r, hr⟩ : ∃ r, r = zz % 65536 := ⟨_, rfl⟩
          have hr0 : 0 ≤ r ∧ r ≤ 65535 := by omega
          refine callq (ruint_c (bytesOf zz 2) B 0 2 r 0 2 hB rfl rfl (by omega) (by omega) (by omega) (by omega) (by rw [hr, List.drop_zero, List.take_of_length_le (by omega)]; exact (be_two zz (by omega)).symm)) rfl rfl ?_
          cbv
          (repeat' (first
| (refine q1w (fun z hz => ?_); (try simp only at hz); cbv)
| (refine rqw ?_; cbv)
| (refine rqk ?_; cbv)
| (refine chpA ?_; cbv)
| (refine QC.tw ?_; cbv)
| (refine QC.t3 ?_; cbv)
| (refine QC.f3 ?_; cbv)
| (refine QC.fw ?_; cbv)
| (refine QC.mk (fun hc => ?_) (fun hc => ?_) <;> (try dsimp only at hc) <;> cbv)
| (refine br_mk2 (fun hb => ?_) (fun hb => ?_) <;> (try subst hb) <;> cbv)))
          have er : r = z := by omega
          subst er
          have es : r = (st + i) % 65536 := by (first | omega | (simp only [cst] at *; omega) | (simp only [sm] at *; omega))
          obtain ⟨n', hn'⟩ : ∃ n', n' = (r + 1) % 65536 := ⟨_, rfl⟩
          obtain ⟨Wn, hWn⟩ : ∃ Wn : List Bool, Wn = [true] := ⟨_, rfl⟩
          have hWl1 : Wn.length = 1 := by rw [hWn]; rfl
          have hWl : Wn.length ≤ 8 := by omega
          obtain ⟨h', hh'⟩ : ∃ y, y = bitsN Wn := ⟨_, rfl⟩
          have hh1 : h' = 1 := by rw [hh', hWn]; rfl
          have h1 : 1 ≤ h' := by omega
          obtain ⟨c', hc'⟩ : ∃ y : Int, y = Wn.length := ⟨_, rfl⟩
          have hc1 : c' = 1 := by omega
          have hpow : h' < 2 ^ c'.toNat := by rw [hh', hc']; exact (bits_lt Wn).2
          have hln : ∀ k, k < Wn.length → k < O.ln [SV.bool true] := fun k hk => by rw [oln]; simpa [hWl1] using hk
          have hXk : ∀ (k : Nat) (w : Bool), k < Wn.length → Wn[k]? = some w → [SV.bool true][k]? = some (SV.bool w) := fun k w hk hw => by
            rw [hWn] at hw
            match k, hw with
            | 0, hw => simp at hw; subst hw; rfl
          have gH : Good 25 (pu [qZ, .int .u16 r] (qS h' c' n')) := by rw [hh1, hc1]; exact qHelloZ r n' (by omega) hn'
          refine callq gH rfl rfl ?_
          cbv
          (repeat' (first
| (refine q1w (fun z hz => ?_); (try simp only at hz); cbv)
| (refine rqw ?_; cbv)
| (refine rqk ?_; cbv)
| (refine chpA ?_; cbv)
| (refine QC.tw ?_; cbv)
| (refine QC.t3 ?_; cbv)
| (refine QC.f3 ?_; cbv)
| (refine QC.fw ?_; cbv)
| (refine QC.mk (fun hc => ?_) (fun hc => ?_) <;> (try dsimp only at hc) <;> cbv)
| (refine br_mk2 (fun hb => ?_) (fun hb => ?_) <;> (try subst hb) <;> cbv)))
          obtain ⟨LN, hLN⟩ : ∃ L : List Bool, L = Wn := ⟨_, rfl⟩
          obtain ⟨oN, hoN⟩ : ∃ o : Nat, o = 0 := ⟨_, rfl⟩
          obtain ⟨yN, hyN⟩ : ∃ y : Int, y = 256 := ⟨_, rfl⟩
          have g1 : oN ≤ LN.length := by omega
          obtain ⟨mN, hmN⟩ : ∃ m : Nat, m = Wn.length := ⟨_, rfl⟩
          have g2 : mN = (LN.drop oN).length := by rw [hoN, hLN]; exact hmN
          have g3 : mN ≤ 8 := by omega
          have g5 : c' = mN := by omega
          have gsl : SV.rsl 9 none 0 (O.ln [SV.bool true]) none = SV.rsl 9 none oN mN none := by rw [hoN, oln, hmN, hWl1]; rfl
          have gbl : Blk.row none 4 [SV.bool true] = Blk.row none 4 (BL LN) := by rw [hBL, hLN, hWn]; rfl
          have g4 : h' = bitsN (LN.drop oN) := by rw [hoN, hLN]; exact hh'
          have hcn : 1 ≤ cntB Wn := cnt_pos Wn hWl (by rw [← hh']; exact h1)
          have htt : ∀ z : Int, z = ((O.ln [SV.bool true] : Nat) : Int) → z = (Wn.length : Int) := fun z hz => by rw [hz, oln, hWl1]; rfl
          revert z
          intro tot htot1
          have htot : tot = (Wn.length : Int) := htt tot htot1
          clear htot1
          obtain ⟨wk, CN, CN0, CNm, hCb, hCN⟩ := cntF Wn
          refine loopQ (A := Nat × Int × Int) (fun p => p.2.1 = p.1 ∧ p.1 ≤ Wn.length ∧ p.2.2 = CN p.1) (fun p => Wn.length - p.1) (fun p => [(15, .int .i64 p.2.1), (7, .int .i64 p.2.2)]) (fun p => []) (0, 0, 0) ⟨rfl, Nat.zero_le _, CN0.symm⟩ ?_ ?_
          · cbv
          · intro ⟨k, kx, hd⟩ hp
            have hk : kx = (k : Int) := hp.1
            have hkl : k ≤ Wn.length := hp.2.1
            have hhd : hd = CN k := hp.2.2
            clear hp
            have hck := hCN k
            have hcb := hCb k
            have hlk := hln k
            have hxk := hXk k
            have hor : kx < tot ∨ 1 ≤ hd := by
              by_cases hke : k < Wn.length
              · exact .inl (by omega)
              · have hke : k = Wn.length := by omega
                exact .inr (by rw [hhd, hke, CNm]; exact hcn)
            cbv
            (repeat' (first
| (refine q1w (fun z hz => ?_); (try simp only at hz); cbv)
| (refine rqw ?_; cbv)
| (refine rqk ?_; cbv)
| (refine chpA ?_; cbv)
| (refine QC.tw ?_; cbv)
| (refine QC.t3 ?_; cbv)
| (refine QC.f3 ?_; cbv)
| (refine QC.fw ?_; cbv)
| (refine QC.mk (fun hc => ?_) (fun hc => ?_) <;> (try dsimp only at hc) <;> cbv)
| (refine br_mk2 (fun hb => ?_) (fun hb => ?_) <;> (try subst hb) <;> cbv)))
            · have hkm : k < Wn.length := by (first | omega | (simp only [cst] at *; omega) | (simp only [sm] at *; omega))
              obtain ⟨wb, hwb⟩ : ∃ y, y = wk k := ⟨_, rfl⟩
              have hck2 := (hck hkm).2
              have hck1 := (hck hkm).1
              rw [← hwb] at hck1 hck2
              refine qv k ⟨by (first | omega | (simp only [cst] at *; omega) | (simp only [sm] at *; omega)), hlk hkm⟩ ?_
              cbv
              (repeat' (first
| (refine q1w (fun z hz => ?_); (try simp only at hz); cbv)
| (refine rqw ?_; cbv)
| (refine rqk ?_; cbv)
| (refine chpA ?_; cbv)
| (refine QC.tw ?_; cbv)
| (refine QC.t3 ?_; cbv)
| (refine QC.f3 ?_; cbv)
| (refine QC.fw ?_; cbv)
| (refine QC.mk (fun hc => ?_) (fun hc => ?_) <;> (try dsimp only at hc) <;> cbv)
| (refine br_mk2 (fun hb => ?_) (fun hb => ?_) <;> (try subst hb) <;> cbv)))
              refine qv (.bool wb) (by first | exact hxk wb hkm hck1 | (have e := hxk wb hkm hck1; revert e; cases k <;> exact fun e => e)) ?_
              cbv
              (repeat' (first
| (refine q1w (fun z hz => ?_); (try simp only at hz); cbv)
| (refine rqw ?_; cbv)
| (refine rqk ?_; cbv)
| (refine chpA ?_; cbv)
| (refine QC.tw ?_; cbv)
| (refine QC.t3 ?_; cbv)
| (refine QC.f3 ?_; cbv)
| (refine QC.fw ?_; cbv)
| (refine QC.mk (fun hc => ?_) (fun hc => ?_) <;> (try dsimp only at hc) <;> cbv)
| (refine br_mk2 (fun hb => ?_) (fun hb => ?_) <;> (try subst hb) <;> cbv)))
              · rename_i y1 f1
                refine ⟨(k + 1, z, y1), ⟨by (first | omega | (simp only [cst] at *; omega) | (simp only [sm] at *; omega)), by (first | omega | (simp only [cst] at *; omega) | (simp only [sm] at *; omega)), by show y1 = CN (k + 1); rw [hck2]; simp only [b2i, if_true]; omega⟩, by (first | omega | (simp only [cst] at *; omega) | (simp only [sm] at *; omega)), ?_⟩
                cbv
              · refine ⟨(k + 1, z, hd), ⟨by (first | omega | (simp only [cst] at *; omega) | (simp only [sm] at *; omega)), by (first | omega | (simp only [cst] at *; omega) | (simp only [sm] at *; omega)), by show hd = CN (k + 1); rw [hck2]; simp only [b2i, Bool.false_eq_true, if_false]; omega⟩, by (first | omega | (simp only [cst] at *; omega) | (simp only [sm] at *; omega)), ?_⟩
                cbv
            · have hke : k = Wn.length := by (first | omega | (simp only [cst] at *; omega) | (simp only [sm] at *; omega))
              have hde : hd = cntB Wn := by rw [hhd, hke, CNm]
              have hpc : pcI h' = hd := by rw [hh', pc_cnt _ Wn rfl hWl, hde]
              obtain ⟨rr, hrr⟩ : ∃ rr, rr = (256 * c' + hd - 1) / hd := ⟨_, rfl⟩
              refine callq (qRx h' c' n' rr (by (first | omega | (simp only [cst] at *; omega) | (simp only [sm] at *; omega))) ⟨h1, hpow⟩ (by rw [hh']; exact bits_255 Wn hWl) (by rw [hpc]; exact hrr)) rfl rfl ?_
              cbv
              (repeat' (first
| (refine q1w (fun z hz => ?_); (try simp only at hz); cbv)
| (refine rqw ?_; cbv)
| (refine rqk ?_; cbv)
| (refine chpA ?_; cbv)
| (refine QC.tw ?_; cbv)
| (refine QC.t3 ?_; cbv)
| (refine QC.f3 ?_; cbv)
| (refine QC.fw ?_; cbv)
| (refine QC.mk (fun hc => ?_) (fun hc => ?_) <;> (try dsimp only at hc) <;> cbv)
| (refine br_mk2 (fun hb => ?_) (fun hb => ?_) <;> (try subst hb) <;> cbv)))
              · rename_i a1 b1 a2 b2 a3 b3
                have e3 : a3 = 256 * c' + hd - 1 := by (first | omega | (simp only [cst] at *; omega) | (simp only [sm] at *; omega))
                refine absurd ?_ hc
                rw [hz.1 (by (first | omega | (simp only [cst] at *; omega) | (simp only [sm] at *; omega))), e3, hrr]
              · refine ⟨(i + 1, z, 2, oN, mN, LN, h', c', n', yN), ⟨by (first | omega | (simp only [cst] at *; omega) | (simp only [sm] at *; omega)), by (first | omega | (simp only [cst] at *; omega) | (simp only [sm] at *; omega)), fun _ => ⟨g1, g2, g3, g4, h1, g5, by show n' = (st + ((i + 1 : Nat) : Int)) % 65536; (first | omega | (simp only [cst] at *; omega) | (simp only [sm] at *; omega))⟩⟩, by (first | omega | (simp only [cst] at *; omega) | (simp only [sm] at *; omega)), ?_⟩
                cbv
                refine ⟨⟨gsl, trivial⟩, gbl, ?_, trivial⟩
                rw [hyN]
    | succ tg =>
      cases tg with
      | zero =>
        cbv
        (repeat' (first
| (refine q1w (fun z hz => ?_); (try simp only at hz); cbv)
| (refine rqw ?_; cbv)
| (refine rqk ?_; cbv)
| (refine chpA ?_; cbv)
| (refine QC.tw ?_; cbv)
| (refine QC.t3 ?_; cbv)
| (refine QC.f3 ?_; cbv)
| (refine QC.fw ?_; cbv)
| (refine QC.mk (fun hc => ?_) (fun hc => ?_) <;> (try dsimp only at hc) <;> cbv)
| (refine br_mk2 (fun hb => ?_) (fun hb => ?_) <;> (try subst hb) <;> cbv)
| ((refine qvArr (by decide) (by decide) ?_; cbv))
| (refine callq (w20) rfl rfl ?_; cbv)))
        rotate_left
        · exact ⟨rfl, rfl, rfl⟩
        · exact ⟨rfl, rfl, rfl⟩
        · have hil : i < bs.length := by (first | omega | (simp only [cst] at *; omega) | (simp only [sm] at *; omega))
          have he := hlb i hil
          obtain ⟨b, hb⟩ : ∃ b, b = lb i := ⟨_, rfl⟩
          rw [← hb] at he
          refine qv (i, .bool b) ⟨by show x = (i : Int); (first | omega | (simp only [cst] at *; omega) | (simp only [sm] at *; omega)), he⟩ ?_
          cbv
          (repeat' (first
| (refine q1w (fun z hz => ?_); (try simp only at hz); cbv)
| (refine rqw ?_; cbv)
| (refine rqk ?_; cbv)
| (refine chpA ?_; cbv)
| (refine QC.tw ?_; cbv)
| (refine QC.t3 ?_; cbv)
| (refine QC.f3 ?_; cbv)
| (refine QC.fw ?_; cbv)
| (refine QC.mk (fun hc => ?_) (fun hc => ?_) <;> (try dsimp only at hc) <;> cbv)
| (refine br_mk2 (fun hb => ?_) (fun hb => ?_) <;> (try subst hb) <;> cbv)
| ((refine qvArr (by decide) (by decide) ?_; cbv))))
          · skip
            have ez : z = st + i := by (first | omega | (simp only [cst] at *; omega) | (simp only [sm] at *; omega))
            obtain ⟨B, hB⟩ : ∃ B, B = u8l (bytesOf z 2) := ⟨_, rfl⟩
            have hbl2 : (bytesOf z 2).length = 2 := bytesOf_length _ _
            refine callq (rappend_c [] [] B z 2 2 rfl rfl (by omega) (by omega) (by simp) (by rw [hB]; rfl)) rfl rfl ?_
            cbv
            (repeat' (first
| (refine q1w (fun z hz => ?_); (try simp only at hz); cbv)
| (refine rqw ?_; cbv)
| (refine rqk ?_; cbv)
| (refine chpA ?_; cbv)
| (refine QC.tw ?_; cbv)
| (refine QC.t3 ?_; cbv)
| (refine QC.f3 ?_; cbv)
| (refine QC.fw ?_; cbv)
| (refine QC.mk (fun hc => ?_) (fun hc => ?_) <;> (try dsimp only at hc) <;> cbv)
| (refine br_mk2 (fun hb => ?_) (fun hb => ?_) <;> (try subst hb) <;> cbv)))
            refine matq (del0 _ B hB (by omega)) (away_nil _) rfl ?_
            cbv
            (repeat' (first
| (refine q1w (fun z hz => ?_); (try simp only at hz); cbv)
| (refine rqw ?_; cbv)
| (refine rqk ?_; cbv)
| (refine chpA ?_; cbv)
| (refine QC.tw ?_; cbv)
| (refine QC.t3 ?_; cbv)
| (refine QC.f3 ?_; cbv)
| (refine QC.fw ?_; cbv)
| (refine QC.mk (fun hc => ?_) (fun hc => ?_) <;> (try dsimp only at hc) <;> cbv)
| (refine br_mk2 (fun hb => ?_) (fun hb => ?_) <;> (try subst hb) <;> cbv)))
            refine ⟨(i + 1, z, 1, o, m, L, h, c, n, 0), ⟨by (first | omega | (simp only [cst] at *; omega) | (simp only [sm] at *; omega)), by (first | omega | (simp only [cst] at *; omega) | (simp only [sm] at *; omega)), fun h => absurd h (by show ¬ (2 ≤ 1); omega)⟩, by (first | omega | (simp only [cst] at *; omega) | (simp only [sm] at *; omega)), ?_⟩
            cbv
          · skip
            have ez : z = st + i := by (first | omega | (simp only [cst] at *; omega) | (simp only [sm] at *; omega))
            obtain ⟨B, hB⟩ : ∃ B, B = u8l (bytesOf z 2) := ⟨_, rfl⟩
            have hbl2 : (bytesOf z 2).length = 2 := bytesOf_length _ _
            refine callq (rappend_c [] [] B z 2 2 rfl rfl (by omega) (by omega) (by simp) (by rw [hB]; rfl)) rfl rfl ?_
            cbv
            (repeat' (first
| (refine q1w (fun z hz => ?_); (try simp only at hz); cbv)
| (refine rqw ?_; cbv)
| (refine rqk ?_; cbv)
| (refine chpA ?_; cbv)
| (refine QC.tw ?_; cbv)
| (refine QC.t3 ?_; cbv)
| (refine QC.f3 ?_; cbv)
| (refine QC.fw ?_; cbv)
| (refine QC.mk (fun hc => ?_) (fun hc => ?_) <;> (try dsimp only at hc) <;> cbv)
| (refine br_mk2 (fun hb => ?_) (fun hb => ?_) <;> (try subst hb) <;> cbv)))
            refine matq (del1 _ B hB (by omega)) (away_del _ B hB _ _ _ _ _ _) rfl ?_
            cbv
            (repeat' (first
| (refine q1w (fun z hz => ?_); (try simp only at hz); cbv)
| (refine rqw ?_; cbv)
| (refine rqk ?_; cbv)
| (refine chpA ?_; cbv)
| (refine QC.tw ?_; cbv)
| (refine QC.t3 ?_; cbv)
| (refine QC.f3 ?_; cbv)
| (refine QC.fw ?_; cbv)
| (refine QC.mk (fun hc => ?_) (fun hc => ?_) <;> (try dsimp only at hc) <;> cbv)
| (refine br_mk2 (fun hb => ?_) (fun hb => ?_) <;> (try subst hb) <;> cbv)
| ((refine qvIdx _ (by rfl) (by decide) ?_; cbv))))
            rename_i zz fz
            have ezz : zz = st + i := by omega
            obtain ⟨r, hr⟩ : ∃ r, r = zz % 65536 := ⟨_, rfl⟩
            have hr0 : 0 ≤ r ∧ r ≤ 65535 := by omega
            refine callq (ruint_c (bytesOf zz 2) B 0 2 r 0 2 hB rfl rfl (by omega) (by omega) (by omega) (by omega) (by rw [hr, List.drop_zero, List.take_of_length_le (by omega)]; exact (be_two zz (by omega)).symm)) rfl rfl ?_
            cbv
            (repeat' (first
| (refine q1w (fun z hz => ?_); (try simp only at hz); cbv)
| (refine rqw ?_; cbv)
| (refine rqk ?_; cbv)
| (refine chpA ?_; cbv)
| (refine QC.tw ?_; cbv)
| (refine QC.t3 ?_; cbv)
| (refine QC.f3 ?_; cbv)
| (refine QC.fw ?_; cbv)
| (refine QC.mk (fun hc => ?_) (fun hc => ?_) <;> (try dsimp only at hc) <;> cbv)
| (refine br_mk2 (fun hb => ?_) (fun hb => ?_) <;> (try subst hb) <;> cbv)))
            have er : r = z := by omega
            subst er
            have es : r = (st + i) % 65536 := by (first | omega | (simp only [cst] at *; omega) | (simp only [sm] at *; omega))
            obtain ⟨n', hn'⟩ : ∃ n', n' = (r + 1) % 65536 := ⟨_, rfl⟩
            obtain ⟨Wn, hWn⟩ : ∃ Wn : List Bool, Wn = [true] := ⟨_, rfl⟩
            have hWl1 : Wn.length = 1 := by rw [hWn]; rfl
            have hWl : Wn.length ≤ 8 := by omega
            obtain ⟨h', hh'⟩ : ∃ y, y = bitsN Wn := ⟨_, rfl⟩
            have hh1 : h' = 1 := by rw [hh', hWn]; rfl
            have h1 : 1 ≤ h' := by omega
            obtain ⟨c', hc'⟩ : ∃ y : Int, y = Wn.length := ⟨_, rfl⟩
            have hc1 : c' = 1 := by omega
            have hpow : h' < 2 ^ c'.toNat := by rw [hh', hc']; exact (bits_lt Wn).2
            have hln : ∀ k, k < Wn.length → k < O.ln [SV.bool true] := fun k hk => by rw [oln]; simpa [hWl1] using hk
            have hXk : ∀ (k : Nat) (w : Bool), k < Wn.length → Wn[k]? = some w → [SV.bool true][k]? = some (SV.bool w) := fun k w hk hw => by
              rw [hWn] at hw
              match k, hw with
              | 0, hw => simp at hw; subst hw; rfl
            have gH : Good 25 (pu [qZ, .int .u16 r] (qS h' c' n')) := by rw [hh1, hc1]; exact qHelloZ r n' (by omega) hn'
            refine callq gH rfl rfl ?_
            cbv
            (repeat' (first
| (refine q1w (fun z hz => ?_); (try simp only at hz); cbv)
| (refine rqw ?_; cbv)
| (refine rqk ?_; cbv)
| (refine chpA ?_; cbv)
| (refine QC.tw ?_; cbv)
| (refine QC.t3 ?_; cbv)
| (refine QC.f3 ?_; cbv)
| (refine QC.fw ?_; cbv)
| (refine QC.mk (fun hc => ?_) (fun hc => ?_) <;> (try dsimp only at hc) <;> cbv)
| (refine br_mk2 (fun hb => ?_) (fun hb => ?_) <;> (try subst hb) <;> cbv)))
            obtain ⟨LN, hLN⟩ : ∃ L : List Bool, L = Wn := ⟨_, rfl⟩
            obtain ⟨oN, hoN⟩ : ∃ o : Nat, o = 0 := ⟨_, rfl⟩
            obtain ⟨yN, hyN⟩ : ∃ y : Int, y = 256 := ⟨_, rfl⟩
            have g1 : oN ≤ LN.length := by omega
            obtain ⟨mN, hmN⟩ : ∃ m : Nat, m = Wn.length := ⟨_, rfl⟩
            have g2 : mN = (LN.drop oN).length := by rw [hoN, hLN]; exact hmN
            have g3 : mN ≤ 8 := by omega
            have g5 : c' = mN := by omega
            have gsl : SV.rsl 9 none 0 (O.ln [SV.bool true]) none = SV.rsl 9 none oN mN none := by rw [hoN, oln, hmN, hWl1]; rfl
            have gbl : Blk.row none 4 [SV.bool true] = Blk.row none 4 (BL LN) := by rw [hBL, hLN, hWn]; rfl
            have g4 : h' = bitsN (LN.drop oN) := by rw [hoN, hLN]; exact hh'
            have hcn : 1 ≤ cntB Wn := cnt_pos Wn hWl (by rw [← hh']; exact h1)
            have htt : ∀ z : Int, z = ((O.ln [SV.bool true] : Nat) : Int) → z = (Wn.length : Int) := fun z hz => by rw [hz, oln, hWl1]; rfl
            revert z
            intro tot htot1
            have htot : tot = (Wn.length : Int) := htt tot htot1
            clear htot1
            obtain ⟨wk, CN, CN0, CNm, hCb, hCN⟩ := cntF Wn
            refine loopQ (A := Nat × Int × Int) (fun p => p.2.1 = p.1 ∧ p.1 ≤ Wn.length ∧ p.2.2 = CN p.1) (fun p => Wn.length - p.1) (fun p => [(15, .int .i64 p.2.1), (7, .int .i64 p.2.2)]) (fun p => []) (0, 0, 0) ⟨rfl, Nat.zero_le _, CN0.symm⟩ ?_ ?_
            · cbv
            · intro ⟨k, kx, hd⟩ hp
              have hk : kx = (k : Int) := hp.1
              have hkl : k ≤ Wn.length := hp.2.1
              have hhd : hd = CN k := hp.2.2
              clear hp
              have hck := hCN k
              have hcb := hCb k
              have hlk := hln k
              have hxk := hXk k
              have hor : kx < tot ∨ 1 ≤ hd := by
                by_cases hke : k < Wn.length
                · exact .inl (by omega)
                · have hke : k = Wn.length := by omega
                  exact .inr (by rw [hhd, hke, CNm]; exact hcn)
              cbv
              (repeat' (first
| (refine q1w (fun z hz => ?_); (try simp only at hz); cbv)
| (refine rqw ?_; cbv)
| (refine rqk ?_; cbv)
| (refine chpA ?_; cbv)
| (refine QC.tw ?_; cbv)
| (refine QC.t3 ?_; cbv)
| (refine QC.f3 ?_; cbv)
| (refine QC.fw ?_; cbv)
| (refine QC.mk (fun hc => ?_) (fun hc => ?_) <;> (try dsimp only at hc) <;> cbv)
| (refine br_mk2 (fun hb => ?_) (fun hb => ?_) <;> (try subst hb) <;> cbv)))
              · have hkm : k < Wn.length := by (first | omega | (simp only [cst] at *; omega) | (simp only [sm] at *; omega))
                obtain ⟨wb, hwb⟩ : ∃ y, y = wk k := ⟨_, rfl⟩
                have hck2 := (hck hkm).2
                have hck1 := (hck hkm).1
                rw [← hwb] at hck1 hck2
                refine qv k ⟨by (first | omega | (simp only [cst] at *; omega) | (simp only [sm] at *; omega)), hlk hkm⟩ ?_
                cbv
                (repeat' (first
| (refine q1w (fun z hz => ?_); (try simp only at hz); cbv)
| (refine rqw ?_; cbv)
| (refine rqk ?_; cbv)
| (refine chpA ?_; cbv)
| (refine QC.tw ?_; cbv)
| (refine QC.t3 ?_; cbv)
| (refine QC.f3 ?_; cbv)
| (refine QC.fw ?_; cbv)
| (refine QC.mk (fun hc => ?_) (fun hc => ?_) <;> (try dsimp only at hc) <;> cbv)
| (refine br_mk2 (fun hb => ?_) (fun hb => ?_) <;> (try subst hb) <;> cbv)))
                refine qv (.bool wb) (by first | exact hxk wb hkm hck1 | (have e := hxk wb hkm hck1; revert e; cases k <;> exact fun e => e)) ?_
                cbv
                (repeat' (first
| (refine q1w (fun z hz => ?_); (try simp only at hz); cbv)
| (refine rqw ?_; cbv)
| (refine rqk ?_; cbv)
| (refine chpA ?_; cbv)
| (refine QC.tw ?_; cbv)
| (refine QC.t3 ?_; cbv)
| (refine QC.f3 ?_; cbv)
| (refine QC.fw ?_; cbv)
| (refine QC.mk (fun hc => ?_) (fun hc => ?_) <;> (try dsimp only at hc) <;> cbv)
| (refine br_mk2 (fun hb => ?_) (fun hb => ?_) <;> (try subst hb) <;> cbv)))
                · rename_i y1 f1
                  refine ⟨(k + 1, z, y1), ⟨by (first | omega | (simp only [cst] at *; omega) | (simp only [sm] at *; omega)), by (first | omega | (simp only [cst] at *; omega) | (simp only [sm] at *; omega)), by show y1 = CN (k + 1); rw [hck2]; simp only [b2i, if_true]; omega⟩, by (first | omega | (simp only [cst] at *; omega) | (simp only [sm] at *; omega)), ?_⟩
                  cbv
                · refine ⟨(k + 1, z, hd), ⟨by (first | omega | (simp only [cst] at *; omega) | (simp only [sm] at *; omega)), by (first | omega | (simp only [cst] at *; omega) | (simp only [sm] at *; omega)), by show hd = CN (k + 1); rw [hck2]; simp only [b2i, Bool.false_eq_true, if_false]; omega⟩, by (first | omega | (simp only [cst] at *; omega) | (simp only [sm] at *; omega)), ?_⟩
                  cbv
              · have hke : k = Wn.length := by (first | omega | (simp only [cst] at *; omega) | (simp only [sm] at *; omega))
                have hde : hd = cntB Wn := by rw [hhd, hke, CNm]
                have hpc : pcI h' = hd := by rw [hh', pc_cnt _ Wn rfl hWl, hde]
                obtain ⟨rr, hrr⟩ : ∃ rr, rr = (256 * c' + hd - 1) / hd := ⟨_, rfl⟩
                refine callq (qRx h' c' n' rr (by (first | omega | (simp only [cst] at *; omega) | (simp only [sm] at *; omega))) ⟨h1, hpow⟩ (by rw [hh']; exact bits_255 Wn hWl) (by rw [hpc]; exact hrr)) rfl rfl ?_
                cbv
                (repeat' (first
| (refine q1w (fun z hz => ?_); (try simp only at hz); cbv)
| (refine rqw ?_; cbv)
| (refine rqk ?_; cbv)
| (refine chpA ?_; cbv)
| (refine QC.tw ?_; cbv)
| (refine QC.t3 ?_; cbv)
| (refine QC.f3 ?_; cbv)
| (refine QC.fw ?_; cbv)
| (refine QC.mk (fun hc => ?_) (fun hc => ?_) <;> (try dsimp only at hc) <;> cbv)
| (refine br_mk2 (fun hb => ?_) (fun hb => ?_) <;> (try subst hb) <;> cbv)))
                · rename_i a1 b1 a2 b2 a3 b3
                  have e3 : a3 = 256 * c' + hd - 1 := by (first | omega | (simp only [cst] at *; omega) | (simp only [sm] at *; omega))
                  refine absurd ?_ hc
                  rw [hz.1 (by (first | omega | (simp only [cst] at *; omega) | (simp only [sm] at *; omega))), e3, hrr]
                · refine ⟨(i + 1, z, 2, oN, mN, LN, h', c', n', yN), ⟨by (first | omega | (simp only [cst] at *; omega) | (simp only [sm] at *; omega)), by (first | omega | (simp only [cst] at *; omega) | (simp only [sm] at *; omega)), fun _ => ⟨g1, g2, g3, g4, h1, g5, by show n' = (st + ((i + 1 : Nat) : Int)) % 65536; (first | omega | (simp only [cst] at *; omega) | (simp only [sm] at *; omega))⟩⟩, by (first | omega | (simp only [cst] at *; omega) | (simp only [sm] at *; omega)), ?_⟩
                  cbv
                  refine ⟨⟨gsl, trivial⟩, gbl, ?_, trivial⟩
                  rw [hyN]
      | succ tg =>
        have hW := hw (Nat.le_add_left _ _)
        clear hw
        cbv
        (repeat' (first
| (refine q1w (fun z hz => ?_); (try simp only at hz); cbv)
| (refine rqw ?_; cbv)
| (refine rqk ?_; cbv)
| (refine chpA ?_; cbv)
| (refine QC.tw ?_; cbv)
| (refine QC.t3 ?_; cbv)
| (refine QC.f3 ?_; cbv)
| (refine QC.fw ?_; cbv)
| (refine QC.mk (fun hc => ?_) (fun hc => ?_) <;> (try dsimp only at hc) <;> cbv)
| (refine br_mk2 (fun hb => ?_) (fun hb => ?_) <;> (try subst hb) <;> cbv)
| ((refine qvArr (by decide) (by decide) ?_; cbv))
| (refine callq (w20) rfl rfl ?_; cbv)))
        rotate_left
        · exact ⟨rfl, rfl, rfl⟩
        · exact ⟨rfl, rfl, rfl⟩
        · have hil : i < bs.length := by (first | omega | (simp only [cst] at *; omega) | (simp only [sm] at *; omega))
          have he := hlb i hil
          obtain ⟨b, hb⟩ : ∃ b, b = lb i := ⟨_, rfl⟩
          rw [← hb] at he
          have w1 : o ≤ L.length := hW.po
          have w2 : m = (L.drop o).length := hW.pm
          have w3 : m ≤ 8 := hW.p8
          have w4 : h = bitsN (L.drop o) := hW.ph
          have w5 : 1 ≤ h := hW.p1
          have w6 : c = m := hW.pc
          have w7 : n = (st + i) % 65536 := hW.pn
          clear hW
          refine qv (i, .bool b) ⟨by show x = (i : Int); (first | omega | (simp only [cst] at *; omega) | (simp only [sm] at *; omega)), he⟩ ?_
          cbv
          (repeat' (first
| (refine q1w (fun z hz => ?_); (try simp only at hz); cbv)
| (refine rqw ?_; cbv)
| (refine rqk ?_; cbv)
| (refine chpA ?_; cbv)
| (refine QC.tw ?_; cbv)
| (refine QC.t3 ?_; cbv)
| (refine QC.f3 ?_; cbv)
| (refine QC.fw ?_; cbv)
| (refine QC.mk (fun hc => ?_) (fun hc => ?_) <;> (try dsimp only at hc) <;> cbv)
| (refine br_mk2 (fun hb => ?_) (fun hb => ?_) <;> (try subst hb) <;> cbv)
| ((refine qvArr (by decide) (by decide) ?_; cbv))))
          · skip
            have ez : z = st + i := by (first | omega | (simp only [cst] at *; omega) | (simp only [sm] at *; omega))
            obtain ⟨B, hB⟩ : ∃ B, B = u8l (bytesOf z 2) := ⟨_, rfl⟩
            have hbl2 : (bytesOf z 2).length = 2 := bytesOf_length _ _
            refine callq (rappend_c [] [] B z 2 2 rfl rfl (by omega) (by omega) (by simp) (by rw [hB]; rfl)) rfl rfl ?_
            cbv
            (repeat' (first
| (refine q1w (fun z hz => ?_); (try simp only at hz); cbv)
| (refine rqw ?_; cbv)
| (refine rqk ?_; cbv)
| (refine chpA ?_; cbv)
| (refine QC.tw ?_; cbv)
| (refine QC.t3 ?_; cbv)
| (refine QC.f3 ?_; cbv)
| (refine QC.fw ?_; cbv)
| (refine QC.mk (fun hc => ?_) (fun hc => ?_) <;> (try dsimp only at hc) <;> cbv)
| (refine br_mk2 (fun hb => ?_) (fun hb => ?_) <;> (try subst hb) <;> cbv)))
            refine matq (del0 _ B hB (by omega)) (away_nil _) rfl ?_
            cbv
            (repeat' (first
| (refine q1w (fun z hz => ?_); (try simp only at hz); cbv)
| (refine rqw ?_; cbv)
| (refine rqk ?_; cbv)
| (refine chpA ?_; cbv)
| (refine QC.tw ?_; cbv)
| (refine QC.t3 ?_; cbv)
| (refine QC.f3 ?_; cbv)
| (refine QC.fw ?_; cbv)
| (refine QC.mk (fun hc => ?_) (fun hc => ?_) <;> (try dsimp only at hc) <;> cbv)
| (refine br_mk2 (fun hb => ?_) (fun hb => ?_) <;> (try subst hb) <;> cbv)))
            obtain ⟨vb, hvb⟩ : ∃ v : Bool, v = false := ⟨_, rfl⟩
            obtain ⟨W, hWd⟩ : ∃ W, W = L.drop o := ⟨_, rfl⟩
            rw [← hWd] at w2 w4
            obtain ⟨Wn, hWn⟩ : ∃ Wn, Wn = pushW W vb := ⟨_, rfl⟩
            have hl1 := pushW_len W vb (by omega)
            rw [← hWn] at hl1
            have hb1 := pushW_bits W vb (by omega)
            rw [← hWn, ← w4] at hb1
            obtain ⟨h', hh'⟩ : ∃ y, y = bitsN Wn := ⟨_, rfl⟩
            rw [← hh'] at hb1
            obtain ⟨c', hc'⟩ : ∃ y : Int, y = Wn.length := ⟨_, rfl⟩
            rw [← hc'] at hl1
            have wc : c = (W.length : Int) := by rw [w6, w2]
            rw [← wc] at hl1
            have hc8 : (c < 8 → c' = c + 1) ∧ (c = 8 → c' = 8) := by
              split at hl1 <;> omega
            have hcb : 1 ≤ c ∧ c ≤ 8 := by
              refine ⟨?_, by omega⟩
              by_cases hm0 : W.length = 0
              · have : W = [] := List.eq_nil_of_length_eq_zero hm0
                rw [this] at w4
                have : bitsN [] = 0 := rfl
                omega
              · omega
            have hWl : Wn.length ≤ 8 := by omega
            have hpw : 1 ≤ h ∧ h < 2 ^ c.toNat := ⟨w5, by rw [w4, wc]; exact (bits_lt W).2⟩
            have h255 : h ≤ 255 := by rw [w4]; exact bits_255 W (by omega)
            have hpow : h' < 2 ^ c'.toNat := by rw [hh', hc']; exact (bits_lt Wn).2
            have hM : apL (O.sg (BL L) o m) [SV.bool vb] = BL (W ++ [vb]) := by
              rw [apL_eq, osg, hBL, hBL, hWd, List.map_append, ← List.map_drop, w2, ← List.length_map (f := SV.bool), hWd, List.take_length]
              rfl
            rw [hvb] at hM hWn
            have hKl : O.ln (apL (O.sg (BL L) o m) [SV.bool false]) = W.length + 1 := by rw [hM, oln, hBL]; simp
            obtain ⟨LN, hLN⟩ : ∃ LN, LN = W ++ [false] := ⟨_, rfl⟩
            have hLl2 : LN.length = W.length + 1 := by rw [hLN]; simp
            have gbl : Blk.row none 4 (apL (O.sg (BL L) o m) [SV.bool false]) = Blk.row none 4 (BL LN) := by rw [hM, hLN]
            have hv0 : b2i vb = 0 := by rw [hvb]; rfl
            obtain ⟨n', hn'⟩ : ∃ n', n' = (n + 1) % 65536 := ⟨_, rfl⟩
            by_cases hz0 : h' = 0
            · refine callq (qMissed0 h c n c' hcb hpw h255 (by omega) hc8 (by omega)) rfl rfl ?_
              cbv
              (repeat' (first
| (refine q1w (fun z hz => ?_); (try simp only at hz); cbv)
| (refine rqw ?_; cbv)
| (refine rqk ?_; cbv)
| (refine chpA ?_; cbv)
| (refine QC.tw ?_; cbv)
| (refine QC.t3 ?_; cbv)
| (refine QC.f3 ?_; cbv)
| (refine QC.fw ?_; cbv)
| (refine QC.mk (fun hc => ?_) (fun hc => ?_) <;> (try dsimp only at hc) <;> cbv)
| (refine br_mk2 (fun hb => ?_) (fun hb => ?_) <;> (try subst hb) <;> cbv)))
              · skip
                rename_i a0 b0 y0 f0
                have hK9 : y0 = ((W.length + 1 : Nat) : Int) := by rw [← hKl]; exact f0
                have hm8 : W.length = 8 := by (first | omega | (simp only [cst] at *; omega) | (simp only [sm] at *; omega))
                have hWn8 : Wn = LN.drop 1 := by rw [hWn, hLN]; unfold pushW; rw [if_pos hm8]
                obtain ⟨oN, hoN⟩ : ∃ o : Nat, o = 1 := ⟨_, rfl⟩
                obtain ⟨mN, hmN⟩ : ∃ o : Nat, o = 8 := ⟨_, rfl⟩
                have hWl8 : Wn.length = 8 := by rw [hWn8, List.length_drop]; omega
                have g1 : oN ≤ LN.length := by omega
                have g2 : mN = (LN.drop oN).length := by rw [hoN, ← hWn8, hWl8]; exact hmN
                have g3 : mN ≤ 8 := by omega
                have g4 : h' = bitsN (LN.drop oN) := by rw [hoN, ← hWn8]; exact hh'
                have g5 : c' = mN := by rw [hc', hWl8, hmN]
                have gsl : SV.rsl 9 none (O.ad 0 1) (O.sb (O.ln (apL (O.sg (BL L) o m) [SV.bool false])) 1) none = SV.rsl 9 none oN mN none := by rw [oad, osb, hKl, hoN, hmN, hm8]; rfl
                have htt : ∀ z : Int, z = ((O.sb (O.ln (apL (O.sg (BL L) o m) [SV.bool false])) 1 : Nat) : Int) → z = (Wn.length : Int) := fun z hz => by rw [hz, osb, hKl, hm8, hWl8]; rfl
                have hln : ∀ k, k < Wn.length → k < O.ln (O.sg (apL (O.sg (BL L) o m) [SV.bool false]) (O.ad 0 1) (O.sb (O.ln (apL (O.sg (BL L) o m) [SV.bool false])) 1)) := fun k hk => by
                  rw [oln, osg, oad, osb, hKl, hM, hBL, List.length_take, List.length_drop, List.length_map, ← hLN, hLl2, hm8]
                  show k < min (8 + 1 - 1) (8 + 1 - 1)
                  omega
                have hXk : ∀ (k : Nat) (w : Bool), k < Wn.length → Wn[k]? = some w → (apL (O.sg (BL L) o m) [SV.bool false])[O.ad 0 1 + k]? = some (SV.bool w) := fun k w hk hw => by
                  rw [hM, hBL, oad, ← hLN, List.getElem?_map]
                  rw [hWn8, List.getElem?_drop] at hw
                  rw [show 0 + Int.toNat 1 + k = 1 + k from rfl, hw]
                  rfl
                have hcn0 : cntB Wn = 0 := cnt_zero Wn hWl (by rw [← hh']; exact hz0)
                revert z
                intro tot htot1
                have htot : tot = (Wn.length : Int) := htt tot htot1
                clear htot1
                obtain ⟨wk, CN, CN0, CNm, hCb, hCN⟩ := cntF Wn
                refine loopQ (A := Nat × Int × Int) (fun p => p.2.1 = p.1 ∧ p.1 ≤ Wn.length ∧ p.2.2 = CN p.1) (fun p => Wn.length - p.1) (fun p => [(15, .int .i64 p.2.1), (7, .int .i64 p.2.2)]) (fun p => []) (0, 0, 0) ⟨rfl, Nat.zero_le _, CN0.symm⟩ ?_ ?_
                · cbv
                · intro ⟨k, kx, hd⟩ hp
                  have hk : kx = (k : Int) := hp.1
                  have hkl : k ≤ Wn.length := hp.2.1
                  have hhd : hd = CN k := hp.2.2
                  clear hp
                  have hck := hCN k
                  have hcb := hCb k
                  have hlk := hln k
                  have hxk := hXk k
                  have hor : kx < tot ∨ hd = 0 := by
                    by_cases hke : k < Wn.length
                    · exact .inl (by omega)
                    · have hke : k = Wn.length := by omega
                      exact .inr (by rw [hhd, hke, CNm]; exact hcn0)
                  cbv
                  (repeat' (first
| (refine q1w (fun z hz => ?_); (try simp only at hz); cbv)
| (refine rqw ?_; cbv)
| (refine rqk ?_; cbv)
| (refine chpA ?_; cbv)
| (refine QC.tw ?_; cbv)
| (refine QC.t3 ?_; cbv)
| (refine QC.f3 ?_; cbv)
| (refine QC.fw ?_; cbv)
| (refine QC.mk (fun hc => ?_) (fun hc => ?_) <;> (try dsimp only at hc) <;> cbv)
| (refine br_mk2 (fun hb => ?_) (fun hb => ?_) <;> (try subst hb) <;> cbv)))
                  · have hkm : k < Wn.length := by (first | omega | (simp only [cst] at *; omega) | (simp only [sm] at *; omega))
                    obtain ⟨wb, hwb⟩ : ∃ y, y = wk k := ⟨_, rfl⟩
                    have hck2 := (hck hkm).2
                    have hck1 := (hck hkm).1
                    rw [← hwb] at hck1 hck2
                    refine qv k ⟨by (first | omega | (simp only [cst] at *; omega) | (simp only [sm] at *; omega)), hlk hkm⟩ ?_
                    cbv
                    (repeat' (first
| (refine q1w (fun z hz => ?_); (try simp only at hz); cbv)
| (refine rqw ?_; cbv)
| (refine rqk ?_; cbv)
| (refine chpA ?_; cbv)
| (refine QC.tw ?_; cbv)
| (refine QC.t3 ?_; cbv)
| (refine QC.f3 ?_; cbv)
| (refine QC.fw ?_; cbv)
| (refine QC.mk (fun hc => ?_) (fun hc => ?_) <;> (try dsimp only at hc) <;> cbv)
| (refine br_mk2 (fun hb => ?_) (fun hb => ?_) <;> (try subst hb) <;> cbv)))
                    refine qv (.bool wb) (by first | exact hxk wb hkm hck1 | (have e := hxk wb hkm hck1; revert e; cases k <;> exact fun e => e)) ?_
                    cbv
                    (repeat' (first
| (refine q1w (fun z hz => ?_); (try simp only at hz); cbv)
| (refine rqw ?_; cbv)
| (refine rqk ?_; cbv)
| (refine chpA ?_; cbv)
| (refine QC.tw ?_; cbv)
| (refine QC.t3 ?_; cbv)
| (refine QC.f3 ?_; cbv)
| (refine QC.fw ?_; cbv)
| (refine QC.mk (fun hc => ?_) (fun hc => ?_) <;> (try dsimp only at hc) <;> cbv)
| (refine br_mk2 (fun hb => ?_) (fun hb => ?_) <;> (try subst hb) <;> cbv)))
                    · rename_i y1 f1
                      refine ⟨(k + 1, z, y1), ⟨by (first | omega | (simp only [cst] at *; omega) | (simp only [sm] at *; omega)), by (first | omega | (simp only [cst] at *; omega) | (simp only [sm] at *; omega)), by show y1 = CN (k + 1); rw [hck2]; simp only [b2i, if_true]; omega⟩, by (first | omega | (simp only [cst] at *; omega) | (simp only [sm] at *; omega)), ?_⟩
                      cbv
                    · refine ⟨(k + 1, z, hd), ⟨by (first | omega | (simp only [cst] at *; omega) | (simp only [sm] at *; omega)), by (first | omega | (simp only [cst] at *; omega) | (simp only [sm] at *; omega)), by show hd = CN (k + 1); rw [hck2]; simp only [b2i, Bool.false_eq_true, if_false]; omega⟩, by (first | omega | (simp only [cst] at *; omega) | (simp only [sm] at *; omega)), ?_⟩
                      cbv
                  · have hke : k = Wn.length := by (first | omega | (simp only [cst] at *; omega) | (simp only [sm] at *; omega))
                    have hde : hd = cntB Wn := by rw [hhd, hke, CNm]
                    refine callq qRxZ rfl rfl ?_
                    cbv
                    (repeat' (first
| (refine q1w (fun z hz => ?_); (try simp only at hz); cbv)
| (refine rqw ?_; cbv)
| (refine rqk ?_; cbv)
| (refine chpA ?_; cbv)
| (refine QC.tw ?_; cbv)
| (refine QC.t3 ?_; cbv)
| (refine QC.f3 ?_; cbv)
| (refine QC.fw ?_; cbv)
| (refine QC.mk (fun hc => ?_) (fun hc => ?_) <;> (try dsimp only at hc) <;> cbv)
| (refine br_mk2 (fun hb => ?_) (fun hb => ?_) <;> (try subst hb) <;> cbv)))
                    refine ⟨(i + 1, z, 0, o, m, L, h, c, n, 0), ⟨by (first | omega | (simp only [cst] at *; omega) | (simp only [sm] at *; omega)), by (first | omega | (simp only [cst] at *; omega) | (simp only [sm] at *; omega)), fun h => absurd h (by show ¬ (2 ≤ 0); omega)⟩, by (first | omega | (simp only [cst] at *; omega) | (simp only [sm] at *; omega)), ?_⟩
                    cbv
              · exfalso
                rename_i a0 b0 y0 f0
                have hK9 : y0 = ((W.length + 1 : Nat) : Int) := by rw [← hKl]; exact f0
                have hm8 : W.length ≠ 8 := by (first | omega | (simp only [cst] at *; omega) | (simp only [sm] at *; omega))
                have hb2 := bits_lt W
                have h7 : (2 : Int) ^ W.length ≤ 2 ^ 7 := by
                  have := Nat.pow_le_pow_right (n := 2) (by omega) (show W.length ≤ 7 by omega)
                  exact_mod_cast this
                have e7 : (2 : Int) ^ 7 = 128 := rfl
                omega
            · have h1 : 1 ≤ h' := by omega
              refine callq (qMissed h c n h' c' n' hcb hpw h255 (by omega) hz0 hc8 (by omega) hn') rfl rfl ?_
              cbv
              (repeat' (first
| (refine q1w (fun z hz => ?_); (try simp only at hz); cbv)
| (refine rqw ?_; cbv)
| (refine rqk ?_; cbv)
| (refine chpA ?_; cbv)
| (refine QC.tw ?_; cbv)
| (refine QC.t3 ?_; cbv)
| (refine QC.f3 ?_; cbv)
| (refine QC.fw ?_; cbv)
| (refine QC.mk (fun hc => ?_) (fun hc => ?_) <;> (try dsimp only at hc) <;> cbv)
| (refine br_mk2 (fun hb => ?_) (fun hb => ?_) <;> (try subst hb) <;> cbv)))
              · skip
                rename_i a0 b0 y0 f0
                have hK9 : y0 = ((W.length + 1 : Nat) : Int) := by rw [← hKl]; exact f0
                have hm8 : W.length = 8 := by (first | omega | (simp only [cst] at *; omega) | (simp only [sm] at *; omega))
                have hWn8 : Wn = LN.drop 1 := by rw [hWn, hLN]; unfold pushW; rw [if_pos hm8]
                obtain ⟨oN, hoN⟩ : ∃ o : Nat, o = 1 := ⟨_, rfl⟩
                obtain ⟨mN, hmN⟩ : ∃ o : Nat, o = 8 := ⟨_, rfl⟩
                have hWl8 : Wn.length = 8 := by rw [hWn8, List.length_drop]; omega
                have g1 : oN ≤ LN.length := by omega
                have g2 : mN = (LN.drop oN).length := by rw [hoN, ← hWn8, hWl8]; exact hmN
                have g3 : mN ≤ 8 := by omega
                have g4 : h' = bitsN (LN.drop oN) := by rw [hoN, ← hWn8]; exact hh'
                have g5 : c' = mN := by rw [hc', hWl8, hmN]
                have gsl : SV.rsl 9 none (O.ad 0 1) (O.sb (O.ln (apL (O.sg (BL L) o m) [SV.bool false])) 1) none = SV.rsl 9 none oN mN none := by rw [oad, osb, hKl, hoN, hmN, hm8]; rfl
                have htt : ∀ z : Int, z = ((O.sb (O.ln (apL (O.sg (BL L) o m) [SV.bool false])) 1 : Nat) : Int) → z = (Wn.length : Int) := fun z hz => by rw [hz, osb, hKl, hm8, hWl8]; rfl
                have hln : ∀ k, k < Wn.length → k < O.ln (O.sg (apL (O.sg (BL L) o m) [SV.bool false]) (O.ad 0 1) (O.sb (O.ln (apL (O.sg (BL L) o m) [SV.bool false])) 1)) := fun k hk => by
                  rw [oln, osg, oad, osb, hKl, hM, hBL, List.length_take, List.length_drop, List.length_map, ← hLN, hLl2, hm8]
                  show k < min (8 + 1 - 1) (8 + 1 - 1)
                  omega
                have hXk : ∀ (k : Nat) (w : Bool), k < Wn.length → Wn[k]? = some w → (apL (O.sg (BL L) o m) [SV.bool false])[O.ad 0 1 + k]? = some (SV.bool w) := fun k w hk hw => by
                  rw [hM, hBL, oad, ← hLN, List.getElem?_map]
                  rw [hWn8, List.getElem?_drop] at hw
                  rw [show 0 + Int.toNat 1 + k = 1 + k from rfl, hw]
                  rfl
                obtain ⟨yN, hyN⟩ : ∃ y : Int, y = 0 := ⟨_, rfl⟩
                have hcn : 1 ≤ cntB Wn := cnt_pos Wn hWl (by rw [← hh']; exact h1)
                revert z
                intro tot htot1
                have htot : tot = (Wn.length : Int) := htt tot htot1
                clear htot1
                obtain ⟨wk, CN, CN0, CNm, hCb, hCN⟩ := cntF Wn
                refine loopQ (A := Nat × Int × Int) (fun p => p.2.1 = p.1 ∧ p.1 ≤ Wn.length ∧ p.2.2 = CN p.1) (fun p => Wn.length - p.1) (fun p => [(15, .int .i64 p.2.1), (7, .int .i64 p.2.2)]) (fun p => []) (0, 0, 0) ⟨rfl, Nat.zero_le _, CN0.symm⟩ ?_ ?_
                · cbv
                · intro ⟨k, kx, hd⟩ hp
                  have hk : kx = (k : Int) := hp.1
                  have hkl : k ≤ Wn.length := hp.2.1
                  have hhd : hd = CN k := hp.2.2
                  clear hp
                  have hck := hCN k
                  have hcb := hCb k
                  have hlk := hln k
                  have hxk := hXk k
                  have hor : kx < tot ∨ 1 ≤ hd := by
                    by_cases hke : k < Wn.length
                    · exact .inl (by omega)
                    · have hke : k = Wn.length := by omega
                      exact .inr (by rw [hhd, hke, CNm]; exact hcn)
                  cbv
                  (repeat' (first
| (refine q1w (fun z hz => ?_); (try simp only at hz); cbv)
| (refine rqw ?_; cbv)
| (refine rqk ?_; cbv)
| (refine chpA ?_; cbv)
| (refine QC.tw ?_; cbv)
| (refine QC.t3 ?_; cbv)
| (refine QC.f3 ?_; cbv)
| (refine QC.fw ?_; cbv)
| (refine QC.mk (fun hc => ?_) (fun hc => ?_) <;> (try dsimp only at hc) <;> cbv)
| (refine br_mk2 (fun hb => ?_) (fun hb => ?_) <;> (try subst hb) <;> cbv)))
                  · have hkm : k < Wn.length := by (first | omega | (simp only [cst] at *; omega) | (simp only [sm] at *; omega))
                    obtain ⟨wb, hwb⟩ : ∃ y, y = wk k := ⟨_, rfl⟩
                    have hck2 := (hck hkm).2
                    have hck1 := (hck hkm).1
                    rw [← hwb] at hck1 hck2
                    refine qv k ⟨by (first | omega | (simp only [cst] at *; omega) | (simp only [sm] at *; omega)), hlk hkm⟩ ?_
                    cbv
                    (repeat' (first
| (refine q1w (fun z hz => ?_); (try simp only at hz); cbv)
| (refine rqw ?_; cbv)
| (refine rqk ?_; cbv)
| (refine chpA ?_; cbv)
| (refine QC.tw ?_; cbv)
| (refine QC.t3 ?_; cbv)
| (refine QC.f3 ?_; cbv)
| (refine QC.fw ?_; cbv)
| (refine QC.mk (fun hc => ?_) (fun hc => ?_) <;> (try dsimp only at hc) <;> cbv)
| (refine br_mk2 (fun hb => ?_) (fun hb => ?_) <;> (try subst hb) <;> cbv)))
                    refine qv (.bool wb) (by first | exact hxk wb hkm hck1 | (have e := hxk wb hkm hck1; revert e; cases k <;> exact fun e => e)) ?_
                    cbv
                    (repeat' (first
| (refine q1w (fun z hz => ?_); (try simp only at hz); cbv)
| (refine rqw ?_; cbv)
| (refine rqk ?_; cbv)
| (refine chpA ?_; cbv)
| (refine QC.tw ?_; cbv)
| (refine QC.t3 ?_; cbv)
| (refine QC.f3 ?_; cbv)
| (refine QC.fw ?_; cbv)
| (refine QC.mk (fun hc => ?_) (fun hc => ?_) <;> (try dsimp only at hc) <;> cbv)
| (refine br_mk2 (fun hb => ?_) (fun hb => ?_) <;> (try subst hb) <;> cbv)))
                    · rename_i y1 f1
                      refine ⟨(k + 1, z, y1), ⟨by (first | omega | (simp only [cst] at *; omega) | (simp only [sm] at *; omega)), by (first | omega | (simp only [cst] at *; omega) | (simp only [sm] at *; omega)), by show y1 = CN (k + 1); rw [hck2]; simp only [b2i, if_true]; omega⟩, by (first | omega | (simp only [cst] at *; omega) | (simp only [sm] at *; omega)), ?_⟩
                      cbv
                    · refine ⟨(k + 1, z, hd), ⟨by (first | omega | (simp only [cst] at *; omega) | (simp only [sm] at *; omega)), by (first | omega | (simp only [cst] at *; omega) | (simp only [sm] at *; omega)), by show hd = CN (k + 1); rw [hck2]; simp only [b2i, Bool.false_eq_true, if_false]; omega⟩, by (first | omega | (simp only [cst] at *; omega) | (simp only [sm] at *; omega)), ?_⟩
                      cbv
                  · have hke : k = Wn.length := by (first | omega | (simp only [cst] at *; omega) | (simp only [sm] at *; omega))
                    have hde : hd = cntB Wn := by rw [hhd, hke, CNm]
                    have hpc : pcI h' = hd := by rw [hh', pc_cnt _ Wn rfl hWl, hde]
                    obtain ⟨rr, hrr⟩ : ∃ rr, rr = (256 * c' + hd - 1) / hd := ⟨_, rfl⟩
                    refine callq (qRx h' c' n' rr (by (first | omega | (simp only [cst] at *; omega) | (simp only [sm] at *; omega))) ⟨h1, hpow⟩ (by rw [hh']; exact bits_255 Wn hWl) (by rw [hpc]; exact hrr)) rfl rfl ?_
                    cbv
                    (repeat' (first
| (refine q1w (fun z hz => ?_); (try simp only at hz); cbv)
| (refine rqw ?_; cbv)
| (refine rqk ?_; cbv)
| (refine chpA ?_; cbv)
| (refine QC.tw ?_; cbv)
| (refine QC.t3 ?_; cbv)
| (refine QC.f3 ?_; cbv)
| (refine QC.fw ?_; cbv)
| (refine QC.mk (fun hc => ?_) (fun hc => ?_) <;> (try dsimp only at hc) <;> cbv)
| (refine br_mk2 (fun hb => ?_) (fun hb => ?_) <;> (try subst hb) <;> cbv)))
                    · rename_i a1 b1 a2 b2 a3 b3
                      have e3 : a3 = 256 * c' + hd - 1 := by (first | omega | (simp only [cst] at *; omega) | (simp only [sm] at *; omega))
                      refine absurd ?_ hc
                      rw [hz.1 (by (first | omega | (simp only [cst] at *; omega) | (simp only [sm] at *; omega))), e3, hrr]
                    · refine ⟨(i + 1, z, 2, oN, mN, LN, h', c', n', yN), ⟨by (first | omega | (simp only [cst] at *; omega) | (simp only [sm] at *; omega)), by (first | omega | (simp only [cst] at *; omega) | (simp only [sm] at *; omega)), fun _ => ⟨g1, g2, g3, g4, h1, g5, by show n' = (st + ((i + 1 : Nat) : Int)) % 65536; (first | omega | (simp only [cst] at *; omega) | (simp only [sm] at *; omega))⟩⟩, by (first | omega | (simp only [cst] at *; omega) | (simp only [sm] at *; omega)), ?_⟩
                      cbv
                      refine ⟨⟨gsl, trivial⟩, gbl, ?_, trivial⟩
                      rw [hyN]
              · skip
                rename_i a0 b0 y0 f0
                have hK9 : y0 = ((W.length + 1 : Nat) : Int) := by rw [← hKl]; exact f0
                have hm8 : W.length ≠ 8 := by (first | omega | (simp only [cst] at *; omega) | (simp only [sm] at *; omega))
                have hWn8 : Wn = LN := by rw [hWn, hLN]; unfold pushW; rw [if_neg hm8]
                obtain ⟨oN, hoN⟩ : ∃ o : Nat, o = 0 := ⟨_, rfl⟩
                obtain ⟨mN, hmN⟩ : ∃ o : Nat, o = W.length + 1 := ⟨_, rfl⟩
                have hWl8 : Wn.length = W.length + 1 := by rw [hWn8]; exact hLl2
                have g1 : oN ≤ LN.length := by omega
                have g2 : mN = (LN.drop oN).length := by rw [hoN, List.drop_zero, hLl2]; exact hmN
                have g3 : mN ≤ 8 := by omega
                have g4 : h' = bitsN (LN.drop oN) := by rw [hoN, List.drop_zero, ← hWn8]; exact hh'
                have g5 : c' = mN := by rw [hc', hWl8, hmN]
                have gsl : SV.rsl 9 none 0 (O.ln (apL (O.sg (BL L) o m) [SV.bool false])) none = SV.rsl 9 none oN mN none := by rw [hKl, hoN, hmN]
                have htt : ∀ z : Int, z = ((O.ln (apL (O.sg (BL L) o m) [SV.bool false]) : Nat) : Int) → z = (Wn.length : Int) := fun z hz => by rw [hz, hKl, hWl8]
                have hln : ∀ k, k < Wn.length → k < O.ln (apL (O.sg (BL L) o m) [SV.bool false]) := fun k hk => by rw [hKl]; omega
                have hXk : ∀ (k : Nat) (w : Bool), k < Wn.length → Wn[k]? = some w → (apL (O.sg (BL L) o m) [SV.bool false])[k]? = some (SV.bool w) := fun k w hk hw => by
                  rw [hM, hBL, ← hLN, List.getElem?_map, ← hWn8, hw]
                  rfl
                obtain ⟨yN, hyN⟩ : ∃ y : Int, y = 0 := ⟨_, rfl⟩
                have hcn : 1 ≤ cntB Wn := cnt_pos Wn hWl (by rw [← hh']; exact h1)
                revert z
                intro tot htot1
                have htot : tot = (Wn.length : Int) := htt tot htot1
                clear htot1
                obtain ⟨wk, CN, CN0, CNm, hCb, hCN⟩ := cntF Wn
                refine loopQ (A := Nat × Int × Int) (fun p => p.2.1 = p.1 ∧ p.1 ≤ Wn.length ∧ p.2.2 = CN p.1) (fun p => Wn.length - p.1) (fun p => [(15, .int .i64 p.2.1), (7, .int .i64 p.2.2)]) (fun p => []) (0, 0, 0) ⟨rfl, Nat.zero_le _, CN0.symm⟩ ?_ ?_
                · cbv
                · intro ⟨k, kx, hd⟩ hp
                  have hk : kx = (k : Int) := hp.1
                  have hkl : k ≤ Wn.length := hp.2.1
                  have hhd : hd = CN k := hp.2.2
                  clear hp
                  have hck := hCN k
                  have hcb := hCb k
                  have hlk := hln k
                  have hxk := hXk k
                  have hor : kx < tot ∨ 1 ≤ hd := by
                    by_cases hke : k < Wn.length
                    · exact .inl (by omega)
                    · have hke : k = Wn.length := by omega
                      exact .inr (by rw [hhd, hke, CNm]; exact hcn)
                  cbv
                  (repeat' (first
| (refine q1w (fun z hz => ?_); (try simp only at hz); cbv)
| (refine rqw ?_; cbv)
| (refine rqk ?_; cbv)
| (refine chpA ?_; cbv)
| (refine QC.tw ?_; cbv)
| (refine QC.t3 ?_; cbv)
| (refine QC.f3 ?_; cbv)
| (refine QC.fw ?_; cbv)
| (refine QC.mk (fun hc => ?_) (fun hc => ?_) <;> (try dsimp only at hc) <;> cbv)
| (refine br_mk2 (fun hb => ?_) (fun hb => ?_) <;> (try subst hb) <;> cbv)))
                  · have hkm : k < Wn.length := by (first | omega | (simp only [cst] at *; omega) | (simp only [sm] at *; omega))
                    obtain ⟨wb, hwb⟩ : ∃ y, y = wk k := ⟨_, rfl⟩
                    have hck2 := (hck hkm).2
                    have hck1 := (hck hkm).1
                    rw [← hwb] at hck1 hck2
                    refine qv k ⟨by (first | omega | (simp only [cst] at *; omega) | (simp only [sm] at *; omega)), hlk hkm⟩ ?_
                    cbv
                    (repeat' (first
| (refine q1w (fun z hz => ?_); (try simp only at hz); cbv)
| (refine rqw ?_; cbv)
| (refine rqk ?_; cbv)
| (refine chpA ?_; cbv)
| (refine QC.tw ?_; cbv)
| (refine QC.t3 ?_; cbv)
| (refine QC.f3 ?_; cbv)
| (refine QC.fw ?_; cbv)
| (refine QC.mk (fun hc => ?_) (fun hc => ?_) <;> (try dsimp only at hc) <;> cbv)
| (refine br_mk2 (fun hb => ?_) (fun hb => ?_) <;> (try subst hb) <;> cbv)))
                    refine qv (.bool wb) (by first | exact hxk wb hkm hck1 | (have e := hxk wb hkm hck1; revert e; cases k <;> exact fun e => e)) ?_
                    cbv
                    (repeat' (first
| (refine q1w (fun z hz => ?_); (try simp only at hz); cbv)
| (refine rqw ?_; cbv)
| (refine rqk ?_; cbv)
| (refine chpA ?_; cbv)
| (refine QC.tw ?_; cbv)
| (refine QC.t3 ?_; cbv)
| (refine QC.f3 ?_; cbv)
| (refine QC.fw ?_; cbv)
| (refine QC.mk (fun hc => ?_) (fun hc => ?_) <;> (try dsimp only at hc) <;> cbv)
| (refine br_mk2 (fun hb => ?_) (fun hb => ?_) <;> (try subst hb) <;> cbv)))
                    · rename_i y1 f1
                      refine ⟨(k + 1, z, y1), ⟨by (first | omega | (simp only [cst] at *; omega) | (simp only [sm] at *; omega)), by (first | omega | (simp only [cst] at *; omega) | (simp only [sm] at *; omega)), by show y1 = CN (k + 1); rw [hck2]; simp only [b2i, if_true]; omega⟩, by (first | omega | (simp only [cst] at *; omega) | (simp only [sm] at *; omega)), ?_⟩
                      cbv
                    · refine ⟨(k + 1, z, hd), ⟨by (first | omega | (simp only [cst] at *; omega) | (simp only [sm] at *; omega)), by (first | omega | (simp only [cst] at *; omega) | (simp only [sm] at *; omega)), by show hd = CN (k + 1); rw [hck2]; simp only [b2i, Bool.false_eq_true, if_false]; omega⟩, by (first | omega | (simp only [cst] at *; omega) | (simp only [sm] at *; omega)), ?_⟩
                      cbv
                  · have hke : k = Wn.length := by (first | omega | (simp only [cst] at *; omega) | (simp only [sm] at *; omega))
                    have hde : hd = cntB Wn := by rw [hhd, hke, CNm]
                    have hpc : pcI h' = hd := by rw [hh', pc_cnt _ Wn rfl hWl, hde]
                    obtain ⟨rr, hrr⟩ : ∃ rr, rr = (256 * c' + hd - 1) / hd := ⟨_, rfl⟩
                    refine callq (qRx h' c' n' rr (by (first | omega | (simp only [cst] at *; omega) | (simp only [sm] at *; omega))) ⟨h1, hpow⟩ (by rw [hh']; exact bits_255 Wn hWl) (by rw [hpc]; exact hrr)) rfl rfl ?_
                    cbv
                    (repeat' (first
| (refine q1w (fun z hz => ?_); (try simp only at hz); cbv)
| (refine rqw ?_; cbv)
| (refine rqk ?_; cbv)
| (refine chpA ?_; cbv)
| (refine QC.tw ?_; cbv)
| (refine QC.t3 ?_; cbv)
| (refine QC.f3 ?_; cbv)
| (refine QC.fw ?_; cbv)
| (refine QC.mk (fun hc => ?_) (fun hc => ?_) <;> (try dsimp only at hc) <;> cbv)
| (refine br_mk2 (fun hb => ?_) (fun hb => ?_) <;> (try subst hb) <;> cbv)))
                    · rename_i a1 b1 a2 b2 a3 b3
                      have e3 : a3 = 256 * c' + hd - 1 := by (first | omega | (simp only [cst] at *; omega) | (simp only [sm] at *; omega))
                      refine absurd ?_ hc
                      rw [hz.1 (by (first | omega | (simp only [cst] at *; omega) | (simp only [sm] at *; omega))), e3, hrr]
                    · refine ⟨(i + 1, z, 2, oN, mN, LN, h', c', n', yN), ⟨by (first | omega | (simp only [cst] at *; omega) | (simp only [sm] at *; omega)), by (first | omega | (simp only [cst] at *; omega) | (simp only [sm] at *; omega)), fun _ => ⟨g1, g2, g3, g4, h1, g5, by show n' = (st + ((i + 1 : Nat) : Int)) % 65536; (first | omega | (simp only [cst] at *; omega) | (simp only [sm] at *; omega))⟩⟩, by (first | omega | (simp only [cst] at *; omega) | (simp only [sm] at *; omega)), ?_⟩
                      cbv
                      refine ⟨⟨gsl, trivial⟩, gbl, ?_, trivial⟩
                      rw [hyN]
          · skip
            have ez : z = st + i := by (first | omega | (simp only [cst] at *; omega) | (simp only [sm] at *; omega))
            obtain ⟨B, hB⟩ : ∃ B, B = u8l (bytesOf z 2) := ⟨_, rfl⟩
            have hbl2 : (bytesOf z 2).length = 2 := bytesOf_length _ _
            refine callq (rappend_c [] [] B z 2 2 rfl rfl (by omega) (by omega) (by simp) (by rw [hB]; rfl)) rfl rfl ?_
            cbv
            (repeat' (first
| (refine q1w (fun z hz => ?_); (try simp only at hz); cbv)
| (refine rqw ?_; cbv)
| (refine rqk ?_; cbv)
| (refine chpA ?_; cbv)
| (refine QC.tw ?_; cbv)
| (refine QC.t3 ?_; cbv)
| (refine QC.f3 ?_; cbv)
| (refine QC.fw ?_; cbv)
| (refine QC.mk (fun hc => ?_) (fun hc => ?_) <;> (try dsimp only at hc) <;> cbv)
| (refine br_mk2 (fun hb => ?_) (fun hb => ?_) <;> (try subst hb) <;> cbv)))
            refine matq (del1 _ B hB (by omega)) (away_del _ B hB _ _ _ _ _ _) rfl ?_
            cbv
            (repeat' (first
| (refine q1w (fun z hz => ?_); (try simp only at hz); cbv)
| (refine rqw ?_; cbv)
| (refine rqk ?_; cbv)
| (refine chpA ?_; cbv)
| (refine QC.tw ?_; cbv)
| (refine QC.t3 ?_; cbv)
| (refine QC.f3 ?_; cbv)
| (refine QC.fw ?_; cbv)
| (refine QC.mk (fun hc => ?_) (fun hc => ?_) <;> (try dsimp only at hc) <;> cbv)
| (refine br_mk2 (fun hb => ?_) (fun hb => ?_) <;> (try subst hb) <;> cbv)
| ((refine qvIdx _ (by rfl) (by decide) ?_; cbv))))
            rename_i zz fz
            have ezz : zz = st + i := by omega
            obtain ⟨r, hr⟩ : ∃ r, r = zz % 65536 := ⟨_, rfl⟩
            have hr0 : 0 ≤ r ∧ r ≤ 65535 := by omega
            refine callq (ruint_c (bytesOf zz 2) B 0 2 r 0 2 hB rfl rfl (by omega) (by omega) (by omega) (by omega) (by rw [hr, List.drop_zero, List.take_of_length_le (by omega)]; exact (be_two zz (by omega)).symm)) rfl rfl ?_
            cbv
            (repeat' (first
| (refine q1w (fun z hz => ?_); (try simp only at hz); cbv)
| (refine rqw ?_; cbv)
| (refine rqk ?_; cbv)
| (refine chpA ?_; cbv)
| (refine QC.tw ?_; cbv)
| (refine QC.t3 ?_; cbv)
| (refine QC.f3 ?_; cbv)
| (refine QC.fw ?_; cbv)
| (refine QC.mk (fun hc => ?_) (fun hc => ?_) <;> (try dsimp only at hc) <;> cbv)
| (refine br_mk2 (fun hb => ?_) (fun hb => ?_) <;> (try subst hb) <;> cbv)))
            have er : r = z := by omega
            subst er
            have es : r = (st + i) % 65536 := by (first | omega | (simp only [cst] at *; omega) | (simp only [sm] at *; omega))
            obtain ⟨n', hn'⟩ : ∃ n', n' = (r + 1) % 65536 := ⟨_, rfl⟩
            obtain ⟨vb, hvb⟩ : ∃ v : Bool, v = true := ⟨_, rfl⟩
            obtain ⟨W, hWd⟩ : ∃ W, W = L.drop o := ⟨_, rfl⟩
            rw [← hWd] at w2 w4
            obtain ⟨Wn, hWn⟩ : ∃ Wn, Wn = pushW W vb := ⟨_, rfl⟩
            have hl1 := pushW_len W vb (by omega)
            rw [← hWn] at hl1
            have hb1 := pushW_bits W vb (by omega)
            rw [← hWn, ← w4] at hb1
            obtain ⟨h', hh'⟩ : ∃ y, y = bitsN Wn := ⟨_, rfl⟩
            rw [← hh'] at hb1
            obtain ⟨c', hc'⟩ : ∃ y : Int, y = Wn.length := ⟨_, rfl⟩
            rw [← hc'] at hl1
            have wc : c = (W.length : Int) := by rw [w6, w2]
            rw [← wc] at hl1
            have hc8 : (c < 8 → c' = c + 1) ∧ (c = 8 → c' = 8) := by
              split at hl1 <;> omega
            have hcb : 1 ≤ c ∧ c ≤ 8 := by
              refine ⟨?_, by omega⟩
              by_cases hm0 : W.length = 0
              · have : W = [] := List.eq_nil_of_length_eq_zero hm0
                rw [this] at w4
                have : bitsN [] = 0 := rfl
                omega
              · omega
            have hWl : Wn.length ≤ 8 := by omega
            have hpw : 1 ≤ h ∧ h < 2 ^ c.toNat := ⟨w5, by rw [w4, wc]; exact (bits_lt W).2⟩
            have h255 : h ≤ 255 := by rw [w4]; exact bits_255 W (by omega)
            have hpow : h' < 2 ^ c'.toNat := by rw [hh', hc']; exact (bits_lt Wn).2
            have hM : apL (O.sg (BL L) o m) [SV.bool vb] = BL (W ++ [vb]) := by
              rw [apL_eq, osg, hBL, hBL, hWd, List.map_append, ← List.map_drop, w2, ← List.length_map (f := SV.bool), hWd, List.take_length]
              rfl
            rw [hvb] at hM hWn
            have hKl : O.ln (apL (O.sg (BL L) o m) [SV.bool true]) = W.length + 1 := by rw [hM, oln, hBL]; simp
            obtain ⟨LN, hLN⟩ : ∃ LN, LN = W ++ [true] := ⟨_, rfl⟩
            have hLl2 : LN.length = W.length + 1 := by rw [hLN]; simp
            have gbl : Blk.row none 4 (apL (O.sg (BL L) o m) [SV.bool true]) = Blk.row none 4 (BL LN) := by rw [hM, hLN]
            have hv1 : b2i vb = 1 := by rw [hvb]; rfl
            have h1 : 1 ≤ h' := by omega
            have enr : n = r := by omega
            subst enr
            refine callq (qHello h c n h' c' n' hcb hpw h255 (by omega) hc8 (by omega) hn') rfl rfl ?_
            cbv
            (repeat' (first
| (refine q1w (fun z hz => ?_); (try simp only at hz); cbv)
| (refine rqw ?_; cbv)
| (refine rqk ?_; cbv)
| (refine chpA ?_; cbv)
| (refine QC.tw ?_; cbv)
| (refine QC.t3 ?_; cbv)
| (refine QC.f3 ?_; cbv)
| (refine QC.fw ?_; cbv)
| (refine QC.mk (fun hc => ?_) (fun hc => ?_) <;> (try dsimp only at hc) <;> cbv)
| (refine br_mk2 (fun hb => ?_) (fun hb => ?_) <;> (try subst hb) <;> cbv)))
            · skip
              rename_i a0 b0 y0 f0
              have hK9 : y0 = ((W.length + 1 : Nat) : Int) := by rw [← hKl]; exact f0
              have hm8 : W.length = 8 := by (first | omega | (simp only [cst] at *; omega) | (simp only [sm] at *; omega))
              have hWn8 : Wn = LN.drop 1 := by rw [hWn, hLN]; unfold pushW; rw [if_pos hm8]
              obtain ⟨oN, hoN⟩ : ∃ o : Nat, o = 1 := ⟨_, rfl⟩
              obtain ⟨mN, hmN⟩ : ∃ o : Nat, o = 8 := ⟨_, rfl⟩
              have hWl8 : Wn.length = 8 := by rw [hWn8, List.length_drop]; omega
              have g1 : oN ≤ LN.length := by omega
              have g2 : mN = (LN.drop oN).length := by rw [hoN, ← hWn8, hWl8]; exact hmN
              have g3 : mN ≤ 8 := by omega
              have g4 : h' = bitsN (LN.drop oN) := by rw [hoN, ← hWn8]; exact hh'
              have g5 : c' = mN := by rw [hc', hWl8, hmN]
              have gsl : SV.rsl 9 none (O.ad 0 1) (O.sb (O.ln (apL (O.sg (BL L) o m) [SV.bool true])) 1) none = SV.rsl 9 none oN mN none := by rw [oad, osb, hKl, hoN, hmN, hm8]; rfl
              have htt : ∀ z : Int, z = ((O.sb (O.ln (apL (O.sg (BL L) o m) [SV.bool true])) 1 : Nat) : Int) → z = (Wn.length : Int) := fun z hz => by rw [hz, osb, hKl, hm8, hWl8]; rfl
              have hln : ∀ k, k < Wn.length → k < O.ln (O.sg (apL (O.sg (BL L) o m) [SV.bool true]) (O.ad 0 1) (O.sb (O.ln (apL (O.sg (BL L) o m) [SV.bool true])) 1)) := fun k hk => by
                rw [oln, osg, oad, osb, hKl, hM, hBL, List.length_take, List.length_drop, List.length_map, ← hLN, hLl2, hm8]
                show k < min (8 + 1 - 1) (8 + 1 - 1)
                omega
              have hXk : ∀ (k : Nat) (w : Bool), k < Wn.length → Wn[k]? = some w → (apL (O.sg (BL L) o m) [SV.bool true])[O.ad 0 1 + k]? = some (SV.bool w) := fun k w hk hw => by
                rw [hM, hBL, oad, ← hLN, List.getElem?_map]
                rw [hWn8, List.getElem?_drop] at hw
                rw [show 0 + Int.toNat 1 + k = 1 + k from rfl, hw]
                rfl
              obtain ⟨yN, hyN⟩ : ∃ y : Int, y = 256 := ⟨_, rfl⟩
              have hcn : 1 ≤ cntB Wn := cnt_pos Wn hWl (by rw [← hh']; exact h1)
              revert z
              intro tot htot1
              have htot : tot = (Wn.length : Int) := htt tot htot1
              clear htot1
              obtain ⟨wk, CN, CN0, CNm, hCb, hCN⟩ := cntF Wn
              refine loopQ (A := Nat × Int × Int) (fun p => p.2.1 = p.1 ∧ p.1 ≤ Wn.length ∧ p.2.2 = CN p.1) (fun p => Wn.length - p.1) (fun p => [(15, .int .i64 p.2.1), (7, .int .i64 p.2.2)]) (fun p => []) (0, 0, 0) ⟨rfl, Nat.zero_le _, CN0.symm⟩ ?_ ?_
              · cbv
              · intro ⟨k, kx, hd⟩ hp
                have hk : kx = (k : Int) := hp.1
                have hkl : k ≤ Wn.length := hp.2.1
                have hhd : hd = CN k := hp.2.2
                clear hp
                have hck := hCN k
                have hcb := hCb k
                have hlk := hln k
                have hxk := hXk k
                have hor : kx < tot ∨ 1 ≤ hd := by
                  by_cases hke : k < Wn.length
                  · exact .inl (by omega)
                  · have hke : k = Wn.length := by omega
                    exact .inr (by rw [hhd, hke, CNm]; exact hcn)
                cbv
                (repeat' (first
| (refine q1w (fun z hz => ?_); (try simp only at hz); cbv)
| (refine rqw ?_; cbv)
| (refine rqk ?_; cbv)
| (refine chpA ?_; cbv)
| (refine QC.tw ?_; cbv)
| (refine QC.t3 ?_; cbv)
| (refine QC.f3 ?_; cbv)
| (refine QC.fw ?_; cbv)
| (refine QC.mk (fun hc => ?_) (fun hc => ?_) <;> (try dsimp only at hc) <;> cbv)
| (refine br_mk2 (fun hb => ?_) (fun hb => ?_) <;> (try subst hb) <;> cbv)))
                · have hkm : k < Wn.length := by (first | omega | (simp only [cst] at *; omega) | (simp only [sm] at *; omega))
                  obtain ⟨wb, hwb⟩ : ∃ y, y = wk k := ⟨_, rfl⟩
                  have hck2 := (hck hkm).2
                  have hck1 := (hck hkm).1
                  rw [← hwb] at hck1 hck2
                  refine qv k ⟨by (first | omega | (simp only [cst] at *; omega) | (simp only [sm] at *; omega)), hlk hkm⟩ ?_
                  cbv
                  (repeat' (first
| (refine q1w (fun z hz => ?_); (try simp only at hz); cbv)
| (refine rqw ?_; cbv)
| (refine rqk ?_; cbv)
| (refine chpA ?_; cbv)
| (refine QC.tw ?_; cbv)
| (refine QC.t3 ?_; cbv)
| (refine QC.f3 ?_; cbv)
| (refine QC.fw ?_; cbv)
| (refine QC.mk (fun hc => ?_) (fun hc => ?_) <;> (try dsimp only at hc) <;> cbv)
| (refine br_mk2 (fun hb => ?_) (fun hb => ?_) <;> (try subst hb) <;> cbv)))
                  refine qv (.bool wb) (by first | exact hxk wb hkm hck1 | (have e := hxk wb hkm hck1; revert e; cases k <;> exact fun e => e)) ?_
                  cbv
                  (repeat' (first
| (refine q1w (fun z hz => ?_); (try simp only at hz); cbv)
| (refine rqw ?_; cbv)
| (refine rqk ?_; cbv)
| (refine chpA ?_; cbv)
| (refine QC.tw ?_; cbv)
| (refine QC.t3 ?_; cbv)
| (refine QC.f3 ?_; cbv)
| (refine QC.fw ?_; cbv)
| (refine QC.mk (fun hc => ?_) (fun hc => ?_) <;> (try dsimp only at hc) <;> cbv)
| (refine br_mk2 (fun hb => ?_) (fun hb => ?_) <;> (try subst hb) <;> cbv)))
                  · rename_i y1 f1
                    refine ⟨(k + 1, z, y1), ⟨by (first | omega | (simp only [cst] at *; omega) | (simp only [sm] at *; omega)), by (first | omega | (simp only [cst] at *; omega) | (simp only [sm] at *; omega)), by show y1 = CN (k + 1); rw [hck2]; simp only [b2i, if_true]; omega⟩, by (first | omega | (simp only [cst] at *; omega) | (simp only [sm] at *; omega)), ?_⟩
                    cbv
                  · refine ⟨(k + 1, z, hd), ⟨by (first | omega | (simp only [cst] at *; omega) | (simp only [sm] at *; omega)), by (first | omega | (simp only [cst] at *; omega) | (simp only [sm] at *; omega)), by show hd = CN (k + 1); rw [hck2]; simp only [b2i, Bool.false_eq_true, if_false]; omega⟩, by (first | omega | (simp only [cst] at *; omega) | (simp only [sm] at *; omega)), ?_⟩
                    cbv
                · have hke : k = Wn.length := by (first | omega | (simp only [cst] at *; omega) | (simp only [sm] at *; omega))
                  have hde : hd = cntB Wn := by rw [hhd, hke, CNm]
                  have hpc : pcI h' = hd := by rw [hh', pc_cnt _ Wn rfl hWl, hde]
                  obtain ⟨rr, hrr⟩ : ∃ rr, rr = (256 * c' + hd - 1) / hd := ⟨_, rfl⟩
                  refine callq (qRx h' c' n' rr (by (first | omega | (simp only [cst] at *; omega) | (simp only [sm] at *; omega))) ⟨h1, hpow⟩ (by rw [hh']; exact bits_255 Wn hWl) (by rw [hpc]; exact hrr)) rfl rfl ?_
                  cbv
                  (repeat' (first
| (refine q1w (fun z hz => ?_); (try simp only at hz); cbv)
| (refine rqw ?_; cbv)
| (refine rqk ?_; cbv)
| (refine chpA ?_; cbv)
| (refine QC.tw ?_; cbv)
| (refine QC.t3 ?_; cbv)
| (refine QC.f3 ?_; cbv)
| (refine QC.fw ?_; cbv)
| (refine QC.mk (fun hc => ?_) (fun hc => ?_) <;> (try dsimp only at hc) <;> cbv)
| (refine br_mk2 (fun hb => ?_) (fun hb => ?_) <;> (try subst hb) <;> cbv)))
                  · rename_i a1 b1 a2 b2 a3 b3
                    have e3 : a3 = 256 * c' + hd - 1 := by (first | omega | (simp only [cst] at *; omega) | (simp only [sm] at *; omega))
                    refine absurd ?_ hc
                    rw [hz.1 (by (first | omega | (simp only [cst] at *; omega) | (simp only [sm] at *; omega))), e3, hrr]
                  · refine ⟨(i + 1, z, 2, oN, mN, LN, h', c', n', yN), ⟨by (first | omega | (simp only [cst] at *; omega) | (simp only [sm] at *; omega)), by (first | omega | (simp only [cst] at *; omega) | (simp only [sm] at *; omega)), fun _ => ⟨g1, g2, g3, g4, h1, g5, by show n' = (st + ((i + 1 : Nat) : Int)) % 65536; (first | omega | (simp only [cst] at *; omega) | (simp only [sm] at *; omega))⟩⟩, by (first | omega | (simp only [cst] at *; omega) | (simp only [sm] at *; omega)), ?_⟩
                    cbv
                    refine ⟨⟨gsl, trivial⟩, gbl, ?_, trivial⟩
                    rw [hyN]
            · skip
              rename_i a0 b0 y0 f0
              have hK9 : y0 = ((W.length + 1 : Nat) : Int) := by rw [← hKl]; exact f0
              have hm8 : W.length ≠ 8 := by (first | omega | (simp only [cst] at *; omega) | (simp only [sm] at *; omega))
              have hWn8 : Wn = LN := by rw [hWn, hLN]; unfold pushW; rw [if_neg hm8]
              obtain ⟨oN, hoN⟩ : ∃ o : Nat, o = 0 := ⟨_, rfl⟩
              obtain ⟨mN, hmN⟩ : ∃ o : Nat, o = W.length + 1 := ⟨_, rfl⟩
              have hWl8 : Wn.length = W.length + 1 := by rw [hWn8]; exact hLl2
              have g1 : oN ≤ LN.length := by omega
              have g2 : mN = (LN.drop oN).length := by rw [hoN, List.drop_zero, hLl2]; exact hmN
              have g3 : mN ≤ 8 := by omega
              have g4 : h' = bitsN (LN.drop oN) := by rw [hoN, List.drop_zero, ← hWn8]; exact hh'
              have g5 : c' = mN := by rw [hc', hWl8, hmN]
              have gsl : SV.rsl 9 none 0 (O.ln (apL (O.sg (BL L) o m) [SV.bool true])) none = SV.rsl 9 none oN mN none := by rw [hKl, hoN, hmN]
              have htt : ∀ z : Int, z = ((O.ln (apL (O.sg (BL L) o m) [SV.bool true]) : Nat) : Int) → z = (Wn.length : Int) := fun z hz => by rw [hz, hKl, hWl8]
              have hln : ∀ k, k < Wn.length → k < O.ln (apL (O.sg (BL L) o m) [SV.bool true]) := fun k hk => by rw [hKl]; omega
              have hXk : ∀ (k : Nat) (w : Bool), k < Wn.length → Wn[k]? = some w → (apL (O.sg (BL L) o m) [SV.bool true])[k]? = some (SV.bool w) := fun k w hk hw => by
                rw [hM, hBL, ← hLN, List.getElem?_map, ← hWn8, hw]
                rfl
              obtain ⟨yN, hyN⟩ : ∃ y : Int, y = 256 := ⟨_, rfl⟩
              have hcn : 1 ≤ cntB Wn := cnt_pos Wn hWl (by rw [← hh']; exact h1)
              revert z
              intro tot htot1
              have htot : tot = (Wn.length : Int) := htt tot htot1
              clear htot1
              obtain ⟨wk, CN, CN0, CNm, hCb, hCN⟩ := cntF Wn
              refine loopQ (A := Nat × Int × Int) (fun p => p.2.1 = p.1 ∧ p.1 ≤ Wn.length ∧ p.2.2 = CN p.1) (fun p => Wn.length - p.1) (fun p => [(15, .int .i64 p.2.1), (7, .int .i64 p.2.2)]) (fun p => []) (0, 0, 0) ⟨rfl, Nat.zero_le _, CN0.symm⟩ ?_ ?_
              · cbv
              · intro ⟨k, kx, hd⟩ hp
                have hk : kx = (k : Int) := hp.1
                have hkl : k ≤ Wn.length := hp.2.1
                have hhd : hd = CN k := hp.2.2
                clear hp
                have hck := hCN k
                have hcb := hCb k
                have hlk := hln k
                have hxk := hXk k
                have hor : kx < tot ∨ 1 ≤ hd := by
                  by_cases hke : k < Wn.length
                  · exact .inl (by omega)
                  · have hke : k = Wn.length := by omega
                    exact .inr (by rw [hhd, hke, CNm]; exact hcn)
                cbv
                (repeat' (first
| (refine q1w (fun z hz => ?_); (try simp only at hz); cbv)
| (refine rqw ?_; cbv)
| (refine rqk ?_; cbv)
| (refine chpA ?_; cbv)
| (refine QC.tw ?_; cbv)
| (refine QC.t3 ?_; cbv)
| (refine QC.f3 ?_; cbv)
| (refine QC.fw ?_; cbv)
| (refine QC.mk (fun hc => ?_) (fun hc => ?_) <;> (try dsimp only at hc) <;> cbv)
| (refine br_mk2 (fun hb => ?_) (fun hb => ?_) <;> (try subst hb) <;> cbv)))
                · have hkm : k < Wn.length := by (first | omega | (simp only [cst] at *; omega) | (simp only [sm] at *; omega))
                  obtain ⟨wb, hwb⟩ : ∃ y, y = wk k := ⟨_, rfl⟩
                  have hck2 := (hck hkm).2
                  have hck1 := (hck hkm).1
                  rw [← hwb] at hck1 hck2
                  refine qv k ⟨by (first | omega | (simp only [cst] at *; omega) | (simp only [sm] at *; omega)), hlk hkm⟩ ?_
                  cbv
                  (repeat' (first
| (refine q1w (fun z hz => ?_); (try simp only at hz); cbv)
| (refine rqw ?_; cbv)
| (refine rqk ?_; cbv)
| (refine chpA ?_; cbv)
| (refine QC.tw ?_; cbv)
| (refine QC.t3 ?_; cbv)
| (refine QC.f3 ?_; cbv)
| (refine QC.fw ?_; cbv)
| (refine QC.mk (fun hc => ?_) (fun hc => ?_) <;> (try dsimp only at hc) <;> cbv)
| (refine br_mk2 (fun hb => ?_) (fun hb => ?_) <;> (try subst hb) <;> cbv)))
                  refine qv (.bool wb) (by first | exact hxk wb hkm hck1 | (have e := hxk wb hkm hck1; revert e; cases k <;> exact fun e => e)) ?_
                  cbv
                  (repeat' (first
| (refine q1w (fun z hz => ?_); (try simp only at hz); cbv)
| (refine rqw ?_; cbv)
| (refine rqk ?_; cbv)
| (refine chpA ?_; cbv)
| (refine QC.tw ?_; cbv)
| (refine QC.t3 ?_; cbv)
| (refine QC.f3 ?_; cbv)
| (refine QC.fw ?_; cbv)
| (refine QC.mk (fun hc => ?_) (fun hc => ?_) <;> (try dsimp only at hc) <;> cbv)
| (refine br_mk2 (fun hb => ?_) (fun hb => ?_) <;> (try subst hb) <;> cbv)))
                  · rename_i y1 f1
                    refine ⟨(k + 1, z, y1), ⟨by (first | omega | (simp only [cst] at *; omega) | (simp only [sm] at *; omega)), by (first | omega | (simp only [cst] at *; omega) | (simp only [sm] at *; omega)), by show y1 = CN (k + 1); rw [hck2]; simp only [b2i, if_true]; omega⟩, by (first | omega | (simp only [cst] at *; omega) | (simp only [sm] at *; omega)), ?_⟩
                    cbv
                  · refine ⟨(k + 1, z, hd), ⟨by (first | omega | (simp only [cst] at *; omega) | (simp only [sm] at *; omega)), by (first | omega | (simp only [cst] at *; omega) | (simp only [sm] at *; omega)), by show hd = CN (k + 1); rw [hck2]; simp only [b2i, Bool.false_eq_true, if_false]; omega⟩, by (first | omega | (simp only [cst] at *; omega) | (simp only [sm] at *; omega)), ?_⟩
                    cbv
                · have hke : k = Wn.length := by (first | omega | (simp only [cst] at *; omega) | (simp only [sm] at *; omega))
                  have hde : hd = cntB Wn := by rw [hhd, hke, CNm]
                  have hpc : pcI h' = hd := by rw [hh', pc_cnt _ Wn rfl hWl, hde]
                  obtain ⟨rr, hrr⟩ : ∃ rr, rr = (256 * c' + hd - 1) / hd := ⟨_, rfl⟩
                  refine callq (qRx h' c' n' rr (by (first | omega | (simp only [cst] at *; omega) | (simp only [sm] at *; omega))) ⟨h1, hpow⟩ (by rw [hh']; exact bits_255 Wn hWl) (by rw [hpc]; exact hrr)) rfl rfl ?_
                  cbv
                  (repeat' (first
| (refine q1w (fun z hz => ?_); (try simp only at hz); cbv)
| (refine rqw ?_; cbv)
| (refine rqk ?_; cbv)
| (refine chpA ?_; cbv)
| (refine QC.tw ?_; cbv)
| (refine QC.t3 ?_; cbv)
| (refine QC.f3 ?_; cbv)
| (refine QC.fw ?_; cbv)
| (refine QC.mk (fun hc => ?_) (fun hc => ?_) <;> (try dsimp only at hc) <;> cbv)
| (refine br_mk2 (fun hb => ?_) (fun hb => ?_) <;> (try subst hb) <;> cbv)))
                  · rename_i a1 b1 a2 b2 a3 b3
                    have e3 : a3 = 256 * c' + hd - 1 := by (first | omega | (simp only [cst] at *; omega) | (simp only [sm] at *; omega))
                    refine absurd ?_ hc
                    rw [hz.1 (by (first | omega | (simp only [cst] at *; omega) | (simp only [sm] at *; omega))), e3, hrr]
                  · refine ⟨(i + 1, z, 2, oN, mN, LN, h', c', n', yN), ⟨by (first | omega | (simp only [cst] at *; omega) | (simp only [sm] at *; omega)), by (first | omega | (simp only [cst] at *; omega) | (simp only [sm] at *; omega)), fun _ => ⟨g1, g2, g3, g4, h1, g5, by show n' = (st + ((i + 1 : Nat) : Int)) % 65536; (first | omega | (simp only [cst] at *; omega) | (simp only [sm] at *; omega))⟩⟩, by (first | omega | (simp only [cst] at *; omega) | (simp only [sm] at *; omega)), ?_⟩
                    cbv
                    refine ⟨⟨gsl, trivial⟩, gbl, ?_, trivial⟩
                    rw [hyN]
end Go.Proofs.YtgfpjhddojhfpaaGreat

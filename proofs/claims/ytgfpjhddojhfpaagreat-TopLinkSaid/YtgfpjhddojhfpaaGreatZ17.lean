/- Texts put together: LA LB LC LD LE LF. -/
import Derived.Test.YtgfpjhddojhfpaaGreatZ03
import Derived.Test.YtgfpjhddojhfpaaGreatZ13
namespace Go.Proofs.YtgfpjhddojhfpaaGreat
set_option linter.unusedVariables false
set_option linter.unusedSimpArgs false
open Go.RowKit
set_option maxHeartbeats 4000000
set_option linter.unusedSimpArgs false
set_option linter.unusedVariables false
abbrev boS (st cl w : Int) : SV := .agg [.int .i64 st, .int .i64 0, .int .i64 3, .int .i64 cl, .int .i64 w]
theorem expo0 : Good 196 (pu [.int .i64 0] (.int .i64 3)) := by
  refine Good.of Tryz.func196 rfl (by rfl) (by kernel_rfl) ?_
  cbv
  (repeat' (first
| (refine q1w (fun z hz => ?_); (try simp only at hz); cbv)
| (refine rqw ?_; cbv)
| (refine rqk ?_; cbv)
| (refine chpA ?_; cbv)
| (refine QC.tw ?_; cbv)
| (refine QC.t3 ?_; cbv)
| (refine QC.f3 ?_; cbv)
| (refine QC.fw ?_; cbv)
| (refine QC.mk (fun hc => ?_) (fun hc => ?_) <;> (try dsimp only at hc) <;> cbv)
| (refine br_mk2 (fun hb => ?_) (fun hb => ?_) <;> (try subst hb) <;> cbv)))
  have e : z = 3 := by (first | omega | (simp only [cst] at *; omega) | (simp only [sm] at *; omega))
  rw [e]
  exact ⟨rfl, rfl, rfl⟩
theorem bvalid1 (w : Int) (hw : 1 ≤ w ∧ w ≤ 7) : Good 153 (pu [boS 1 2 w] (.bool true)) := by
  have p3 : (2 : Int) ^ Int.toNat 3 = 8 := rfl
  refine Good.of Tryz.func153 rfl (by rfl) (by kernel_rfl) ?_
  cbv
  (repeat' (first
| (refine q1w (fun z hz => ?_); (try simp only at hz); cbv)
| (refine rqw ?_; cbv)
| (refine rqk ?_; cbv)
| (refine chpA ?_; cbv)
| (refine QC.tw ?_; cbv)
| (refine QC.t3 ?_; cbv)
| (refine QC.f3 ?_; cbv)
| (refine QC.fw ?_; cbv)
| (refine QC.mk (fun hc => ?_) (fun hc => ?_) <;> (try dsimp only at hc) <;> cbv)
| (refine br_mk2 (fun hb => ?_) (fun hb => ?_) <;> (try subst hb) <;> cbv)
| (refine callq (expo0) rfl rfl ?_; cbv)))
  all_goals exact ⟨rfl, rfl, rfl⟩
theorem bvalid2 (cl : Int) (hc : 1 ≤ cl ∧ cl ≤ 2) : Good 153 (pu [boS 2 cl 0] (.bool true)) := by
  refine Good.of Tryz.func153 rfl (by rfl) (by kernel_rfl) ?_
  cbv
  (repeat' (first
| (refine q1w (fun z hz => ?_); (try simp only at hz); cbv)
| (refine rqw ?_; cbv)
| (refine rqk ?_; cbv)
| (refine chpA ?_; cbv)
| (refine QC.tw ?_; cbv)
| (refine QC.t3 ?_; cbv)
| (refine QC.f3 ?_; cbv)
| (refine QC.fw ?_; cbv)
| (refine QC.mk (fun hc => ?_) (fun hc => ?_) <;> (try dsimp only at hc) <;> cbv)
| (refine br_mk2 (fun hb => ?_) (fun hb => ?_) <;> (try subst hb) <;> cbv)
| (refine callq (expo0) rfl rfl ?_; cbv)))
  all_goals exact ⟨rfl, rfl, rfl⟩
theorem bended1 (w : Int) (hw : 1 ≤ w ∧ w ≤ 7) : Good 154 (pu [boS 1 2 w] (.bool false)) := by
  have g1 := bvalid1 w hw
  refine Good.of Tryz.func154 rfl (by rfl) (by kernel_rfl) ?_
  cbv
  (repeat' (first
| (refine q1w (fun z hz => ?_); (try simp only at hz); cbv)
| (refine rqw ?_; cbv)
| (refine rqk ?_; cbv)
| (refine chpA ?_; cbv)
| (refine QC.tw ?_; cbv)
| (refine QC.t3 ?_; cbv)
| (refine QC.f3 ?_; cbv)
| (refine QC.fw ?_; cbv)
| (refine QC.mk (fun hc => ?_) (fun hc => ?_) <;> (try dsimp only at hc) <;> cbv)
| (refine br_mk2 (fun hb => ?_) (fun hb => ?_) <;> (try subst hb) <;> cbv)
| (refine callq (g1) rfl rfl ?_; cbv)))
  all_goals exact ⟨rfl, rfl, rfl⟩
theorem bended2 (cl : Int) (hc : 1 ≤ cl ∧ cl ≤ 2) : Good 154 (pu [boS 2 cl 0] (.bool false)) := by
  have g1 := bvalid2 cl hc
  refine Good.of Tryz.func154 rfl (by rfl) (by kernel_rfl) ?_
  cbv
  (repeat' (first
| (refine q1w (fun z hz => ?_); (try simp only at hz); cbv)
| (refine rqw ?_; cbv)
| (refine rqk ?_; cbv)
| (refine chpA ?_; cbv)
| (refine QC.tw ?_; cbv)
| (refine QC.t3 ?_; cbv)
| (refine QC.f3 ?_; cbv)
| (refine QC.fw ?_; cbv)
| (refine QC.mk (fun hc => ?_) (fun hc => ?_) <;> (try dsimp only at hc) <;> cbv)
| (refine br_mk2 (fun hb => ?_) (fun hb => ?_) <;> (try subst hb) <;> cbv)
| (refine callq (g1) rfl rfl ?_; cbv)))
  all_goals exact ⟨rfl, rfl, rfl⟩
theorem bstep1 (w w' d : Int) (hw : 2 ≤ w ∧ w ≤ 7) (hw' : w' = w - 1) : Good 156 (pu [boS 1 2 w, .bool false, .int .u32 d] (boS 1 2 w')) := by
  have g1 := bvalid1 w (by omega)
  refine Good.of Tryz.func156 rfl (by rfl) (by kernel_rfl) ?_
  cbv
  (repeat' (first
| (refine q1w (fun z hz => ?_); (try simp only at hz); cbv)
| (refine rqw ?_; cbv)
| (refine rqk ?_; cbv)
| (refine chpA ?_; cbv)
| (refine QC.tw ?_; cbv)
| (refine QC.t3 ?_; cbv)
| (refine QC.f3 ?_; cbv)
| (refine QC.fw ?_; cbv)
| (refine QC.mk (fun hc => ?_) (fun hc => ?_) <;> (try dsimp only at hc) <;> cbv)
| (refine br_mk2 (fun hb => ?_) (fun hb => ?_) <;> (try subst hb) <;> cbv)
| (refine callq (g1) rfl rfl ?_; cbv)))
  have e : z = w' := by omega
  rw [e]
  exact ⟨rfl, rfl, rfl⟩
theorem bstep2 (d : Int) : Good 156 (pu [boS 1 2 1, .bool false, .int .u32 d] (boS 2 2 0)) := by
  have g1 := bvalid1 1 (by omega)
  refine Good.of Tryz.func156 rfl (by rfl) (by kernel_rfl) ?_
  cbv
  (repeat' (first
| (refine q1w (fun z hz => ?_); (try simp only at hz); cbv)
| (refine rqw ?_; cbv)
| (refine rqk ?_; cbv)
| (refine chpA ?_; cbv)
| (refine QC.tw ?_; cbv)
| (refine QC.t3 ?_; cbv)
| (refine QC.f3 ?_; cbv)
| (refine QC.fw ?_; cbv)
| (refine QC.mk (fun hc => ?_) (fun hc => ?_) <;> (try dsimp only at hc) <;> cbv)
| (refine br_mk2 (fun hb => ?_) (fun hb => ?_) <;> (try subst hb) <;> cbv)
| (refine callq (g1) rfl rfl ?_; cbv)))
  have e : z = 0 := by omega
  rw [e]
  exact ⟨rfl, rfl, rfl⟩
theorem bsense2 (d : Int) : Good 198 (pu [boS 2 2 0, .bool false, .int .u32 d] (boS 2 1 0)) := by
  refine Good.of Tryz.func198 rfl (by rfl) (by kernel_rfl) ?_
  cbv
  (repeat' (first
| (refine q1w (fun z hz => ?_); (try simp only at hz); cbv)
| (refine rqw ?_; cbv)
| (refine rqk ?_; cbv)
| (refine chpA ?_; cbv)
| (refine QC.tw ?_; cbv)
| (refine QC.t3 ?_; cbv)
| (refine QC.f3 ?_; cbv)
| (refine QC.fw ?_; cbv)
| (refine QC.mk (fun hc => ?_) (fun hc => ?_) <;> (try dsimp only at hc) <;> cbv)
| (refine br_mk2 (fun hb => ?_) (fun hb => ?_) <;> (try subst hb) <;> cbv)))
  have e : z = 1 := by omega
  rw [e]
  exact ⟨rfl, rfl, rfl⟩
theorem bsense1 (d : Int) : Good 198 (pu [boS 2 1 0, .bool false, .int .u32 d] (boS 3 0 0)) := by
  refine Good.of Tryz.func198 rfl (by rfl) (by kernel_rfl) ?_
  cbv
  (repeat' (first
| (refine q1w (fun z hz => ?_); (try simp only at hz); cbv)
| (refine rqw ?_; cbv)
| (refine rqk ?_; cbv)
| (refine chpA ?_; cbv)
| (refine QC.tw ?_; cbv)
| (refine QC.t3 ?_; cbv)
| (refine QC.f3 ?_; cbv)
| (refine QC.fw ?_; cbv)
| (refine QC.mk (fun hc => ?_) (fun hc => ?_) <;> (try dsimp only at hc) <;> cbv)
| (refine br_mk2 (fun hb => ?_) (fun hb => ?_) <;> (try subst hb) <;> cbv)))
  have e : z = 0 := by omega
  rw [e]
  exact ⟨rfl, rfl, rfl⟩
theorem bstep3 (d : Int) : Good 156 (pu [boS 2 2 0, .bool false, .int .u32 d] (boS 2 1 0)) := by
  have g1 := bvalid2 2 (by omega)
  have g2 := bsense2 d
  refine Good.of Tryz.func156 rfl (by rfl) (by kernel_rfl) ?_
  cbv
  (repeat' (first
| (refine q1w (fun z hz => ?_); (try simp only at hz); cbv)
| (refine rqw ?_; cbv)
| (refine rqk ?_; cbv)
| (refine chpA ?_; cbv)
| (refine QC.tw ?_; cbv)
| (refine QC.t3 ?_; cbv)
| (refine QC.f3 ?_; cbv)
| (refine QC.fw ?_; cbv)
| (refine QC.mk (fun hc => ?_) (fun hc => ?_) <;> (try dsimp only at hc) <;> cbv)
| (refine br_mk2 (fun hb => ?_) (fun hb => ?_) <;> (try subst hb) <;> cbv)
| (refine callq (g1) rfl rfl ?_; cbv)
| (refine callq (g2) rfl rfl ?_; cbv)))
  exact ⟨rfl, rfl, rfl⟩
theorem bstep4 (d : Int) : Good 156 (pu [boS 2 1 0, .bool false, .int .u32 d] (boS 3 0 0)) := by
  have g1 := bvalid2 1 (by omega)
  have g2 := bsense1 d
  refine Good.of Tryz.func156 rfl (by rfl) (by kernel_rfl) ?_
  cbv
  (repeat' (first
| (refine q1w (fun z hz => ?_); (try simp only at hz); cbv)
| (refine rqw ?_; cbv)
| (refine rqk ?_; cbv)
| (refine chpA ?_; cbv)
| (refine QC.tw ?_; cbv)
| (refine QC.t3 ?_; cbv)
| (refine QC.f3 ?_; cbv)
| (refine QC.fw ?_; cbv)
| (refine QC.mk (fun hc => ?_) (fun hc => ?_) <;> (try dsimp only at hc) <;> cbv)
| (refine br_mk2 (fun hb => ?_) (fun hb => ?_) <;> (try subst hb) <;> cbv)
| (refine callq (g1) rfl rfl ?_; cbv)
| (refine callq (g2) rfl rfl ?_; cbv)))
  exact ⟨rfl, rfl, rfl⟩
theorem bdrawn (d w st : Int) (hd : 0 ≤ d ∧ d ≤ 4294967295) (hw : w = d % 8) (hst : (1 ≤ w ∧ st = 1) ∨ (w = 0 ∧ st = 2)) : Good 213 (pu [.agg [.int .i64 0, .int .i64 0, .int .i64 3, .int .i64 0, .int .i64 0], .int .u32 d] (boS st 2 w)) := by
  have p3 : (2 : Int) ^ Int.toNat 3 = 8 := rfl
  refine Good.of Tryz.func213 rfl (by rfl) (by kernel_rfl) ?_
  cbv
  (repeat' (first
| (refine q1w (fun z hz => ?_); (try simp only at hz); cbv)
| (refine rqw ?_; cbv)
| (refine rqk ?_; cbv)
| (refine chpA ?_; cbv)
| (refine QC.tw ?_; cbv)
| (refine QC.t3 ?_; cbv)
| (refine QC.f3 ?_; cbv)
| (refine QC.fw ?_; cbv)
| (refine QC.mk (fun hc => ?_) (fun hc => ?_) <;> (try dsimp only at hc) <;> cbv)
| (refine br_mk2 (fun hb => ?_) (fun hb => ?_) <;> (try subst hb) <;> cbv)))
  rename_i z1 h1
  have e1 : z1 = 8 := by rw [h1, p3]; rfl
  have ez : w = z := by rw [hz.2 hd.1, e1]; exact hw
  clear hz
  subst ez
  (repeat' (first
| (refine q1w (fun z hz => ?_); (try simp only at hz); cbv)
| (refine rqw ?_; cbv)
| (refine rqk ?_; cbv)
| (refine chpA ?_; cbv)
| (refine QC.tw ?_; cbv)
| (refine QC.t3 ?_; cbv)
| (refine QC.f3 ?_; cbv)
| (refine QC.fw ?_; cbv)
| (refine QC.mk (fun hc => ?_) (fun hc => ?_) <;> (try dsimp only at hc) <;> cbv)
| (refine br_mk2 (fun hb => ?_) (fun hb => ?_) <;> (try subst hb) <;> cbv)))
  all_goals refine ⟨?_, rfl, rfl⟩
  all_goals first | (have e : st = 1 := by omega
                     rw [e]; done) | (have e : st = 2 := by omega
                                      rw [e]; done) | (have e : st = 1 := by omega
                                                       rw [e]) | (have e : st = 2 := by omega
                                                                  rw [e])
theorem bbegin (d w st : Int) (hd : 0 ≤ d ∧ d ≤ 4294967295) (hw : w = d % 8) (hst : (1 ≤ w ∧ st = 1) ∨ (w = 0 ∧ st = 2)) : Good 197 (pu [.int .u32 d] (boS st 2 w)) := by
  have g1 := bdrawn d w st hd hw hst
  clear hw hst
  refine Good.of Tryz.func197 rfl (by rfl) (by kernel_rfl) ?_
  cbv
  (repeat' (first
| (refine q1w (fun z hz => ?_); (try simp only at hz); cbv)
| (refine rqw ?_; cbv)
| (refine rqk ?_; cbv)
| (refine chpA ?_; cbv)
| (refine QC.tw ?_; cbv)
| (refine QC.t3 ?_; cbv)
| (refine QC.f3 ?_; cbv)
| (refine QC.fw ?_; cbv)
| (refine QC.mk (fun hc => ?_) (fun hc => ?_) <;> (try dsimp only at hc) <;> cbv)
| (refine br_mk2 (fun hb => ?_) (fun hb => ?_) <;> (try subst hb) <;> cbv)
| (refine callq (expo0) rfl rfl ?_; cbv)
| (refine callq (g1) rfl rfl ?_; cbv)))
  exact ⟨rfl, rfl, rfl⟩
end Go.Proofs.YtgfpjhddojhfpaaGreat
namespace Go.Proofs.YtgfpjhddojhfpaaGreat
set_option linter.unusedVariables false
set_option linter.unusedSimpArgs false
open Go.RowKit
set_option maxHeartbeats 4000000
set_option linter.unusedSimpArgs false
set_option linter.unusedVariables false
abbrev frT (q : Int) (P : List SV) : SV := frS 1 true false false q 0 3 0 144115188075855874 3 0 144115188075855873 0 0 P []
abbrev Ft (q : Int) (p : List UInt8) : Fr := ⟨1, true, false, false, q, 0, 3, 0, 144115188075855874, 3, 0, 144115188075855873, 0, 0, p, []⟩
theorem ft_valid (q : Int) (p : List UInt8) (hp : p.length ≤ 4) : (Ft q p).valid = true := by
  show (if (1 : Int) = 2 then _ else if (1 : Int) = 1 ∨ (1 : Int) = 3 then dataV true false 3 0 144115188075855874 3 0 144115188075855873 0 0 0 (frL 1 false 3 3 p.length 0) else false) = true
  rw [if_neg (by omega), if_pos (by omega), dataV, decide_eq_true_eq]
  refine ⟨⟨by decide, by decide⟩, ⟨by decide, fun _ => by decide⟩, (fun h => by cases h), (fun _ => ⟨rfl, rfl, rfl⟩), ?_⟩
  have e : abL 3 = 8 := by decide
  rw [frL, e, if_neg (by omega), if_neg (by simp)]
  omega
theorem validT (q : Int) (P : List SV) (hP : P.length ≤ 4) : Good 59 (pu [frT q P] (.bool true)) := by
  have e : (List.replicate P.length (0 : UInt8)).length = P.length := by simp
  exact valid_c 1 true false false q 0 3 0 144115188075855874 3 0 144115188075855873 0 0 P [] (List.replicate P.length 0) [] e.symm rfl ⟨by rw [e]; omega, Nat.zero_le _⟩ true (ft_valid q _ (by rw [e]; exact hP)).symm
theorem validFT (q : Int) (P : List SV) (hP : P.length ≤ 4) : Good 92 (pu [frT q P] (.bool true)) := by
  have g1 := validT q P hP
  refine Good.of Tryz.func92 rfl (by rfl) (by kernel_rfl) ?_
  cbv
  (repeat' (first
| (refine q1w (fun z hz => ?_); (try simp only at hz); cbv)
| (refine rqw ?_; cbv)
| (refine rqk ?_; cbv)
| (refine chpA ?_; cbv)
| (refine QC.tw ?_; cbv)
| (refine QC.t3 ?_; cbv)
| (refine QC.f3 ?_; cbv)
| (refine QC.fw ?_; cbv)
| (refine QC.mk (fun hc => ?_) (fun hc => ?_) <;> (try dsimp only at hc) <;> cbv)
| (refine br_mk2 (fun hb => ?_) (fun hb => ?_) <;> (try subst hb) <;> cbv)
| (refine callq (g1) rfl rfl ?_; cbv)))
  exact ⟨rfl, rfl, rfl⟩
abbrev akT (q : Int) : SV := frS 2 false false false q 0 0 0 0 0 0 0 0 0 [] []
theorem ackT (q : Int) (P : List SV) (hP : P.length ≤ 4) : Good 46 (pu [frT q P] (.tup [akT q, .bool true])) := by
  have g1 := validT q P hP
  refine Good.res (r := .tup [.agg [.int .i64 2, .bool false, .bool false, .bool false, .int .u8 q, .int .u16 0, .int .i64 0, .int .u16 0, .int .u64 0, .int .i64 0, .int .u16 0, .int .u64 0, .int .u32 0, .int .u8 0, .nil, .nil], .bool true]) ?_ (Wk.tup ⟨Wk.agg ⟨Wk.rfl' _, Wk.rfl' _, Wk.rfl' _, Wk.rfl' _, Wk.rfl' _, Wk.rfl' _, Wk.rfl' _, Wk.rfl' _, Wk.rfl' _, Wk.rfl' _, Wk.rfl' _, Wk.rfl' _, Wk.rfl' _, Wk.rfl' _, Wk.nil _, Wk.nil _, trivial⟩, Wk.rfl' _, trivial⟩)
  refine Good.of Tryz.func46 rfl (by rfl) (by kernel_rfl) ?_
  cbv
  (repeat' (first
| (refine q1w (fun z hz => ?_); (try simp only at hz); cbv)
| (refine rqw ?_; cbv)
| (refine rqk ?_; cbv)
| (refine chpA ?_; cbv)
| (refine QC.tw ?_; cbv)
| (refine QC.t3 ?_; cbv)
| (refine QC.f3 ?_; cbv)
| (refine QC.fw ?_; cbv)
| (refine QC.mk (fun hc => ?_) (fun hc => ?_) <;> (try dsimp only at hc) <;> cbv)
| (refine br_mk2 (fun hb => ?_) (fun hb => ?_) <;> (try subst hb) <;> cbv)
| (refine callq (g1) rfl rfl ?_; cbv)))
  exact ⟨rfl, rfl, rfl⟩
def Qok (Q : List SV) : Prop := ∀ (i : Nat) (x : SV), Q[i]? = some x → ∃ (q : Int) (P : List SV), x = frT q P ∧ P.length ≤ 4
abbrev lkS (Q : List SV) (ph at_ b0 b1 b2 b3 b4 lf : Int) : SV := .agg [.lst (some 16) Q, .int .i64 ph, .int .i64 at_, .int .i64 b0, .int .i64 b1, .int .i64 b2, .int .i64 b3, .int .i64 b4, .int .i64 lf]
theorem lvalid0 : Good 91 (pu [lkS [] 0 0 0 0 0 0 0 0] (.bool true)) := by
  refine Good.of Tryz.func91 rfl (by rfl) (by kernel_rfl) ?_
  cbv
  (repeat' (first
| ((refine unrollq 1 ?_))
| (refine q1w (fun z hz => ?_); (try simp only at hz); cbv)
| (refine rqw ?_; cbv)
| (refine rqk ?_; cbv)
| (refine chpA ?_; cbv)
| (refine QC.tw ?_; cbv)
| (refine QC.t3 ?_; cbv)
| (refine QC.f3 ?_; cbv)
| (refine QC.fw ?_; cbv)
| (refine QC.mk (fun hc => ?_) (fun hc => ?_) <;> (try dsimp only at hc) <;> cbv)
| (refine br_mk2 (fun hb => ?_) (fun hb => ?_) <;> (try subst hb) <;> cbv)))
  all_goals exact ⟨rfl, rfl, rfl⟩
theorem lvalid1 (Q : List SV) (hQ : Qok Q) (hq : 0 < Q.length ∧ Q.length ≤ 16) (at_ w : Int) (ha : 0 ≤ at_ ∧ at_ ≤ 3) (hw : 1 ≤ w ∧ w ≤ 7) : Good 91 (pu [lkS Q 1 at_ 1 0 3 2 w 0] (.bool true)) := by
  have g1 := bvalid1 w hw
  have g2 := bended1 w hw
  refine Good.of Tryz.func91 rfl (by rfl) (by kernel_rfl) ?_
  cbv
  (repeat' (first
| (refine q1w (fun z hz => ?_); (try simp only at hz); cbv)
| (refine rqw ?_; cbv)
| (refine rqk ?_; cbv)
| (refine chpA ?_; cbv)
| (refine QC.tw ?_; cbv)
| (refine QC.t3 ?_; cbv)
| (refine QC.f3 ?_; cbv)
| (refine QC.fw ?_; cbv)
| (refine QC.mk (fun hc => ?_) (fun hc => ?_) <;> (try dsimp only at hc) <;> cbv)
| (refine br_mk2 (fun hb => ?_) (fun hb => ?_) <;> (try subst hb) <;> cbv)))
  refine loopQ (A := Nat × Int) (fun p => p.2 = p.1 ∧ p.1 ≤ Q.length) (fun p => Q.length - p.1) (fun p => [(13, .int .i64 p.2)]) (fun p => [(4, .no)]) (0, 0) ⟨rfl, Nat.zero_le _⟩ ?_ ?_
  · cbv
  intro ⟨i, j⟩ hh
  have hj : j = (i : Int) := hh.1
  have hi : i ≤ Q.length := hh.2
  clear hh
  have hmk : True := trivial
  cbv
  (repeat' (first
| (refine q1w (fun z hz => ?_); (try simp only at hz); cbv)
| (refine rqw ?_; cbv)
| (refine rqk ?_; cbv)
| (refine chpA ?_; cbv)
| (refine QC.tw ?_; cbv)
| (refine QC.t3 ?_; cbv)
| (refine QC.f3 ?_; cbv)
| (refine QC.fw ?_; cbv)
| (refine QC.mk (fun hc => ?_) (fun hc => ?_) <;> (try dsimp only at hc) <;> cbv)
| (refine br_mk2 (fun hb => ?_) (fun hb => ?_) <;> (try subst hb) <;> cbv)))
  · have hlt : i < Q.length := by (first | omega | (simp only [cst] at *; omega) | (simp only [sm] at *; omega))
    obtain ⟨q, P, hx, hP⟩ := hQ i _ (List.getElem?_eq_getElem hlt)
    have hLi : Q[i]? = some (frT q P) := (List.getElem?_eq_getElem hlt).trans (congrArg some hx)
    have c1 := validFT q P hP
    (refine qv (i, _) ⟨hj, hLi⟩ ?_; cbv; (repeat' (first
| (refine q1w (fun z hz => ?_); (try simp only at hz); cbv)
| (refine rqw ?_; cbv)
| (refine rqk ?_; cbv)
| (refine chpA ?_; cbv)
| (refine QC.tw ?_; cbv)
| (refine QC.t3 ?_; cbv)
| (refine QC.f3 ?_; cbv)
| (refine QC.fw ?_; cbv)
| (refine QC.mk (fun hc => ?_) (fun hc => ?_) <;> (try dsimp only at hc) <;> cbv)
| (refine br_mk2 (fun hb => ?_) (fun hb => ?_) <;> (try subst hb) <;> cbv))))
    (repeat' (first
| (refine q1w (fun z hz => ?_); (try simp only at hz); cbv)
| (refine rqw ?_; cbv)
| (refine rqk ?_; cbv)
| (refine chpA ?_; cbv)
| (refine QC.tw ?_; cbv)
| (refine QC.t3 ?_; cbv)
| (refine QC.f3 ?_; cbv)
| (refine QC.fw ?_; cbv)
| (refine QC.mk (fun hc => ?_) (fun hc => ?_) <;> (try dsimp only at hc) <;> cbv)
| (refine br_mk2 (fun hb => ?_) (fun hb => ?_) <;> (try subst hb) <;> cbv)
| (refine callq (c1) rfl rfl ?_; cbv)))
    refine ⟨(i + 1, z), ⟨by show z = ((i + 1 : Nat) : Int); (first | omega | (simp only [cst] at *; omega) | (simp only [sm] at *; omega)), by show i + 1 ≤ Q.length; omega⟩, by show Q.length - (i + 1) < Q.length - i; omega, ?_⟩
    cbv
  have hil : i = Q.length := by (first | omega | (simp only [cst] at *; omega) | (simp only [sm] at *; omega))
  (repeat' (first
| (refine q1w (fun z hz => ?_); (try simp only at hz); cbv)
| (refine rqw ?_; cbv)
| (refine rqk ?_; cbv)
| (refine chpA ?_; cbv)
| (refine QC.tw ?_; cbv)
| (refine QC.t3 ?_; cbv)
| (refine QC.f3 ?_; cbv)
| (refine QC.fw ?_; cbv)
| (refine QC.mk (fun hc => ?_) (fun hc => ?_) <;> (try dsimp only at hc) <;> cbv)
| (refine br_mk2 (fun hb => ?_) (fun hb => ?_) <;> (try subst hb) <;> cbv)
| (refine callq (g1) rfl rfl ?_; cbv)
| (refine callq (g2) rfl rfl ?_; cbv)))
  all_goals exact ⟨rfl, rfl, rfl⟩
theorem lvalid2 (Q : List SV) (hQ : Qok Q) (hq : 0 < Q.length ∧ Q.length ≤ 16) (at_ cl : Int) (ha : 0 ≤ at_ ∧ at_ ≤ 3) (hc : 1 ≤ cl ∧ cl ≤ 2) : Good 91 (pu [lkS Q 1 at_ 2 0 3 cl 0 0] (.bool true)) := by
  have g1 := bvalid2 cl hc
  have g2 := bended2 cl hc
  refine Good.of Tryz.func91 rfl (by rfl) (by kernel_rfl) ?_
  cbv
  (repeat' (first
| (refine q1w (fun z hz => ?_); (try simp only at hz); cbv)
| (refine rqw ?_; cbv)
| (refine rqk ?_; cbv)
| (refine chpA ?_; cbv)
| (refine QC.tw ?_; cbv)
| (refine QC.t3 ?_; cbv)
| (refine QC.f3 ?_; cbv)
| (refine QC.fw ?_; cbv)
| (refine QC.mk (fun hc => ?_) (fun hc => ?_) <;> (try dsimp only at hc) <;> cbv)
| (refine br_mk2 (fun hb => ?_) (fun hb => ?_) <;> (try subst hb) <;> cbv)))
  refine loopQ (A := Nat × Int) (fun p => p.2 = p.1 ∧ p.1 ≤ Q.length) (fun p => Q.length - p.1) (fun p => [(13, .int .i64 p.2)]) (fun p => [(4, .no)]) (0, 0) ⟨rfl, Nat.zero_le _⟩ ?_ ?_
  · cbv
  intro ⟨i, j⟩ hh
  have hj : j = (i : Int) := hh.1
  have hi : i ≤ Q.length := hh.2
  clear hh
  have hmk : True := trivial
  cbv
  (repeat' (first
| (refine q1w (fun z hz => ?_); (try simp only at hz); cbv)
| (refine rqw ?_; cbv)
| (refine rqk ?_; cbv)
| (refine chpA ?_; cbv)
| (refine QC.tw ?_; cbv)
| (refine QC.t3 ?_; cbv)
| (refine QC.f3 ?_; cbv)
| (refine QC.fw ?_; cbv)
| (refine QC.mk (fun hc => ?_) (fun hc => ?_) <;> (try dsimp only at hc) <;> cbv)
| (refine br_mk2 (fun hb => ?_) (fun hb => ?_) <;> (try subst hb) <;> cbv)))
  · have hlt : i < Q.length := by (first | omega | (simp only [cst] at *; omega) | (simp only [sm] at *; omega))
    obtain ⟨q, P, hx, hP⟩ := hQ i _ (List.getElem?_eq_getElem hlt)
    have hLi : Q[i]? = some (frT q P) := (List.getElem?_eq_getElem hlt).trans (congrArg some hx)
    have c1 := validFT q P hP
    (refine qv (i, _) ⟨hj, hLi⟩ ?_; cbv; (repeat' (first
| (refine q1w (fun z hz => ?_); (try simp only at hz); cbv)
| (refine rqw ?_; cbv)
| (refine rqk ?_; cbv)
| (refine chpA ?_; cbv)
| (refine QC.tw ?_; cbv)
| (refine QC.t3 ?_; cbv)
| (refine QC.f3 ?_; cbv)
| (refine QC.fw ?_; cbv)
| (refine QC.mk (fun hc => ?_) (fun hc => ?_) <;> (try dsimp only at hc) <;> cbv)
| (refine br_mk2 (fun hb => ?_) (fun hb => ?_) <;> (try subst hb) <;> cbv))))
    (repeat' (first
| (refine q1w (fun z hz => ?_); (try simp only at hz); cbv)
| (refine rqw ?_; cbv)
| (refine rqk ?_; cbv)
| (refine chpA ?_; cbv)
| (refine QC.tw ?_; cbv)
| (refine QC.t3 ?_; cbv)
| (refine QC.f3 ?_; cbv)
| (refine QC.fw ?_; cbv)
| (refine QC.mk (fun hc => ?_) (fun hc => ?_) <;> (try dsimp only at hc) <;> cbv)
| (refine br_mk2 (fun hb => ?_) (fun hb => ?_) <;> (try subst hb) <;> cbv)
| (refine callq (c1) rfl rfl ?_; cbv)))
    refine ⟨(i + 1, z), ⟨by show z = ((i + 1 : Nat) : Int); (first | omega | (simp only [cst] at *; omega) | (simp only [sm] at *; omega)), by show i + 1 ≤ Q.length; omega⟩, by show Q.length - (i + 1) < Q.length - i; omega, ?_⟩
    cbv
  have hil : i = Q.length := by (first | omega | (simp only [cst] at *; omega) | (simp only [sm] at *; omega))
  (repeat' (first
| (refine q1w (fun z hz => ?_); (try simp only at hz); cbv)
| (refine rqw ?_; cbv)
| (refine rqk ?_; cbv)
| (refine chpA ?_; cbv)
| (refine QC.tw ?_; cbv)
| (refine QC.t3 ?_; cbv)
| (refine QC.f3 ?_; cbv)
| (refine QC.fw ?_; cbv)
| (refine QC.mk (fun hc => ?_) (fun hc => ?_) <;> (try dsimp only at hc) <;> cbv)
| (refine br_mk2 (fun hb => ?_) (fun hb => ?_) <;> (try subst hb) <;> cbv)
| (refine callq (g1) rfl rfl ?_; cbv)
| (refine callq (g2) rfl rfl ?_; cbv)))
  all_goals exact ⟨rfl, rfl, rfl⟩
theorem lvalid3 (Q : List SV) (hQ : Qok Q) (hq : 0 < Q.length ∧ Q.length ≤ 16) (at_ lf : Int) (ha : 1 ≤ at_ ∧ at_ ≤ 4) (hc : 1 ≤ lf ∧ lf ≤ 3) : Good 91 (pu [lkS Q 2 at_ 0 0 0 0 0 lf] (.bool true)) := by
  refine Good.of Tryz.func91 rfl (by rfl) (by kernel_rfl) ?_
  cbv
  (repeat' (first
| (refine q1w (fun z hz => ?_); (try simp only at hz); cbv)
| (refine rqw ?_; cbv)
| (refine rqk ?_; cbv)
| (refine chpA ?_; cbv)
| (refine QC.tw ?_; cbv)
| (refine QC.t3 ?_; cbv)
| (refine QC.f3 ?_; cbv)
| (refine QC.fw ?_; cbv)
| (refine QC.mk (fun hc => ?_) (fun hc => ?_) <;> (try dsimp only at hc) <;> cbv)
| (refine br_mk2 (fun hb => ?_) (fun hb => ?_) <;> (try subst hb) <;> cbv)))
  refine loopQ (A := Nat × Int) (fun p => p.2 = p.1 ∧ p.1 ≤ Q.length) (fun p => Q.length - p.1) (fun p => [(13, .int .i64 p.2)]) (fun p => [(4, .no)]) (0, 0) ⟨rfl, Nat.zero_le _⟩ ?_ ?_
  · cbv
  intro ⟨i, j⟩ hh
  have hj : j = (i : Int) := hh.1
  have hi : i ≤ Q.length := hh.2
  clear hh
  have hmk : True := trivial
  cbv
  (repeat' (first
| (refine q1w (fun z hz => ?_); (try simp only at hz); cbv)
| (refine rqw ?_; cbv)
| (refine rqk ?_; cbv)
| (refine chpA ?_; cbv)
| (refine QC.tw ?_; cbv)
| (refine QC.t3 ?_; cbv)
| (refine QC.f3 ?_; cbv)
| (refine QC.fw ?_; cbv)
| (refine QC.mk (fun hc => ?_) (fun hc => ?_) <;> (try dsimp only at hc) <;> cbv)
| (refine br_mk2 (fun hb => ?_) (fun hb => ?_) <;> (try subst hb) <;> cbv)))
  · have hlt : i < Q.length := by (first | omega | (simp only [cst] at *; omega) | (simp only [sm] at *; omega))
    obtain ⟨q, P, hx, hP⟩ := hQ i _ (List.getElem?_eq_getElem hlt)
    have hLi : Q[i]? = some (frT q P) := (List.getElem?_eq_getElem hlt).trans (congrArg some hx)
    have c1 := validFT q P hP
    (refine qv (i, _) ⟨hj, hLi⟩ ?_; cbv; (repeat' (first
| (refine q1w (fun z hz => ?_); (try simp only at hz); cbv)
| (refine rqw ?_; cbv)
| (refine rqk ?_; cbv)
| (refine chpA ?_; cbv)
| (refine QC.tw ?_; cbv)
| (refine QC.t3 ?_; cbv)
| (refine QC.f3 ?_; cbv)
| (refine QC.fw ?_; cbv)
| (refine QC.mk (fun hc => ?_) (fun hc => ?_) <;> (try dsimp only at hc) <;> cbv)
| (refine br_mk2 (fun hb => ?_) (fun hb => ?_) <;> (try subst hb) <;> cbv))))
    (repeat' (first
| (refine q1w (fun z hz => ?_); (try simp only at hz); cbv)
| (refine rqw ?_; cbv)
| (refine rqk ?_; cbv)
| (refine chpA ?_; cbv)
| (refine QC.tw ?_; cbv)
| (refine QC.t3 ?_; cbv)
| (refine QC.f3 ?_; cbv)
| (refine QC.fw ?_; cbv)
| (refine QC.mk (fun hc => ?_) (fun hc => ?_) <;> (try dsimp only at hc) <;> cbv)
| (refine br_mk2 (fun hb => ?_) (fun hb => ?_) <;> (try subst hb) <;> cbv)
| (refine callq (c1) rfl rfl ?_; cbv)))
    refine ⟨(i + 1, z), ⟨by show z = ((i + 1 : Nat) : Int); (first | omega | (simp only [cst] at *; omega) | (simp only [sm] at *; omega)), by show i + 1 ≤ Q.length; omega⟩, by show Q.length - (i + 1) < Q.length - i; omega, ?_⟩
    cbv
  have hil : i = Q.length := by (first | omega | (simp only [cst] at *; omega) | (simp only [sm] at *; omega))
  have h0 : 0 < Q.length := hq.1
  obtain ⟨q0, P0, hx0, hP0⟩ := hQ 0 _ (List.getElem?_eq_getElem h0)
  have hL0 : Q[0]? = some (frT q0 P0) := (List.getElem?_eq_getElem h0).trans (congrArg some hx0)
  (repeat' (first
| (refine q1w (fun z hz => ?_); (try simp only at hz); cbv)
| (refine rqw ?_; cbv)
| (refine rqk ?_; cbv)
| (refine chpA ?_; cbv)
| (refine QC.tw ?_; cbv)
| (refine QC.t3 ?_; cbv)
| (refine QC.f3 ?_; cbv)
| (refine QC.fw ?_; cbv)
| (refine QC.mk (fun hc => ?_) (fun hc => ?_) <;> (try dsimp only at hc) <;> cbv)
| (refine br_mk2 (fun hb => ?_) (fun hb => ?_) <;> (try subst hb) <;> cbv)))
  refine qv (0, frT q0 P0) ⟨rfl, hL0⟩ ?_
  cbv
  (repeat' (first
| (refine q1w (fun z hz => ?_); (try simp only at hz); cbv)
| (refine rqw ?_; cbv)
| (refine rqk ?_; cbv)
| (refine chpA ?_; cbv)
| (refine QC.tw ?_; cbv)
| (refine QC.t3 ?_; cbv)
| (refine QC.f3 ?_; cbv)
| (refine QC.fw ?_; cbv)
| (refine QC.mk (fun hc => ?_) (fun hc => ?_) <;> (try dsimp only at hc) <;> cbv)
| (refine br_mk2 (fun hb => ?_) (fun hb => ?_) <;> (try subst hb) <;> cbv)))
  all_goals exact ⟨rfl, rfl, rfl⟩
end Go.Proofs.YtgfpjhddojhfpaaGreat
namespace Go.Proofs.YtgfpjhddojhfpaaGreat
set_option linter.unusedVariables false
set_option linter.unusedSimpArgs false
open Go.RowKit
set_option maxHeartbeats 4000000
set_option linter.unusedSimpArgs false
set_option linter.unusedVariables false
theorem ownF (q : Int) (P : List SV) (hP : P.length ≤ 4) : Good 94 (pu [frT q P] (frT q P)) := by
  refine Good.of Tryz.func94 rfl (by rfl) (by kernel_rfl) ?_
  cbv
  (repeat' (first
| (refine q1w (fun z hz => ?_); (try simp only at hz); cbv)
| (refine rqw ?_; cbv)
| (refine rqk ?_; cbv)
| (refine chpA ?_; cbv)
| (refine QC.tw ?_; cbv)
| (refine QC.t3 ?_; cbv)
| (refine QC.f3 ?_; cbv)
| (refine QC.fw ?_; cbv)
| (refine QC.mk (fun hc => ?_) (fun hc => ?_) <;> (try dsimp only at hc) <;> cbv)
| (refine br_mk2 (fun hb => ?_) (fun hb => ?_) <;> (try subst hb) <;> cbv)))
  exact ⟨rfl, rfl, rfl⟩
theorem ownL (Q : List SV) (hQ : Qok Q) (hq : Q.length ≤ 16) (ph at_ b0 b1 b2 b3 b4 lf : Int) : Good 93 (nu [lkS Q ph at_ b0 b1 b2 b3 b4 lf] (.agg [.row 1, .int .i64 ph, .int .i64 at_, .int .i64 b0, .int .i64 b1, .int .i64 b2, .int .i64 b3, .int .i64 b4, .int .i64 lf]) (.row (some 16) 32 Q)) := by
  obtain ⟨L, hL0, hL1, hLe, hLl⟩ : ∃ L : Nat → List SV, L 0 = [] ∧ (∀ (k : Nat) (x : SV), Q[k]? = some x → L (k + 1) = L k ++ [x]) ∧ L Q.length = Q ∧ ∀ k, k ≤ Q.length → (L k).length = k :=
    ⟨fun k => Q.take k, rfl, fun k x h => by
      have hk : k < Q.length := by
        rcases Nat.lt_or_ge k Q.length with g | g
        · exact g
        · rw [List.getElem?_eq_none g] at h; cases h
      show Q.take (k + 1) = Q.take k ++ [x]
      rw [List.take_add_one, h]; rfl, List.take_length, fun k hk => by show (Q.take k).length = k; rw [List.length_take]; omega⟩
  refine Good.of Tryz.func93 rfl (by rfl) (by kernel_rfl) ?_
  cbv
  (repeat' (first
| (refine q1w (fun z hz => ?_); (try simp only at hz); cbv)
| (refine rqw ?_; cbv)
| (refine rqk ?_; cbv)
| (refine chpA ?_; cbv)
| (refine QC.tw ?_; cbv)
| (refine QC.t3 ?_; cbv)
| (refine QC.f3 ?_; cbv)
| (refine QC.fw ?_; cbv)
| (refine QC.mk (fun hc => ?_) (fun hc => ?_) <;> (try dsimp only at hc) <;> cbv)
| (refine br_mk2 (fun hb => ?_) (fun hb => ?_) <;> (try subst hb) <;> cbv)))
  refine loopQ (A := Nat × Int) (fun p => p.2 = p.1 ∧ p.1 ≤ Q.length) (fun p => Q.length - p.1) (fun p => [(3, .row 3), (9, .int .i64 p.2)]) (fun p => [(3, .row (some 16) 32 (L p.1)), (5, .no)]) (0, 0) ⟨rfl, Nat.zero_le _⟩ ?_ ?_
  · cbv
    exact ⟨by rw [hL0], trivial⟩
  intro ⟨i, j⟩ hh
  have hj : j = (i : Int) := hh.1
  have hi : i ≤ Q.length := hh.2
  clear hh
  have hl := hLl i hi
  have hmk : True := trivial
  cbv
  (repeat' (first
| (refine q1w (fun z hz => ?_); (try simp only at hz); cbv)
| (refine rqw ?_; cbv)
| (refine rqk ?_; cbv)
| (refine chpA ?_; cbv)
| (refine QC.tw ?_; cbv)
| (refine QC.t3 ?_; cbv)
| (refine QC.f3 ?_; cbv)
| (refine QC.fw ?_; cbv)
| (refine QC.mk (fun hc => ?_) (fun hc => ?_) <;> (try dsimp only at hc) <;> cbv)
| (refine br_mk2 (fun hb => ?_) (fun hb => ?_) <;> (try subst hb) <;> cbv)))
  · have hlt : i < Q.length := by (first | omega | (simp only [cst] at *; omega) | (simp only [sm] at *; omega))
    obtain ⟨q, P, hx, hP⟩ := hQ i _ (List.getElem?_eq_getElem hlt)
    have hLi : Q[i]? = some (frT q P) := (List.getElem?_eq_getElem hlt).trans (congrArg some hx)
    have c1 := ownF q P hP
    have hl1 := hL1 i _ hLi
    (refine qv (i, _) ⟨hj, hLi⟩ ?_; cbv; (repeat' (first
| (refine q1w (fun z hz => ?_); (try simp only at hz); cbv)
| (refine rqw ?_; cbv)
| (refine rqk ?_; cbv)
| (refine chpA ?_; cbv)
| (refine QC.tw ?_; cbv)
| (refine QC.t3 ?_; cbv)
| (refine QC.f3 ?_; cbv)
| (refine QC.fw ?_; cbv)
| (refine QC.mk (fun hc => ?_) (fun hc => ?_) <;> (try dsimp only at hc) <;> cbv)
| (refine br_mk2 (fun hb => ?_) (fun hb => ?_) <;> (try subst hb) <;> cbv))))
    (repeat' (first
| (refine q1w (fun z hz => ?_); (try simp only at hz); cbv)
| (refine rqw ?_; cbv)
| (refine rqk ?_; cbv)
| (refine chpA ?_; cbv)
| (refine QC.tw ?_; cbv)
| (refine QC.t3 ?_; cbv)
| (refine QC.f3 ?_; cbv)
| (refine QC.fw ?_; cbv)
| (refine QC.mk (fun hc => ?_) (fun hc => ?_) <;> (try dsimp only at hc) <;> cbv)
| (refine br_mk2 (fun hb => ?_) (fun hb => ?_) <;> (try subst hb) <;> cbv)
| (refine callq (c1) rfl rfl ?_; cbv)))
    have hM : apL (L i) [frT q P] = L (i + 1) := by rw [apL_eq, hl1]
    unfold apL at hM
    refine ⟨(i + 1, z), ⟨by show z = ((i + 1 : Nat) : Int); (first | omega | (simp only [cst] at *; omega) | (simp only [sm] at *; omega)), by show i + 1 ≤ Q.length; omega⟩, by show Q.length - (i + 1) < Q.length - i; omega, ?_⟩
    cbv
    have hmz : True := trivial
    first | exact ⟨hM, trivial⟩ | exact ⟨by rw [hM], trivial⟩
  have hil : i = Q.length := by (first | omega | (simp only [cst] at *; omega) | (simp only [sm] at *; omega))
  subst hil
  (repeat' (first
| (refine q1w (fun z hz => ?_); (try simp only at hz); cbv)
| (refine rqw ?_; cbv)
| (refine rqk ?_; cbv)
| (refine chpA ?_; cbv)
| (refine QC.tw ?_; cbv)
| (refine QC.t3 ?_; cbv)
| (refine QC.f3 ?_; cbv)
| (refine QC.fw ?_; cbv)
| (refine QC.mk (fun hc => ?_) (fun hc => ?_) <;> (try dsimp only at hc) <;> cbv)
| (refine br_mk2 (fun hb => ?_) (fun hb => ?_) <;> (try subst hb) <;> cbv)))
  have hmz : True := trivial
  first | exact ⟨by rw [hLe], rfl, by rw [hLe]⟩ | (refine ⟨rfl, rfl, ?_⟩; rw [hLe]; rfl) | (refine ⟨rfl, ?_, ?_⟩ <;> first | rfl | (rw [hLe]) )
end Go.Proofs.YtgfpjhddojhfpaaGreat
namespace Go.Proofs.YtgfpjhddojhfpaaGreat
set_option linter.unusedVariables false
set_option linter.unusedSimpArgs false
open Go.RowKit
set_option maxHeartbeats 4000000
set_option linter.unusedSimpArgs false
set_option linter.unusedVariables false
abbrev mcS (Q : List SV) (ph at_ b0 b1 b2 b3 b4 lf dr : Int) : SV := .agg [.lst (some 16) Q, .int .i64 ph, .int .i64 at_, .int .i64 b0, .int .i64 b1, .int .i64 b2, .int .i64 b3, .int .i64 b4, .int .i64 lf, .int .u32 dr, .nil]
abbrev mcO (Q : List SV) (ph at_ b0 b1 b2 b3 b4 lf dr q : Int) (P : List SV) (sn : Bool) (a : Int) : SV := .agg [.lst (some 16) Q, .int .i64 ph, .int .i64 at_, .int .i64 b0, .int .i64 b1, .int .i64 b2, .int .i64 b3, .int .i64 b4, .int .i64 lf, .int .u32 dr, .lst (some 18) [.agg [.int .i64 1, .bool true, .bool false, .bool false, .int .u8 q, .int .u16 0, .int .i64 3, .int .u16 0, .int .u64 144115188075855874, .int .i64 3, .int .u16 0, .int .u64 144115188075855873, .int .u32 0, .int .u8 0, .lst none P, .lst none [], .bool sn, .int .i64 a]]]
theorem again_c (Q : List SV) (ph at_ b0 b1 b2 b3 b4 lf d w st : Int) (hd : 0 ≤ d ∧ d ≤ 4294967295) (hw : w = d % 8) (hst : (1 ≤ w ∧ st = 1) ∨ (w = 0 ∧ st = 2)) :
    Good 155 (le 180 (mcS Q ph at_ b0 b1 b2 b3 b4 lf d) [] (.tup []) (mcS Q 1 at_ st 0 3 2 w 0 d)) := by
  have g1 := bbegin d w st hd hw hst
  clear hd hw hst
  refine Good.of Tryz.func155 rfl (by rfl) (by kernel_rfl) ?_
  cbv
  (repeat' (first
| (refine q1w (fun z hz => ?_); (try simp only at hz); cbv)
| (refine rqw ?_; cbv)
| (refine rqk ?_; cbv)
| (refine chpA ?_; cbv)
| (refine QC.tw ?_; cbv)
| (refine QC.t3 ?_; cbv)
| (refine QC.f3 ?_; cbv)
| (refine QC.fw ?_; cbv)
| (refine QC.mk (fun hc => ?_) (fun hc => ?_) <;> (try dsimp only at hc) <;> cbv)
| (refine br_mk2 (fun hb => ?_) (fun hb => ?_) <;> (try subst hb) <;> cbv)
| (refine callq (g1) rfl rfl ?_; cbv)))
  exact ⟨rfl, rfl, rfl⟩
theorem againO_c (Q : List SV) (ph at_ b0 b1 b2 b3 b4 lf d w st q : Int) (P : List SV) (sn : Bool) (a : Int) (hd : 0 ≤ d ∧ d ≤ 4294967295) (hw : w = d % 8) (hst : (1 ≤ w ∧ st = 1) ∨ (w = 0 ∧ st = 2)) :
    Good 155 (le 180 (mcO Q ph at_ b0 b1 b2 b3 b4 lf d q P sn a) [] (.tup []) (mcO Q 1 at_ st 0 3 2 w 0 d q P sn a)) := by
  have g1 := bbegin d w st hd hw hst
  clear hd hw hst
  refine Good.of Tryz.func155 rfl (by rfl) (by kernel_rfl) ?_
  cbv
  (repeat' (first
| (refine q1w (fun z hz => ?_); (try simp only at hz); cbv)
| (refine rqw ?_; cbv)
| (refine rqk ?_; cbv)
| (refine chpA ?_; cbv)
| (refine QC.tw ?_; cbv)
| (refine QC.t3 ?_; cbv)
| (refine QC.f3 ?_; cbv)
| (refine QC.fw ?_; cbv)
| (refine QC.mk (fun hc => ?_) (fun hc => ?_) <;> (try dsimp only at hc) <;> cbv)
| (refine br_mk2 (fun hb => ?_) (fun hb => ?_) <;> (try subst hb) <;> cbv)
| (refine callq (g1) rfl rfl ?_; cbv)))
  exact ⟨rfl, rfl, rfl⟩
theorem beginO_c (Q : List SV) (ph at_ b0 b1 b2 b3 b4 lf d w st q : Int) (P : List SV) (sn : Bool) (a : Int) (hd : 0 ≤ d ∧ d ≤ 4294967295) (hw : w = d % 8) (hst : (1 ≤ w ∧ st = 1) ∨ (w = 0 ∧ st = 2)) :
    Good 95 (le 180 (mcO Q ph at_ b0 b1 b2 b3 b4 lf d q P sn a) [] (.tup []) (mcO Q 1 0 st 0 3 2 w 0 d q P sn a)) := by
  have g1 := againO_c Q ph at_ b0 b1 b2 b3 b4 lf d w st q P sn a hd hw hst
  clear hd hw hst
  refine Good.of Tryz.func95 rfl (by rfl) (by kernel_rfl) ?_
  cbv
  (repeat' (first
| (refine q1w (fun z hz => ?_); (try simp only at hz); cbv)
| (refine rqw ?_; cbv)
| (refine rqk ?_; cbv)
| (refine chpA ?_; cbv)
| (refine QC.tw ?_; cbv)
| (refine QC.t3 ?_; cbv)
| (refine QC.f3 ?_; cbv)
| (refine QC.fw ?_; cbv)
| (refine QC.mk (fun hc => ?_) (fun hc => ?_) <;> (try dsimp only at hc) <;> cbv)
| (refine br_mk2 (fun hb => ?_) (fun hb => ?_) <;> (try subst hb) <;> cbv)
| (refine callq (g1) rfl rfl ?_; cbv)))
  exact ⟨rfl, rfl, rfl⟩
theorem begin_c (Q : List SV) (ph at_ b0 b1 b2 b3 b4 lf d w st : Int) (hd : 0 ≤ d ∧ d ≤ 4294967295) (hw : w = d % 8) (hst : (1 ≤ w ∧ st = 1) ∨ (w = 0 ∧ st = 2)) :
    Good 95 (le 180 (mcS Q ph at_ b0 b1 b2 b3 b4 lf d) [] (.tup []) (mcS Q 1 0 st 0 3 2 w 0 d)) := by
  have g1 := again_c Q ph at_ b0 b1 b2 b3 b4 lf d w st hd hw hst
  clear hd hw hst
  refine Good.of Tryz.func95 rfl (by rfl) (by kernel_rfl) ?_
  cbv
  (repeat' (first
| (refine q1w (fun z hz => ?_); (try simp only at hz); cbv)
| (refine rqw ?_; cbv)
| (refine rqk ?_; cbv)
| (refine chpA ?_; cbv)
| (refine QC.tw ?_; cbv)
| (refine QC.t3 ?_; cbv)
| (refine QC.f3 ?_; cbv)
| (refine QC.fw ?_; cbv)
| (refine QC.mk (fun hc => ?_) (fun hc => ?_) <;> (try dsimp only at hc) <;> cbv)
| (refine br_mk2 (fun hb => ?_) (fun hb => ?_) <;> (try subst hb) <;> cbv)
| (refine callq (g1) rfl rfl ?_; cbv)))
  exact ⟨rfl, rfl, rfl⟩
end Go.Proofs.YtgfpjhddojhfpaaGreat
namespace Go.Proofs.YtgfpjhddojhfpaaGreat
set_option linter.unusedVariables false
set_option linter.unusedSimpArgs false
open Go.RowKit
set_option maxHeartbeats 4000000
set_option linter.unusedSimpArgs false
set_option linter.unusedVariables false
theorem finishM (Q Q' : List SV) (q : Int) (P : List SV) (hQe : Q = frT q P :: Q') (hP : P.length ≤ 4) (hQl : 0 < Q'.length ∧ Q'.length ≤ 16) (ph at_ b0 b1 b2 b3 b4 lf d w st : Int) (sn : Bool) (hd : 0 ≤ d ∧ d ≤ 4294967295) (hw : w = d % 8) (hst : (1 ≤ w ∧ st = 1) ∨ (w = 0 ∧ st = 2)) :
    Good 157 (le 180 (mcS Q ph at_ b0 b1 b2 b3 b4 lf d) [.bool sn] (.tup []) (mcO Q' 1 0 st 0 3 2 w 0 d q P sn at_)) := by
  have g1 := beginO_c Q' ph at_ b0 b1 b2 b3 b4 lf d w st q P sn at_ hd hw hst
  clear hd hw hst
  have hL0 : Q[0]? = some (frT q P) := by rw [hQe]; rfl
  have hln : Q.length = Q'.length + 1 := by rw [hQe]; rfl
  have hM : O.dr 1 Q = Q' := by
    rw [odr, hQe]; rfl
  clear hQe
  subst hM
  refine Good.of Tryz.func157 rfl (by rfl) (by kernel_rfl) ?_
  cbv
  (repeat' (first
| (refine q1w (fun z hz => ?_); (try simp only at hz); cbv)
| (refine rqw ?_; cbv)
| (refine rqk ?_; cbv)
| (refine chpA ?_; cbv)
| (refine QC.tw ?_; cbv)
| (refine QC.t3 ?_; cbv)
| (refine QC.f3 ?_; cbv)
| (refine QC.fw ?_; cbv)
| (refine QC.mk (fun hc => ?_) (fun hc => ?_) <;> (try dsimp only at hc) <;> cbv)
| (refine br_mk2 (fun hb => ?_) (fun hb => ?_) <;> (try subst hb) <;> cbv)))
  refine qv (0, frT q P) ⟨rfl, hL0⟩ ?_
  cbv
  have hmk : True := trivial
  refine rqw ?_
  cbv
  refine rqw ?_
  refine rqw ?_
  cbv
  refine q1w (fun z hz => ?_)
  cbv
  have hz1 : z = ((O.dr 1 Q).length : Int) := hz.trans (by show ((O.ln (O.dr 1 Q) : Nat) : Int) = _; rw [oln])
  refine QC.ff (show ¬ (z = 0) by omega) ?_
  cbv
  (repeat' (first
| (refine q1w (fun z hz => ?_); (try simp only at hz); cbv)
| (refine rqw ?_; cbv)
| (refine rqk ?_; cbv)
| (refine chpA ?_; cbv)
| (refine QC.tw ?_; cbv)
| (refine QC.t3 ?_; cbv)
| (refine QC.f3 ?_; cbv)
| (refine QC.fw ?_; cbv)
| (refine QC.mk (fun hc => ?_) (fun hc => ?_) <;> (try dsimp only at hc) <;> cbv)
| (refine br_mk2 (fun hb => ?_) (fun hb => ?_) <;> (try subst hb) <;> cbv)
| (refine callq (g1) rfl rfl ?_; cbv)))
  exact ⟨rfl, rfl, rfl⟩
end Go.Proofs.YtgfpjhddojhfpaaGreat
namespace Go.Proofs.YtgfpjhddojhfpaaGreat
set_option linter.unusedVariables false
set_option linter.unusedSimpArgs false
open Go.RowKit
set_option maxHeartbeats 4000000
set_option linter.unusedSimpArgs false
set_option linter.unusedVariables false
abbrev mcZ (dr q : Int) (P : List SV) (sn : Bool) (a : Int) : SV := .agg [.nil, .int .i64 0, .int .i64 0, .int .i64 0, .int .i64 0, .int .i64 0, .int .i64 0, .int .i64 0, .int .i64 0, .int .u32 dr, .lst (some 18) [.agg [.int .i64 1, .bool true, .bool false, .bool false, .int .u8 q, .int .u16 0, .int .i64 3, .int .u16 0, .int .u64 144115188075855874, .int .i64 3, .int .u16 0, .int .u64 144115188075855873, .int .u32 0, .int .u8 0, .lst none P, .lst none [], .bool sn, .int .i64 a]]]
theorem finishL (q : Int) (P : List SV) (hP : P.length ≤ 4) (ph at_ b0 b1 b2 b3 b4 lf d : Int) (sn : Bool) :
    Good 157 (le 180 (mcS [frT q P] ph at_ b0 b1 b2 b3 b4 lf d) [.bool sn] (.tup []) (mcZ d q P sn at_)) := by
  obtain ⟨Q, hQe⟩ : ∃ Q, Q = [frT q P] := ⟨_, rfl⟩
  rw [← hQe]
  have hL0 : Q[0]? = some (frT q P) := by rw [hQe]; rfl
  have hln : Q.length = 1 := by rw [hQe]; rfl
  have hM : (O.dr 1 Q).length = 0 := by
    rw [odr, hQe]; rfl
  clear hQe
  refine Good.of Tryz.func157 rfl (by rfl) (by kernel_rfl) ?_
  cbv
  (repeat' (first
| (refine q1w (fun z hz => ?_); (try simp only at hz); cbv)
| (refine rqw ?_; cbv)
| (refine rqk ?_; cbv)
| (refine chpA ?_; cbv)
| (refine QC.tw ?_; cbv)
| (refine QC.t3 ?_; cbv)
| (refine QC.f3 ?_; cbv)
| (refine QC.fw ?_; cbv)
| (refine QC.mk (fun hc => ?_) (fun hc => ?_) <;> (try dsimp only at hc) <;> cbv)
| (refine br_mk2 (fun hb => ?_) (fun hb => ?_) <;> (try subst hb) <;> cbv)))
  refine qv (0, frT q P) ⟨rfl, hL0⟩ ?_
  cbv
  have hmk : True := trivial
  refine rqw ?_
  cbv
  refine rqw ?_
  refine rqw ?_
  cbv
  refine q1w (fun z hz => ?_)
  cbv
  have hz1 : z = ((O.dr 1 Q).length : Int) := hz.trans (by show ((O.ln (O.dr 1 Q) : Nat) : Int) = _; rw [oln])
  refine QC.tt (show z = 0 by omega) ?_
  cbv
  exact ⟨rfl, rfl, rfl⟩
end Go.Proofs.YtgfpjhddojhfpaaGreat

/- Texts put together: LI LJ LV. -/
import Derived.Test.YtgfpjhddojhfpaaGreatZ03
import Derived.Test.YtgfpjhddojhfpaaGreatZ17
namespace Go.Proofs.YtgfpjhddojhfpaaGreat
set_option linter.unusedVariables false
set_option linter.unusedSimpArgs false
open Go.RowKit
set_option maxHeartbeats 4000000
set_option linter.unusedSimpArgs false
set_option linter.unusedVariables false
theorem retry1 (Q : List SV) (ph at_ b0 b1 b2 b3 b4 lf d w st : Int) (ha : at_ ≤ 3) (hd : 0 ≤ d ∧ d ≤ 4294967295) (hw : w = d % 8) (hst : (1 ≤ w ∧ st = 1) ∨ (w = 0 ∧ st = 2)) :
    Good 158 (le 180 (mcS Q ph at_ b0 b1 b2 b3 b4 lf d) [] (.tup []) (mcS Q 1 at_ st 0 3 2 w 0 d)) := by
  have g1 := again_c Q ph at_ b0 b1 b2 b3 b4 lf d w st hd hw hst
  clear hd hw hst
  refine Good.of Tryz.func158 rfl (by rfl) (by kernel_rfl) ?_
  cbv
  (repeat' (first
| (refine q1w (fun z hz => ?_); (try simp only at hz); cbv)
| (refine rqw ?_; cbv)
| (refine rqk ?_; cbv)
| (refine chpA ?_; cbv)
| (refine QC.tw ?_; cbv)
| (refine QC.t3 ?_; cbv)
| (refine QC.f3 ?_; cbv)
| (refine QC.fw ?_; cbv)
| (refine QC.mk (fun hc => ?_) (fun hc => ?_) <;> (try dsimp only at hc) <;> cbv)
| (refine br_mk2 (fun hb => ?_) (fun hb => ?_) <;> (try subst hb) <;> cbv)
| (refine callq (g1) rfl rfl ?_; cbv)))
  all_goals exact ⟨rfl, rfl, rfl⟩
theorem retry2 (Q Q' : List SV) (q : Int) (P : List SV) (hQe : Q = frT q P :: Q') (hP : P.length ≤ 4) (hQl : 0 < Q'.length ∧ Q'.length ≤ 16) (ph at_ b0 b1 b2 b3 b4 lf d w st : Int) (ha : 3 < at_) (hd : 0 ≤ d ∧ d ≤ 4294967295) (hw : w = d % 8) (hst : (1 ≤ w ∧ st = 1) ∨ (w = 0 ∧ st = 2)) :
    Good 158 (le 180 (mcS Q ph at_ b0 b1 b2 b3 b4 lf d) [] (.tup []) (mcO Q' 1 0 st 0 3 2 w 0 d q P false at_)) := by
  have g1 := finishM Q Q' q P hQe hP hQl ph at_ b0 b1 b2 b3 b4 lf d w st false hd hw hst
  clear hd hw hst hQe
  refine Good.of Tryz.func158 rfl (by rfl) (by kernel_rfl) ?_
  cbv
  (repeat' (first
| (refine q1w (fun z hz => ?_); (try simp only at hz); cbv)
| (refine rqw ?_; cbv)
| (refine rqk ?_; cbv)
| (refine chpA ?_; cbv)
| (refine QC.tw ?_; cbv)
| (refine QC.t3 ?_; cbv)
| (refine QC.f3 ?_; cbv)
| (refine QC.fw ?_; cbv)
| (refine QC.mk (fun hc => ?_) (fun hc => ?_) <;> (try dsimp only at hc) <;> cbv)
| (refine br_mk2 (fun hb => ?_) (fun hb => ?_) <;> (try subst hb) <;> cbv)
| (refine callq (g1) rfl rfl ?_; cbv)))
  all_goals exact ⟨rfl, rfl, rfl⟩
theorem retry3 (Q : List SV) (q : Int) (P : List SV) (hQe : Q = [frT q P]) (hP : P.length ≤ 4) (ph at_ b0 b1 b2 b3 b4 lf d : Int) (ha : 3 < at_) :
    Good 158 (le 180 (mcS Q ph at_ b0 b1 b2 b3 b4 lf d) [] (.tup []) (mcZ d q P false at_)) := by
  have g1 := finishL q P hP ph at_ b0 b1 b2 b3 b4 lf d false
  rw [← hQe] at g1
  clear hQe
  refine Good.of Tryz.func158 rfl (by rfl) (by kernel_rfl) ?_
  cbv
  (repeat' (first
| (refine q1w (fun z hz => ?_); (try simp only at hz); cbv)
| (refine rqw ?_; cbv)
| (refine rqk ?_; cbv)
| (refine chpA ?_; cbv)
| (refine QC.tw ?_; cbv)
| (refine QC.t3 ?_; cbv)
| (refine QC.f3 ?_; cbv)
| (refine QC.fw ?_; cbv)
| (refine QC.mk (fun hc => ?_) (fun hc => ?_) <;> (try dsimp only at hc) <;> cbv)
| (refine br_mk2 (fun hb => ?_) (fun hb => ?_) <;> (try subst hb) <;> cbv)
| (refine callq (g1) rfl rfl ?_; cbv)))
  all_goals exact ⟨rfl, rfl, rfl⟩
theorem contend1 (Q : List SV) (at_ st cl w st' cl' w' d : Int) (hs : st' = 1 ∨ st' = 2) (g1 : Good 156 (pu [boS st cl w, .bool false, .int .u32 d] (boS st' cl' w'))) :
    Good 96 (le 180 (mcS Q 1 at_ st 0 3 cl w 0 d) [.bool false] (.bool false) (mcS Q 1 at_ st' 0 3 cl' w' 0 d)) := by
  refine Good.of Tryz.func96 rfl (by rfl) (by kernel_rfl) ?_
  cbv
  (repeat' (first
| (refine q1w (fun z hz => ?_); (try simp only at hz); cbv)
| (refine rqw ?_; cbv)
| (refine rqk ?_; cbv)
| (refine chpA ?_; cbv)
| (refine QC.tw ?_; cbv)
| (refine QC.t3 ?_; cbv)
| (refine QC.f3 ?_; cbv)
| (refine QC.fw ?_; cbv)
| (refine QC.mk (fun hc => ?_) (fun hc => ?_) <;> (try dsimp only at hc) <;> cbv)
| (refine br_mk2 (fun hb => ?_) (fun hb => ?_) <;> (try subst hb) <;> cbv)
| (refine callq (g1) rfl rfl ?_; cbv)))
  all_goals exact ⟨rfl, rfl, rfl⟩
theorem contend2 (Q : List SV) (q : Int) (P : List SV) (hL0 : Q[0]? = some (frT q P)) (at_ a' d : Int) (ha : 0 ≤ at_ ∧ at_ ≤ 3) (ha' : a' = at_ + 1) :
    Good 96 (le 180 (mcS Q 1 at_ 2 0 3 1 0 0 d) [.bool false] (.bool true) (mcS Q 2 a' 0 0 0 0 0 3 d)) := by
  have g1 := bstep4 d
  refine Good.of Tryz.func96 rfl (by rfl) (by kernel_rfl) ?_
  cbv
  (repeat' (first
| (refine q1w (fun z hz => ?_); (try simp only at hz); cbv)
| (refine rqw ?_; cbv)
| (refine rqk ?_; cbv)
| (refine chpA ?_; cbv)
| (refine QC.tw ?_; cbv)
| (refine QC.t3 ?_; cbv)
| (refine QC.f3 ?_; cbv)
| (refine QC.fw ?_; cbv)
| (refine QC.mk (fun hc => ?_) (fun hc => ?_) <;> (try dsimp only at hc) <;> cbv)
| (refine br_mk2 (fun hb => ?_) (fun hb => ?_) <;> (try subst hb) <;> cbv)
| (refine callq (g1) rfl rfl ?_; cbv)))
  refine qv (0, frT q P) ⟨rfl, hL0⟩ ?_
  cbv
  (repeat' (first
| (refine q1w (fun z hz => ?_); (try simp only at hz); cbv)
| (refine rqw ?_; cbv)
| (refine rqk ?_; cbv)
| (refine chpA ?_; cbv)
| (refine QC.tw ?_; cbv)
| (refine QC.t3 ?_; cbv)
| (refine QC.f3 ?_; cbv)
| (refine QC.fw ?_; cbv)
| (refine QC.mk (fun hc => ?_) (fun hc => ?_) <;> (try dsimp only at hc) <;> cbv)
| (refine br_mk2 (fun hb => ?_) (fun hb => ?_) <;> (try subst hb) <;> cbv)))
  have e : z = a' := by omega
  rw [e]
  exact ⟨rfl, rfl, rfl⟩
theorem wait1 (Q : List SV) (at_ lf lf' sq d : Int) (hl : 2 ≤ lf ∧ lf ≤ 3) (hl' : lf' = lf - 1) :
    Good 97 (le 180 (mcS Q 2 at_ 0 0 0 0 0 lf d) [.bool false, .int .u8 sq] (.tup []) (mcS Q 2 at_ 0 0 0 0 0 lf' d)) := by
  refine Good.of Tryz.func97 rfl (by rfl) (by kernel_rfl) ?_
  cbv
  (repeat' (first
| (refine q1w (fun z hz => ?_); (try simp only at hz); cbv)
| (refine rqw ?_; cbv)
| (refine rqk ?_; cbv)
| (refine chpA ?_; cbv)
| (refine QC.tw ?_; cbv)
| (refine QC.t3 ?_; cbv)
| (refine QC.f3 ?_; cbv)
| (refine QC.fw ?_; cbv)
| (refine QC.mk (fun hc => ?_) (fun hc => ?_) <;> (try dsimp only at hc) <;> cbv)
| (refine br_mk2 (fun hb => ?_) (fun hb => ?_) <;> (try subst hb) <;> cbv)))
  have e : z = lf' := by omega
  rw [e]
  exact ⟨rfl, rfl, rfl⟩
theorem wait2 (Q : List SV) (at_ sq d w st : Int) (ha : at_ ≤ 3) (hd : 0 ≤ d ∧ d ≤ 4294967295) (hw : w = d % 8) (hst : (1 ≤ w ∧ st = 1) ∨ (w = 0 ∧ st = 2)) :
    Good 97 (le 180 (mcS Q 2 at_ 0 0 0 0 0 1 d) [.bool false, .int .u8 sq] (.tup []) (mcS Q 1 at_ st 0 3 2 w 0 d)) := by
  have g1 := retry1 Q 2 at_ 0 0 0 0 0 0 d w st ha hd hw hst
  clear hd hw hst
  refine Good.of Tryz.func97 rfl (by rfl) (by kernel_rfl) ?_
  cbv
  (repeat' (first
| (refine q1w (fun z hz => ?_); (try simp only at hz); cbv)
| (refine rqw ?_; cbv)
| (refine rqk ?_; cbv)
| (refine chpA ?_; cbv)
| (refine QC.tw ?_; cbv)
| (refine QC.t3 ?_; cbv)
| (refine QC.f3 ?_; cbv)
| (refine QC.fw ?_; cbv)
| (refine QC.mk (fun hc => ?_) (fun hc => ?_) <;> (try dsimp only at hc) <;> cbv)
| (refine br_mk2 (fun hb => ?_) (fun hb => ?_) <;> (try subst hb) <;> cbv)))
  have e : z = 0 := by omega
  subst e
  (repeat' (first
| (refine q1w (fun z hz => ?_); (try simp only at hz); cbv)
| (refine rqw ?_; cbv)
| (refine rqk ?_; cbv)
| (refine chpA ?_; cbv)
| (refine QC.tw ?_; cbv)
| (refine QC.t3 ?_; cbv)
| (refine QC.f3 ?_; cbv)
| (refine QC.fw ?_; cbv)
| (refine QC.mk (fun hc => ?_) (fun hc => ?_) <;> (try dsimp only at hc) <;> cbv)
| (refine br_mk2 (fun hb => ?_) (fun hb => ?_) <;> (try subst hb) <;> cbv)
| (refine callq (g1) rfl rfl ?_; cbv)))
  exact ⟨rfl, rfl, rfl⟩
theorem wait3 (Q Q' : List SV) (q : Int) (P : List SV) (hQe : Q = frT q P :: Q') (hP : P.length ≤ 4) (hQl : 0 < Q'.length ∧ Q'.length ≤ 16) (at_ sq d w st : Int) (ha : 3 < at_) (hd : 0 ≤ d ∧ d ≤ 4294967295) (hw : w = d % 8) (hst : (1 ≤ w ∧ st = 1) ∨ (w = 0 ∧ st = 2)) :
    Good 97 (le 180 (mcS Q 2 at_ 0 0 0 0 0 1 d) [.bool false, .int .u8 sq] (.tup []) (mcO Q' 1 0 st 0 3 2 w 0 d q P false at_)) := by
  have g1 := retry2 Q Q' q P hQe hP hQl 2 at_ 0 0 0 0 0 0 d w st ha hd hw hst
  clear hd hw hst hQe
  refine Good.of Tryz.func97 rfl (by rfl) (by kernel_rfl) ?_
  cbv
  (repeat' (first
| (refine q1w (fun z hz => ?_); (try simp only at hz); cbv)
| (refine rqw ?_; cbv)
| (refine rqk ?_; cbv)
| (refine chpA ?_; cbv)
| (refine QC.tw ?_; cbv)
| (refine QC.t3 ?_; cbv)
| (refine QC.f3 ?_; cbv)
| (refine QC.fw ?_; cbv)
| (refine QC.mk (fun hc => ?_) (fun hc => ?_) <;> (try dsimp only at hc) <;> cbv)
| (refine br_mk2 (fun hb => ?_) (fun hb => ?_) <;> (try subst hb) <;> cbv)))
  have e : z = 0 := by omega
  subst e
  (repeat' (first
| (refine q1w (fun z hz => ?_); (try simp only at hz); cbv)
| (refine rqw ?_; cbv)
| (refine rqk ?_; cbv)
| (refine chpA ?_; cbv)
| (refine QC.tw ?_; cbv)
| (refine QC.t3 ?_; cbv)
| (refine QC.f3 ?_; cbv)
| (refine QC.fw ?_; cbv)
| (refine QC.mk (fun hc => ?_) (fun hc => ?_) <;> (try dsimp only at hc) <;> cbv)
| (refine br_mk2 (fun hb => ?_) (fun hb => ?_) <;> (try subst hb) <;> cbv)
| (refine callq (g1) rfl rfl ?_; cbv)))
  exact ⟨rfl, rfl, rfl⟩
theorem wait4 (Q : List SV) (q : Int) (P : List SV) (hQe : Q = [frT q P]) (hP : P.length ≤ 4) (at_ sq d : Int) (ha : 3 < at_) :
    Good 97 (le 180 (mcS Q 2 at_ 0 0 0 0 0 1 d) [.bool false, .int .u8 sq] (.tup []) (mcZ d q P false at_)) := by
  have g1 := retry3 Q q P hQe hP 2 at_ 0 0 0 0 0 0 d ha
  clear hQe
  refine Good.of Tryz.func97 rfl (by rfl) (by kernel_rfl) ?_
  cbv
  (repeat' (first
| (refine q1w (fun z hz => ?_); (try simp only at hz); cbv)
| (refine rqw ?_; cbv)
| (refine rqk ?_; cbv)
| (refine chpA ?_; cbv)
| (refine QC.tw ?_; cbv)
| (refine QC.t3 ?_; cbv)
| (refine QC.f3 ?_; cbv)
| (refine QC.fw ?_; cbv)
| (refine QC.mk (fun hc => ?_) (fun hc => ?_) <;> (try dsimp only at hc) <;> cbv)
| (refine br_mk2 (fun hb => ?_) (fun hb => ?_) <;> (try subst hb) <;> cbv)))
  have e : z = 0 := by omega
  subst e
  (repeat' (first
| (refine q1w (fun z hz => ?_); (try simp only at hz); cbv)
| (refine rqw ?_; cbv)
| (refine rqk ?_; cbv)
| (refine chpA ?_; cbv)
| (refine QC.tw ?_; cbv)
| (refine QC.t3 ?_; cbv)
| (refine QC.f3 ?_; cbv)
| (refine QC.fw ?_; cbv)
| (refine QC.mk (fun hc => ?_) (fun hc => ?_) <;> (try dsimp only at hc) <;> cbv)
| (refine br_mk2 (fun hb => ?_) (fun hb => ?_) <;> (try subst hb) <;> cbv)
| (refine callq (g1) rfl rfl ?_; cbv)))
  exact ⟨rfl, rfl, rfl⟩
theorem wait5 (Q Q' : List SV) (q : Int) (P : List SV) (hQe : Q = frT q P :: Q') (hP : P.length ≤ 4) (hQl : 0 < Q'.length ∧ Q'.length ≤ 16) (at_ lf d w st : Int) (hd : 0 ≤ d ∧ d ≤ 4294967295) (hw : w = d % 8) (hst : (1 ≤ w ∧ st = 1) ∨ (w = 0 ∧ st = 2)) :
    Good 97 (le 180 (mcS Q 2 at_ 0 0 0 0 0 lf d) [.bool true, .int .u8 q] (.tup []) (mcO Q' 1 0 st 0 3 2 w 0 d q P true at_)) := by
  have g1 := finishM Q Q' q P hQe hP hQl 2 at_ 0 0 0 0 0 lf d w st true hd hw hst
  have hL0 : Q[0]? = some (frT q P) := by rw [hQe]; rfl
  clear hd hw hst hQe
  refine Good.of Tryz.func97 rfl (by rfl) (by kernel_rfl) ?_
  cbv
  (repeat' (first
| (refine q1w (fun z hz => ?_); (try simp only at hz); cbv)
| (refine rqw ?_; cbv)
| (refine rqk ?_; cbv)
| (refine chpA ?_; cbv)
| (refine QC.tw ?_; cbv)
| (refine QC.t3 ?_; cbv)
| (refine QC.f3 ?_; cbv)
| (refine QC.fw ?_; cbv)
| (refine QC.mk (fun hc => ?_) (fun hc => ?_) <;> (try dsimp only at hc) <;> cbv)
| (refine br_mk2 (fun hb => ?_) (fun hb => ?_) <;> (try subst hb) <;> cbv)))
  refine qv (0, frT q P) ⟨rfl, hL0⟩ ?_
  cbv
  (repeat' (first
| (refine q1w (fun z hz => ?_); (try simp only at hz); cbv)
| (refine rqw ?_; cbv)
| (refine rqk ?_; cbv)
| (refine chpA ?_; cbv)
| (refine QC.tw ?_; cbv)
| (refine QC.t3 ?_; cbv)
| (refine QC.f3 ?_; cbv)
| (refine QC.fw ?_; cbv)
| (refine QC.mk (fun hc => ?_) (fun hc => ?_) <;> (try dsimp only at hc) <;> cbv)
| (refine br_mk2 (fun hb => ?_) (fun hb => ?_) <;> (try subst hb) <;> cbv)
| (refine callq (g1) rfl rfl ?_; cbv)))
  exact ⟨rfl, rfl, rfl⟩
theorem wait6 (Q : List SV) (q : Int) (P : List SV) (hQe : Q = [frT q P]) (hP : P.length ≤ 4) (at_ lf d : Int) :
    Good 97 (le 180 (mcS Q 2 at_ 0 0 0 0 0 lf d) [.bool true, .int .u8 q] (.tup []) (mcZ d q P true at_)) := by
  have g1 := finishL q P hP 2 at_ 0 0 0 0 0 lf d true
  rw [← hQe] at g1
  have hL0 : Q[0]? = some (frT q P) := by rw [hQe]; rfl
  clear hQe
  refine Good.of Tryz.func97 rfl (by rfl) (by kernel_rfl) ?_
  cbv
  (repeat' (first
| (refine q1w (fun z hz => ?_); (try simp only at hz); cbv)
| (refine rqw ?_; cbv)
| (refine rqk ?_; cbv)
| (refine chpA ?_; cbv)
| (refine QC.tw ?_; cbv)
| (refine QC.t3 ?_; cbv)
| (refine QC.f3 ?_; cbv)
| (refine QC.fw ?_; cbv)
| (refine QC.mk (fun hc => ?_) (fun hc => ?_) <;> (try dsimp only at hc) <;> cbv)
| (refine br_mk2 (fun hb => ?_) (fun hb => ?_) <;> (try subst hb) <;> cbv)))
  refine qv (0, frT q P) ⟨rfl, hL0⟩ ?_
  cbv
  (repeat' (first
| (refine q1w (fun z hz => ?_); (try simp only at hz); cbv)
| (refine rqw ?_; cbv)
| (refine rqk ?_; cbv)
| (refine chpA ?_; cbv)
| (refine QC.tw ?_; cbv)
| (refine QC.t3 ?_; cbv)
| (refine QC.f3 ?_; cbv)
| (refine QC.fw ?_; cbv)
| (refine QC.mk (fun hc => ?_) (fun hc => ?_) <;> (try dsimp only at hc) <;> cbv)
| (refine br_mk2 (fun hb => ?_) (fun hb => ?_) <;> (try subst hb) <;> cbv)
| (refine callq (g1) rfl rfl ?_; cbv)))
  exact ⟨rfl, rfl, rfl⟩
end Go.Proofs.YtgfpjhddojhfpaaGreat
namespace Go.Proofs.YtgfpjhddojhfpaaGreat
set_option linter.unusedVariables false
set_option linter.unusedSimpArgs false
open Go.RowKit
set_option maxHeartbeats 4000000
set_option linter.unusedSimpArgs false
set_option linter.unusedVariables false
abbrev slS (ack : Bool) (sq d : Int) : SV := .agg [.bool false, .bool ack, .int .u8 sq, .int .u32 d]
abbrev ocS (q : Int) (P : List SV) (sn : Bool) (a : Int) : SV := .agg [.int .i64 1, .bool true, .bool false, .bool false, .int .u8 q, .int .u16 0, .int .i64 3, .int .u16 0, .int .u64 144115188075855874, .int .i64 3, .int .u16 0, .int .u64 144115188075855873, .int .u32 0, .int .u8 0, .lst none P, .lst none [], .bool sn, .int .i64 a]
theorem step1 (Q : List SV) (hQ : Qok Q) (hq : Q.length ≤ 16) (at_ st cl w st' cl' w' sq d : Int) (ack : Bool) (hv : Good 91 (pu [lkS Q 1 at_ st 0 3 cl w 0] (.bool true))) (hs : st' = 1 ∨ st' = 2) (gb : Good 156 (pu [boS st cl w, .bool false, .int .u32 d] (boS st' cl' w'))) :
    Good 43 (pu [lkS Q 1 at_ st 0 3 cl w 0, slS ack sq d] (.tup [lkS Q 1 at_ st' 0 3 cl' w' 0, .bool false, .lst (some 18) []])) := by
  have g1 := ownL Q hQ hq 1 at_ st 0 3 cl w 0
  have g2 := contend1 Q at_ st cl w st' cl' w' d hs gb
  clear gb hQ
  refine Good.of Tryz.func43 rfl (by rfl) (by kernel_rfl) ?_
  cbv
  (repeat' (first
| (refine q1w (fun z hz => ?_); (try simp only at hz); cbv)
| (refine rqw ?_; cbv)
| (refine rqk ?_; cbv)
| (refine chpA ?_; cbv)
| (refine QC.tw ?_; cbv)
| (refine QC.t3 ?_; cbv)
| (refine QC.f3 ?_; cbv)
| (refine QC.fw ?_; cbv)
| (refine QC.mk (fun hc => ?_) (fun hc => ?_) <;> (try dsimp only at hc) <;> cbv)
| (refine br_mk2 (fun hb => ?_) (fun hb => ?_) <;> (try subst hb) <;> cbv)
| (refine callq (hv) rfl rfl ?_; cbv)
| (refine callq (g1) rfl rfl ?_; cbv)
| (refine callq (g2) rfl rfl ?_; cbv)))
  all_goals exact ⟨rfl, rfl, rfl⟩
theorem step2 (Q : List SV) (hQ : Qok Q) (hq : Q.length ≤ 16) (q : Int) (P : List SV) (hL0 : Q[0]? = some (frT q P)) (at_ a' sq d : Int) (ack : Bool) (ha : 0 ≤ at_ ∧ at_ ≤ 3) (ha' : a' = at_ + 1) (hv : Good 91 (pu [lkS Q 1 at_ 2 0 3 1 0 0] (.bool true))) :
    Good 43 (pu [lkS Q 1 at_ 2 0 3 1 0 0, slS ack sq d] (.tup [lkS Q 2 a' 0 0 0 0 0 3, .bool true, .lst (some 18) []])) := by
  have g1 := ownL Q hQ hq 1 at_ 2 0 3 1 0 0
  have g2 := contend2 Q q P hL0 at_ a' d ha ha'
  clear hQ hL0
  refine Good.of Tryz.func43 rfl (by rfl) (by kernel_rfl) ?_
  cbv
  (repeat' (first
| (refine q1w (fun z hz => ?_); (try simp only at hz); cbv)
| (refine rqw ?_; cbv)
| (refine rqk ?_; cbv)
| (refine chpA ?_; cbv)
| (refine QC.tw ?_; cbv)
| (refine QC.t3 ?_; cbv)
| (refine QC.f3 ?_; cbv)
| (refine QC.fw ?_; cbv)
| (refine QC.mk (fun hc => ?_) (fun hc => ?_) <;> (try dsimp only at hc) <;> cbv)
| (refine br_mk2 (fun hb => ?_) (fun hb => ?_) <;> (try subst hb) <;> cbv)
| (refine callq (hv) rfl rfl ?_; cbv)
| (refine callq (g1) rfl rfl ?_; cbv)
| (refine callq (g2) rfl rfl ?_; cbv)))
  all_goals exact ⟨rfl, rfl, rfl⟩
theorem step3 (Q : List SV) (hQ : Qok Q) (hq : Q.length ≤ 16) (at_ lf lf' sq d : Int) (hl : 2 ≤ lf ∧ lf ≤ 3) (hl' : lf' = lf - 1) (hv : Good 91 (pu [lkS Q 2 at_ 0 0 0 0 0 lf] (.bool true))) :
    Good 43 (pu [lkS Q 2 at_ 0 0 0 0 0 lf, slS false sq d] (.tup [lkS Q 2 at_ 0 0 0 0 0 lf', .bool false, .lst (some 18) []])) := by
  have g1 := ownL Q hQ hq 2 at_ 0 0 0 0 0 lf
  have g2 := wait1 Q at_ lf lf' sq d hl hl'
  clear hQ
  refine Good.of Tryz.func43 rfl (by rfl) (by kernel_rfl) ?_
  cbv
  (repeat' (first
| (refine q1w (fun z hz => ?_); (try simp only at hz); cbv)
| (refine rqw ?_; cbv)
| (refine rqk ?_; cbv)
| (refine chpA ?_; cbv)
| (refine QC.tw ?_; cbv)
| (refine QC.t3 ?_; cbv)
| (refine QC.f3 ?_; cbv)
| (refine QC.fw ?_; cbv)
| (refine QC.mk (fun hc => ?_) (fun hc => ?_) <;> (try dsimp only at hc) <;> cbv)
| (refine br_mk2 (fun hb => ?_) (fun hb => ?_) <;> (try subst hb) <;> cbv)
| (refine callq (hv) rfl rfl ?_; cbv)
| (refine callq (g1) rfl rfl ?_; cbv)
| (refine callq (g2) rfl rfl ?_; cbv)))
  all_goals exact ⟨rfl, rfl, rfl⟩
theorem step4 (Q : List SV) (hQ : Qok Q) (hq : Q.length ≤ 16) (at_ sq d w st : Int) (ha : at_ ≤ 3) (hd : 0 ≤ d ∧ d ≤ 4294967295) (hw : w = d % 8) (hst : (1 ≤ w ∧ st = 1) ∨ (w = 0 ∧ st = 2)) (hv : Good 91 (pu [lkS Q 2 at_ 0 0 0 0 0 1] (.bool true))) :
    Good 43 (pu [lkS Q 2 at_ 0 0 0 0 0 1, slS false sq d] (.tup [lkS Q 1 at_ st 0 3 2 w 0, .bool false, .lst (some 18) []])) := by
  have g1 := ownL Q hQ hq 2 at_ 0 0 0 0 0 1
  have g2 := wait2 Q at_ sq d w st ha hd hw hst
  clear hQ hw hst
  refine Good.of Tryz.func43 rfl (by rfl) (by kernel_rfl) ?_
  cbv
  (repeat' (first
| (refine q1w (fun z hz => ?_); (try simp only at hz); cbv)
| (refine rqw ?_; cbv)
| (refine rqk ?_; cbv)
| (refine chpA ?_; cbv)
| (refine QC.tw ?_; cbv)
| (refine QC.t3 ?_; cbv)
| (refine QC.f3 ?_; cbv)
| (refine QC.fw ?_; cbv)
| (refine QC.mk (fun hc => ?_) (fun hc => ?_) <;> (try dsimp only at hc) <;> cbv)
| (refine br_mk2 (fun hb => ?_) (fun hb => ?_) <;> (try subst hb) <;> cbv)
| (refine callq (hv) rfl rfl ?_; cbv)
| (refine callq (g1) rfl rfl ?_; cbv)
| (refine callq (g2) rfl rfl ?_; cbv)))
  all_goals exact ⟨rfl, rfl, rfl⟩
theorem step5 (Q Q' : List SV) (hQ : Qok Q) (hq : Q.length ≤ 16) (q : Int) (P : List SV) (hQe : Q = frT q P :: Q') (hP : P.length ≤ 4) (hQl : 0 < Q'.length ∧ Q'.length ≤ 16) (at_ sq d w st : Int) (ha : 3 < at_) (hd : 0 ≤ d ∧ d ≤ 4294967295) (hw : w = d % 8) (hst : (1 ≤ w ∧ st = 1) ∨ (w = 0 ∧ st = 2)) (hv : Good 91 (pu [lkS Q 2 at_ 0 0 0 0 0 1] (.bool true))) :
    Good 43 (pu [lkS Q 2 at_ 0 0 0 0 0 1, slS false sq d] (.tup [lkS Q' 1 0 st 0 3 2 w 0, .bool false, .lst (some 18) [ocS q P false at_]])) := by
  have g1 := ownL Q hQ hq 2 at_ 0 0 0 0 0 1
  have g2 := wait3 Q Q' q P hQe hP hQl at_ sq d w st ha hd hw hst
  clear hQ hw hst hQe
  refine Good.of Tryz.func43 rfl (by rfl) (by kernel_rfl) ?_
  cbv
  (repeat' (first
| (refine q1w (fun z hz => ?_); (try simp only at hz); cbv)
| (refine rqw ?_; cbv)
| (refine rqk ?_; cbv)
| (refine chpA ?_; cbv)
| (refine QC.tw ?_; cbv)
| (refine QC.t3 ?_; cbv)
| (refine QC.f3 ?_; cbv)
| (refine QC.fw ?_; cbv)
| (refine QC.mk (fun hc => ?_) (fun hc => ?_) <;> (try dsimp only at hc) <;> cbv)
| (refine br_mk2 (fun hb => ?_) (fun hb => ?_) <;> (try subst hb) <;> cbv)
| (refine callq (hv) rfl rfl ?_; cbv)
| (refine callq (g1) rfl rfl ?_; cbv)
| (refine callq (g2) rfl rfl ?_; cbv)))
  all_goals exact ⟨rfl, rfl, rfl⟩
theorem step6 (Q Q' : List SV) (hQ : Qok Q) (hq : Q.length ≤ 16) (q : Int) (P : List SV) (hQe : Q = frT q P :: Q') (hP : P.length ≤ 4) (hQl : 0 < Q'.length ∧ Q'.length ≤ 16) (at_ lf d w st : Int) (hd : 0 ≤ d ∧ d ≤ 4294967295) (hw : w = d % 8) (hst : (1 ≤ w ∧ st = 1) ∨ (w = 0 ∧ st = 2)) (hv : Good 91 (pu [lkS Q 2 at_ 0 0 0 0 0 lf] (.bool true))) :
    Good 43 (pu [lkS Q 2 at_ 0 0 0 0 0 lf, slS true q d] (.tup [lkS Q' 1 0 st 0 3 2 w 0, .bool false, .lst (some 18) [ocS q P true at_]])) := by
  have g1 := ownL Q hQ hq 2 at_ 0 0 0 0 0 lf
  have g2 := wait5 Q Q' q P hQe hP hQl at_ lf d w st hd hw hst
  clear hQ hw hst hQe
  refine Good.of Tryz.func43 rfl (by rfl) (by kernel_rfl) ?_
  cbv
  (repeat' (first
| (refine q1w (fun z hz => ?_); (try simp only at hz); cbv)
| (refine rqw ?_; cbv)
| (refine rqk ?_; cbv)
| (refine chpA ?_; cbv)
| (refine QC.tw ?_; cbv)
| (refine QC.t3 ?_; cbv)
| (refine QC.f3 ?_; cbv)
| (refine QC.fw ?_; cbv)
| (refine QC.mk (fun hc => ?_) (fun hc => ?_) <;> (try dsimp only at hc) <;> cbv)
| (refine br_mk2 (fun hb => ?_) (fun hb => ?_) <;> (try subst hb) <;> cbv)
| (refine callq (hv) rfl rfl ?_; cbv)
| (refine callq (g1) rfl rfl ?_; cbv)
| (refine callq (g2) rfl rfl ?_; cbv)))
  all_goals exact ⟨rfl, rfl, rfl⟩
abbrev lkN : SV := .agg [.nil, .int .i64 0, .int .i64 0, .int .i64 0, .int .i64 0, .int .i64 0, .int .i64 0, .int .i64 0, .int .i64 0]
theorem wkN (q : Int) (P : List SV) (sn : Bool) (a : Int) : Wk (.tup [lkN, .bool false, .lst (some 18) [ocS q P sn a]]) (.tup [lkS [] 0 0 0 0 0 0 0 0, .bool false, .lst (some 18) [ocS q P sn a]]) :=
  Wk.tup ⟨Wk.agg ⟨Wk.nil _, Wk.rfl' _, Wk.rfl' _, Wk.rfl' _, Wk.rfl' _, Wk.rfl' _, Wk.rfl' _, Wk.rfl' _, Wk.rfl' _, trivial⟩, Wk.rfl' _, Wk.rfl' _, trivial⟩
theorem step7 (Q : List SV) (hQ : Qok Q) (hq : Q.length ≤ 16) (q : Int) (P : List SV) (hQe : Q = [frT q P]) (hP : P.length ≤ 4) (at_ sq d : Int) (ha : 3 < at_) (hv : Good 91 (pu [lkS Q 2 at_ 0 0 0 0 0 1] (.bool true))) :
    Good 43 (pu [lkS Q 2 at_ 0 0 0 0 0 1, slS false sq d] (.tup [lkS [] 0 0 0 0 0 0 0 0, .bool false, .lst (some 18) [ocS q P false at_]])) := by
  have g1 := ownL Q hQ hq 2 at_ 0 0 0 0 0 1
  have g2 := wait4 Q q P hQe hP at_ sq d ha
  clear hQ hQe
  refine Good.res ?_ (wkN q P false at_)
  refine Good.of Tryz.func43 rfl (by rfl) (by kernel_rfl) ?_
  cbv
  (repeat' (first
| (refine q1w (fun z hz => ?_); (try simp only at hz); cbv)
| (refine rqw ?_; cbv)
| (refine rqk ?_; cbv)
| (refine chpA ?_; cbv)
| (refine QC.tw ?_; cbv)
| (refine QC.t3 ?_; cbv)
| (refine QC.f3 ?_; cbv)
| (refine QC.fw ?_; cbv)
| (refine QC.mk (fun hc => ?_) (fun hc => ?_) <;> (try dsimp only at hc) <;> cbv)
| (refine br_mk2 (fun hb => ?_) (fun hb => ?_) <;> (try subst hb) <;> cbv)
| (refine callq (hv) rfl rfl ?_; cbv)
| (refine callq (g1) rfl rfl ?_; cbv)
| (refine callq (g2) rfl rfl ?_; cbv)))
  all_goals exact ⟨rfl, rfl, rfl⟩
theorem step8 (Q : List SV) (hQ : Qok Q) (hq : Q.length ≤ 16) (q : Int) (P : List SV) (hQe : Q = [frT q P]) (hP : P.length ≤ 4) (at_ lf d : Int) (hv : Good 91 (pu [lkS Q 2 at_ 0 0 0 0 0 lf] (.bool true))) :
    Good 43 (pu [lkS Q 2 at_ 0 0 0 0 0 lf, slS true q d] (.tup [lkS [] 0 0 0 0 0 0 0 0, .bool false, .lst (some 18) [ocS q P true at_]])) := by
  have g1 := ownL Q hQ hq 2 at_ 0 0 0 0 0 lf
  have g2 := wait6 Q q P hQe hP at_ lf d
  clear hQ hQe
  refine Good.res ?_ (wkN q P true at_)
  refine Good.of Tryz.func43 rfl (by rfl) (by kernel_rfl) ?_
  cbv
  (repeat' (first
| (refine q1w (fun z hz => ?_); (try simp only at hz); cbv)
| (refine rqw ?_; cbv)
| (refine rqk ?_; cbv)
| (refine chpA ?_; cbv)
| (refine QC.tw ?_; cbv)
| (refine QC.t3 ?_; cbv)
| (refine QC.f3 ?_; cbv)
| (refine QC.fw ?_; cbv)
| (refine QC.mk (fun hc => ?_) (fun hc => ?_) <;> (try dsimp only at hc) <;> cbv)
| (refine br_mk2 (fun hb => ?_) (fun hb => ?_) <;> (try subst hb) <;> cbv)
| (refine callq (hv) rfl rfl ?_; cbv)
| (refine callq (g1) rfl rfl ?_; cbv)
| (refine callq (g2) rfl rfl ?_; cbv)))
  all_goals exact ⟨rfl, rfl, rfl⟩
end Go.Proofs.YtgfpjhddojhfpaaGreat
namespace Go.Proofs.YtgfpjhddojhfpaaGreat
set_option linter.unusedVariables false
set_option linter.unusedSimpArgs false
open Go.RowKit
set_option maxHeartbeats 4000000
set_option linter.unusedSimpArgs false
set_option linter.unusedVariables false
theorem enq0 (q : Int) (P : List SV) (hP : P.length ≤ 4) (d w st : Int) (hd : 0 ≤ d ∧ d ≤ 4294967295) (hw : w = d % 8) (hst : (1 ≤ w ∧ st = 1) ∨ (w = 0 ∧ st = 2)) :
    Good 41 (pu [lkS [] 0 0 0 0 0 0 0 0, frT q P, .int .u32 d] (.tup [lkS [frT q P] 1 0 st 0 3 2 w 0, .int .i64 0])) := by
  have g0 := lvalid0
  have g1 := validFT q P hP
  have g2 := ownL [] (fun i x h => by simp at h) (by simp) 0 0 0 0 0 0 0 0
  have g3 := ownF q P hP
  have g4 := begin_c [frT q P] 0 0 0 0 0 0 0 0 d w st hd hw hst
  clear hw hst
  refine Good.of Tryz.func41 rfl (by rfl) (by kernel_rfl) ?_
  cbv
  (repeat' (first
| (refine q1w (fun z hz => ?_); (try simp only at hz); cbv)
| (refine rqw ?_; cbv)
| (refine rqk ?_; cbv)
| (refine chpA ?_; cbv)
| (refine QC.tw ?_; cbv)
| (refine QC.t3 ?_; cbv)
| (refine QC.f3 ?_; cbv)
| (refine QC.fw ?_; cbv)
| (refine QC.mk (fun hc => ?_) (fun hc => ?_) <;> (try dsimp only at hc) <;> cbv)
| (refine br_mk2 (fun hb => ?_) (fun hb => ?_) <;> (try subst hb) <;> cbv)
| (refine callq (g0) rfl rfl ?_; cbv)
| (refine callq (g1) rfl rfl ?_; cbv)
| (refine callq (g2) rfl rfl ?_; cbv)
| (refine callq (g3) rfl rfl ?_; cbv)
| (refine callq (g4) rfl rfl ?_; cbv)))
  all_goals exact ⟨rfl, rfl, rfl⟩
theorem enq1 (Q Q' : List SV) (hQ : Qok Q) (hq : 0 < Q.length ∧ Q.length ≤ 15) (q : Int) (P : List SV) (hP : P.length ≤ 4) (hQ' : Q' = Q ++ [frT q P]) (st w d : Int) (hv : Good 91 (pu [lkS Q 1 0 st 0 3 2 w 0] (.bool true))) :
    Good 41 (pu [lkS Q 1 0 st 0 3 2 w 0, frT q P, .int .u32 d] (.tup [lkS Q' 1 0 st 0 3 2 w 0, .int .i64 0])) := by
  have g1 := validFT q P hP
  have g2 := ownL Q hQ (by omega) 1 0 st 0 3 2 w 0
  have g3 := ownF q P hP
  have hM : apL Q [frT q P] = Q' := by rw [apL_eq, hQ']
  have hl : Q'.length = Q.length + 1 := by rw [hQ']; simp
  clear hQ hQ'
  refine Good.of Tryz.func41 rfl (by rfl) (by kernel_rfl) ?_
  cbv
  (repeat' (first
| (refine q1w (fun z hz => ?_); (try simp only at hz); cbv)
| (refine rqw ?_; cbv)
| (refine rqk ?_; cbv)
| (refine chpA ?_; cbv)
| (refine QC.tw ?_; cbv)
| (refine QC.t3 ?_; cbv)
| (refine QC.f3 ?_; cbv)
| (refine QC.fw ?_; cbv)
| (refine QC.mk (fun hc => ?_) (fun hc => ?_) <;> (try dsimp only at hc) <;> cbv)
| (refine br_mk2 (fun hb => ?_) (fun hb => ?_) <;> (try subst hb) <;> cbv)
| (refine callq (hv) rfl rfl ?_; cbv)
| (refine callq (g1) rfl rfl ?_; cbv)
| (refine callq (g2) rfl rfl ?_; cbv)
| (refine callq (g3) rfl rfl ?_; cbv)))
  · exfalso
    have h1 : O.ln (apL Q [frT q P]) = Q'.length := by rw [oln, hM]
    have h2 : z = ((O.ln (apL Q [frT q P]) : Nat) : Int) := hz
    rw [h1] at h2
    omega
  · unfold apL at hM
    rw [hM]
    exact ⟨rfl, rfl, rfl⟩
end Go.Proofs.YtgfpjhddojhfpaaGreat

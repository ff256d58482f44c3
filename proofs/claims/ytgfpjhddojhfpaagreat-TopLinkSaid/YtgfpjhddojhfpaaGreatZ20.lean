/- Texts put together: LW. -/
import Derived.Test.YtgfpjhddojhfpaaGreatZ04
import Derived.Test.YtgfpjhddojhfpaaGreatZ12
import Derived.Test.YtgfpjhddojhfpaaGreatZ18
import Derived.Test.YtgfpjhddojhfpaaGreatZ19
namespace Go.Proofs.YtgfpjhddojhfpaaGreat
set_option linter.unusedVariables false
set_option linter.unusedSimpArgs false
open Go.RowKit
set_option maxHeartbeats 8000000
set_option linter.unusedSimpArgs false
set_option linter.unusedVariables false
theorem dev0 : Good 13 (pu [.int .i64 0] (.agg [.int .i64 3, .int .u16 0, .int .u64 144115188075855873])) := by
  refine Good.of Tryz.func13 rfl (by rfl) (by kernel_rfl) ?_
  cbv
  (repeat' (first
| (refine q1w (fun z hz => ?_); (try simp only at hz); cbv)
| (refine rqw ?_; cbv)
| (refine rqk ?_; cbv)
| (refine chpA ?_; cbv)
| (refine QC.tw ?_; cbv)
| (refine QC.t3 ?_; cbv)
| (refine QC.f3 ?_; cbv)
| (refine QC.fw ?_; cbv)
| (refine QC.mk (fun hc => ?_) (fun hc => ?_) <;> (try dsimp only at hc) <;> cbv)
| (refine br_mk2 (fun hb => ?_) (fun hb => ?_) <;> (try subst hb) <;> cbv)))
  have e : z = 144115188075855873 := by (first | omega | (simp only [cst] at *; omega) | (simp only [sm] at *; omega))
  rw [e]
  exact ⟨rfl, rfl, rfl⟩
theorem dev1 : Good 13 (pu [.int .i64 1] (.agg [.int .i64 3, .int .u16 0, .int .u64 144115188075855874])) := by
  refine Good.of Tryz.func13 rfl (by rfl) (by kernel_rfl) ?_
  cbv
  (repeat' (first
| (refine q1w (fun z hz => ?_); (try simp only at hz); cbv)
| (refine rqw ?_; cbv)
| (refine rqk ?_; cbv)
| (refine chpA ?_; cbv)
| (refine QC.tw ?_; cbv)
| (refine QC.t3 ?_; cbv)
| (refine QC.f3 ?_; cbv)
| (refine QC.fw ?_; cbv)
| (refine QC.mk (fun hc => ?_) (fun hc => ?_) <;> (try dsimp only at hc) <;> cbv)
| (refine br_mk2 (fun hb => ?_) (fun hb => ?_) <;> (try subst hb) <;> cbv)))
  have e : z = 144115188075855874 := by (first | omega | (simp only [cst] at *; omega) | (simp only [sm] at *; omega))
  rw [e]
  exact ⟨rfl, rfl, rfl⟩
def EI (i : Nat) (ph st e cl w : Int) : Prop := (i = 0 ∧ ph = 0 ∧ st = 0 ∧ e = 0 ∧ cl = 0 ∧ w = 0) ∨ (1 ≤ i ∧ ph = 1 ∧ e = 3 ∧ cl = 2 ∧ ((1 ≤ w ∧ w ≤ 7 ∧ st = 1) ∨ (w = 0 ∧ st = 2)))
theorem enq_any (n i : Nat) (hn : n ≤ 5) (F : List SV) (p : Nat → List UInt8) (hF : Fok n F p) (hi : i < n) (ph st e cl w d : Int) (h : EI i ph st e cl w) (hd : 0 ≤ d ∧ d ≤ 4294967295) :
    ∃ ph' st' e' cl' w' : Int, Good 41 (pu [lkS (F.take i) ph 0 st 0 e cl w 0, frT i (u8l (p i)), .int .u32 d] (.tup [lkS (F.take (i + 1)) ph' 0 st' 0 e' cl' w' 0, .int .i64 0])) ∧ EI (i + 1) ph' st' e' cl' w' := by
  have h1 := hF.2 i hi
  have hP : (u8l (p i)).length ≤ 4 := by rw [u8l_len]; exact h1.1
  have ht : F.take (i + 1) = F.take i ++ [frT i (u8l (p i))] := by rw [List.take_add_one, h1.2]; rfl
  have hQ : Qok (F.take i) := fun k x hx => by
    rw [List.getElem?_take] at hx
    split at hx
    · have := hF.q 0 k x (by simpa using hx)
      exact this
    · cases hx
  have hl : (F.take i).length = i := by rw [List.length_take, hF.1]; omega
  rcases h with ⟨rfl, rfl, rfl, rfl, rfl, rfl⟩ | ⟨hi1, rfl, rfl, rfl, hw⟩
  · obtain ⟨w', st', pos', hw, hst, hM, _⟩ := md_begin n 0 hi 0 d (by omega)
    refine ⟨1, st', 3, 2, w', ?_, .inr ⟨by omega, rfl, rfl, rfl, by omega⟩⟩
    rw [ht]
    exact enq0 0 (u8l (p 0)) hP d w' st' hd hw hst
  · refine ⟨1, st, 3, 2, w, ?_, .inr ⟨by omega, rfl, rfl, rfl, hw⟩⟩
    refine enq1 (F.take i) (F.take (i + 1)) hQ (by omega) i (u8l (p i)) hP ht st w d ?_
    rcases hw with ⟨w1, w2, rfl⟩ | ⟨rfl, rfl⟩
    · exact lvalid1 _ hQ (by omega) 0 w (by omega) ⟨w1, w2⟩
    · exact lvalid2 _ hQ (by omega) 0 2 (by omega) (by omega)
theorem EI.md {n : Nat} {ph st e cl w : Int} (hn : 1 ≤ n) (h : EI n ph st e cl w) : ∃ pos, Md n 0 ph 0 st 0 e cl w 0 pos := by
  rcases h with ⟨h, _⟩ | ⟨_, rfl, rfl, rfl, h⟩
  · omega
  · rcases h with ⟨w1, w2, rfl⟩ | ⟨rfl, rfl⟩
    · exact ⟨_, .b1 (by omega) 0 w (by omega) ⟨w1, w2⟩⟩
    · exact ⟨_, .b2 (by omega) 0 2 (by omega) (by omega)⟩
theorem wkF (q : Int) (P : List SV) : WkL [.agg [.int .i64 1, .bool true, .bool false, .bool false, .int .u8 q, .int .u16 0, .int .i64 3, .int .u16 0, .int .u64 144115188075855874, .int .i64 3, .int .u16 0, .int .u64 144115188075855873, .int .u32 0, .int .u8 0, .lst none P, .nil]] [frT q P] :=
  ⟨Wk.agg ⟨Wk.rfl' _, Wk.rfl' _, Wk.rfl' _, Wk.rfl' _, Wk.rfl' _, Wk.rfl' _, Wk.rfl' _, Wk.rfl' _, Wk.rfl' _, Wk.rfl' _, Wk.rfl' _, Wk.rfl' _, Wk.rfl' _, Wk.rfl' _, Wk.rfl' _, Wk.nil _, trivial⟩, trivial⟩
theorem wkF3 (A D : SV) (q : Int) (P : List SV) : WkL [A, .agg [.int .i64 1, .bool true, .bool false, .bool false, .int .u8 q, .int .u16 0, .int .i64 3, .int .u16 0, .int .u64 144115188075855874, .int .i64 3, .int .u16 0, .int .u64 144115188075855873, .int .u32 0, .int .u8 0, .lst none P, .nil], D] [A, frT q P, D] :=
  ⟨Wk.rfl' _, (wkF q P).1, Wk.rfl' _, trivial⟩
theorem ft_ok (q : Nat) (hq : q ≤ 255) (p : List UInt8) : (Ft q p).Ok := ⟨by show 0 ≤ (q : Int) ∧ (q : Int) ≤ 255; omega, by show (0 : Int) ≤ 0 ∧ (0 : Int) ≤ 65535; omega, by show (0 : Int) ≤ 0 ∧ (0 : Int) ≤ 65535; omega, by show u6 144115188075855874; unfold u6; omega,
  by show (0 : Int) ≤ 0 ∧ (0 : Int) ≤ 65535; omega, by show u6 144115188075855873; unfold u6; omega, by show (0 : Int) ≤ 0 ∧ (0 : Int) ≤ 4294967295; omega, by show (0 : Int) ≤ 0 ∧ (0 : Int) ≤ 255; omega⟩
theorem encT (q : Nat) (hq : q ≤ 255) (p : List UInt8) (hp : p.length ≤ 4) (P R : List SV) (hP : P = u8l p) (hR : R = u8l (Ft q p).enc) : Good 18 (nu [frT q P] (.tup [.row 1, .int .i64 0]) (.row none 5 R)) :=
  encode_yes 1 true false false q 0 3 0 144115188075855874 3 0 144115188075855873 0 0 P [] p [] hP rfl (ft_ok q hq p) (ft_valid q p hp) (by decide) (by simp) R hR
theorem decT (q : Nat) (hq : q ≤ 255) (p : List UInt8) (hp : p.length ≤ 4) (P R : List SV) (hP : P = u8l p) (hR : R = u8l (Ft q p).enc) : Good 11 (pu [.lst none R] (.tup [frT q P, .int .i64 0])) :=
  decode_u 1 q 0 3 0 144115188075855874 3 0 144115188075855873 P p hP (ft_ok q hq p) (ft_valid q p hp) (by decide) R hR
theorem encT_len (q : Nat) (hq : q ≤ 255) (p : List UInt8) (hp : p.length ≤ 4) : (Ft q p).enc.length ≤ 127 := by
  obtain ⟨b1, b2, b3, _⟩ := fr_len (Ft q p) (ft_valid q p hp) (show (1 : Int) ≠ 2 by decide)
  omega
theorem anyF (g : List Nat) (x : Nat) : ∃ AR : Nat → Bool, AR 0 = false ∧ (∀ i y, g[i]? = some y → AR (i + 1) = (AR i || decide (y = x))) ∧ (x ∈ g → AR g.length = true) := by
  refine ⟨fun i => (g.take i).any fun y => decide (y = x), rfl, fun i y h => ?_, fun h => ?_⟩
  · dsimp only
    rw [List.take_add_one, h]
    simp
  · dsimp only
    rw [List.take_length, List.any_eq_true]
    exact ⟨x, h, by simp⟩
structure LS where
  s : Nat
  si : Int
  nx : Nat
  ni : Int
  ph : Int
  a : Int
  b0 : Int
  b1 : Int
  b2 : Int
  b3 : Int
  b4 : Int
  lf : Int
  l : List Sn
  g : List Nat
  ack : Bool
  ans : Int
  k : Nat
  kj : Int
structure LSI (n : Nat) (p : LS) : Prop where
  fs : p.si = (p.s : Int)
  fn : p.ni = (p.nx : Int)
  fm : ∃ pos, Md n p.nx p.ph p.a p.b0 p.b1 p.b2 p.b3 p.b4 p.lf pos ∧ p.si ≤ 48 * (p.nx : Int) + pos
  fr : SeenR p.g p.l
  fg : p.g.Pairwise (· < ·)
  fb : ∀ k ∈ p.g, k ≤ p.nx
  fk : p.kj = (p.k : Int) ∧ p.k ≤ 2 * p.s
  fa : p.ack = true → p.ph = 2 ∧ p.ans = (p.nx : Int) ∧ p.nx ∈ p.g
end Go.Proofs.YtgfpjhddojhfpaaGreat

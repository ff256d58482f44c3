/- The sanity check of the medium's laws. -/
import Derived.Test.YtligbjbkecmecaaDoorMD
import Derived.Test.YtligbjbkecmecaaDoorWk
namespace Go.Proofs.YtligbjbkecmecaaDoor
set_option linter.unusedVariables false
set_option linter.unusedSimpArgs false
open Go.RowKit
set_option maxHeartbeats 8000000
set_option linter.unusedSimpArgs false
set_option linter.unusedVariables false
theorem lst_weak {sh : Option Nat} {K K' : List SV} (hl : K'.length = K.length) (h : ∀ (i : Nat) (h1 : i < K'.length) (h2 : i < K.length) (w : World) (Y : Nat → Prop) (v : Value), Den w Y noEnv K'[i] v → Den w Y noEnv K[i] v) {w : World} {Y : Nat → Prop} {ρ : Env} {v : Value} (hd : Den w Y ρ (.lst sh K') v) : Den w Y ρ (.lst sh K) v := by
  cases hd with
  | lst0 _ _ a cap =>
    obtain rfl : K = [] := List.eq_nil_of_length_eq_zero (by simpa using hl.symm)
    exact .lst0 _ _ _ _
  | lst _ _ _ b off cap us hb hx hc hu hle ho hh =>
    have hh2 := fun i (h1 : i < K.length) => h i (by rw [hl]; exact h1) h1 w Y _ (hh i (by rw [hl]; exact h1))
    clear hh h
    rw [hl] at *
    exact .lst _ sh K b off cap us hb hx hc hu hle ho hh2
theorem known_law : Good 5 (pu [] (.bool true)) := by
  obtain ⟨M, hM⟩ : ∃ M : List (List Int), M = [[0, 256, 0], [256, 0, 256], [0, 256, 0]] := ⟨_, rfl⟩
  have hv : VM M := by
    subst hM
    refine ⟨by decide, by decide, fun i r h => ?_⟩
    match i, h with
    | 0, h => simp at h; subst h; exact ⟨rfl, rfl, by decide⟩
    | 1, h => simp at h; subst h; exact ⟨rfl, rfl, by decide⟩
    | 2, h => simp at h; subst h; exact ⟨rfl, rfl, by decide⟩
    | i + 3, h => simp at h
  obtain ⟨t1, ht1⟩ : ∃ t : List Txn, t = [⟨0, [1]⟩] := ⟨_, rfl⟩
  obtain ⟨t2, ht2⟩ : ∃ t : List Txn, t = [⟨0, []⟩, ⟨2, []⟩] := ⟨_, rfl⟩
  have v1 : VT M.length t1 := by
    subst hM ht1
    intro i t h
    match i, h with
    | 0, h => simp at h; subst h; exact ⟨by decide, by decide, by decide⟩
    | i + 1, h => simp at h
  have v2 : VT M.length t2 := by
    subst hM ht2
    intro i t h
    match i, h with
    | 0, h => simp at h; subst h; exact ⟨by decide, by decide, by decide⟩
    | 1, h => simp at h; subst h; exact ⟨by decide, by decide, by decide⟩
    | i + 2, h => simp at h
  have g1 := deliver_c M [.lst none [.int .i64 0, .int .i64 256, .int .i64 0], .lst none [.int .i64 256, .int .i64 0, .int .i64 256], .lst none [.int .i64 0, .int .i64 256, .int .i64 0]] (by subst hM; rfl) hv t1 [.agg [.int .i64 0, .lst none [.int .u8 1]]] (by subst ht1; rfl) v1 (by subst ht1; decide) [] [] rfl (fun d h => by cases h) (by decide) [.agg [.int .i64 0, .int .i64 1, .lst none [.int .u8 1]]] (by subst hM ht1; rfl)
  have g2 := deliver_c M [.lst none [.int .i64 0, .int .i64 256, .int .i64 0], .lst none [.int .i64 256, .int .i64 0, .int .i64 256], .lst none [.int .i64 0, .int .i64 256, .int .i64 0]] (by subst hM; rfl) hv t2 [.agg [.int .i64 0, .lst none []], .agg [.int .i64 2, .lst none []]] (by subst ht2; rfl) v2 (by subst ht2; decide) [] [] rfl (fun d h => by cases h) (by decide) [] (by subst hM ht2; rfl)
  have key : ∀ z : Int, Wk (.agg [.int .i64 z, .nil]) (.agg [.int .i64 z, .lst none []]) := fun z => Wk.agg ⟨Wk.rfl' _, Wk.nil _, trivial⟩
  have g3 := g2.arg (a' := [.lst none [.lst none [.int .i64 0, .int .i64 256, .int .i64 0], .lst none [.int .i64 256, .int .i64 0, .int .i64 256], .lst none [.int .i64 0, .int .i64 256, .int .i64 0]], .lst (some 2) [.agg [.int .i64 0, .nil], .agg [.int .i64 2, .nil]], .lst none []])
    ⟨Wk.rfl' _, fun w Y ρ v hd => lst_weak (by rfl) (fun i h1 h2 w Y v h => by
      match i, h2 with
      | 0, _ => exact key 0 _ _ _ _ h
      | 1, _ => exact key 2 _ _ _ _ h) hd, Wk.rfl' _, trivial⟩
  clear g2 key
  refine Good.of Tryd.func5 rfl (by rfl) (by kernel_rfl) ?_
  cbv
  (repeat' (first
| (refine q1w (fun z hz => ?_); (try simp only at hz); cbv)
| (refine rqw ?_; cbv)
| (refine rqk ?_; cbv)
| (refine chpA ?_; cbv)
| (refine QC.tw ?_; cbv)
| (refine QC.t3 ?_; cbv)
| (refine QC.f3 ?_; cbv)
| (refine QC.fw ?_; cbv)
| (refine QC.mk (fun hc => ?_) (fun hc => ?_) <;> (try dsimp only at hc) <;> cbv)
| (refine br_mk2 (fun hb => ?_) (fun hb => ?_) <;> (try subst hb) <;> cbv)))
  (refine callq (g1) rfl rfl ?_; cbv; (repeat' (first
| (refine q1w (fun z hz => ?_); (try simp only at hz); cbv)
| (refine rqw ?_; cbv)
| (refine rqk ?_; cbv)
| (refine chpA ?_; cbv)
| (refine QC.tw ?_; cbv)
| (refine QC.t3 ?_; cbv)
| (refine QC.f3 ?_; cbv)
| (refine QC.fw ?_; cbv)
| (refine QC.mk (fun hc => ?_) (fun hc => ?_) <;> (try dsimp only at hc) <;> cbv)
| (refine br_mk2 (fun hb => ?_) (fun hb => ?_) <;> (try subst hb) <;> cbv))))
  (refine callq (g3) rfl rfl ?_; cbv; (repeat' (first
| (refine q1w (fun z hz => ?_); (try simp only at hz); cbv)
| (refine rqw ?_; cbv)
| (refine rqk ?_; cbv)
| (refine chpA ?_; cbv)
| (refine QC.tw ?_; cbv)
| (refine QC.t3 ?_; cbv)
| (refine QC.f3 ?_; cbv)
| (refine QC.fw ?_; cbv)
| (refine QC.mk (fun hc => ?_) (fun hc => ?_) <;> (try dsimp only at hc) <;> cbv)
| (refine br_mk2 (fun hb => ?_) (fun hb => ?_) <;> (try subst hb) <;> cbv))))
  refine qv (0, _) ⟨rfl, rfl⟩ ?_
  cbv
  (repeat' (first
| (refine q1w (fun z hz => ?_); (try simp only at hz); cbv)
| (refine rqw ?_; cbv)
| (refine rqk ?_; cbv)
| (refine chpA ?_; cbv)
| (refine QC.tw ?_; cbv)
| (refine QC.t3 ?_; cbv)
| (refine QC.f3 ?_; cbv)
| (refine QC.fw ?_; cbv)
| (refine QC.mk (fun hc => ?_) (fun hc => ?_) <;> (try dsimp only at hc) <;> cbv)
| (refine br_mk2 (fun hb => ?_) (fun hb => ?_) <;> (try subst hb) <;> cbv)))
  exact ⟨rfl, rfl, rfl⟩
end Go.Proofs.YtligbjbkecmecaaDoor

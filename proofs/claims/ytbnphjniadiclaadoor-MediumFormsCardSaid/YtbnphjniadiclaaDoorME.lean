/- The sanity check; arguments that say the same in other words. -/
import Derived.Test.YtbnphjniadiclaaDoorMD
namespace Go.Proofs.YtbnphjniadiclaaDoor
set_option linter.unusedVariables false
set_option linter.unusedSimpArgs false
open Go.RowKit
set_option maxHeartbeats 8000000
theorem Good.args {f : Nat} {xs xs' : List SV} {l : Option (Nat × SV)} {r y : SV} {b : Blk} (h : Good f ⟨xs, l, r, y, b⟩) (ha : ∀ (w : World) (Y : Nat → Prop) (ρ : Env) (vs : List Value), DenL w Y ρ xs' vs → DenL w Y ρ xs vs) : Good f ⟨xs', l, r, y, b⟩ :=
  ⟨⟨h.h.fn, fun N w X ρ vs m hd => h.h.h N w X ρ vs m (ha _ _ _ _ hd)⟩⟩
theorem lst_weak {sh : Option Nat} {K K' : List SV} (hl : K'.length = K.length) (h : ∀ (i : Nat) (h1 : i < K'.length) (h2 : i < K.length) (w : World) (Y : Nat → Prop) (v : Value), Den w Y noEnv K'[i] v → Den w Y noEnv K[i] v) {w : World} {Y : Nat → Prop} {ρ : Env} {v : Value} (hd : Den w Y ρ (.lst sh K') v) : Den w Y ρ (.lst sh K) v := by
  cases hd with
  | lst0 _ _ a cap =>
    obtain rfl : K = [] := List.eq_nil_of_length_eq_zero (by simpa using hl.symm)
    exact .lst0 _ _ _ _
  | lst _ _ _ b off cap us hb hx hc hu hle ho hh =>
    have hh2 := fun i (h1 : i < K.length) => h i (by rw [hl]; exact h1) h1 w Y _ (hh i (by rw [hl]; exact h1))
    clear hh h
    rw [hl] at *
    exact .lst _ sh K b off cap us hb hx hc hu hle ho hh2
theorem denl3 {a a' b c : SV} (h : ∀ (w : World) (Y : Nat → Prop) (ρ : Env) (v : Value), Den w Y ρ b v → Den w Y ρ a' v) (w : World) (Y : Nat → Prop) (ρ : Env) (vs : List Value) (hd : DenL w Y ρ [a, b, c] vs) : DenL w Y ρ [a, a', c] vs := by
  refine ⟨hd.1, fun i x u hx hu => ?_⟩
  match i, hx with
  | 0, hx => exact hd.2 0 x u hx hu
  | 1, hx => simp at hx; subst hx; exact h _ _ _ _ (hd.2 1 b u rfl hu)
  | 2, hx => exact hd.2 2 x u hx hu
theorem known_law : Good 13 (pu [] (.bool true)) := by
  obtain ⟨M, hM⟩ : ∃ M : List (List Int), M = [[0, 256, 0], [256, 0, 256], [0, 256, 0]] := ⟨_, rfl⟩
  have hv : VM M := by
    subst hM
    refine ⟨by decide, by decide, fun i r h => ?_⟩
    match i, h with
    | 0, h => simp at h; subst h; exact ⟨rfl, rfl, by decide⟩
    | 1, h => simp at h; subst h; exact ⟨rfl, rfl, by decide⟩
    | 2, h => simp at h; subst h; exact ⟨rfl, rfl, by decide⟩
    | i + 3, h => simp at h
  obtain ⟨t1, ht1⟩ : ∃ t : List Txn, t = [⟨0, [1]⟩] := ⟨_, rfl⟩
  obtain ⟨t2, ht2⟩ : ∃ t : List Txn, t = [⟨0, []⟩, ⟨2, []⟩] := ⟨_, rfl⟩
  have v1 : VT M.length t1 := by
    subst hM ht1
    intro i t h
    match i, h with
    | 0, h => simp at h; subst h; exact ⟨by decide, by decide, by decide⟩
    | i + 1, h => simp at h
  have v2 : VT M.length t2 := by
    subst hM ht2
    intro i t h
    match i, h with
    | 0, h => simp at h; subst h; exact ⟨by decide, by decide, by decide⟩
    | 1, h => simp at h; subst h; exact ⟨by decide, by decide, by decide⟩
    | i + 2, h => simp at h
  have g1 := deliver_c M [.lst none [.int .i64 0, .int .i64 256, .int .i64 0], .lst none [.int .i64 256, .int .i64 0, .int .i64 256], .lst none [.int .i64 0, .int .i64 256, .int .i64 0]] (by subst hM; rfl) hv t1 [.agg [.int .i64 0, .lst none [.int .u8 1]]] (by subst ht1; rfl) v1 (by subst ht1; decide) [] [] rfl (fun d h => by cases h) (by decide) [.agg [.int .i64 0, .int .i64 1, .lst none [.int .u8 1]]] (by subst hM ht1; rfl)
  have g2 := deliver_c M [.lst none [.int .i64 0, .int .i64 256, .int .i64 0], .lst none [.int .i64 256, .int .i64 0, .int .i64 256], .lst none [.int .i64 0, .int .i64 256, .int .i64 0]] (by subst hM; rfl) hv t2 [.agg [.int .i64 0, .lst none []], .agg [.int .i64 2, .lst none []]] (by subst ht2; rfl) v2 (by subst ht2; decide) [] [] rfl (fun d h => by cases h) (by decide) [] (by subst hM ht2; rfl)
  have g3 := g2.args (xs' := [.lst none [.lst none [.int .i64 0, .int .i64 256, .int .i64 0], .lst none [.int .i64 256, .int .i64 0, .int .i64 256], .lst none [.int .i64 0, .int .i64 256, .int .i64 0]], .lst (some 2) [.agg [.int .i64 0, .nil], .agg [.int .i64 2, .nil]], .lst none []]) (denl3 fun w Y ρ v hd => lst_weak (by rfl) (fun i h1 h2 w Y v h => by
    have key : ∀ z : Int, Den w Y noEnv (.agg [.int .i64 z, .nil]) v → Den w Y noEnv (.agg [.int .i64 z, .lst none []]) v := fun z h => by
      obtain ⟨cs, rfl, hl, hh⟩ := Den.agg_iff.1 h
      match cs, hl with
      | [a, b], _ =>
        have h0 := hh 0 _ _ rfl rfl
        have h1 := hh 1 _ _ rfl rfl
        refine Den.agg_iff.2 ⟨[a, b], rfl, rfl, fun i x u hx hu => ?_⟩
        match i, hx, hu with
        | 0, hx, hu => simp at hx hu; subst hx hu; exact h0
        | 1, hx, hu => simp at hx hu; subst hx hu; cases h1; exact .lst0 _ _ _ _
    match i, h2 with
    | 0, _ => exact key 0 h
    | 1, _ => exact key 2 h) hd)
  clear g2
  refine Good.of Tryd.func13 rfl (by rfl) (by kernel_rfl) ?_
  cbv
  (repeat' (first
    | (refine q1 (by first | exact trivial | omega | (dsimp only; omega) | exact pow62 _ (by omega) | exact mul9 (by omega) (by omega) | (simp only [sm] at *; omega)) (fun z hz => ?_); (try simp only at hz); cbv)
    | (refine rq (by first | exact trivial | omega | (dsimp only; omega) | (simp only [sm] at *; omega)) ?_; cbv)
    | (refine QC.tt (by first | omega | (dsimp only; omega) | exact rfl | (simp only [sm] at *; omega)) ?_; cbv)
    | (refine QC.tt ?_ ?_; (focus (simp only [decide_true, Bool.and_true, Bool.and_self] <;> fail)); cbv)
    | (refine QC.ff ?_ ?_; (focus (simp only [decide_true, Bool.and_true, Bool.and_self, decide_false, Bool.false_and, reduceCtorEq, not_false_eq_true] <;> fail)); cbv)
    | (refine QC.ff (by first | omega | (dsimp only; omega) | (simp only [sm] at *; omega)) ?_; cbv)
    | (refine QC.mk (fun hc => ?_) (fun hc => ?_) <;> (try dsimp only at hc) <;> cbv)
    | (refine br_mk2 (fun hb => ?_) (fun hb => ?_) <;> (try subst hb) <;> cbv)))
  (refine callq (g1) rfl rfl ?_; cbv; (repeat' (first
    | (refine q1 (by first | exact trivial | omega | (dsimp only; omega) | exact pow62 _ (by omega) | exact mul9 (by omega) (by omega) | (simp only [sm] at *; omega)) (fun z hz => ?_); (try simp only at hz); cbv)
    | (refine rq (by first | exact trivial | omega | (dsimp only; omega) | (simp only [sm] at *; omega)) ?_; cbv)
    | (refine QC.tt (by first | omega | (dsimp only; omega) | exact rfl | (simp only [sm] at *; omega)) ?_; cbv)
    | (refine QC.tt ?_ ?_; (focus (simp only [decide_true, Bool.and_true, Bool.and_self] <;> fail)); cbv)
    | (refine QC.ff ?_ ?_; (focus (simp only [decide_true, Bool.and_true, Bool.and_self, decide_false, Bool.false_and, reduceCtorEq, not_false_eq_true] <;> fail)); cbv)
    | (refine QC.ff (by first | omega | (dsimp only; omega) | (simp only [sm] at *; omega)) ?_; cbv)
    | (refine QC.mk (fun hc => ?_) (fun hc => ?_) <;> (try dsimp only at hc) <;> cbv)
    | (refine br_mk2 (fun hb => ?_) (fun hb => ?_) <;> (try subst hb) <;> cbv))))
  (refine callq (g3) rfl rfl ?_; cbv; (repeat' (first
    | (refine q1 (by first | exact trivial | omega | (dsimp only; omega) | exact pow62 _ (by omega) | exact mul9 (by omega) (by omega) | (simp only [sm] at *; omega)) (fun z hz => ?_); (try simp only at hz); cbv)
    | (refine rq (by first | exact trivial | omega | (dsimp only; omega) | (simp only [sm] at *; omega)) ?_; cbv)
    | (refine QC.tt (by first | omega | (dsimp only; omega) | exact rfl | (simp only [sm] at *; omega)) ?_; cbv)
    | (refine QC.tt ?_ ?_; (focus (simp only [decide_true, Bool.and_true, Bool.and_self] <;> fail)); cbv)
    | (refine QC.ff ?_ ?_; (focus (simp only [decide_true, Bool.and_true, Bool.and_self, decide_false, Bool.false_and, reduceCtorEq, not_false_eq_true] <;> fail)); cbv)
    | (refine QC.ff (by first | omega | (dsimp only; omega) | (simp only [sm] at *; omega)) ?_; cbv)
    | (refine QC.mk (fun hc => ?_) (fun hc => ?_) <;> (try dsimp only at hc) <;> cbv)
    | (refine br_mk2 (fun hb => ?_) (fun hb => ?_) <;> (try subst hb) <;> cbv))))
  refine qv (0, _) ⟨rfl, rfl⟩ ?_
  cbv
  (repeat' (first
    | (refine q1 (by first | exact trivial | omega | (dsimp only; omega) | exact pow62 _ (by omega) | exact mul9 (by omega) (by omega) | (simp only [sm] at *; omega)) (fun z hz => ?_); (try simp only at hz); cbv)
    | (refine rq (by first | exact trivial | omega | (dsimp only; omega) | (simp only [sm] at *; omega)) ?_; cbv)
    | (refine QC.tt (by first | omega | (dsimp only; omega) | exact rfl | (simp only [sm] at *; omega)) ?_; cbv)
    | (refine QC.tt ?_ ?_; (focus (simp only [decide_true, Bool.and_true, Bool.and_self] <;> fail)); cbv)
    | (refine QC.ff ?_ ?_; (focus (simp only [decide_true, Bool.and_true, Bool.and_self, decide_false, Bool.false_and, reduceCtorEq, not_false_eq_true] <;> fail)); cbv)
    | (refine QC.ff (by first | omega | (dsimp only; omega) | (simp only [sm] at *; omega)) ?_; cbv)
    | (refine QC.mk (fun hc => ?_) (fun hc => ?_) <;> (try dsimp only at hc) <;> cbv)
    | (refine br_mk2 (fun hb => ?_) (fun hb => ?_) <;> (try subst hb) <;> cbv)))
  exact ⟨rfl, rfl, rfl⟩
end Go.Proofs.YtbnphjniadiclaaDoor

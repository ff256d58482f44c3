/- Texts put together: FL. -/
import Derived.Test.YtplcajgoigpneaaZ04
namespace Go.Proofs.Ytplcajgoigpneaa
set_option linter.unusedVariables false
set_option linter.unusedSimpArgs false
open Go.RowKit
set_option maxHeartbeats 8000000
theorem atS_mod (len room : Int) (h : 13 ≤ room) (hl : 0 ≤ len) : ∀ k, atS len room k % 8 = 0 ∨ atS len room k = len
  | 0 => by simp [atS]
  | k + 1 => by
    have ih := atS_mod len room h hl k
    have h1 := atS_ok len room h hl k
    have := lenS_ok len room (atS len room k) k h h1.2.1
    simp only [atS]
    unfold lenS at *
    split <;> split at this <;> omega
theorem splitF_ok (bs : List UInt8) (tag room : Int) (K k : Nat) (hb : 1 ≤ bs.length ∧ bs.length ≤ 2047) (hr : 13 ≤ room) (hk : k < K) (hK' : ∀ k, k < K → atS bs.length room k < bs.length) : (splitF bs tag room k).ok = true := by
  have h1 := atS_ok bs.length room hr (by omega) k
  have h2 := lenS_ok bs.length room (atS bs.length room k) k hr h1.2.1
  have h3 := atS_mod bs.length room hr (by omega) k
  have h4 := hK' k hk
  refine decide_eq_true ?_
  simp only [splitF, List.length_take, List.length_drop]
  generalize hA : atS bs.length room k = A at *
  have h5 : lenS bs.length room A k = bs.length - A ∨ lenS bs.length room A k % 8 = 0 := by
    unfold lenS; split <;> omega
  generalize lenS bs.length room A k = N at *
  omega
def Frs (fs : List Fr) : Prop := ∀ f ∈ fs, f.fits ∧ f.ok = true ∧ f.n ≤ 60
theorem fragments_e {L : List SV} {a : Int} (h : Tp L a) : ∃ (fs : List Fr) (W : List SV) (b : Int), Frs fs ∧ 1 ≤ fs.length ∧ fs.length ≤ 60 ∧ W = frL fs ∧ Tp L b ∧
    Good 10 (le 70 (.agg [.lst none L, .int .i64 a]) [] (.lst (some 4) W) (.agg [.lst none L, .int .i64 b])) := by
  obtain ⟨r1, b1, p1, u1, t1, g1⟩ := next_e h 60 (by omega)
  obtain ⟨R, zs, b2, hR, hl, hz, t2, g2⟩ := fill_e t1 (1 + r1) (by omega)
  obtain ⟨r3, b3, p3, u3, t3, g3⟩ := next_e t2 3 (by omega)
  obtain ⟨r4, b4, p4, u4, t4, g4⟩ := next_e t3 20 (by omega)
  obtain ⟨bs, hbs, hbl⟩ := u8l_of zs hz
  have hRb : R = u8l bs := hR.trans hbs
  obtain ⟨K, hK, hK'⟩ := atS_end bs.length (13 + r4) (by omega) (by omega)
  have g5 := rsplit_c bs R _ r3 (13 + r4) K hRb (by omega) (by omega) (by omega) hK hK' rfl
  have hK1 : 1 ≤ K := by
    rcases Nat.eq_zero_or_pos K with e | e
    · subst e; simp [atS] at hK; omega
    · exact e
  have hK60 : K ≤ 60 := by
    have h1 := hK' (K - 1) (by omega)
    have := atS_ok bs.length (13 + r4) (by omega) (by omega) (K - 1)
    omega
  refine ⟨(List.range K).map (splitF bs r3 (13 + r4)), splitL bs r3 (13 + r4) K, b4, ?_, by simpa using hK1, by simpa using hK60, splitL_frL _ _ _ _, t4, ?_⟩
  · intro f hf
    obtain ⟨k, hk, rfl⟩ := List.mem_map.1 hf
    exact ⟨splitF_fits bs r3 _ k (by omega) (by omega) (by omega), splitF_ok bs r3 _ K k (by omega) (by omega) (by simpa using hk) hK', by simp only [splitF]; omega⟩
  generalize splitL bs r3 (13 + r4) K = W at *
  obtain ⟨n1, hn1⟩ : ∃ n, n = 1 + r1 := ⟨_, rfl⟩
  obtain ⟨n4, hn4⟩ : ∃ n, n = 13 + r4 := ⟨_, rfl⟩
  rw [← hn1] at g2
  rw [← hn4] at g5
  clear hK hK'
  refine Good.of Try.func10 rfl (by rfl) (by kernel_rfl) ?_
  cbv
  (repeat' (first
| (refine q1w (fun z hz => ?_); (try simp only at hz); cbv)
| (refine rqw ?_; cbv)
| (refine rq (show kfitQ _ _ from by simp [kfitQ, IntKind.min, IntKind.max, IntKind.signed, IntKind.bits]; omega) ?_; cbv)
| (refine chpA ?_; cbv)
| (refine QC.tw ?_; cbv)
| (refine QC.tt ?_ ?_; (focus (simp only [decide_true, Bool.and_true, Bool.and_self] <;> fail)); cbv)
| (refine QC.ff ?_ ?_; (focus (simp only [decide_true, Bool.and_true, Bool.and_self, decide_false, Bool.false_and, reduceCtorEq, not_false_eq_true] <;> fail)); cbv)
| (refine QC.fw ?_; cbv)
| (refine QC.mk (fun hc => ?_) (fun hc => ?_) <;> (try dsimp only at hc) <;> cbv)
| (refine br_mk2 (fun hb => ?_) (fun hb => ?_) <;> (try subst hb) <;> cbv)))
  (refine callq (g1) rfl rfl ?_; cbv; (repeat' (first
| (refine q1w (fun z hz => ?_); (try simp only at hz); cbv)
| (refine rqw ?_; cbv)
| (refine rq (show kfitQ _ _ from by simp [kfitQ, IntKind.min, IntKind.max, IntKind.signed, IntKind.bits]; omega) ?_; cbv)
| (refine chpA ?_; cbv)
| (refine QC.tw ?_; cbv)
| (refine QC.tt ?_ ?_; (focus (simp only [decide_true, Bool.and_true, Bool.and_self] <;> fail)); cbv)
| (refine QC.ff ?_ ?_; (focus (simp only [decide_true, Bool.and_true, Bool.and_self, decide_false, Bool.false_and, reduceCtorEq, not_false_eq_true] <;> fail)); cbv)
| (refine QC.fw ?_; cbv)
| (refine QC.mk (fun hc => ?_) (fun hc => ?_) <;> (try dsimp only at hc) <;> cbv)
| (refine br_mk2 (fun hb => ?_) (fun hb => ?_) <;> (try subst hb) <;> cbv))))
  have e : z = n1 := by omega
  subst e
  (refine callq (g2) rfl rfl ?_; cbv; (repeat' (first
| (refine q1w (fun z hz => ?_); (try simp only at hz); cbv)
| (refine rqw ?_; cbv)
| (refine rq (show kfitQ _ _ from by simp [kfitQ, IntKind.min, IntKind.max, IntKind.signed, IntKind.bits]; omega) ?_; cbv)
| (refine chpA ?_; cbv)
| (refine QC.tw ?_; cbv)
| (refine QC.tt ?_ ?_; (focus (simp only [decide_true, Bool.and_true, Bool.and_self] <;> fail)); cbv)
| (refine QC.ff ?_ ?_; (focus (simp only [decide_true, Bool.and_true, Bool.and_self, decide_false, Bool.false_and, reduceCtorEq, not_false_eq_true] <;> fail)); cbv)
| (refine QC.fw ?_; cbv)
| (refine QC.mk (fun hc => ?_) (fun hc => ?_) <;> (try dsimp only at hc) <;> cbv)
| (refine br_mk2 (fun hb => ?_) (fun hb => ?_) <;> (try subst hb) <;> cbv))))
  (refine callq (g3) rfl rfl ?_; cbv; (repeat' (first
| (refine q1w (fun z hz => ?_); (try simp only at hz); cbv)
| (refine rqw ?_; cbv)
| (refine rq (show kfitQ _ _ from by simp [kfitQ, IntKind.min, IntKind.max, IntKind.signed, IntKind.bits]; omega) ?_; cbv)
| (refine chpA ?_; cbv)
| (refine QC.tw ?_; cbv)
| (refine QC.tt ?_ ?_; (focus (simp only [decide_true, Bool.and_true, Bool.and_self] <;> fail)); cbv)
| (refine QC.ff ?_ ?_; (focus (simp only [decide_true, Bool.and_true, Bool.and_self, decide_false, Bool.false_and, reduceCtorEq, not_false_eq_true] <;> fail)); cbv)
| (refine QC.fw ?_; cbv)
| (refine QC.mk (fun hc => ?_) (fun hc => ?_) <;> (try dsimp only at hc) <;> cbv)
| (refine br_mk2 (fun hb => ?_) (fun hb => ?_) <;> (try subst hb) <;> cbv))))
  have e : z = r3 := by omega
  subst e
  (refine callq (g4) rfl rfl ?_; cbv; (repeat' (first
| (refine q1w (fun z hz => ?_); (try simp only at hz); cbv)
| (refine rqw ?_; cbv)
| (refine rq (show kfitQ _ _ from by simp [kfitQ, IntKind.min, IntKind.max, IntKind.signed, IntKind.bits]; omega) ?_; cbv)
| (refine chpA ?_; cbv)
| (refine QC.tw ?_; cbv)
| (refine QC.tt ?_ ?_; (focus (simp only [decide_true, Bool.and_true, Bool.and_self] <;> fail)); cbv)
| (refine QC.ff ?_ ?_; (focus (simp only [decide_true, Bool.and_true, Bool.and_self, decide_false, Bool.false_and, reduceCtorEq, not_false_eq_true] <;> fail)); cbv)
| (refine QC.fw ?_; cbv)
| (refine QC.mk (fun hc => ?_) (fun hc => ?_) <;> (try dsimp only at hc) <;> cbv)
| (refine br_mk2 (fun hb => ?_) (fun hb => ?_) <;> (try subst hb) <;> cbv))))
  have e : z = n4 := by omega
  subst e
  (refine callq (g5) rfl rfl ?_; cbv; (repeat' (first
| (refine q1w (fun z hz => ?_); (try simp only at hz); cbv)
| (refine rqw ?_; cbv)
| (refine rq (show kfitQ _ _ from by simp [kfitQ, IntKind.min, IntKind.max, IntKind.signed, IntKind.bits]; omega) ?_; cbv)
| (refine chpA ?_; cbv)
| (refine QC.tw ?_; cbv)
| (refine QC.tt ?_ ?_; (focus (simp only [decide_true, Bool.and_true, Bool.and_self] <;> fail)); cbv)
| (refine QC.ff ?_ ?_; (focus (simp only [decide_true, Bool.and_true, Bool.and_self, decide_false, Bool.false_and, reduceCtorEq, not_false_eq_true] <;> fail)); cbv)
| (refine QC.fw ?_; cbv)
| (refine QC.mk (fun hc => ?_) (fun hc => ?_) <;> (try dsimp only at hc) <;> cbv)
| (refine br_mk2 (fun hb => ?_) (fun hb => ?_) <;> (try subst hb) <;> cbv))))
  exact ⟨rfl, rfl, rfl⟩

instance : Inhabited Fr := ⟨⟨0, 0, 0, []⟩⟩
def mixF (N : Int → Int → Int) (B : Int → Int) (fs : List Fr) : Nat → Int → List Fr → List Fr × Int
  | 0, c, out => (out, c)
  | k + 1, c, out => mixF N B fs k (B c) (out ++ [fs.getD (N c fs.length).toNat default])
theorem mixF_ok {L : List SV} {N : Int → Int → Int} {B : Int → Int} {fs : List Fr} (hN : ∀ a, Tp L a → 0 ≤ N a fs.length ∧ N a fs.length < fs.length ∧ Tp L (B a)) (hf : Frs fs) : ∀ (k : Nat) (c : Int) (out : List Fr), Tp L c → Frs out → Frs (mixF N B fs k c out).1 ∧ (mixF N B fs k c out).1.length = out.length + k ∧ Tp L (mixF N B fs k c out).2
  | 0, c, out, hc, ho => ⟨ho, rfl, hc⟩
  | k + 1, c, out, hc, ho => by
    obtain ⟨h1, h2, h3⟩ := hN c hc
    have hlt : (N c fs.length).toNat < fs.length := by omega
    have := mixF_ok hN hf k (B c) (out ++ [fs.getD (N c fs.length).toNat default]) h3 (fun f hf' => by
      rcases List.mem_append.1 hf' with g | g
      · exact ho f g
      · have : f = fs[(N c fs.length).toNat] := by simpa [List.getD, hlt] using g
        rw [this]; exact hf _ (List.getElem_mem hlt))
    refine ⟨this.1, ?_, this.2.2⟩
    show (mixF N B fs k (B c) (out ++ [fs.getD (N c fs.length).toNat default])).1.length = _
    rw [this.2.1]
    simp
    omega
theorem tape0 (zs : List Int) (hz : ∀ v ∈ zs, -9223372036854775808 ≤ v ∧ v ≤ 9223372036854775807) : Tp ((ints .i64 zs).take 400) 0 :=
  ⟨⟨zs.take 400, by rw [ints_take], fun v hv => hz v (List.mem_of_mem_take hv), by rw [List.length_take]; omega⟩, by omega, by omega⟩
theorem frL_app (a b : List Fr) : frL a ++ frL b = frL (a ++ b) := by simp [frL]
theorem mod_e (v n : Int) (hv : -9223372036854775808 ≤ v ∧ v ≤ 9223372036854775807) (hn : 1 ≤ n ∧ n ≤ 1000000) : ∃ r, 0 ≤ r ∧ r < n ∧ Good 23 (pu [.int .i64 v, .int .i64 n] (.int .i64 r)) :=
  ⟨_, Int.emod_nonneg _ (by omega), Int.emod_lt_of_pos _ (by omega), mod_c v n hv hn⟩
end Go.Proofs.Ytplcajgoigpneaa

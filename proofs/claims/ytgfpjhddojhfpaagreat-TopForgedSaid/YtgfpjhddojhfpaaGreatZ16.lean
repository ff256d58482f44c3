/- Texts put together: IH. -/
import Derived.Test.YtgfpjhddojhfpaaGreatZ09
import Derived.Test.YtgfpjhddojhfpaaGreatZ15
namespace Go.Proofs.YtgfpjhddojhfpaaGreat
set_option linter.unusedVariables false
set_option linter.unusedSimpArgs false
open Go.RowKit
set_option maxHeartbeats 4000000
set_option linter.unusedSimpArgs false
set_option linter.unusedVariables false
theorem compP (a b c d : Int) : Good 111 (pu [peS a b, peS c d] (.int .i64 0)) := by
  refine Good.of Tryz.func111 rfl (by rfl) (by kernel_rfl) ?_
  cbv
  repeat' (first
    | (refine callq w170_0 rfl rfl ?_; cbv; (try (simp only [cwn]; cbv)))
    | (refine callq w171_0 rfl rfl ?_; cbv; (try (simp only [cwn]; cbv)))
    | (refine callq w169_1 rfl rfl ?_; cbv; (try (simp only [cwn]; cbv)))
    | (refine QC.tt (by decide) ?_; cbv; (try (simp only [cwn]; cbv)))
    | (refine QC.ff (by decide) ?_; cbv; (try (simp only [cwn]; cbv)))
    | (refine QC.ff (by omega) ?_; cbv; (try (simp only [cwn]; cbv)))
    | (refine q1w (fun z hz => ?_); (try simp only at hz); cbv; (try (simp only [cwn]; cbv)))
    | (refine rqw ?_; cbv; (try (simp only [cwn]; cbv)))
    | (refine qvIdx _ (by rfl) (by decide) ?_; cbv; (try (simp only [cwn]; cbv)))
    | (refine qvArr (by decide) (by decide) ?_; cbv; (try (simp only [cwn]; cbv)))
    | (refine qvRow (by decide) (by decide) ?_; cbv; (try (simp only [cwn]; cbv)))
    | (refine qvSome _ (by rfl) ?_; cbv; (try (simp only [cwn]; cbv)))
    | (refine QC.tw ?_; cbv; (try (simp only [cwn]; cbv)))
    | (refine QC.fw ?_; cbv; (try (simp only [cwn]; cbv)))
    | (refine chpA ?_; cbv; (try (simp only [cwn]; cbv)))
    | (refine unrollq 4 ?_; cbv; (try (simp only [cwn]; cbv)))
    | (simp only [cwn]; cbv)
    )
  exact ⟨rfl, rfl, rfl⟩
theorem accept_zero : Good 112 (pu [peA 0 4294967295, .int .u32 0] (.tup [.agg [.int .i64 0, .int .u16 0, .int .u64 0, .int .u8 0, .int .u32 0, .int .u32 0], .int .i64 13])) := by
  refine Good.of Tryz.func112 rfl (by rfl) (by kernel_rfl) ?_
  cbv
  repeat' (first
    | (refine q1w (fun z hz => ?_); (simp [oln, Int.max_def, Int.min_def] at hz); subst hz; cbv; (try (simp only [cwn]; cbv)))
    | (refine QC.tt (by decide) ?_; cbv; (try (simp only [cwn]; cbv)))
    | (refine QC.ff (by decide) ?_; cbv; (try (simp only [cwn]; cbv)))
    | (refine QC.ff (by omega) ?_; cbv; (try (simp only [cwn]; cbv)))
    | (refine q1w (fun z hz => ?_); (try simp only at hz); cbv; (try (simp only [cwn]; cbv)))
    | (refine rqw ?_; cbv; (try (simp only [cwn]; cbv)))
    | (refine qvIdx _ (by rfl) (by decide) ?_; cbv; (try (simp only [cwn]; cbv)))
    | (refine qvArr (by decide) (by decide) ?_; cbv; (try (simp only [cwn]; cbv)))
    | (refine qvRow (by decide) (by decide) ?_; cbv; (try (simp only [cwn]; cbv)))
    | (refine qvSome _ (by rfl) ?_; cbv; (try (simp only [cwn]; cbv)))
    | (refine QC.tw ?_; cbv; (try (simp only [cwn]; cbv)))
    | (refine QC.fw ?_; cbv; (try (simp only [cwn]; cbv)))
    | (refine chpA ?_; cbv; (try (simp only [cwn]; cbv)))
    | (refine unrollq 4 ?_; cbv; (try (simp only [cwn]; cbv)))
    | (simp only [cwn]; cbv)
    )
  exact ⟨rfl, rfl, rfl⟩
theorem open_new (k : Int) (ac pe : Bool) (q pn dm ds de ct : Int) (hct : 0 < ct) (P M : List SV) (p m : List UInt8) (hP : P = u8l p) (hM : M = u8l m) (hpl : p.length ≤ 1000) (hml : m.length = 4)
    (hk : k ≠ 2) (ok : (Fr.mk k ac pe true q pn dm ds de 3 0 144115188075855873 ct 1 p m).Ok)
    (h1 : (Fr.mk k ac pe true q pn dm ds de 3 0 144115188075855873 ct 1 p m).valid = true)
    (hl : (Fr.mk k ac pe true q pn dm ds de 3 0 144115188075855873 ct 1 p m).hdr.length ≤ 100000)
    (hT : tagP (Fr.mk k ac pe true q pn dm ds de 3 0 144115188075855873 ct 1 p m).hdr 4 = m)
    (w : Int) (hw : w = (((((4294967295 : Int) * 2 ^ (ct - 0).toNat % 4294967296).toNat ||| Int.toNat 1 : Nat)) : Int)) :
    Good 50 (pu [gS 0 9 [peS 0 4294967295], frS k ac pe true q pn dm ds de 3 0 144115188075855873 ct 1 P M] (.tup [gS 0 9 [peS ct w], .int .i64 0])) := by
  obtain ⟨hd, hhd⟩ : ∃ h, h = (Fr.mk k ac pe true q pn dm ds de 3 0 144115188075855873 ct 1 p m).hdr := ⟨_, rfl⟩
  obtain ⟨H, hH⟩ : ∃ h, h = u8l hd := ⟨_, rfl⟩
  have hPl : P.length = p.length := by rw [hP, u8l_len]
  have hMl : M.length = m.length := by rw [hM, u8l_len]
  have okct : 0 ≤ ct ∧ ct ≤ 4294967295 := ok.ct
  have c1 := gvalid1 0 9 (by omega) 0 4294967295 (by omega) rfl
  have c2 := valid_c k ac pe true q pn dm ds de 3 0 144115188075855873 ct 1 P M p m hPl hMl ⟨by omega, by omega⟩ true h1.symm
  have c3 := keyOf_yes 0 9 [peS 0 4294967295]
  have c4 := header_c k ac pe true q pn dm ds de 3 0 144115188075855873 ct 1 P M p m hP hMl (by omega) (by omega) ok (Or.inl h1) hk H (by rw [hH, hhd])
  have c5 := verify_c hd m H M hH (by rw [hhd]; exact hl) hM (by omega) true (by rw [hml, hhd]; exact (decide_eq_true hT).symm)
  have c6 := compP 0 4294967295 ct 4294967295
  have c7 := own1 0 9 (peS 0 4294967295)
  have c8 := accept_new 0 4294967295 ct (by omega) (by omega) (by omega) (by omega) w hw
  clear hw
  clear h1 ok hl hT hhd hH hM
  refine Good.of Tryz.func50 rfl (by rfl) (by kernel_rfl) ?_
  cbv
  repeat' (first
    | (refine callq c1 rfl rfl ?_; cbv; (try (simp only [cwn]; cbv)))
    | (refine callq c2 rfl rfl ?_; cbv; (try (simp only [cwn]; cbv)))
    | (refine callq c3 rfl rfl ?_; cbv; (try (simp only [cwn]; cbv)))
    | (refine callq c4 rfl rfl ?_; cbv; (try (simp only [cwn]; cbv)))
    | (refine callq c5 rfl rfl ?_; cbv; (try (simp only [cwn]; cbv)))
    | (refine callq c6 rfl rfl ?_; cbv; (try (simp only [cwn]; cbv)))
    | (refine callq c7 rfl rfl ?_; cbv; (try (simp only [cwn]; cbv)))
    | (refine callq c8 rfl rfl ?_; cbv; (try (simp only [cwn]; cbv)))
    | (refine QC.tt (by decide) ?_; cbv; (try (simp only [cwn]; cbv)))
    | (refine QC.ff (by decide) ?_; cbv; (try (simp only [cwn]; cbv)))
    | (refine QC.ff (by omega) ?_; cbv; (try (simp only [cwn]; cbv)))
    | (refine q1w (fun z hz => ?_); (try simp only at hz); cbv; (try (simp only [cwn]; cbv)))
    | (refine rqw ?_; cbv; (try (simp only [cwn]; cbv)))
    | (refine qvIdx _ (by rfl) (by decide) ?_; cbv; (try (simp only [cwn]; cbv)))
    | (refine qvArr (by decide) (by decide) ?_; cbv; (try (simp only [cwn]; cbv)))
    | (refine qvRow (by decide) (by decide) ?_; cbv; (try (simp only [cwn]; cbv)))
    | (refine qvSome _ (by rfl) ?_; cbv; (try (simp only [cwn]; cbv)))
    | (refine QC.tw ?_; cbv; (try (simp only [cwn]; cbv)))
    | (refine QC.fw ?_; cbv; (try (simp only [cwn]; cbv)))
    | (refine chpA ?_; cbv; (try (simp only [cwn]; cbv)))
    | (refine unrollq 4 ?_; cbv; (try (simp only [cwn]; cbv)))
    | (simp only [cwn]; cbv)
    )
  exact ⟨rfl, rfl, rfl⟩
theorem open_old (k : Int) (ac pe : Bool) (q pn dm ds de : Int) (P M : List SV) (p m : List UInt8) (hP : P = u8l p) (hM : M = u8l m) (hpl : p.length ≤ 1000) (hml : m.length = 4)
    (hk : k ≠ 2) (ok : (Fr.mk k ac pe true q pn dm ds de 3 0 144115188075855873 0 1 p m).Ok)
    (h1 : (Fr.mk k ac pe true q pn dm ds de 3 0 144115188075855873 0 1 p m).valid = true)
    (hl : (Fr.mk k ac pe true q pn dm ds de 3 0 144115188075855873 0 1 p m).hdr.length ≤ 100000)
    (hT : tagP (Fr.mk k ac pe true q pn dm ds de 3 0 144115188075855873 0 1 p m).hdr 4 = m) :
    Good 50 (pu [gS 0 9 [peS 0 4294967295], frS k ac pe true q pn dm ds de 3 0 144115188075855873 0 1 P M] (.tup [.agg [.nil, .int .u32 0, .int .u32 0, .int .u32 0, .nil], .int .i64 13])) := by
  obtain ⟨hd, hhd⟩ : ∃ h, h = (Fr.mk k ac pe true q pn dm ds de 3 0 144115188075855873 0 1 p m).hdr := ⟨_, rfl⟩
  obtain ⟨H, hH⟩ : ∃ h, h = u8l hd := ⟨_, rfl⟩
  have hPl : P.length = p.length := by rw [hP, u8l_len]
  have hMl : M.length = m.length := by rw [hM, u8l_len]
  have okct : (0 : Int) ≤ 0 ∧ (0 : Int) ≤ 4294967295 := ok.ct
  have c1 := gvalid1 0 9 (by omega) 0 4294967295 (by omega) rfl
  have c2 := valid_c k ac pe true q pn dm ds de 3 0 144115188075855873 0 1 P M p m hPl hMl ⟨by omega, by omega⟩ true h1.symm
  have c3 := keyOf_yes 0 9 [peS 0 4294967295]
  have c4 := header_c k ac pe true q pn dm ds de 3 0 144115188075855873 0 1 P M p m hP hMl (by omega) (by omega) ok (Or.inl h1) hk H (by rw [hH, hhd])
  have c5 := verify_c hd m H M hH (by rw [hhd]; exact hl) hM (by omega) true (by rw [hml, hhd]; exact (decide_eq_true hT).symm)
  have c6 := compP 0 4294967295 0 4294967295
  have c7 := own1 0 9 (peS 0 4294967295)
  have c8 := accept_zero
  clear h1 ok hl hT hhd hH hM
  refine Good.of Tryz.func50 rfl (by rfl) (by kernel_rfl) ?_
  cbv
  repeat' (first
    | (refine callq c1 rfl rfl ?_; cbv; (try (simp only [cwn]; cbv)))
    | (refine callq c2 rfl rfl ?_; cbv; (try (simp only [cwn]; cbv)))
    | (refine callq c3 rfl rfl ?_; cbv; (try (simp only [cwn]; cbv)))
    | (refine callq c4 rfl rfl ?_; cbv; (try (simp only [cwn]; cbv)))
    | (refine callq c5 rfl rfl ?_; cbv; (try (simp only [cwn]; cbv)))
    | (refine callq c6 rfl rfl ?_; cbv; (try (simp only [cwn]; cbv)))
    | (refine callq c7 rfl rfl ?_; cbv; (try (simp only [cwn]; cbv)))
    | (refine callq c8 rfl rfl ?_; cbv; (try (simp only [cwn]; cbv)))
    | (refine QC.tt (by decide) ?_; cbv; (try (simp only [cwn]; cbv)))
    | (refine QC.ff (by decide) ?_; cbv; (try (simp only [cwn]; cbv)))
    | (refine QC.ff (by omega) ?_; cbv; (try (simp only [cwn]; cbv)))
    | (refine q1w (fun z hz => ?_); (try simp only at hz); cbv; (try (simp only [cwn]; cbv)))
    | (refine rqw ?_; cbv; (try (simp only [cwn]; cbv)))
    | (refine qvIdx _ (by rfl) (by decide) ?_; cbv; (try (simp only [cwn]; cbv)))
    | (refine qvArr (by decide) (by decide) ?_; cbv; (try (simp only [cwn]; cbv)))
    | (refine qvRow (by decide) (by decide) ?_; cbv; (try (simp only [cwn]; cbv)))
    | (refine qvSome _ (by rfl) ?_; cbv; (try (simp only [cwn]; cbv)))
    | (refine QC.tw ?_; cbv; (try (simp only [cwn]; cbv)))
    | (refine QC.fw ?_; cbv; (try (simp only [cwn]; cbv)))
    | (refine chpA ?_; cbv; (try (simp only [cwn]; cbv)))
    | (refine unrollq 4 ?_; cbv; (try (simp only [cwn]; cbv)))
    | (simp only [cwn]; cbv)
    )
  exact ⟨rfl, rfl, rfl⟩
end Go.Proofs.YtgfpjhddojhfpaaGreat

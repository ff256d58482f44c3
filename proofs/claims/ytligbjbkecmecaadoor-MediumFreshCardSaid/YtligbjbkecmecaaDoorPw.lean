/- The law of the evaluator of operations that touch no memory. -/
import Derived.Test.YtligbjbkecmecaaDoorPv
namespace Go.Proofs.YtligbjbkecmecaaDoor
set_option linter.unusedVariables false
set_option linter.unusedSimpArgs false
open Go.RowKit
variable {P : Program} {T : Nat → Option TI}

theorem fieldAt_run (tys : Types P T) {s f off t : Nat} {i j : TI} {fs : List (Nat × Nat)} (hs : T s = some i) (hk : i.kind = .struct fs) (hf : fs[f]? = some (off, t)) (ht : T t = some j) (hj : j.size ≠ 0) (b o : Nat) (w : World) :
    (Instr.fieldAt s (.pointer (some ⟨b, o, none⟩)) f).run P w = .ok (.pointer (some ⟨b, o + off, none⟩)) w := by
  obtain ⟨gs, hg, hgs⟩ := (tys.ok s i hs).und_struct hk
  rw [← hgs] at hf
  simp only [List.getElem?_map, Option.map_eq_some_iff] at hf
  obtain ⟨g, hg1, hg2⟩ := hf
  simp only [Prod.mk.injEq] at hg2
  obtain ⟨rfl, rfl⟩ := hg2
  have hz := (tys.ok _ j ht).sizeOf w
  have hg1' : gs[f]? = some g := by simpa using hg1
  simp only [Instr.fieldAt, Sem.run_bind, run_underlying hg, Result.andThen_ok, hg1', Instr.sureAddr, Sem.run_pure, fieldPlace, hz]
  rw [if_neg hj]
  simp [addr_add]

theorem pval_ok (tys : Types P T) (sz : Sizes T) (cl : Closed T) {op : Op} {e : Operand → SV} {κ : SV → Prop} (h : pval T op e κ) : ∃ v, κ v ∧ POk P op e v := by
  cases op
  case binOp op t x y yt => exact pval_bin tys sz h
  case move x =>
    refine ⟨_, h, ⟨fun o a w X ρ ho hd => ⟨a.eval x, by simp [execOp, ho], hd x (by simp [Op.operands])⟩⟩⟩
  case assign x =>
    refine ⟨_, h, ⟨fun o a w X ρ ho hd => ⟨a.eval x, by simp [execOp, ho], hd x (by simp [Op.operands])⟩⟩⟩
  case pick c a b =>
    simp only [pval] at h
    split at h
    · rename_i hc
      rename_i cb
      cases cb
      · refine ⟨_, h, ⟨fun o ac w X ρ ho hd => ⟨ac.eval b, ?_, hd b (by simp [Op.operands])⟩⟩⟩
        have := hd c (by simp [Op.operands])
        rw [hc, Den.bool_iff] at this
        simp [execOp, ho, this, asBool]
      · refine ⟨_, h, ⟨fun o ac w X ρ ho hd => ⟨ac.eval a, ?_, hd a (by simp [Op.operands])⟩⟩⟩
        have := hd c (by simp [Op.operands])
        rw [hc, Den.bool_iff] at this
        simp [execOp, ho, this, asBool]
    · exact h.elim
  case unOp op t x =>
    simp only [pval] at h
    split at h
    · rename_i hx
      rename_i b0
      have h : κ (.bool (!b0)) := by cases b0 <;> exact h
      refine ⟨_, h, ⟨fun o ac w X ρ ho hd => ?_⟩⟩
      have := hd x (by simp [Op.operands])
      rw [hx, Den.bool_iff] at this
      exact ⟨_, by simp [execOp, ho, this, Op.unary], .bool _ _⟩
    · rename_i hx
      refine ⟨_, arith_ok h, ⟨fun o ac w X ρ ho hd => ?_⟩⟩
      have := hd x (by simp [Op.operands])
      rw [hx, Den.int_iff] at this
      refine ⟨_, ?_, .int _ _ _⟩
      simp only [execOp, ho, this, Op.unary, Op.intArith, Sem.run_bind, Sem.run_pure, Result.andThen_ok]
    · exact h.elim
  case convert s d x =>
    simp only [pval] at h
    split at h
    · rename_i i0 i j n hs0 hd' hx
      split at h
      · rename_i k hk
        refine ⟨_, cvI_ok h, ⟨fun o ac w X ρ ho hd => ?_⟩⟩
        have hv := hd x (by simp [Op.operands])
        rw [hx, Den.int_iff] at hv
        have hu := (tys.ok d i hd').und_int hk
        obtain ⟨d0, hd0, _⟩ := (tys.ok s i0 hs0).desc
        refine ⟨_, ?_, .int _ _ _⟩
        simp [execOp, ho, hv, convert, run_underlying hd0, run_underlying hu, Conv.intToInt]
      · exact h.elim
    · exact h.elim
  case fieldAddr s x f =>
    simp only [pval] at h
    cases hs : T s with
    | none => simp only [hs] at h
    | some i =>
      simp only [hs] at h
      split at h <;> try exact h.elim
      rename_i fs hk
      split at h <;> try exact h.elim
      rename_i off t hf
      split at h <;> try exact h.elim
      rename_i j ht
      split at h
      · exact h.elim
      · rename_i hj
        split at h <;> try exact h.elim
        · rename_i r o hx
          refine ⟨_, h, ⟨fun o ac w X ρ ho hd => ?_⟩⟩
          have hv := hd x (by simp [Op.operands])
          rw [hx] at hv
          generalize hev : ac.eval x = v at hv
          cases hv with
          | ptr _ _ _ b hb => exact ⟨_, by simp only [execOp, ho, hev, Sem.run_bind, fieldAt_run tys hs hk hf ht hj, Result.andThen_ok, Sem.run_pure], .ptr _ _ _ b hb⟩
        · rename_i s' y o1 hx
          refine ⟨_, h, ⟨fun o ac w X ρ ho hd => ?_⟩⟩
          have hv := hd x (by simp [Op.operands])
          rw [hx] at hv
          generalize hev : ac.eval x = v at hv
          cases hv with
          | eptr _ _ _ _ b o us hb hx hu hl hy =>
            refine ⟨.pointer (some ⟨b, o + (o1 + off), none⟩), by simp only [execOp, ho, hev, Sem.run_bind, fieldAt_run tys hs hk hf ht hj, Result.andThen_ok, Sem.run_pure, Nat.add_assoc], ?_⟩
            exact .eptr _ _ _ _ b o us hb hx hu hl hy
        · rename_i r s' i' o1 hx
          refine ⟨_, h, ⟨fun o ac w X ρ ho hd => ?_⟩⟩
          have hv := hd x (by simp [Op.operands])
          rw [hx] at hv
          generalize hev : ac.eval x = v at hv
          cases hv with
          | rptr _ _ _ _ _ b ob hb =>
            refine ⟨.pointer (some ⟨b, ob + i' * wid s' + (o1 + off), none⟩), by simp only [execOp, ho, hev, Sem.run_bind, fieldAt_run tys hs hk hf ht hj, Result.andThen_ok, Sem.run_pure, Nat.add_assoc], ?_⟩
            exact .rptr _ _ _ _ _ b ob hb
  case field s x f =>
    simp only [pval] at h
    split at h <;> try exact h.elim
    rename_i i l hs hx
    split at h <;> try exact h.elim
    rename_i fs hk
    split at h <;> try exact h.elim
    rename_i off t hf
    split at h <;> try exact h.elim
    rename_i j ht
    split at h
    · rename_i hl
      refine ⟨_, h, ⟨fun o ac w X ρ ho hd => ?_⟩⟩
      have hv := hd x (by simp [Op.operands])
      rw [hx, Den.agg_iff] at hv
      obtain ⟨cs, hev, hcs⟩ := hv
      obtain ⟨gs, hg, hgs⟩ := (tys.ok s i hs).und_struct hk
      rw [← hgs] at hf
      simp only [List.getElem?_map, Option.map_eq_some_iff] at hf
      obtain ⟨g, hg1, hg2⟩ := hf
      simp only [Prod.mk.injEq] at hg2
      obtain ⟨rfl, rfl⟩ := hg2
      have hg1' : gs[f]? = some g := by simpa using hg1
      refine ⟨_, ?_, partS_den hcs hl (sz.one _ _ ht)⟩
      simp only [execOp, ho, hev, Instr.field, Sem.run_bind, run_underlying hg, Result.andThen_ok, hg1', asAgg, Sem.run_pure]
      rw [run_part (tys.ok _ j ht) cs g.offset (by rw [← hcs.1]; exact hl) (sz.one _ _ ht)]
      rfl
    · exact h.elim
  case extract x i =>
    simp only [pval] at h
    split at h <;> try exact h.elim
    rename_i l hx
    split at h <;> try exact h.elim
    rename_i y hy
    refine ⟨_, h, ⟨fun o ac w X ρ ho hd => ?_⟩⟩
    have hv := hd x (by simp [Op.operands])
    rw [hx, Den.tup_iff] at hv
    obtain ⟨cs, hev, hcs⟩ := hv
    have hi := (List.getElem?_eq_some_iff.1 hy).1
    have hi' : i < cs.length := by rw [← hcs.1]; exact hi
    refine ⟨cs[i], ?_, hcs.2 i _ _ hy (List.getElem?_eq_getElem hi')⟩
    simp [execOp, ho, hev, Instr.extract, hi']
  case build t ps =>
    simp only [pval] at h
    split at h <;> try exact h.elim
    rename_i i ht
    split at h <;> try exact h.elim
    · rename_i fs z hk hz
      split at h <;> try exact h.elim
      rename_i l hl
      refine ⟨_, h, ⟨fun o ac w X ρ ho hd => ?_⟩⟩
      obtain ⟨cs, hr, hcs⟩ := run_build_ tys cl (w := w) (X := X) (ρ := ρ) ht hk hz _ (ps.toList.map fun p => (p.1, ac.eval p.2)) hl (by simp) (fun n p q hp hq => by
        simp only [List.getElem?_map, Option.map_eq_some_iff] at hp hq
        obtain ⟨p', hp1, rfl⟩ := hp
        obtain ⟨q', hq1, rfl⟩ := hq
        rw [hp1] at hq1
        injection hq1 with hq1
        subst hq1
        refine ⟨rfl, hd p'.2 ?_⟩
        simp only [Op.operands]
        exact List.mem_toArray.2 (List.mem_map.2 ⟨p', List.mem_of_getElem? hp1, rfl⟩))
      refine ⟨_, ?_, Den.agg_iff.2 ⟨cs, rfl, hcs⟩⟩
      have e : (ps.map fun (x : Nat × Operand) => (x.1, ac.eval x.2)) = (ps.toList.map fun p => (p.1, ac.eval p.2)).toArray := by
        apply Array.ext'; simp
      simp only [execOp, ho, Sem.run_bind]
      rw [show (ps.map fun x => match x with | (i, x) => (i, ac.eval x)) = (ps.toList.map fun p => (p.1, ac.eval p.2)).toArray from e, hr]
      rfl
    · rename_i n el z hk hz
      split at h <;> try exact h.elim
      rename_i j hj
      split at h <;> try exact h.elim
      rename_i l hl
      refine ⟨_, h, ⟨fun o ac w X ρ ho hd => ?_⟩⟩
      obtain ⟨cs, hr, hcs⟩ := run_build_arr tys (w := w) (X := X) (ρ := ρ) ht hk hj hz _ (ps.toList.map fun p => (p.1, ac.eval p.2)) hl (by simp) (fun n p q hp hq => by
        simp only [List.getElem?_map, Option.map_eq_some_iff] at hp hq
        obtain ⟨p', hp1, rfl⟩ := hp
        obtain ⟨q', hq1, rfl⟩ := hq
        rw [hp1] at hq1
        injection hq1 with hq1
        subst hq1
        refine ⟨rfl, hd p'.2 ?_⟩
        simp only [Op.operands]
        exact List.mem_toArray.2 (List.mem_map.2 ⟨p', List.mem_of_getElem? hp1, rfl⟩))
      refine ⟨_, ?_, Den.agg_iff.2 ⟨cs, rfl, hcs⟩⟩
      have e : (ps.map fun (x : Nat × Operand) => (x.1, ac.eval x.2)) = (ps.toList.map fun p => (p.1, ac.eval p.2)).toArray := by
        apply Array.ext'; simp
      simp only [execOp, ho, Sem.run_bind]
      rw [show (ps.map fun x => match x with | (i, x) => (i, ac.eval x)) = (ps.toList.map fun p => (p.1, ac.eval p.2)).toArray from e, hr]
      rfl
  case nilCheck x =>
    simp only [pval] at h
    split at h
    · rename_i hp
      refine ⟨_, h, ⟨fun o ac w X ρ ho hd => ?_⟩⟩
      have hv := hd x (by simp [Op.operands])
      have hv' := hv
      generalize hev : ac.eval x = v at hv hv'
      refine ⟨v, ?_, hv'⟩
      generalize e x = y at hv hp
      cases hv <;> first | (simp [isPtr] at hp; done) | simp [execOp, ho, hev]
    · exact h.elim
  case call c =>
    simp only [pval] at h
    obtain ⟨cal, args, ats⟩ := c
    split at h <;> try exact h.elim
    · rename_i x y hc ha
      simp only at hc ha
      subst hc
      obtain rfl : args = #[x, y] := by apply Array.ext'; simpa using ha
      split at h <;> try exact h.elim
      rename_i k a j b hx hy
      refine ⟨_, h.h.2 _ rfl, ⟨fun o ac w X ρ ho hd => ?_⟩⟩
      have h1 := hd x (by simp [Op.operands, Call.operands])
      have h2 := hd y (by simp [Op.operands, Call.operands])
      rw [hx, Den.int_iff] at h1
      rw [hy, Den.int_iff] at h2
      refine ⟨_, ?_, .int _ _ _⟩
      simp [execOp, ho, resolve, invoke, builtin, Builtin.min_, Builtin.min2, h1, h2]
      split <;> omega
    · rename_i x y hc ha
      simp only at hc ha
      subst hc
      obtain rfl : args = #[x, y] := by apply Array.ext'; simpa using ha
      split at h <;> try exact h.elim
      rename_i k a j b hx hy
      refine ⟨_, h.h.2 _ rfl, ⟨fun o ac w X ρ ho hd => ?_⟩⟩
      have h1 := hd x (by simp [Op.operands, Call.operands])
      have h2 := hd y (by simp [Op.operands, Call.operands])
      rw [hx, Den.int_iff] at h1
      rw [hy, Den.int_iff] at h2
      refine ⟨_, ?_, .int _ _ _⟩
      simp [execOp, ho, resolve, invoke, builtin, Builtin.max_, Builtin.max2, h1, h2]
      split <;> omega
  all_goals exact h.elim
end Go.Proofs.YtligbjbkecmecaaDoor

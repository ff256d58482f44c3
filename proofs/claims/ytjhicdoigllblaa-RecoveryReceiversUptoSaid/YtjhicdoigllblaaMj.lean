/- Texts put together: XM. -/
import Derived.Test.YtjhicdoigllblaaMi
import Derived.Test.YtjhicdoigllblaaRows
namespace Go.Proofs.Ytjhicdoigllblaa
set_option linter.unusedVariables false
set_option linter.unusedSimpArgs false
open Go.ChangeShapes Go.WideShapes Go.ChangeAt Go.RowKit Go.WideElems Go.Deep
section
variable {H : Type} {enc : TypeId × Value → H} {P : Program} {w : World}
theorem bulkAll_len : ∀ l : List (DataW H), l.length ≤ Rows.uptoBulkAll l
  | [] => Nat.zero_le _
  | d :: r => by
    have ih := bulkAll_len r
    have h1 : 1 ≤ Rows.uptoBulk d := by
      cases d with
      | lit l => cases l <;> simp [Rows.uptoBulk]
      | _ => simp [Rows.uptoBulk]
    simp only [Rows.uptoBulkAll, List.length_cons]
    omega
theorem bulkAll_mem : ∀ {l : List (DataW H)} {d : DataW H}, d ∈ l → Rows.uptoBulk d ≤ Rows.uptoBulkAll l
  | x :: r, d, h => by
    simp only [Rows.uptoBulkAll]
    rcases List.mem_cons.1 h with rfl | h
    · omega
    · have := bulkAll_mem h; omega
theorem bulk_slice {n t e : Nat} (hu : P.underlying t = some (.slice e)) {L : List SV} {u : Value} {sh : Option Nat} (hd : Den w NoX noEnv (.lst sh L) u) {x : DataW H × List MemPlace} (h : DataW.trod enc P w 0 (fun _ => true) true n t [u] = some x) : L.length ≤ Rows.uptoBulk x.1 := by
  rcases DataW.trod_slice hu h with ⟨hc, rfl⟩ | ⟨a, len, cap, elems, rest, n', _, hc, rfl, _, _, _, hel, _⟩
  · injection hc with hc
    subst hc
    cases hd with
    | lst0 => simp
  · injection hc with hc
    subst hc
    have hl : L.length = len := by
      cases hd with
      | lst0 => rfl
      | lst => rfl
    have := bulkAll_len (elems.map (·.1))
    simp only [Rows.uptoBulk]
    rw [List.length_map] at this
    omega
theorem bulk_rows {n t e b : Nat} (hu : P.underlying t = some (.slice e)) (he : P.underlying e = some (.slice b)) (hc1 : P.cellsOf e = 1) {ps : List (List UInt8)} {u : Value} (hd : Den w NoX noEnv (.lst none (rowsB ps)) u) {x : DataW H × List MemPlace}
    (h : DataW.trod enc P w 0 (fun _ => true) true n t [u] = some x) : ps.flatten.length ≤ Rows.uptoBulk x.1 := by
  by_cases h0 : ps = []
  · subst h0; simp
  rcases DataW.trod_slice hu h with ⟨hc, rfl⟩ | ⟨a, len, cap, elems, rest, n', _, hc, rfl, _, _, _, hel, hE, _⟩
  · injection hc with hc
    subst hc
    exfalso
    generalize hL : rowsB ps = L at hd
    cases hd with
    | lst0 => exact h0 (List.length_eq_zero_iff.1 (by rw [← rowsB_len ps, hL]; rfl))
  · injection hc with hc
    subst hc
    have key : ∀ i (hi : i < ps.length), ∃ y, elems[i]? = some y ∧ (ps[i]).length ≤ Rows.uptoBulk y.1 := by
      intro i hi
      generalize hL : rowsB ps = L at hd
      have hLl : L.length = ps.length := by rw [← hL, rowsB_len]
      cases hd with
      | lst0 => simp at hLl; omega
      | lst _ _ _ b' off _ us hb hx hcap hcell hul ho hh =>
        have hiL : i < L.length := by omega
        have h1 := hE i hiL
        rw [hc1, Nat.mul_one] at h1
        have h2 := hh i hiL
        have h3 : us.length = L.length := by simpa [wid] using hul
        have hui : us[i]? = some us[i] := List.getElem?_eq_getElem (by omega)
        have hcl := hcell i _ hui
        have e1 : valAt none us i = us[i] := by simp [valAt, hui]
        rw [e1] at h2
        have e2 : L[i] = .lst none (u8l ps[i]) := by
          have : L[i]? = some (.lst none (u8l ps[i])) := by rw [← hL]; simp [rowsB, hi]
          exact (List.getElem?_eq_some_iff.1 this).2
        rw [e2] at h2
        cases hce : w.cells? 0 ((⟨b', off, none⟩ : Addr).add i) 1 with
        | none =>
          rw [hce] at h1
          have : elems[i]? = none := h1.symm
          rw [List.getElem?_eq_none_iff] at this
          omega
        | some cs' =>
          rw [hce] at h1
          obtain ⟨_, c2, c3⟩ := World.cells?_some hce
          have c4 := c3 0 (by omega)
          rw [Addr.add_zero', Addr.add_lit, hcl] at c4
          have ecs : cs' = [us[i]] := by
            match cs', c2 with
            | [z], _ => simp at c4; rw [c4]
          rw [ecs] at h1
          have h1 : DataW.trod enc P w 0 (fun _ => true) true n' e [us[i]] = elems[i]? := h1
          cases hy : elems[i]? with
          | none => rw [List.getElem?_eq_none_iff] at hy; omega
          | some y =>
            rw [hy] at h1
            have := bulk_slice he h2 h1
            rw [u8l_len] at this
            exact ⟨y, rfl, this⟩
    have sum : ∀ (qs : List (List UInt8)) (ys : List (DataW H × List MemPlace)), (∀ i (hi : i < qs.length), ∃ y, ys[i]? = some y ∧ (qs[i]).length ≤ Rows.uptoBulk y.1) → qs.flatten.length ≤ Rows.uptoBulkAll (ys.map (·.1)) := by
      intro qs
      induction qs with
      | nil => intro ys _; simp
      | cons q qs ih =>
        intro ys hy
        cases ys with
        | nil => obtain ⟨y, h1, _⟩ := hy 0 (by simp); cases h1
        | cons y ys =>
          have h1 := ih ys fun i hi => hy (i + 1) (by simpa using hi)
          obtain ⟨y', h2, h3⟩ := hy 0 (by simp)
          simp at h2; subst h2
          simp only [List.flatten_cons, List.length_append, List.map_cons, Rows.uptoBulkAll]
          have h3 : q.length ≤ Rows.uptoBulk y.1 := h3
          omega
    have := sum ps elems key
    simp only [Rows.uptoBulk]
    omega
end
theorem bulk_receiver {H : Type} {enc : TypeId × Value → H} {w : World} {n : Nat} {v : Value} {r : Rcv} (hd : Den w NoX noEnv (wrapC (some 5) [.int .u8 r.tag, .int .i64 r.cnt, .lst none (rowsB r.ps), .int .u32 r.hv, .bool r.dn]) v) {x : DataW H × List MemPlace}
    (h : DataW.trod enc Try.prog w 0 (fun _ => true) true n 55 v.cells.toList = some x) : r.ps.flatten.length ≤ Rows.uptoBulk x.1 := by
  obtain ⟨cs, rfl, hl⟩ := Den.agg_iff.1 hd
  obtain ⟨xs, n', _, rfl, hcl, hxl, hX⟩ := DataW.trod_struct Try.underlying55 h
  have h2 := hX 2 _ rfl
  have hcs : cs.length = 5 := by rw [← hl.1]; rfl
  match cs, hcs with
  | [c0, c1, c2, c3, c4], _ =>
    have d2 := hl.2 2 _ _ rfl rfl
    have h2 : DataW.trod enc Try.prog w 0 (fun _ => true) true n' 22 [c2] = xs[2]? := h2
    cases hy : xs[2]? with
    | none => rw [List.getElem?_eq_none_iff] at hy; rw [hxl] at hy; exact absurd hy (by decide)
    | some y =>
      rw [hy] at h2
      have := bulk_rows Try.underlying22 Try.underlying26 (by kernel_rfl) d2 h2
      have hm : y.1 ∈ xs.map (·.1) := List.mem_map.2 ⟨y, List.mem_of_getElem? hy, rfl⟩
      have := bulkAll_mem hm
      simp only [Rows.uptoBulk]
      omega
end Go.Proofs.Ytjhicdoigllblaa

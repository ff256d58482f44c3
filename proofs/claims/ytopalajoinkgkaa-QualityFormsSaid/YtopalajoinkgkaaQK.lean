/- How a quality comes in. -/
import Derived.Test.YtopalajoinkgkaaOpn
import Derived.Test.YtopalajoinkgkaaQM
namespace Go.Proofs.Ytopalajoinkgkaa
open Go.ChangeShapes Go.WideShapes Go.ChangeAt Go.RowKit Go.WideElems Go.Deep
theorem intsL_of {zs : List Int} (h : ∀ n ∈ zs, (Lit.int .i64 n).wf = true) : IntsL (zs.map (SV.int .i64)) zs := by
  refine ⟨by simp, fun i v hv => ⟨by simp [hv], ?_⟩⟩
  exact bounds_i64 (h v (List.mem_of_getElem? hv))
theorem open_quality {H : Type} {enc : TypeId × Value → H} {w : World} {r : Reach} {b0 : Nat} {v : Value} {d : DataW H} {p : List MemPlace} (hv : Value.okWide Try.prog w r b0 25 v) (h : DataW.Trod enc Try.prog w 0 (fun _ => true) true 25 v d p) :
    ∃ q : Ql, q.ok ∧ Den w NoX noEnv (encQ q) v := by
  obtain ⟨x0, x1, x2, x3, x4, y0, y1, y2, y3, y4, n, rfl, g0, g1, g2, g3, g4⟩ := open_agg5 Try.underlying25 (by kernel_rfl) (by kernel_rfl) hv h
  obtain ⟨k, e0, _⟩ := DataW.trod_bool Try.underlying4 g0
  obtain ⟨a, e1, _, w1⟩ := DataW.trod_int Try.underlying5 g1
  obtain ⟨b, e2, _, w2⟩ := DataW.trod_int Try.underlying3 g2
  obtain ⟨c, e3, _, w3⟩ := DataW.trod_int Try.underlying23 g3
  obtain ⟨e, e4, _, w4⟩ := DataW.trod_int Try.underlying3 g4
  simp only [List.cons.injEq, and_true] at e0 e1 e2 e3 e4
  subst e0 e1 e2 e3 e4
  have b1 := bounds_u8 w1
  have b2 := bounds_i64 w2
  have b3 := bounds_u16 w3
  have b4 := bounds_i64 w4
  refine ⟨⟨k, a, b, c, e⟩, ⟨⟨b1.1, b1.2⟩, ⟨b2.1, b2.2⟩, ⟨b3.1, b3.2⟩, ⟨b4.1, b4.2⟩⟩, ?_⟩
  refine Den.agg_iff.2 ⟨_, rfl, denl_cons (.bool _ _) (denl_cons (.int _ _ _) (denl_cons (.int _ _ _) (denl_cons (.int _ _ _) (denl_cons (.int _ _ _) denl_nil))))⟩
end Go.Proofs.Ytopalajoinkgkaa

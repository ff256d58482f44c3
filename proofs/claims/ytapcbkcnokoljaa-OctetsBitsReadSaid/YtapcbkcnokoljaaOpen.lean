/- How the arguments of a law are opened: bytes, integers. -/
import Derived.Test.YtapcbkcnokoljaaRows
import Derived.Test.YtapcbkcnokoljaaLib
import Derived.ProofKit
import Derived.OpenShut
import Derived.ShutString
import Derived.SizedLaws
namespace Go.Proofs.Ytapcbkcnokoljaa
open Go.ChangeShapes Go.WideShapes Go.ChangeAt Go.RowKit

theorem prog_own : ownKnob Try.prog.godebug = none := by kernel_rfl
theorem prog_laidOut : laidOutB Try.prog = true := by kernel_rfl

/-- What is known of the datum of a slice: how long it is. -/
def SliceDatum {H : Type} (d : DataW H) (l c : Nat) : Prop := (d = .nil ∧ l = 0 ∧ c = 0) ∨ ∃ es sp : List (DataW H), d = .slice es sp ∧ es.length = l ∧ es.length + sp.length = c

theorem SliceDatum.reach {H : Type} {P : Program} {ts : List TypeId} {ds : List (DataW H)} {d : DataW H} {l c : Nat} (h : SliceDatum d l c) (hs : (DataW.weightsEach P ts ds).all (· ≤ reachBytes) = true) {j : Nat} {t e : TypeId}
    (ht : ts[j]? = some t) (hd : ds[j]? = some d) (hu : P.underlying t = some (.slice e)) : c * P.bytesOf e ≤ 140737488351232 := by
  rcases h with ⟨_, _, rfl⟩ | ⟨es, sp, rfl, _, hc⟩
  · omega
  · have := sized_slice hs ht hd hu
    rw [hc] at this
    simpa [reachBytes] using this

theorem block_lt {w : World} {ad : Addr} {u : Value} (h : w.cell? ad = some u) : ad.block < w.heap.size := World.block_lt_of_cell? w ad h

def ints (k : IntKind) (zs : List Int) : List Value := zs.map (Value.int k)
@[simp] theorem ints_length (k : IntKind) (zs : List Int) : (ints k zs).length = zs.length := by simp [ints]
theorem ints_one (k : IntKind) (zs : List Int) : ∀ u ∈ ints k zs, u.oneCell' = true := by
  intro u hu
  obtain ⟨_, _, rfl⟩ := List.mem_map.1 hu
  rfl
theorem ints_getD (k : IntKind) (zs : List Int) (j : Nat) (h : j < zs.length) : (ints k zs)[j]? = some (.int k (zs.getD j 0)) := by
  simp [ints, List.getD, h]

section
variable {H : Type} {enc : TypeId × Value → H} {P : Program} {w : World}
/-- A slice of integers that came in. -/
theorem open_ints_ {r : Reach} {b0 : Nat} {t e : TypeId} {k : IntKind} {v : Value} {d : DataW H} {p : List MemPlace} (ht : P.underlying t = some (.slice e)) (he : P.underlying e = some (.int k)) (hc : P.cellsOf e = 1)
    (hval : Value.okWide P w r b0 t v) (h : DataW.Trod enc P w 0 (fun _ => true) true t v d p) :
    ∃ (A : Option Addr) (l c : Nat) (zs : List Int), v = .slice A l c ∧ Reads w w.heap.size 1 A l (ints k zs) ∧ l ≤ c ∧ c ≤ maxLen ∧ (∀ n ∈ zs, (Lit.int k n).wf = true) ∧ SliceDatum d l c := by
  obtain ⟨a0, len0, cap0, rfl⟩ := okWide_slice ht hval
  obtain ⟨fuel, hf⟩ := h
  rcases open_ints ht he hc hf with ⟨hcs, hx⟩ | ⟨x, l, c, zs, hcs, _, hl, hm, hz, hx, hcell, hwz⟩
  · simp [Value.cells] at hcs
    obtain ⟨rfl, rfl, rfl⟩ := hcs
    simp only [Prod.mk.injEq] at hx
    exact ⟨_, _, _, [], rfl, Reads.none_, Nat.le_refl _, by simp [maxLen], by simp, .inl ⟨hx.1, rfl, rfl⟩⟩
  · simp [Value.cells] at hcs
    obtain ⟨rfl, rfl, rfl⟩ := hcs
    simp only [if_true] at hz
    simp only [Prod.mk.injEq] at hx
    have hcl : ∀ j u, (ints k (zs.take len0))[j]? = some u → w.cell? (x.add j) = some u := by
      intro j u hu
      have hj : j < len0 ∧ j < zs.length := by
        have := (List.getElem?_eq_some_iff.1 hu).1
        rw [ints_length, List.length_take] at this
        omega
      rw [hcell j hj.2]
      have := ints_getD k (zs.take len0) j (by rw [List.length_take]; omega)
      rw [this] at hu
      rw [← hu]
      congr 2
      simp [List.getD, hj.1]
    refine ⟨_, _, _, zs.take len0, rfl, ⟨by rw [ints_length, List.length_take]; omega, fun hn => ⟨x, rfl, ?_, hcl⟩⟩, hl, hm, fun n hn => hwz n (List.mem_of_mem_take hn), .inr ⟨_, _, hx.1, ?_, ?_⟩⟩
    · have := block_lt (hcell 0 (by omega))
      rwa [block_of_add] at this
    · simp [lits]; omega
    · simp [lits]; omega

theorem u8_of_wf {n : Int} (h : (Lit.int .u8 n).wf = true) : ∃ b : UInt8, n = b.toNat := by
  have := bounds_u8 h
  exact ⟨UInt8.ofNat n.toNat, by simp only [UInt8.toNat_ofNat']; omega⟩
theorem u8s_of_wf : ∀ {zs : List Int}, (∀ n ∈ zs, (Lit.int .u8 n).wf = true) → ∃ bs : List UInt8, ints .u8 zs = u8s bs
  | [], _ => ⟨[], rfl⟩
  | z :: zs, h => by
    obtain ⟨b, hb⟩ := u8_of_wf (h z (by simp))
    obtain ⟨bs, hbs⟩ := u8s_of_wf (zs := zs) (fun n hn => h n (by simp [hn]))
    exact ⟨b :: bs, by simp only [ints, List.map_cons, u8s] at hbs ⊢; rw [hbs, hb]; rfl⟩

/-- A slice of bytes that came in. -/
theorem open_bytes_ {r : Reach} {b0 : Nat} {t e : TypeId} {v : Value} {d : DataW H} {p : List MemPlace} (ht : P.underlying t = some (.slice e)) (he : P.underlying e = some (.int .u8)) (hc : P.cellsOf e = 1)
    (hval : Value.okWide P w r b0 t v) (h : DataW.Trod enc P w 0 (fun _ => true) true t v d p) :
    ∃ (A : Option Addr) (l c : Nat) (bs : List UInt8), v = .slice A l c ∧ Reads w w.heap.size 1 A l (u8s bs) ∧ l ≤ c ∧ c ≤ maxLen ∧ SliceDatum d l c := by
  obtain ⟨A, l, c, zs, hv, hr, hl, hm, hwz, hd⟩ := open_ints_ ht he hc hval h
  obtain ⟨bs, hbs⟩ := u8s_of_wf hwz
  rw [hbs] at hr
  exact ⟨A, l, c, bs, hv, hr, hl, hm, hd⟩
end
end Go.Proofs.Ytapcbkcnokoljaa

/- Texts put together: Opn Opg. -/
import Derived.Test.YtgfpjhddojhfpaaGreatZ03
import Derived.Test.YtgfpjhddojhfpaaGreatZ04
import Derived.Test.YtgfpjhddojhfpaaGreatRows
import Derived.ProofKit
import Derived.OpenShut
import Derived.ShutString
import Derived.SizedLaws
import Derived.Lib.SmallJoins
namespace Go.Proofs.YtgfpjhddojhfpaaGreat
set_option linter.unusedVariables false
set_option linter.unusedSimpArgs false
section
open Go.ChangeShapes Go.WideShapes Go.ChangeAt Go.RowKit Go.WideElems Go.Deep
theorem prog_own:ownKnob Tryz.prog.godebug=none:=by kernel_rfl
theorem prog_laidOut:laidOutB Tryz.prog=true:=by kernel_rfl
def NoX:Nat→Prop:=fun _=>False
def SliceDatum {H:Type} (d:DataW H) (l c:Nat):Prop:=(d=.nil∧l=0∧c=0)∨∃ es sp:List (DataW H),d=.slice es sp∧es.length=l∧es.length+sp.length=c
theorem SliceDatum.reach {H:Type} {P:Program} {ts:List TypeId} {ds:List (DataW H)} {d:DataW H} {l c:Nat} (h:SliceDatum d l c) (hs:(DataW.weightsEach P ts ds).all (·≤reachBytes)=true) {j:Nat} {t e:TypeId}
  (ht:ts[j]?=some t) (hd:ds[j]?=some d) (hu:P.underlying t=some (.slice e)):c * P.bytesOf e≤140737488351232:=by
 rcases h with ⟨_,_,rfl⟩ | ⟨es,sp,rfl,_,hc⟩
 ·omega
 ·have:=sized_slice hs ht hd hu
  rw [hc] at this
  simpa [reachBytes] using this
section
variable {H:Type} {enc:TypeId × Value→H} {P:Program} {w:World}
theorem block_lt {ad:Addr} {u:Value} (h:w.cell? ad=some u):ad.block < w.heap.size:=World.block_lt_of_cell? w ad h
theorem open_list {r:Reach} {b0:Nat} {t e:TypeId} {k:IntKind} {v:Value} {d:DataW H} {p:List MemPlace} (ht:P.underlying t=some (.slice e)) (he:P.underlying e=some (.int k)) (hc:P.cellsOf e=1)
  (hval:Value.okWide P w r b0 t v) (h:DataW.Trod enc P w 0 (fun _=>true) true t v d p) :
  ∃ (zs:List Int) (c:Nat),Den w NoX noEnv (.lst none (zs.map (SV.int k))) v∧zs.length≤c∧c≤maxLen∧(∀ n∈zs,(Lit.int k n).wf=true)∧SliceDatum d zs.length c:=by
 obtain ⟨a0,len0,cap0,rfl⟩:=okWide_slice ht hval
 obtain ⟨fuel,hf⟩:=h
 rcases open_ints ht he hc hf with ⟨hcs,hx⟩ | ⟨x,l,c,zs,hcs,_,hl,hm,hz,hx,hcell,hwz⟩
 ·simp [Value.cells] at hcs
  obtain ⟨rfl,rfl,rfl⟩:=hcs
  simp only [Prod.mk.injEq] at hx
  exact ⟨[],0,.lst0 _ _ _ _,Nat.le_refl _,by simp [maxLen],by simp,.inl ⟨hx.1,rfl,rfl⟩⟩
 ·simp [Value.cells] at hcs
  obtain ⟨rfl,rfl,rfl⟩:=hcs
  simp only [if_true] at hz
  simp only [Prod.mk.injEq] at hx
  have hlen:(zs.take len0).length=len0:=by rw [List.length_take];omega
  refine ⟨zs.take len0,cap0,?_,by omega,hm,fun n hn=>hwz n (List.mem_of_mem_take hn),.inr ⟨_,_,hx.1,?_,?_⟩⟩
  ·by_cases h0:len0=0
   ·subst h0
    exact .lst0 _ _ _ _
   ·have hspot:x.spot=none:=by
     have:=hcell 0 (by omega)
     have:=World.cell?_spot this
     simpa [Addr.add] using this
    obtain ⟨b,off,spot⟩:=x
    simp only at hspot
    subst hspot
    have e1:((zs.take len0).map (SV.int k)).length=len0:=by rw [List.length_map,hlen]
    have e2:Den w NoX noEnv (.lst none ((zs.take len0).map (SV.int k))) (.slice (some ⟨b,off,none⟩) ((zs.take len0).map (SV.int k)).length cap0):=by
     refine .lst _ _ _ b off cap0 ((zs.take len0).map (Value.int k)) ?_ (fun h=>h) (by rw [e1];omega) (fun j u hu=>?_) (by simp [wid]) (fun u hu=>by obtain ⟨z,_,rfl⟩:=List.mem_map.1 hu;rfl) (fun i h1=>?_)
     ·have:=block_lt (hcell 0 (by omega))
      exact this
     ·obtain ⟨hj,hu⟩:=List.getElem?_eq_some_iff.1 hu
      rw [List.length_map] at hj
      have:=hcell j (by omega)
      rw [Addr.add_lit] at this
      rw [this,← hu]
      simp [List.getD]
      rw [List.getElem?_eq_getElem (by omega)]
      rfl
     ·simp only [valAt]
      rw [List.length_map] at h1
      rw [List.getElem?_eq_getElem (by simpa using h1)]
      simp only [List.getElem_map,Option.getD_some]
      exact .int _ _ _
    rw [e1] at e2
    exact e2
  ·simp [lits] <;> omega
  ·simp [lits] <;> omega
end
theorem denl_nil {w:World} {X:Nat→Prop} {ρ:Env}:DenL w X ρ [] []:=⟨rfl,fun i x u h _=>by simp at h⟩
theorem denl_cons {w:World} {X:Nat→Prop} {ρ:Env} {x:SV} {v:Value} {xs:List SV} {vs:List Value} (h:Den w X ρ x v) (g:DenL w X ρ xs vs):DenL w X ρ (x::xs) (v::vs):=by
 refine ⟨by simp [g.1],fun i y u hy hu=>?_⟩
 cases i with
 | zero=>simp at hy hu;subst hy;subst hu;exact h
 | succ i=>exact g.2 i y u (by simpa using hy) (by simpa using hu)
def GlobsAt (w:World):Prop:=∀ g x,glob g=some x→plainB x=true∧Den w NoX noEnv x (.pointer (some ⟨g,0,none⟩))
theorem noX_keep {w:World} {f:Nat} {xs:List SV} {b:Bool}:∀ k,k < w.heap.size→¬ NoX k→¬ Forb NoX (inM (pu xs (.bool b))) noEnv k∧w.heap[k]?=w.heap[k]?:=fun k _ _=>by
 refine ⟨?_,rfl⟩
 rintro (h | ⟨r,v,ho,_⟩)
 ·exact h
 ·simp [inM,getM,Blk.own] at ho
theorem Good.rowG {f:Nat} {xs:List SV} {b:Bool} (h:Good f (pu xs (.bool b))) {w:World} (hg:GlobsAt w) {vs:List Value} (hd:DenL w NoX noEnv xs vs):Calls Tryz.prog f ⟨vs⟩ w fun e w'=>e=.returned (.bool b)∧Below w.heap.size w w':=by
 have m:MRep tinfo (fun b=>w.heap.size≤b) w w NoX (inM (pu xs (.bool b))) noEnv :=
  ⟨fun _ h=>h.elim,.refl _ _,fun _ h=>h,fun r=>by simp [inM,getM,BlkRep,noEnv],fun r r' v v' b h=>by simp [inM,getM,Blk.own] at h,fun g x hx=>⟨(hg g x hx).1,(hg g x hx).2.mono (Nat.le_refl _) (noX_keep (f:=f))⟩⟩
 refine (h.h.h rfl rfl rfl (fun b=>w.heap.size≤b) w NoX noEnv vs m ?_).mono fun e w' ⟨v,ρ',he,hm,_,hv⟩=>⟨by rw [he,Den.bool_iff.1 hv],hm.below.new⟩
 exact ⟨hd.1,fun i x u hx hu=>(hd.2 i x u hx hu).mono (Nat.le_refl _) (noX_keep (f:=f))⟩
end
section
open Go.ChangeShapes Go.WideShapes Go.ChangeAt Go.RowKit Go.WideElems Go.Deep
section
variable {H:Type} {enc:TypeId × Value→H} {P:Program} {T:Nat→Option TI} {w:World}
end
end
end Go.Proofs.YtgfpjhddojhfpaaGreat

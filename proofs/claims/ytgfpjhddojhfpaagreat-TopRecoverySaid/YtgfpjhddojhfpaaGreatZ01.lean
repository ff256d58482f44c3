/- Texts put together: Wh Xw Ri Rc Rh Rd Xo. -/
import Derived.Test.YtgfpjhddojhfpaaGreatZ00
import Derived.Laws.Slices
import Derived.Laws.BytesString
import Derived.Laws.BytesArg
import Derived.Conc.EntryLaws
import Derived.Laws.RangeAny
import Derived.Laws.IdiomStrings
namespace Go.Proofs.YtgfpjhddojhfpaaGreat
set_option linter.unusedVariables false
set_option linter.unusedSimpArgs false
section
open Go.RowKit
variable {P:Program} {T:Nat→Option TI}
noncomputable def srcOf (μ:Nat→Blk) (sh:Option Nat) (x:SV):Option (List SV) :=
 match x with
 | .str s=>(match sh with | none=>some (O.by' s) | _=>none)
 | x=>listOf μ sh x
def isSrc (d:Option TI):Bool:=match d with
 | some i=>(match i.kind with | .slice _=>true | .string=>true | _=>false)
 | none=>false
noncomputable def baseOf (μ:Nat→Blk) (sh:Option Nat) (el:Nat) (x:SV):Option (Option Nat × List SV) :=
 match x with
 | .nil=>some (none,[])
 | .rsl q s2 a n _=>(match μ q with | .row s e l=>if shEq s sh && Nat.beq e el && shEq s2 sh then some (some q,O.sg l a n) else none | _=>none)
 | .row q=>(match μ q with | .row s e l=>if shEq s sh && Nat.beq e el then some (some q,l) else none | _=>none)
 | _=>none
def setL (l:List SV) (i:Nat) (y:SV):List SV:=l.set i y
noncomputable def apL (l ys:List SV):List SV:=match l with | []=>ys | l=>O.ap l ys
theorem apL_eq (l ys:List SV):apL l ys=l++ys:=by unfold apL;split <;> simp [O.hap]
theorem O.st_eq (l:List SV) (i:Nat) (y:SV):O.st l i y=setL l i y:=O.hst l i y
def allIntB:List SV→Bool
 | []=>true
 | x::l=>(match x with | .int _ _=>allIntB l | _=>false)
theorem allIntB_get:∀ {l:List SV},allIntB l=true→∀ (i:Nat) (x:SV),l[i]?=some x→∃ k n,x=.int k n
 | [],_,i,x,h=>by simp at h
 | y::l,hl,i,x,h=>by
  cases y <;> simp only [allIntB] at hl <;> first | cases hl;done | skip
  cases i with
  | zero=>simp at h;exact ⟨_,_,h.symm⟩
  | succ i=>exact allIntB_get hl i x (by simpa using h)
def wval (T:Nat→Option TI) (d:Option Nat) (op:Op) (e:Operand→SV) (μ:Nat→Blk) (κ:SV→List (Nat × Blk)→Prop):Prop :=
 match op with
 | .store t x v=>(match T t with
  | some i=>(match e x with
   | .ptr r o=>(match μ r with
    | .chunk t' y=>if Nat.beq o 0 && Nat.beq t' t && chunkOk i (normNil T t (e v)) then κ .any [(r,.chunk t (normNil T t (e v)))] else (match y with
     | .agg l=>(match cellsA (normNil T t (e v)) with
      | some ys=>if Nat.beq ys.length i.size && Nat.ble (o+ys.length) l.length then κ .any [(r,.chunk t' (.agg (putCells l o ys)))] else False
      | none=>False)
     | _=>False)
    | _=>False)
   | .rptr r sh j o=>(match μ r with
    | .row s el l=>if shEq s sh && noref r (e v) then (match view T μ t (e v) with
     | some y=>if Nat.beq o 0 && shEq sh i.shape && chunkOk i y then Rq (fun _=>j < O.ln l) (fun _=>κ .any (frzU μ (rids (e v))++[(r,.row s el (O.st l j y))]))
      else (match cellsA y with
       | some ys=>if Nat.beq ys.length i.size then QV (fun (c:List SV)=>l[j]?=some (.agg c)∧o+ys.length≤c.length) (fun c=>κ .any (frzU μ (rids (e v))++[(r,.row s el (O.st l j (.agg (putCells c o ys))))])) else False
       | none=>False)
     | none=>False) else False
    | _=>False)
   | _=>False)
  | none=>False)
 | .call c=>(match c.callee,c.argTypes.toList,c.args.toList,d with
  | .builtin .append,[t,t2],[s,x],some d=>(match T t with
   | some i=>(match i.kind with
    | .slice el=>(match T el with
     | some j=>if isSrc (T t2) && !(Nat.beq j.size 0) && !(Nat.beq j.bytes 0) then (match baseOf μ j.shape el (e s),srcOf μ j.shape (e x) with
      | some (q,l),some ys=>Rq (fun _=>((O.ln l:Int)+(O.ln ys:Int)) * (j.bytes:Int)≤140737488355328) (fun _=>κ (.row d) ((match q with | some q=>[(q,.no)] | none=>[])++[(d,.row j.shape el (apL l ys))]))
      | _,_=>False) else False
     | none=>False)
    | _=>False)
   | none=>False)
  | .builtin .copy,[t,t2],[s,x],_=>(match T t with
   | some i=>(match i.kind with
    | .slice el=>(match T el with
     | some j=>if isSrc (T t2) && !(Nat.beq j.size 0) then (match srcOf μ j.shape (e x),e s with
      | some ys,.row q=>(match μ q with
       | .row s' el' l=>if shEq s' j.shape then Q1 (fun _=>True) (fun z=>z=min (O.ln ys:Int) (O.ln l:Int)) (fun z=>κ (.int .i64 z) [(q,.row s' el' (O.cp l 0 (O.ln l) ys))]) else False
       | _=>False)
      | some ys,.rsl q s' a n _=>(match μ q with
       | .chunk t' (.agg l)=>if shEq s' none && shEq none j.shape && allIntB ys then Rq (fun _=>a+n≤l.length) (fun _=>Q1 (fun _=>True) (fun z=>z=min (O.ln ys:Int) (n:Int)) (fun z=>κ (.int .i64 z) [(q,.chunk t' (.agg (O.cp l a n ys)))])) else False
       | .row s'' el' l=>if shEq s' j.shape && shEq s'' j.shape then Rq (fun _=>a+n≤O.ln l) (fun _=>Q1 (fun _=>True) (fun z=>z=min (O.ln ys:Int) (n:Int)) (fun z=>κ (.int .i64 z) [(q,.row s'' el' (O.cp l a n ys))])) else False
       | _=>False)
      | _,_=>False) else False
     | none=>False)
    | _=>False)
   | none=>False)
  | _,_,_,_=>False)
 | _=>False
theorem run_store_at {t:Nat} {i:TI} (tok:TOk P t i) (w:World) (b o:Nat) (cur:Array Value) (ty:TypeId) (hg:w.heap[b]?=some (.cells cur ty (0,0))) (v:Value) (hv:v.cells.size=i.size) (h1:∀ u∈v.cells.toList,u.oneCell'=true) (hl:o+i.size≤cur.size) :
  (Instr.storeAt t (.pointer (some ⟨b,o,none⟩)) v).run P w=.ok () (w.setRow b (cur.toList.take o++v.cells.toList++cur.toList.drop (o+v.cells.toList.length)).toArray):=by
 have hst:=run_storeCells_at P b o ty v.cells.toList 0 cur w hg (by simp;omega) h1
 simp only [Nat.add_zero] at hst
 simp only [Instr.storeAt,Instr.sureAddr,Sem.run_bind,Sem.run_pure,Result.andThen_ok,storeVar,tok.sizeOf]
 rw [if_neg (by omega)]
 exact hst
theorem splice_get {us vs:List Value} {off:Nat} (h:off+vs.length≤us.length) (k:Nat):(us.take off++vs++us.drop (off+vs.length))[k]?=if off≤k∧k < off+vs.length then vs[k - off]? else us[k]?:=by
 by_cases hk:k < off
 ·rw [if_neg (by omega),List.append_assoc,List.getElem?_append_left (by simp;omega),List.getElem?_take,if_pos hk]
 ·by_cases hk2:k < off+vs.length
  ·rw [if_pos (by omega),List.append_assoc,List.getElem?_append_right (by simp;omega),List.getElem?_append_left (by simp;omega)]
   congr 1
   simp
   omega
  ·rw [if_neg (by omega),List.getElem?_append_right (by simp;omega),List.getElem?_drop]
   congr 1
   simp
   omega
theorem splice_len {us vs:List Value} {off:Nat} (h:off+vs.length≤us.length):(us.take off++vs++us.drop (off+vs.length)).length=us.length:=by
 simp only [List.length_append,List.length_take,List.length_drop]
 omega
theorem valAt_ext {sh:Option Nat} {us vs:List Value} {i:Nat} (hu:i * wid sh+wid sh≤us.length) (hv:i * wid sh+wid sh≤vs.length) (h:∀ k,i * wid sh≤k→k < i * wid sh+wid sh→us[k]?=vs[k]?):valAt sh us i=valAt sh vs i:=by
 rw [valAt_seg _ _ _ hu,valAt_seg _ _ _ hv]
 congr 1
 apply List.ext_getElem?
 intro k
 rw [List.getElem?_take,List.getElem?_take,List.getElem?_drop,List.getElem?_drop]
 split
 ·exact h _ (by omega) (by omega)
 ·rfl
theorem valAt_ext0 {sh:Option Nat} {us vs:List Value} {i:Nat} (hu:i * wid sh+wid sh≤us.length) (hv:wid sh≤vs.length) (h:∀ k,k < wid sh→us[i * wid sh+k]?=vs[k]?):valAt sh us i=valAt sh vs 0:=by
 rw [valAt_seg _ _ _ hu,valAt_seg sh vs 0 (by omega)]
 congr 1
 apply List.ext_getElem?
 intro k
 rw [List.getElem?_take,List.getElem?_take,List.getElem?_drop,List.getElem?_drop]
 split
 ·rename_i hk
  rw [h k hk,Nat.zero_mul,Nat.zero_add]
 ·rfl
theorem row_write {N:Nat→Prop} {w0 w:World} {X:Nat→Prop} {mem:Mem} {ρ:Env} (m:MRep T N w0 w X mem ρ) {r:Nat} {sh:Option Nat} {el:Nat} {l l':List SV} (hr:getM mem r=.row sh el l) (hl':l'.length=l.length)
  {b off cap:Nat} {cur:Array Value} (hρ:ρ r=some (.slice (some ⟨b,off,none⟩) l.length cap)) (hN:N b) (hg:w.heap[b]?=some (.cells cur el (0,0))) (h5:l.length≤cap) (h6:cap≤maxLen) (h7:off+cap * wid sh≤cur.size) (h0:0 < cap)
  (h9:∀ u∈cur.toList,u.oneCell'=true) (at':Nat) (vs:List Value) (hat:at'+vs.length≤cur.size) (hv1:∀ u∈vs,u.oneCell'=true)
  (hden:∀ (i:Nat) (h:i < l'.length),Den w (Forb X mem ρ) noEnv l'[i] (valAt sh ((cur.toList.take at'++vs++cur.toList.drop (at'+vs.length)).drop off) i)) :
  MRep T N w0 (w.setRow b (cur.toList.take at'++vs++cur.toList.drop (at'+vs.length)).toArray) X (setM (.row sh el l') mem r) ρ ∧
   Turn w (Forb X mem ρ) ρ (w.setRow b (cur.toList.take at'++vs++cur.toList.drop (at'+vs.length)).toArray) (Forb X (setM (.row sh el l') mem r) ρ) ρ none:=by
 refine m.update (w':=w.setRow b (cur.toList.take at'++vs++cur.toList.drop (at'+vs.length)).toArray) hρ (by rw [hr];rfl) (b:=b) (by simp only [vblock];rw [if_neg (by omega)]) ⟨rfl,rfl,rfl,by simp [World.setRow],fun k hk=>setRow_other w b k _ (by omega)⟩ (fun k hk=>setRow_other w b k _ hk) (fun tn=>?_)
 refine ⟨_,rfl,.inr ⟨b,off,cap,_,by rw [hl'],hN,setRow_heap w b cur _ el (0,0) hg,by omega,h6,?_,h0,fun u hu=>?_,fun i hi=>?_⟩⟩
 ·simp only [List.size_toArray]
  rw [splice_len (by rw [Array.length_toList];exact hat),Array.length_toList]
  exact h7
 ·simp only [List.mem_append] at hu
  rcases hu with (hu | hu) | hu
  ·exact h9 u (List.mem_of_mem_take hu)
  ·exact hv1 u hu
  ·exact h9 u (List.mem_of_mem_drop hu)
 ·exact (hden i hi).mono tn.size tn.keep
theorem Sees.row {μ:Nat→Blk} {mem:Mem} (hμ:Sees μ mem) {r:Nat} {B:Blk} (h:μ r=B) (hB:B≠.no):getM mem r=B:=by
 rcases hμ r with g | g
 ·exact absurd (h.symm.trans g) hB
 ·rw [← g];exact h
theorem store_chunk_ok (tys:Types P T) (sz:Sizes T) {o:Oper} {t:Nat} {x vo:Operand} (ho:o.op=.store t x vo) {e:Operand→SV} {μ:Nat→Blk} {i:TI} (ht:T t=some i) {r off:Nat} (hx:e x=.ptr r off) {t':Nat} {y:SV} (hm:μ r=.chunk t' y)
  {κ:SV→List (Nat × Blk)→Prop} (h:if Nat.beq off 0 && Nat.beq t' t && chunkOk i (normNil T t (e vo)) then κ .any [(r,.chunk t (normNil T t (e vo)))] else (match (generalizing:=false) y with
     | .agg l=>(match cellsA (normNil T t (e vo)) with
      | some ys=>if Nat.beq ys.length i.size && Nat.ble (off+ys.length) l.length then κ .any [(r,.chunk t' (.agg (putCells l off ys)))] else False
      | none=>False)
     | _=>False)) :
  ∃ B,κ .any [(r,B)]∧Eff P T o e μ .any [(r,B)] none:=by
 have tok:=tys.ok t i ht
 have base:∀ (mem:Mem),Sees μ mem→∀ (a:Act) (N:Nat→Prop) (w0 w:World) (X:Nat→Prop) (ρ:Env),MRep T N w0 w X mem ρ→(∀ y∈o.op.operands,Den w (Forb X mem ρ) ρ (e y) (a.eval y)) →
   ∃ i' b us ty,T t'=some i'∧ρ r=some (.pointer (some ⟨b,0,none⟩))∧N b∧w.heap[b]?=some (.cells us ty (0,0))∧us.size=i'.size∧(∀ u∈us.toList,u.oneCell'=true)∧Den w (Forb X mem ρ) ρ y (valAt i'.shape us.toList 0) ∧
    a.eval x=.pointer (some ⟨b,off,none⟩)∧Den w (Forb X mem ρ) ρ (normNil T t (e vo)) (a.eval vo):=by
  intro mem hμ a N w0 w X ρ m hd
  have hb:=hμ.blk m r
  rw [hm] at hb
  obtain ⟨i',b,us,ty,h1,h2,h3,h4,h5,h7,h6⟩:=hb.resolve_left (by simp)
  have hdx:=hd x (by simp [ho,Op.operands])
  rw [hx] at hdx
  generalize hev:a.eval x=v at hdx
  cases hdx with
  | ptr _ _ _ b' hb' =>
   have:=hb' _ h2
   simp only [Value.pointer.injEq,Option.some.injEq,Addr.mk.injEq,and_true] at this
   subst this
   exact ⟨i',b,us,ty,h1,h2,h3,h4,h5,h7,h6,rfl,normNil_den (hd vo (by simp [ho,Op.operands]))⟩
 have fin:∀ (mem:Mem),Sees μ mem→∀ (a:Act) (N:Nat→Prop) (w0 w:World) (X:Nat→Prop) (ρ:Env) (m:MRep T N w0 w X mem ρ) (b:Nat) (us new:Array Value) (ty:TypeId) (B:Blk),ρ r=some (.pointer (some ⟨b,0,none⟩))→N b→w.heap[b]?=some (.cells us ty (0,0)) →
   (execOp a.eval o).run P w=.ok .skip (w.setRow b new) →
   (Turn w (Forb X mem ρ) ρ (w.setRow b new) (Forb X (setM B mem r) ρ) ρ none→BlkRep T N (w.setRow b new) (Forb X (setM B mem r) ρ) ρ B (some (.pointer (some ⟨b,0,none⟩)))) →
   ∃ r' u w' ρ',(execOp a.eval o).run P w=.ok r' w'∧(r'=.value u∨(r'=.skip∧SV.any=.any))∧MRep T N w0 w' X (appU [(r,B)] mem) ρ'∧Den w' (Forb X (appU [(r,B)] mem) ρ') ρ' .any u∧Turn w (Forb X mem ρ) ρ w' (Forb X (appU [(r,B)] mem) ρ') ρ' none:=by
  intro mem hμ a N w0 w X ρ m b us new ty B hρ hN hg hr' hB
  obtain ⟨m',t'⟩:=m.update hρ (by rw [hμ.row hm (by simp)];rfl) (b:=b) rfl (w':=w.setRow b new) ⟨rfl,rfl,rfl,by simp [World.setRow],fun k hk=>setRow_other w b k new (by omega)⟩ (fun k hk=>setRow_other w b k new hk) hB
  exact ⟨_,undef,_,ρ,hr',.inr ⟨rfl,rfl⟩,m',.any _ _,t'⟩
 split at h
 ·rename_i hc
  simp only [Bool.and_eq_true] at hc
  have h0:off=0:=Nat.eq_of_beq_eq_true hc.1.1
  have h1:t'=t:=Nat.eq_of_beq_eq_true hc.1.2
  subst h0;subst h1
  refine ⟨_,h,.of_run fun mem hμ _ a N w0 w X ρ m hd=>?_⟩
  obtain ⟨i',b,us,ty,e1,e2,e3,e4,e5,e6,e7,e8,e9⟩:=base mem hμ a N w0 w X ρ m hd
  rw [ht] at e1
  injection e1 with e1
  subst e1
  obtain ⟨c1,c2,c3⟩:=chunk_den (sz.one t' i ht) hc.2 e9
  have hs:=run_store_at tok w b 0 us ty e4 (a.eval vo) c1 c2 (by omega)
  refine fin mem hμ a N w0 w X ρ m b us (us.toList.take 0++(a.eval vo).cells.toList++us.toList.drop (0+(a.eval vo).cells.toList.length)).toArray ty _ e2 e3 e4 (by simp only [execOp,ho,e8,Sem.run_bind,hs,Result.andThen_ok,Sem.run_pure]) (fun tn=>?_)
  have hnew:(us.toList.take 0++(a.eval vo).cells.toList++us.toList.drop (0+(a.eval vo).cells.toList.length))=(a.eval vo).cells.toList:=by
   rw [List.drop_of_length_le (by simp;omega)]
   simp
  rw [hnew] at tn ⊢
  exact ⟨i,b,_,ty,ht,rfl,e3,setRow_heap w b us _ ty (0,0) e4,by simpa using c1,by simpa using c2,by
   have:valAt i.shape ((a.eval vo).cells.toList.toArray).toList 0=a.eval vo:=by simpa using c3
   rw [this]
   exact tn.den (fun _ hr=>by cases hr) e9⟩
 ·split at h <;> try exact h.elim
  rename_i l
  split at h <;> try exact h.elim
  rename_i ys hys
  split at h <;> try exact h.elim
  rename_i hc
  simp only [Bool.and_eq_true] at hc
  have hl1:=Nat.eq_of_beq_eq_true hc.1
  have hl2:=Nat.le_of_ble_eq_true hc.2
  refine ⟨_,h,.of_run fun mem hμ _ a N w0 w X ρ m hd=>?_⟩
  obtain ⟨i',b,us,ty,e1,e2,e3,e4,e5,e6,e7,e8,e9⟩:=base mem hμ a N w0 w X ρ m hd
  obtain ⟨c1,c2⟩:=cellsA_den hys e9
  have hvs:(a.eval vo).cells.size=i.size:=by rw [← hl1,c1.1,Array.length_toList]
  have hsh:∃ n,i'.shape=some n:=by
   cases hs:i'.shape with
   | some n=>exact ⟨n,rfl⟩
   | none =>
    rw [hs] at e7
    obtain ⟨cs,e10,_⟩:=Den.agg_iff.1 e7
    simp only [valAt] at e10
    cases hu:us.toList[0]? with
    | none=>rw [hu] at e10;simp [undef] at e10
    | some u =>
     rw [hu] at e10
     have:=e6 u (List.mem_of_getElem? hu)
     simp only [Option.getD_some] at e10
     rw [e10] at this
     simp [Value.oneCell'] at this
  obtain ⟨n,hn⟩:=hsh
  have hn':n=i'.size:=by
   have:=TI.wid_size (sz.one _ _ e1)
   rw [hn] at this
   exact this.symm
  rw [hn,valAt_some_full (by rw [Array.length_toList];omega)] at e7
  obtain ⟨cs,e10,hcs⟩:=Den.agg_iff.1 e7
  injection e10 with e10
  injection e10 with e10
  subst e10
  have hul:us.size=l.length:=by rw [← Array.length_toList,← hcs.1]
  have hcl:(a.eval vo).cells.toList.length=ys.length:=c1.1.symm
  have hfit:off+(a.eval vo).cells.toList.length≤us.toList.length:=by rw [hcl,Array.length_toList (xs:=us)];omega
  have hs:=run_store_at tok w b off us ty e4 (a.eval vo) hvs c2 (by omega)
  refine fin mem hμ a N w0 w X ρ m b us (us.toList.take off++(a.eval vo).cells.toList++us.toList.drop (off+(a.eval vo).cells.toList.length)).toArray ty _ e2 e3 e4 (by simp only [execOp,ho,e8,Sem.run_bind,hs,Result.andThen_ok,Sem.run_pure]) (fun tn=>?_)
  have hlen:=splice_len hfit
  refine ⟨i',b,_,ty,e1,rfl,e3,setRow_heap w b us _ ty (0,0) e4,by simp only [List.size_toArray];rw [hlen,Array.length_toList,e5],fun u hu=>?_,?_⟩
  ·simp only [List.mem_append] at hu
   rcases hu with (hu | hu) | hu
   ·exact e6 u (List.mem_of_mem_take hu)
   ·exact c2 u hu
   ·exact e6 u (List.mem_of_mem_drop hu)
  ·rw [hn,valAt_some_full (by rw [hlen,Array.length_toList];omega)]
   refine Den.agg_iff.2 ⟨_,rfl,⟨by rw [putCells_length,hlen,Array.length_toList (xs:=us),hul],fun k z u hz hu=>?_⟩⟩
   rw [putCells_get _ _ _ _ hl2] at hz
   rw [splice_get hfit,hcl] at hu
   split at hz
   ·rename_i hk
    rw [if_pos hk] at hu
    exact tn.den (fun _ hr=>by cases hr) (c1.2 _ _ _ hz hu)
   ·rename_i hk
    rw [if_neg hk] at hu
    exact tn.den (fun _ hr=>by cases hr) (hcs.2 _ _ _ hz hu)
theorem Sees.rowAt {μ:Nat→Blk} {mem:Mem} (hμ:Sees μ mem) {N:Nat→Prop} {w0 w:World} {X:Nat→Prop} {ρ:Env} (m:MRep T N w0 w X mem ρ) {r:Nat} {sh:Option Nat} {el:Nat} {l:List SV} (h:μ r=.row sh el l) :
  ∃ v,ρ r=some v∧getM mem r=.row sh el l∧((∃ a,v=.slice a 0 0∧l=[])∨∃ b off cap cur,v=.slice (some ⟨b,off,none⟩) l.length cap∧N b∧w.heap[b]?=some (.cells cur el (0,0)) ∧
   l.length≤cap∧cap≤maxLen∧off+cap * wid sh≤cur.size∧0 < cap∧(∀ u∈cur.toList,u.oneCell'=true)∧∀ (i:Nat) (h:i < l.length),Den w (Forb X mem ρ) noEnv l[i] (valAt sh (cur.toList.drop off) i)):=by
 have hg:=hμ.row h (by simp)
 have hb:=m.blk r
 rw [hg] at hb
 obtain ⟨v,h1,h2⟩:=hb
 exact ⟨v,h1,hg,h2⟩
theorem store_row_ok (tys:Types P T) {o:Oper} {t:Nat} {x vo:Operand} (ho:o.op=.store t x vo) {e:Operand→SV} {μ:Nat→Blk} {i:TI} (ht:T t=some i) {r off j:Nat} {sh s:Option Nat} (hx:e x=.rptr r sh j off) {el:Nat} {l:List SV} (hm:μ r=.row s el l)
  (hs:s=sh) (hnr:noref r (e vo)=true) {y:SV} (hy:view T μ t (e vo)=some y) {l':List SV} (hl':l'.length=l.length)
  (hnew:∀ (w:World) (Y:Nat→Prop) (us:List Value) (v:Value),Den w Y noEnv y v→us.length=l.length * wid sh→(∀ u∈us,u.oneCell'=true)→(∀ (i:Nat) (h:i < l.length),Den w Y noEnv l[i] (valAt sh us i)) →
    j < l.length∧v.cells.size=i.size∧(∀ u∈v.cells.toList,u.oneCell'=true)∧off+i.size≤wid sh ∧
    ∀ (us':List Value),us'.length=us.length→(∀ k,us'[k]?=if j * wid sh+off≤k∧k < j * wid sh+off+i.size then v.cells.toList[k - (j * wid sh+off)]? else us[k]?)→∀ (i:Nat) (h:i < l'.length),Den w Y noEnv l'[i] (valAt sh us' i)) :
  Eff P T o e μ .any (frzU μ (rids (e vo))++[(r,.row s el l')]) none:=by
 subst hs
 have tok:=tys.ok t i ht
 refine .of_run fun mem hμ _ a N w0 w X ρ m hd=>?_
 have fz:=freeze_ids hμ m (rids (e vo))
 have hr1:r ∉ rids (e vo):=fun hr=>by rw [rids_noref hr] at hnr;cases hnr
 obtain ⟨v,hv,hg,hcase⟩:=hμ.rowAt m hm
 have hg':getM (appU (frzU μ (rids (e vo))) mem) r=.row s el l:=by
  rcases fz.old r with h | h
  ·rw [h];exact hg
  ·exact absurd h.1 hr1
 have hden:=fz.view (T:=T) (t:=t) (fun r h=>h) hy (hd vo (by simp [ho,Op.operands]))
 have hdx:=hd x (by simp [ho,Op.operands])
 rw [hx] at hdx
 rcases hcase with ⟨a0,rfl,rfl⟩ | ⟨b,o1,cap,cur,rfl,hN,hh,h5,h6,h7,h0,h9,h8⟩
 ·exfalso
  have:=(hnew w _ [] (a.eval vo) hden (by simp) (by simp) (fun i h=>by simp at h)).1
  simp at this
 have hcl:cur.toList.length=cur.size:=Array.length_toList
 have hle5:l.length * wid s≤cap * wid s:=Nat.mul_le_mul_right _ h5
 obtain ⟨hj,c1,c2,hoff,hres⟩:=hnew w _ ((cur.toList.drop o1).take (l.length * wid s)) (a.eval vo) hden (by rw [List.length_take,List.length_drop];omega) (fun u hu=>h9 u (List.mem_of_mem_drop (List.mem_of_mem_take hu))) (fun i hi=>by
  rw [valAt_take s _ l.length i hi (by rw [List.length_drop];omega)]
  exact (h8 i hi).mono fz.t.size fz.t.keep)
 have hlej:j * wid s+wid s≤l.length * wid s:=by rw [← Nat.succ_mul];exact Nat.mul_le_mul_right _ hj
 have hvl:(a.eval vo).cells.toList.length=i.size:=by rw [Array.length_toList,c1]
 have hev:a.eval x=.pointer (some ⟨b,o1+j * wid s+off,none⟩):=by
  generalize hq:a.eval x=q at hdx
  cases hdx with
  | rptr _ _ _ _ _ b' o' hb' =>
   obtain ⟨len,cap',e2⟩:=hb' _ hv
   simp only [Value.slice.injEq,Option.some.injEq,Addr.mk.injEq,and_true] at e2
   obtain ⟨⟨rfl,rfl⟩,_,_⟩:=e2
   rfl
 have hs:=run_store_at tok w b (o1+j * wid s+off) cur el hh (a.eval vo) c1 c2 (by omega)
 have hfit:o1+j * wid s+off+(a.eval vo).cells.toList.length≤cur.toList.length:=by omega
 obtain ⟨m',t'⟩:=row_write (l':=l') fz.m hg' hl' hv hN hh h5 h6 h7 h0 h9 (o1+j * wid s+off) (a.eval vo).cells.toList (by omega) c2 (fun k hk=>by
  have:=hres (((cur.toList.take (o1+j * wid s+off)++(a.eval vo).cells.toList++cur.toList.drop (o1+j * wid s+off+(a.eval vo).cells.toList.length)).drop o1).take (l.length * wid s)) (by
   rw [List.length_take,List.length_drop,splice_len hfit,List.length_take,List.length_drop]) (fun q=>by
   rw [List.getElem?_take,List.getElem?_drop,splice_get hfit,List.getElem?_take,List.getElem?_drop,hvl]
   by_cases hq:q < l.length * wid s
   ·rw [if_pos hq,if_pos hq]
    by_cases hq2:j * wid s+off≤q∧q < j * wid s+off+i.size
    ·rw [if_pos (by omega),if_pos hq2]
     congr 1
     omega
    ·rw [if_neg (by omega),if_neg hq2]
   ·rw [if_neg hq,if_neg hq,if_neg (by omega)]) k hk
  rw [valAt_take s _ l.length k (by omega) (by rw [List.length_drop,splice_len hfit];omega)] at this
  exact this)
 refine ⟨_,undef,_,ρ,?_,.inr ⟨rfl,rfl⟩,by rw [appU_append];exact m',.any _ _,by rw [appU_append];exact fz.t.trans t'⟩
 simp only [execOp,ho,hev,Sem.run_bind,hs,Result.andThen_ok,Sem.run_pure]
theorem setL_length (l:List SV) (i:Nat) (y:SV):(setL l i y).length=l.length:=by simp [setL]
theorem setL_get (l:List SV) (j:Nat) (y:SV) (i:Nat) (h:i < (setL l j y).length):(setL l j y)[i]=if j=i then y else l[i]'(by simpa [setL] using h):=by
 simp only [setL,List.getElem_set]
theorem elem_write (sz:Sizes T) {t:Nat} {i:TI} (ht:T t=some i) {sh:Option Nat} (hsh:sh=i.shape) {y:SV} (hc:chunkOk i y=true) {l:List SV} {j:Nat} (hj:j < l.length) (w:World) (Y:Nat→Prop) (us:List Value) (v:Value) (hd:Den w Y noEnv y v)
  (hus:us.length=l.length * wid sh) (hl:∀ (i:Nat) (h:i < l.length),Den w Y noEnv l[i] (valAt sh us i)) :
  j < l.length∧v.cells.size=i.size∧(∀ u∈v.cells.toList,u.oneCell'=true)∧0+i.size≤wid sh ∧
   ∀ (us':List Value),us'.length=us.length→(∀ k,us'[k]?=if j * wid sh+0≤k∧k < j * wid sh+0+i.size then v.cells.toList[k - (j * wid sh+0)]? else us[k]?)→∀ (q:Nat) (h:q < (setL l j y).length),Den w Y noEnv (setL l j y)[q] (valAt sh us' q):=by
 obtain ⟨c1,c2,c3⟩:=chunk_den (sz.one t i ht) hc hd
 have hw:=TI.wid_size (sz.one t i ht)
 rw [← hsh] at hw
 refine ⟨hj,c1,c2,by omega,fun us' hl' hg q hq=>?_⟩
 have hq':q < l.length:=by rwa [setL_length] at hq
 have hle:q * wid sh+wid sh≤us'.length:=by rw [hl',hus,← Nat.succ_mul];exact Nat.mul_le_mul_right _ hq'
 have hvl:v.cells.toList.length=i.size:=by rw [Array.length_toList,c1]
 rw [setL_get]
 by_cases hjq:j=q
 ·subst hjq
  rw [if_pos rfl,valAt_ext0 hle (vs:=v.cells.toList) (by omega) (fun k hk=>by rw [hg,if_pos (by omega)];congr 1;omega),hsh,c3]
  exact hd
 ·rw [if_neg hjq]
  have hsep:q * wid sh+wid sh≤j * wid sh∨j * wid sh+wid sh≤q * wid sh:=by
   rcases Nat.lt_or_gt_of_ne hjq with h | h
   ·right;rw [← Nat.succ_mul];exact Nat.mul_le_mul_right _ h
   ·left;rw [← Nat.succ_mul];exact Nat.mul_le_mul_right _ h
  rw [valAt_ext hle (vs:=us) (by omega) (fun k h1 h2=>by rw [hg,if_neg (by omega)])]
  exact hl q hq'
theorem part_write {sh:Option Nat} {n:Nat} {y:SV} {ys c:List SV} (hys:cellsA y=some ys) (hn:ys.length=n) {l:List SV} {j off:Nat} (hlj:l[j]?=some (.agg c)) (hoc:off+ys.length≤c.length) (w:World) (Y:Nat→Prop) (us:List Value) (v:Value) (hd:Den w Y noEnv y v)
  (hus:us.length=l.length * wid sh) (hl:∀ (i:Nat) (h:i < l.length),Den w Y noEnv l[i] (valAt sh us i)) (hone:∀ u∈us,u.oneCell'=true) :
  j < l.length∧v.cells.size=n∧(∀ u∈v.cells.toList,u.oneCell'=true)∧off+n≤wid sh ∧
   ∀ (us':List Value),us'.length=us.length→(∀ k,us'[k]?=if j * wid sh+off≤k∧k < j * wid sh+off+n then v.cells.toList[k - (j * wid sh+off)]? else us[k]?)→∀ (q:Nat) (h:q < (setL l j (.agg (putCells c off ys))).length),Den w Y noEnv (setL l j (.agg (putCells c off ys)))[q] (valAt sh us' q):=by
 obtain ⟨hj,hlj'⟩:=List.getElem?_eq_some_iff.1 hlj
 obtain ⟨k1,k2⟩:=cellsA_den hys hd
 have hvl:v.cells.toList.length=n:=by rw [← k1.1,hn]
 have hdj:=hl j hj
 rw [hlj'] at hdj
 obtain ⟨cs,hcs,hdc⟩:=Den.agg_iff.1 hdj
 have hlej:j * wid sh+wid sh≤us.length:=by rw [hus,← Nat.succ_mul];exact Nat.mul_le_mul_right _ hj
 have hsome:∃ m,sh=some m:=by
  cases sh with
  | some m=>exact ⟨m,rfl⟩
  | none =>
   simp only [valAt] at hcs
   have hlt:j < us.length:=by simp [wid] at hlej;omega
   rw [List.getElem?_eq_getElem hlt] at hcs
   have:=hone _ (List.getElem_mem hlt)
   simp only [Option.getD_some] at hcs
   rw [hcs] at this
   simp [Value.oneCell'] at this
 obtain ⟨m,rfl⟩:=hsome
 simp only [wid] at *
 have hcs':cs=(us.drop (j * m)).take m:=by
  simp only [valAt] at hcs
  injection hcs with hcs
  injection hcs with hcs
  exact hcs.symm
 have hcl:c.length=m:=by rw [hdc.1,hcs',List.length_take,List.length_drop];omega
 refine ⟨hj,by rw [← Array.length_toList];exact hvl,k2,by omega,fun us' hl' hg q hq=>?_⟩
 have hq':q < l.length:=by rwa [setL_length] at hq
 have hle:q * m+m≤us'.length:=by rw [hl',hus,← Nat.succ_mul];exact Nat.mul_le_mul_right _ hq'
 rw [setL_get]
 have hgi:∀ k,j * m+off≤k→k < j * m+off+n→us'[k]?=v.cells.toList[k - (j * m+off)]?:=fun k a b=>(hg k).trans (if_pos ⟨a,b⟩)
 have hgo:∀ k,¬ (j * m+off≤k∧k < j * m+off+n)→us'[k]?=us[k]?:=fun k a=>(hg k).trans (if_neg a)
 by_cases hjq:j=q
 ·subst hjq
  rw [if_pos rfl]
  refine Den.agg_iff.2 ⟨_,rfl,⟨by rw [putCells_length,hcl,List.length_take,List.length_drop];omega,fun k z u hz hu=>?_⟩⟩
  rw [putCells_get _ _ _ _ hoc] at hz
  rw [List.getElem?_take,List.getElem?_drop] at hu
  split at hu
  case isFalse=>cases hu
  rename_i hk
  split at hz
  ·rename_i hk2
   rw [hgi _ (by omega) (by omega)] at hu
   exact k1.2 (k - off) z u hz (by rw [← hu];congr 1;omega)
  ·rename_i hk2
   rw [hgo _ (by omega)] at hu
   refine hdc.2 k z u hz ?_
   rw [hcs',List.getElem?_take,if_pos hk,List.getElem?_drop]
   exact hu
 ·rw [if_neg hjq]
  have hsep:q * m+m≤j * m∨j * m+m≤q * m:=by
   rcases Nat.lt_or_gt_of_ne hjq with h | h
   ·right;rw [← Nat.succ_mul];exact Nat.mul_le_mul_right _ h
   ·left;rw [← Nat.succ_mul];exact Nat.mul_le_mul_right _ h
  rw [valAt_ext (sh:=some m) hle (vs:=us) (by simp only [wid];omega) (fun k h1 h2=>by simp only [wid] at h1 h2;exact hgo k (by omega))]
  exact hl q hq'
theorem src_den {μ:Nat→Blk} {mem:Mem} (hμ:Sees μ mem) {N:Nat→Prop} {w0 w:World} {X:Nat→Prop} {ρ:Env} (m:MRep T N w0 w X mem ρ) {sh:Option Nat} {x:SV} {ys:List SV} (h:srcOf μ sh x=some ys) {v:Value} (hd:Den w (Forb X mem ρ) ρ x v) :
  Src P w (Forb X mem ρ) sh ys v:=by
 cases x with
 | str s =>
  simp only [srcOf] at h
  cases sh with
  | none=>injection h with h;subst h;rw [Den.str_iff.1 hd,O.by_eq];exact .of_string s
  | some _=>cases h
 | _=>exact .of_slice (listOf_den hμ m (by simpa only [srcOf] using h) hd)
theorem isSrc_und (tys:Types P T) {t:Nat} (h:isSrc (T t)=true):∃ d,P.underlying t=some d∧(d=.string∨∃ e,d=.slice e):=by
 unfold isSrc at h
 cases ht:T t with
 | none=>rw [ht] at h;cases h
 | some i =>
  rw [ht] at h
  simp only at h
  cases hk:i.kind with
  | slice e=>exact ⟨_,(tys.ok t i ht).und_slice hk,.inr ⟨e,rfl⟩⟩
  | string=>exact ⟨_,(tys.ok t i ht).und_string hk,.inl rfl⟩
  | _=>rw [hk] at h;cases h
theorem rowAt_rep {w w':World} {Y Y':Nat→Prop} {N:Nat→Prop} {e:TypeId} {sh:Option Nat} {v:Value} {l ys:List SV} {cs us:List Value} {old:Option Nat} {sz:Nat} (h:RowAt w' e sh v (l.length+ys.length) (cs++us) old sz)
  (hN:∀ b,(sz≤b∨old=some b)→N b) (hc:cs.length=l.length * wid sh) (hu:us.length=ys.length * wid sh) (hs:w.heap.size≤w'.heap.size) (hk:∀ b,b < w.heap.size→¬ Y b→¬ Y' b∧w'.heap[b]?=w.heap[b]?)
  (hcd:∀ (i:Nat) (h:i < l.length),Den w Y noEnv l[i] (valAt sh cs i)) (hud:∀ (i:Nat) (h:i < ys.length),Den w Y noEnv ys[i] (valAt sh us i)) (T:Nat→Option TI) (ρ:Env) :
  BlkRep T N w' Y' ρ (.row sh e (l++ys)) (some v):=by
 refine ⟨v,rfl,?_⟩
 rcases h with ⟨a,rfl,h1,h2⟩ | ⟨b,off,cap,cur,rfl,h1,h2,h3,h4,h5,h6,h7,h8⟩
 ·exact .inl ⟨a,rfl,List.eq_nil_of_length_eq_zero (by rw [List.length_append];omega)⟩
 ·have hcl:cur.toList.length=cur.size:=Array.length_toList
  have hle:(l.length+ys.length) * wid sh≤cap * wid sh:=Nat.mul_le_mul_right _ h3
  have hm:(l.length+ys.length) * wid sh=l.length * wid sh+ys.length * wid sh:=Nat.add_mul _ _ _
  refine .inr ⟨b,off,cap,cur,by rw [List.length_append],hN b h1,h2,by rw [List.length_append];exact h3,h4,h5,h6,h7,fun i hi=>?_⟩
  rw [List.length_append] at hi
  have hi1:i * wid sh+wid sh≤(l.length+ys.length) * wid sh:=by rw [← Nat.succ_mul];exact Nat.mul_le_mul_right _ hi
  rw [← valAt_take sh (cur.toList.drop off) (l.length+ys.length) i hi (by rw [List.length_drop];omega),h8]
  by_cases hil:i < l.length
  ·have hi2:i * wid sh+wid sh≤l.length * wid sh:=by rw [← Nat.succ_mul];exact Nat.mul_le_mul_right _ hil
   rw [List.getElem_append_left hil,valAt_ext (vs:=cs) (by rw [List.length_append];omega) (by omega) (fun k _ hk=>List.getElem?_append_left (by omega))]
   exact (hcd i hil).mono hs hk
  ·rw [List.getElem_append_right (by omega)]
   have hj:i - l.length < ys.length:=by omega
   have hi3:(i - l.length) * wid sh+wid sh≤ys.length * wid sh:=by rw [← Nat.succ_mul];exact Nat.mul_le_mul_right _ hj
   have hi4:i * wid sh=l.length * wid sh+(i - l.length) * wid sh:=by rw [← Nat.add_mul];congr 1;omega
   have:valAt sh (cs++us) i=valAt sh us (i - l.length):=by
    rw [valAt_seg sh (cs++us) i (by rw [List.length_append];omega),valAt_seg sh us _ (by omega)]
    congr 1
    apply List.ext_getElem?
    intro k
    rw [List.getElem?_take,List.getElem?_take,List.getElem?_drop,List.getElem?_drop]
    split
    ·rw [List.getElem?_append_right (by omega)]
     congr 1
     omega
    ·rfl
   rw [this]
   exact (hud _ hj).mono hs hk
theorem append_ok (tys:Types P T) (sz:Sizes T) {o:Oper} {cl:Call} (hc:cl.callee=.builtin .append) (ho:o.op=.call cl) {d:Nat} {e:Operand→SV} {μ:Nat→Blk} {κ:SV→List (Nat × Blk)→Prop} (h:wval T (some d) (.call cl) e μ κ) :
  ∃ x U,κ x U∧(∀ q b,(q,b)∈U→q=d∨(μ q).own=true)∧Eff P T o e μ x U (some d):=by
 obtain ⟨cal,args,ats⟩:=cl
 simp only at hc
 subst hc
 simp only [wval,O.hln,apL_eq,O.st_eq,O.hcp] at h
 split at h <;> try exact h.elim
 case h_2=>cases ‹Callee.builtin Builtin.append=Callee.builtin Builtin.copy›
 rename_i t t2 s x dd _ hat har hdd
 injection hdd with hdd
 subst hdd
 obtain rfl:args=#[s,x]:=by apply Array.ext';simpa using har
 obtain rfl:ats=#[t,t2]:=by apply Array.ext';simpa using hat
 split at h <;> try exact h.elim
 rename_i i ht
 split at h <;> try exact h.elim
 rename_i el hk
 split at h <;> try exact h.elim
 rename_i j hj
 split at h <;> try exact h.elim
 rename_i hck
 simp only [Bool.and_eq_true,Bool.not_eq_true'] at hck
 split at h <;> try exact h.elim
 rename_i q l ys hbase hsrc
 obtain ⟨hlen,h⟩:=h
 have ti:=tys.ok t i ht
 have tj:=tys.ok el j hj
 have hw:=TI.wid_size (sz.one _ _ hj)
 have hpos:0 < wid j.shape:=by
  rcases Nat.eq_zero_or_pos (wid j.shape) with h0 | h0
  ·rw [hw,h0] at hck;simp at hck
  ·exact h0
 have hbp:0 < j.bytes:=by
  rcases Nat.eq_zero_or_pos j.bytes with h0 | h0
  ·rw [h0] at hck;simp at hck
  ·exact h0
 have hlen':(l.length+ys.length) * j.bytes≤140737488355328:=by
  have:(((l.length+ys.length) * j.bytes:Nat):Int)≤140737488355328:=by rw [Int.natCast_mul,Int.natCast_add];exact hlen
  omega
 have hmax:l.length+ys.length≤maxLen:=by
  have:l.length+ys.length≤(l.length+ys.length) * j.bytes:=Nat.le_mul_of_pos_right _ hbp
  simp only [maxLen];omega
 obtain ⟨ji,j1,j2,j3⟩:=tj.inf
 obtain ⟨z,z1,z2,z3,z4,z5⟩:=tj.zero
 have hz:ji.zero=some z:=by rw [j1] at z1;simpa using z1
 obtain ⟨d2,hd2,hd2'⟩:=isSrc_und tys hck.1.1
 have hexec:∀ (a:Act),execOp a.eval o=(do let v ← Builtin.append_ #[t,t2] o.type #[a.eval s,a.eval x];pure (.value v)):=by
  intro a
  simp [execOp,ho,resolve,invoke,builtin]
 have go:∀ (mem:Mem),Sees μ mem→∀ (a:Act) (N:Nat→Prop) (w0 w:World) (X:Nat→Prop) (ρ:Env),MRep T N w0 w X mem ρ→(∀ y∈o.op.operands,Den w (Forb X mem ρ) ρ (e y) (a.eval y)) →
   ∀ (old:Option Nat) (cs:List Value),RowAt w el j.shape (a.eval s) l.length cs old w.heap.size→cs.length=l.length * wid j.shape→(∀ (i:Nat) (h:i < l.length),Den w (Forb X mem ρ) noEnv l[i] (valAt j.shape cs i))→(∀ b,old=some b→N b) →
   ∃ v' w' us,(execOp a.eval o).run P w=.ok (.value v') w'∧BelowW N w w'∧(∀ k,k < w.heap.size→old≠some k→w'.heap[k]?=w.heap[k]?)∧RowAt w' el j.shape v' (l.length+ys.length) (cs++us) old w.heap.size ∧
    us.length=ys.length * wid j.shape∧(∀ (i:Nat) (h:i < ys.length),Den w (Forb X mem ρ) noEnv ys[i] (valAt j.shape us i)):=by
  intro mem hμ a N w0 w X ρ m hd old cs hrow hcl hcd hold
  obtain ⟨us,u1,u2,u3,u4,u5⟩:=(src_den (P:=P) hμ m hsrc (hd x (by simp [ho,Op.operands,Call.operands]))).h
  obtain ⟨v',w',hr,g1,g2,g3,g4,g5,g6⟩:=run_append_row w t t2 o.type el d2 ji z j.shape (ti.und_slice hk) hd2 hd2' j1 hz (by rw [j2,hw]) (by rw [z3,j2]) z4 hpos (a.eval s) l.length ys.length cs us old hrow (a.eval x) u2 u1 u4
   (fun w' hw'=>by have:=u5 w' ys.length hw' (Nat.le_refl _);rwa [List.take_of_length_le (by rw [u1];exact Nat.le_refl _)] at this) (by rw [j3];exact hlen') hmax
  refine ⟨v',w',us,by rw [hexec];simp [hr],⟨g1,g2,g3,g4,fun k hk hN=>g5 k hk (fun e=>hN (hold k e))⟩,g5,g6,u1,u3⟩
 have hB:∀ (v':Value) (w':World) (cs us:List Value) (old:Option Nat) (sz:Nat),RowAt w' el j.shape v' (l.length+ys.length) (cs++us) old sz→∀ b,vblock v'=some b→(sz≤b∨old=some b)∧b < w'.heap.size:=by
  intro v' w' cs us old sz hrow b hb
  rcases hrow with ⟨a,rfl,_⟩ | ⟨b',off,cap,cur,rfl,k1,k2,_⟩
  ·cases a <;> simp [vblock] at hb
  ·simp only [vblock] at hb
   split at hb
   ·cases hb
   ·injection hb with hb;subst hb;exact ⟨k1,heap_lt k2⟩
 cases hs:e s with
 | nil =>
  rw [hs] at hbase
  simp only [baseOf] at hbase
  injection hbase with hbase
  injection hbase with hq hl
  subst hq;subst hl
  refine ⟨_,_,h,(fun q b hq=>by simp at hq;exact .inl hq.1),.of_run fun mem hμ hcr a N w0 w X ρ m hd=>?_⟩
  obtain ⟨hno,hnr,_⟩:=hcr d rfl
  have hds:=hd s (by simp [ho,Op.operands,Call.operands])
  rw [hs] at hds
  have hrow:RowAt w el j.shape (a.eval s) ([]:List SV).length [] none w.heap.size:=by
   generalize a.eval s=v at hds
   cases hds
   exact .inl ⟨none,rfl,rfl,rfl⟩
  obtain ⟨v',w',us,hr,hbel,hkeep,hrow',u1,u3⟩:=go mem hμ a N w0 w X ρ m hd none [] hrow (by simp) (fun i h=>by simp at h) (fun b h=>by cases h)
  have hbel':Below w.heap.size w w':=⟨hbel.os,hbel.tape,hbel.output,hbel.size,fun k hk=>hkeep k hk (by simp)⟩
  obtain ⟨m',t'⟩:=m.create (w':=w') hno hnr (B:=.row j.shape el ([]++ys)) (v:=v') (fun b hb=>by
   obtain ⟨k1,k2⟩:=hB v' w' [] us none _ hrow' b hb
   exact ⟨k1.resolve_right (by simp),k2⟩) hbel' (fun tn=>rowAt_rep (l:=[]) hrow' (fun b hb=>m.szN b (hb.resolve_right (by simp))) (by simp) u1 hbel.size tn.keep (fun i h=>by simp at h) u3 T _)
  refine ⟨_,v',w',_,hr,.inl rfl,m',?_,t'⟩
  rcases hrow' with ⟨a',rfl,_⟩ | ⟨b',off,cap,cur,rfl,_⟩
  ·exact .row _ d _ _ _ fun q hq=>by simp only [upd,if_true] at hq;injection hq with hq;exact hq.symm
  ·exact .row _ d _ _ _ fun q hq=>by simp only [upd,if_true] at hq;injection hq with hq;exact hq.symm
 | row q0 =>
  rw [hs] at hbase
  simp only [baseOf] at hbase
  cases hm:μ q0 with
  | row s' e' l' =>
   rw [hm] at hbase
   simp only at hbase
   split at hbase
   case isFalse=>cases hbase
   rename_i hse
   simp only [Bool.and_eq_true] at hse
   have hs1:=shEq_eq hse.1
   have hs2:e'=el:=Nat.eq_of_beq_eq_true hse.2
   injection hbase with hbase
   injection hbase with hq hl
   subst hq;subst hl;subst hs1;subst hs2
   refine ⟨_,_,h,(fun q b hq=>by
    simp only [List.singleton_append,List.mem_cons,Prod.mk.injEq,List.not_mem_nil,or_false] at hq
    rcases hq with hq | hq
    ·rw [hq.1];exact .inr (by rw [hm];rfl)
    ·exact .inl hq.1),.of_run fun mem hμ hcr a N w0 w X ρ m hd=>?_⟩
   obtain ⟨hno,hnr,hnrefs⟩:=hcr d rfl
   have hqd:q0≠d:=by
    have:=hnrefs s (by simp [ho,Op.operands,Call.operands])
    rw [hs] at this
    rintro rfl
    simp [noref] at this
   have hds:=hd s (by simp [ho,Op.operands,Call.operands])
   rw [hs] at hds
   obtain ⟨v,hv,hg,hcase⟩:=hμ.rowAt m hm
   have hev:a.eval s=v:=by
    generalize a.eval s=v' at hds
    cases hds with
    | row _ _ _ _ _ hr=>exact (hr _ hv).symm
   have hrow:∃ cs,RowAt w e' j.shape (a.eval s) l'.length cs (vblock v) w.heap.size∧cs.length=l'.length * wid j.shape∧(∀ (i:Nat) (h:i < l'.length),Den w (Forb X mem ρ) noEnv l'[i] (valAt j.shape cs i))∧(∀ b,vblock v=some b→N b):=by
    rw [hev]
    rcases hcase with ⟨a0,rfl,rfl⟩ | ⟨b,off,cap,cur,rfl,k1,k2,k3,k4,k5,k6,k7,k8⟩
    ·exact ⟨[],.inl ⟨a0,rfl,rfl,rfl⟩,by simp,(fun i h=>by simp at h),fun b hb=>by cases a0 <;> simp [vblock] at hb⟩
    ·have hcl:cur.toList.length=cur.size:=Array.length_toList
     have hle:l'.length * wid j.shape≤cap * wid j.shape:=Nat.mul_le_mul_right _ k3
     have hvb:vblock (.slice (some ⟨b,off,none⟩) l'.length cap)=some b:=by simp only [vblock];rw [if_neg (by omega)]
     refine ⟨(cur.toList.drop off).take (l'.length * wid j.shape),.inr ⟨b,off,cap,cur,rfl,.inr hvb,k2,k3,k4,k5,k6,k7,rfl⟩,by rw [List.length_take,List.length_drop];omega,fun i hi=>?_,fun b' hb'=>?_⟩
     ·rw [valAt_take _ _ l'.length i hi (by rw [List.length_drop];omega)]
      exact k8 i hi
     ·rw [hvb] at hb';injection hb' with hb';rw [← hb'];exact k1
   obtain ⟨cs,hrow,hcl,hcd,hold⟩:=hrow
   obtain ⟨v',w',us,hr,hbel,hkeep,hrow',u1,u3⟩:=go mem hμ a N w0 w X ρ m hd (vblock v) cs hrow hcl hcd hold
   obtain ⟨m',t'⟩:=m.move (q:=q0) (d:=d) (w':=w') (by rw [hg];rfl) hv hqd hno hnr (B:=.row j.shape e' (l'++ys)) (v:=v') hbel (fun b hb hne=>hkeep b hb hne) (fun b hb=>by
    obtain ⟨k1,k2⟩:=hB v' w' cs us _ _ hrow' b hb
    rcases k1 with k1 | k1
    ·exact .inl ⟨k1,k2⟩
    ·exact .inr k1) (fun tn=>rowAt_rep hrow' (fun b hb=>hb.elim (m.szN b) (hold b)) hcl u1 hbel.size tn.keep hcd u3 T _)
   refine ⟨_,v',w',_,hr,.inl rfl,m',?_,t'⟩
   rcases hrow' with ⟨a',rfl,_⟩ | ⟨b',off,cap,cur,rfl,_⟩
   ·exact .row _ d _ _ _ fun q hq=>by simp only [if_true] at hq;injection hq with hq;exact hq.symm
   ·exact .row _ d _ _ _ fun q hq=>by simp only [if_true] at hq;injection hq with hq;exact hq.symm
  | _=>rw [hm] at hbase;cases hbase
 | rsl q0 s2 ra rn rc =>
  rw [hs] at hbase
  simp only [baseOf] at hbase
  cases hm:μ q0 with
  | row s' e' l' =>
   rw [hm] at hbase
   simp only at hbase
   split at hbase
   case isFalse=>cases hbase
   rename_i hse
   simp only [Bool.and_eq_true] at hse
   have hs1:=shEq_eq hse.1.1
   have hs2:e'=el:=Nat.eq_of_beq_eq_true hse.1.2
   have hs3:=shEq_eq hse.2
   injection hbase with hbase
   injection hbase with hq hl
   subst hq;subst hl;subst hs1;subst hs2;subst hs3
   refine ⟨_,_,h,(fun q b hq=>by
    simp only [List.singleton_append,List.mem_cons,Prod.mk.injEq,List.not_mem_nil,or_false] at hq
    rcases hq with hq | hq
    ·rw [hq.1];exact .inr (by rw [hm];rfl)
    ·exact .inl hq.1),.of_run fun mem hμ hcr a N w0 w X ρ m hd=>?_⟩
   obtain ⟨hno,hnr,hnrefs⟩:=hcr d rfl
   have hqd:q0≠d:=by
    have:=hnrefs s (by simp [ho,Op.operands,Call.operands])
    rw [hs] at this
    rintro rfl
    simp [noref] at this
   have hds:=hd s (by simp [ho,Op.operands,Call.operands])
   rw [hs] at hds
   obtain ⟨v,hv,hg,hcase⟩:=hμ.rowAt m hm
   have hrow:∃ cs old,RowAt w e' j.shape (a.eval s) (O.sg l' ra rn).length cs old w.heap.size∧cs.length=(O.sg l' ra rn).length * wid j.shape∧(∀ (i:Nat) (h:i < (O.sg l' ra rn).length),Den w (Forb X mem ρ) noEnv (O.sg l' ra rn)[i] (valAt j.shape cs i))∧(old=none∨old=vblock v)∧(∀ b,old=some b→N b):=by
    have hsg:∀ L,O.sg l' ra rn=L→∃ cs old,RowAt w e' j.shape (a.eval s) L.length cs old w.heap.size∧cs.length=L.length * wid j.shape∧(∀ (i:Nat) (h:i < L.length),Den w (Forb X mem ρ) noEnv L[i] (valAt j.shape cs i))∧(old=none∨old=vblock v)∧(∀ b,old=some b→N b):=by
     intro L hL
     rw [O.hsg] at hL
     subst hL
     generalize hva:a.eval s=va at hds
     cases hds with
     | rsl _ _ _ _ _ _ x cc hcc hr =>
      obtain ⟨x0,len,cap0,e1,e2,e3,_,_,e6⟩:=(hr _ hv).resolve_right (by rintro ⟨_,h,_⟩;rcases hcase with ⟨_,rfl,_⟩ | ⟨_,_,_,_,rfl,_⟩ <;> cases h)
      rcases hcase with ⟨a0,rfl,rfl⟩ | ⟨b,off,cap,cur,rfl,k1,k2,k3,k4,k5,k6,k7,k8⟩
      ·injection e1 with _ e4 e5
       subst e4;subst e5
       obtain rfl:cc=0:=by omega
       obtain rfl:rn=0:=by omega
       exact ⟨[],none,.inl ⟨x,by simp,by simp,by simp⟩,by simp,(fun i h=>by simp at h),.inl rfl,fun b hb=>by cases hb⟩
      ·injection e1 with e1 e4 e5
       subst e4;subst e5
       have hll:((l'.drop ra).take rn).length=rn:=by rw [List.length_take,List.length_drop];omega
       by_cases hc0:cc=0
       ·subst hc0
        obtain rfl:rn=0:=by omega
        exact ⟨[],none,.inl ⟨x,by simp,by simp,by simp⟩,by simp,(fun i h=>by simp at h),.inl rfl,fun b hb=>by cases hb⟩
       ·rcases e6 with e6 | ⟨b',off',e6,rfl⟩
        ·exact absurd e6 hc0
        ·rw [← e1] at e6
         simp only [Option.some.injEq,Addr.mk.injEq,and_true] at e6
         obtain ⟨rfl,rfl⟩:=e6
         have hcl:cur.toList.length=cur.size:=Array.length_toList
         have hm1:(ra+cc) * wid j.shape≤cap * wid j.shape:=Nat.mul_le_mul_right _ e3
         have hm2:(ra+cc) * wid j.shape=ra * wid j.shape+cc * wid j.shape:=Nat.add_mul _ _ _
         have hm3:rn * wid j.shape≤cc * wid j.shape:=Nat.mul_le_mul_right _ hcc
         have hvb:vblock (.slice (some ⟨b,off,none⟩) l'.length cap)=some b:=by simp only [vblock];rw [if_neg (by omega)]
         refine ⟨(cur.toList.drop (off+ra * wid j.shape)).take (rn * wid j.shape),some b,.inr ⟨b,off+ra * wid j.shape,cc,cur,by rw [hll],.inr rfl,k2,by rw [hll];exact hcc,by omega,by omega,by omega,k7,by rw [hll]⟩,by rw [List.length_take,List.length_drop,hll];omega,fun i hi=>?_,.inr hvb.symm,fun b' hb'=>by injection hb' with hb';rw [← hb'];exact k1⟩
         rw [hll] at hi
         have hi1:i * wid j.shape+wid j.shape≤rn * wid j.shape:=by rw [← Nat.succ_mul];exact Nat.mul_le_mul_right _ hi
         rw [valAt_take _ _ rn i hi (by rw [List.length_drop];omega),← List.drop_drop,valAt_dropN]
         have:=k8 (ra+i) (by omega)
         simpa using this
    exact hsg _ rfl
   obtain ⟨cs,old,hrow,hcl,hcd,hov,hold⟩:=hrow
   obtain ⟨v',w',us,hr,hbel,hkeep,hrow',u1,u3⟩:=go mem hμ a N w0 w X ρ m hd old cs hrow hcl hcd hold
   have hon:∀ b,old=some b→vblock v=some b:=fun b hb=>by
    rcases hov with g | g
    ·rw [g] at hb;cases hb
    ·rw [← g];exact hb
   obtain ⟨m',t'⟩:=m.move (q:=q0) (d:=d) (w':=w') (by rw [hg];rfl) hv hqd hno hnr (B:=.row j.shape e' (O.sg l' ra rn++ys)) (v:=v') hbel (fun b hb hne=>hkeep b hb (fun e=>hne (hon b e))) (fun b hb=>by
    obtain ⟨k1,k2⟩:=hB v' w' cs us _ _ hrow' b hb
    rcases k1 with k1 | k1
    ·exact .inl ⟨k1,k2⟩
    ·exact .inr (hon b k1)) (fun tn=>rowAt_rep hrow' (fun b hb=>hb.elim (m.szN b) (hold b)) hcl u1 hbel.size tn.keep hcd u3 T _)
   refine ⟨_,v',w',_,hr,.inl rfl,m',?_,t'⟩
   rcases hrow' with ⟨a',rfl,_⟩ | ⟨b',off,cap,cur,rfl,_⟩
   ·exact .row _ d _ _ _ fun q hq=>by simp only [if_true] at hq;injection hq with hq;exact hq.symm
   ·exact .row _ d _ _ _ fun q hq=>by simp only [if_true] at hq;injection hq with hq;exact hq.symm
  | _=>rw [hm] at hbase;cases hbase
 | _=>rw [hs] at hbase;simp [baseOf] at hbase
theorem copy_core (tys:Types P T) (sz:Sizes T) {o:Oper} {t t2:TypeId} {s x:Operand} (ho:o.op=.call ⟨.builtin .copy,#[s,x],#[t,t2]⟩) {e:Operand→SV} {μ:Nat→Blk} {i j:TI} {el:Nat} (ht:T t=some i) (hk:i.kind=.slice el) (hj:T el=some j) (hpos:j.size≠0)
  {ys:List SV} (hsrc:srcOf μ j.shape (e x)=some ys) {q a n el':Nat} {l:List SV} (hm:μ q=.row j.shape el' l) (han:a+n≤l.length)
  (hdst:∀ (w:World) (X:Nat→Prop) (ρ:Env) (v v0:Value),Den w X ρ (e s) v→ρ q=some v0→((∃ a,v0=.slice a 0 0∧l=[])∨∃ b off c,v0=.slice (some ⟨b,off,none⟩) l.length c)→∃ ad c,v=.slice ad n c∧(n=0∨∃ b off L c',v0=.slice (some ⟨b,off,none⟩) L c'∧ad=some ⟨b,off+a * wid j.shape,none⟩)) :
  Eff P T o e μ (.int .i64 (min (ys.length:Int) (n:Int))) [(q,.row j.shape el' (l.take a++ys.take n++l.drop (a+min ys.length n)))] none:=by
 have ti:=tys.ok t i ht
 have tj:=tys.ok el j hj
 have hw:=TI.wid_size (sz.one _ _ hj)
 obtain ⟨ji,j1,j2,j3⟩:=tj.inf
 refine .of_run fun mem hμ _ ac N w0 w X ρ m hd=>?_
 obtain ⟨us,u1,u2,u3,u4,u5⟩:=(src_den (P:=P) hμ m hsrc (hd x (by simp [ho,Op.operands,Call.operands]))).h
 obtain ⟨v,hv,hg,hcase⟩:=hμ.rowAt m hm
 obtain ⟨ad,c,hev,hdst⟩:=hdst w _ ρ _ v (hd s (by simp [ho,Op.operands,Call.operands])) hv (by
  rcases hcase with ⟨a0,rfl,rfl⟩ | ⟨b,off,cap,cur,rfl,_⟩
  ·exact .inl ⟨a0,rfl,rfl⟩
  ·exact .inr ⟨_,_,_,rfl⟩)
 have hexec:execOp ac.eval o=(do let v ← Builtin.copy_ #[t,t2] o.type #[ac.eval s,ac.eval x];pure (.value v)):=by
  simp [execOp,ho,resolve,invoke,builtin]
 have hk0:∀ (k:Nat),min ys.length n=0→l.take a++ys.take n++l.drop (a+min ys.length n)=l:=by
  intro _ h0
  rw [h0]
  have:ys.take n=[]:=by
   apply List.eq_nil_of_length_eq_zero
   rw [List.length_take]
   omega
  rw [this,List.append_nil,Nat.add_zero,List.take_append_drop]
 have hwp:0 < wid j.shape:=by omega
 have hkint:((min ys.length n:Nat):Int)=min (ys.length:Int) (n:Int):=by omega
 by_cases h0:n=0
 ·have hmin:min ys.length n=0:=by omega
  have hr:=run_copy_no (P:=P) w t t2 o.type el ji (wid j.shape) (ti.und_slice hk) j1 (by rw [j2,hw]) ad c (ac.eval x) ys.length u4 (by have:=u5 w 0 rfl (Nat.zero_le _);simpa using this)
  have hs:∀ q',getM (setM (.row j.shape el' (l.take a++ys.take n++l.drop (a+min ys.length n))) mem q) q'=getM mem q':=by
   intro q'
   rw [getM_setM]
   split
   ·rename_i hq;rw [hq,hg,hk0 0 hmin]
   ·rfl
  refine ⟨_,.int .i64 0,w,ρ,?_,.inl rfl,m.congr hs,?_,?_⟩
  ·rw [hexec,hev,h0]
   simp [hr,goInt]
  ·rw [← hkint,hmin];exact .int _ _ _
  ·show Turn w _ ρ w (Forb X (setM _ mem q) ρ) ρ none
   rw [forb_congr hs]
   exact Turn.refl _ _ _ _
 ·obtain ⟨b,off,L,c',hv0,rfl⟩:=hdst.resolve_left h0
  subst hv0
  rcases hcase with ⟨a0,hc1,rfl⟩ | ⟨b',off',cap,cur,hc1,k1,k2,k3,k4,k5,k6,k7,k8⟩
  ·simp at han;omega
  ·injection hc1 with hc1 hc2 hc3
   simp only [Option.some.injEq,Addr.mk.injEq,and_true] at hc1
   obtain ⟨rfl,rfl⟩:=hc1
   subst hc2;subst hc3
   have hcl:cur.toList.length=cur.size:=Array.length_toList
   have hle:l.length * wid j.shape≤c' * wid j.shape:=Nat.mul_le_mul_right _ k3
   have hle2:(a+n) * wid j.shape≤l.length * wid j.shape:=Nat.mul_le_mul_right _ han
   have hle3:(a+min ys.length n) * wid j.shape≤(a+n) * wid j.shape:=Nat.mul_le_mul_right _ (by omega)
   have hle4:min ys.length n * wid j.shape≤ys.length * wid j.shape:=Nat.mul_le_mul_right _ (by omega)
   have hadd:(a+min ys.length n) * wid j.shape=a * wid j.shape+min ys.length n * wid j.shape:=Nat.add_mul _ _ _
   have hnl:(us.take (min ys.length n * wid j.shape)).length=min ys.length n * wid j.shape:=by rw [List.length_take];omega
   have hfit:off+a * wid j.shape+(us.take (min ys.length n * wid j.shape)).length≤cur.toList.length:=by omega
   have hr:=run_copy_into (P:=P) w t t2 o.type el ji (wid j.shape) (ti.und_slice hk) j1 (by rw [j2,hw]) b (off+a * wid j.shape) n c cur el' k2 (ac.eval x) ys.length (us.take (min ys.length n * wid j.shape))
    (fun u hu=>u2 u (List.mem_of_mem_take hu)) u4 (u5 w (Nat.min ys.length n) rfl (Nat.min_le_left _ _)) (by omega)
   have hll:(l.take a++ys.take n++l.drop (a+min ys.length n)).length=l.length:=by
    simp only [List.length_append,List.length_take,List.length_drop]
    omega
   obtain ⟨m',t'⟩:=row_write (l':=l.take a++ys.take n++l.drop (a+min ys.length n)) m hg hll hv k1 k2 k3 k4 k5 k6 k7 (off+a * wid j.shape) (us.take (min ys.length n * wid j.shape)) (by omega) (fun u hu=>u2 u (List.mem_of_mem_take hu)) (fun k hk=>by
    have hk':k < l.length:=by omega
    have hkl:k * wid j.shape+wid j.shape≤l.length * wid j.shape:=by rw [← Nat.succ_mul];exact Nat.mul_le_mul_right _ hk'
    have hlen:((cur.toList.take (off+a * wid j.shape)++us.take (min ys.length n * wid j.shape)++cur.toList.drop (off+a * wid j.shape+(us.take (min ys.length n * wid j.shape)).length)).drop off).length=cur.size - off:=by
     rw [List.length_drop,splice_len hfit,hcl]
    have hgetl:(l.take a++ys.take n++l.drop (a+min ys.length n))[k]?=if a≤k∧k < a+min ys.length n then ys[k - a]? else l[k]?:=by
     by_cases c1:k < a
     ·rw [if_neg (by omega),List.append_assoc,List.getElem?_append_left (by rw [List.length_take];omega),List.getElem?_take,if_pos c1]
     ·by_cases c2:k < a+min ys.length n
      ·rw [if_pos (by omega),List.append_assoc,List.getElem?_append_right (by rw [List.length_take];omega),List.getElem?_append_left (by rw [List.length_take,List.length_take];omega),List.getElem?_take,if_pos (by rw [List.length_take];omega)]
       congr 1
       rw [List.length_take]
       omega
      ·rw [if_neg (by omega),List.getElem?_append_right (by rw [List.length_append,List.length_take,List.length_take];omega),List.getElem?_drop]
       congr 1
       rw [List.length_append,List.length_take,List.length_take]
       omega
    rw [List.getElem?_eq_getElem hk] at hgetl
    split at hgetl
    ·rename_i hin
     have hky:k - a < ys.length:=by omega
     rw [List.getElem?_eq_getElem hky] at hgetl
     injection hgetl with hgetl
     rw [hgetl]
     have e1:(k - a) * wid j.shape+wid j.shape≤min ys.length n * wid j.shape:=by rw [← Nat.succ_mul];exact Nat.mul_le_mul_right _ (by omega)
     have e2:k * wid j.shape=a * wid j.shape+(k - a) * wid j.shape:=by rw [← Nat.add_mul];congr 1;omega
     have:valAt j.shape ((cur.toList.take (off+a * wid j.shape)++us.take (min ys.length n * wid j.shape)++cur.toList.drop (off+a * wid j.shape+(us.take (min ys.length n * wid j.shape)).length)).drop off) k=valAt j.shape us (k - a):=by
      rw [valAt_seg _ _ k (by omega),valAt_seg j.shape us (k - a) (by omega)]
      congr 1
      apply List.ext_getElem?
      intro p
      rw [List.getElem?_take,List.getElem?_take]
      split
      ·rw [List.getElem?_drop,List.getElem?_drop,List.getElem?_drop,splice_get hfit,if_pos (by omega),List.getElem?_take,if_pos (by omega)]
       congr 1
       omega
      ·rfl
     rw [this]
     exact u3 _ hky
    ·rename_i hin
     rw [List.getElem?_eq_getElem hk'] at hgetl
     injection hgetl with hgetl
     rw [hgetl]
     have e1:k < a→k * wid j.shape+wid j.shape≤a * wid j.shape:=fun h=>by rw [← Nat.succ_mul];exact Nat.mul_le_mul_right _ h
     have e2:¬ k < a→(a+min ys.length n) * wid j.shape≤k * wid j.shape:=fun h=>Nat.mul_le_mul_right _ (by omega)
     rw [valAt_ext (vs:=cur.toList.drop off) (by omega) (by rw [List.length_drop];omega) (fun p h1 h2=>by
      rw [List.getElem?_drop,List.getElem?_drop,splice_get hfit,if_neg]
      by_cases c1:k < a
      ·have:=e1 c1;omega
      ·have:=e2 c1;omega)]
     exact k8 k hk')
   refine ⟨_,.int .i64 (min (ys.length:Int) (n:Int)),_,ρ,?_,.inl rfl,m',.int _ _ _,t'⟩
   rw [hexec,hev]
   simp only [Sem.run_bind,hr,Result.andThen_ok,Sem.run_pure,goInt]
   rw [← hkint]
theorem splice_list {A:Type} {l ys:List A} {a n k:Nat} (h:a+n≤l.length):(l.take a++ys.take n++l.drop (a+min ys.length n))[k]?=if a≤k∧k < a+min ys.length n then ys[k - a]? else l[k]?:=by
 by_cases c1:k < a
 ·rw [if_neg (by omega),List.append_assoc,List.getElem?_append_left (by rw [List.length_take];omega),List.getElem?_take,if_pos c1]
 ·by_cases c2:k < a+min ys.length n
  ·rw [if_pos (by omega),List.append_assoc,List.getElem?_append_right (by rw [List.length_take];omega),List.getElem?_append_left (by rw [List.length_take,List.length_take];omega),List.getElem?_take,if_pos (by rw [List.length_take];omega)]
   congr 1
   rw [List.length_take]
   omega
  ·rw [if_neg (by omega),List.getElem?_append_right (by rw [List.length_append,List.length_take,List.length_take];omega),List.getElem?_drop]
   congr 1
   rw [List.length_append,List.length_take,List.length_take]
   omega
theorem copy_chunk (tys:Types P T) (sz:Sizes T) {o:Oper} {t t2:TypeId} {s x:Operand} (ho:o.op=.call ⟨.builtin .copy,#[s,x],#[t,t2]⟩) {e:Operand→SV} {μ:Nat→Blk} {i j:TI} {el:Nat} (ht:T t=some i) (hk:i.kind=.slice el) (hj:T el=some j) (hsh:none=j.shape)
  {ys:List SV} (hsrc:srcOf μ j.shape (e x)=some ys) (hys:allIntB ys=true) {q a n t':Nat} {c:Option Nat} {l:List SV} (hs:e s=.rsl q none a n c) (hm:μ q=.chunk t' (.agg l)) (han:a+n≤l.length) :
  Eff P T o e μ (.int .i64 (min (ys.length:Int) (n:Int))) [(q,.chunk t' (.agg (l.take a++ys.take n++l.drop (a+min ys.length n))))] none:=by
 have ti:=tys.ok t i ht
 have tj:=tys.ok el j hj
 have hw:=TI.wid_size (sz.one _ _ hj)
 obtain ⟨ji,j1,j2,j3⟩:=tj.inf
 rw [← hsh] at hw hsrc
 refine .of_run fun mem hμ _ ac N w0 w X ρ m hd=>?_
 obtain ⟨us,u1,u2,u3,u4,u5⟩:=(src_den (P:=P) hμ m hsrc (hd x (by simp [ho,Op.operands,Call.operands]))).h
 have hg:=hμ.row hm (by simp)
 have hb:=m.blk q
 rw [hg] at hb
 obtain ⟨i',b,vs,ty,e1,e2,e3,e4,e5,e6,e7⟩:=hb
 have hds:=hd s (by simp [ho,Op.operands,Call.operands])
 rw [hs] at hds
 have hexec:execOp ac.eval o=(do let v ← Builtin.copy_ #[t,t2] o.type #[ac.eval s,ac.eval x];pure (.value v)):=by
  simp [execOp,ho,resolve,invoke,builtin]
 have hkint:((min ys.length n:Nat):Int)=min (ys.length:Int) (n:Int):=by omega
 have hsp:∃ p,i'.shape=some p:=by
  cases hs:i'.shape with
  | some n=>exact ⟨n,rfl⟩
  | none =>
   rw [hs] at e7
   obtain ⟨cs,e10,_⟩:=Den.agg_iff.1 e7
   simp only [valAt] at e10
   cases hu:vs.toList[0]? with
   | none=>rw [hu] at e10;simp [undef] at e10
   | some u =>
    rw [hu] at e10
    have:=e6 u (List.mem_of_getElem? hu)
    simp only [Option.getD_some] at e10
    rw [e10] at this
    simp [Value.oneCell'] at this
 obtain ⟨p,hp⟩:=hsp
 have hp':p=i'.size:=by
  have:=TI.wid_size (sz.one _ _ e1)
  rw [hp] at this
  exact this.symm
 rw [hp,valAt_some_full (by rw [Array.length_toList];omega)] at e7
 obtain ⟨cs,e10,hcs⟩:=Den.agg_iff.1 e7
 injection e10 with e10
 injection e10 with e10
 subst e10
 have hvl:l.length=vs.toList.length:=hcs.1
 simp only [wid,Nat.mul_one] at u1 u5 hw
 generalize hvs:ac.eval s=v at hds hexec
 cases hds with
 | rsl _ _ _ _ _ _ ad cc hcc hr =>
  obtain ⟨b',q1,_,q3,_⟩:=(hr _ e2).resolve_left (by rintro ⟨_,_,_,h,_⟩;cases h)
  simp only [Value.pointer.injEq,Option.some.injEq,Addr.mk.injEq,and_true] at q1
  subst q1
  by_cases h0:n=0
  ·have hmin:min ys.length n=0:=by omega
   have hrn:=run_copy_no (P:=P) w t t2 o.type el ji 1 (ti.und_slice hk) j1 (by rw [j2,hw]) ad cc (ac.eval x) ys.length u4 (by have:=u5 w 0 rfl (Nat.zero_le _);simpa [wid] using this)
   have hl':l.take a++ys.take n++l.drop (a+min ys.length n)=l:=by
    rw [hmin,h0];simp
   have hsm:∀ q',getM (setM (.chunk t' (.agg (l.take a++ys.take n++l.drop (a+min ys.length n)))) mem q) q'=getM mem q':=by
    intro q'
    rw [getM_setM]
    split
    ·rename_i hq;rw [hq,hg,hl']
    ·rfl
   refine ⟨_,.int .i64 0,w,ρ,?_,.inl rfl,m.congr hsm,?_,?_⟩
   ·rw [hexec,h0]
    simp [hrn,goInt]
   ·rw [← hkint,hmin];exact .int _ _ _
   ·show Turn w _ ρ w (Forb X (setM _ mem q) ρ) ρ none
    rw [forb_congr hsm]
    exact Turn.refl _ _ _ _
  ·have q3:=q3.resolve_left (by omega)
   subst q3
   have hnl:(us.take (min ys.length n)).length=min ys.length n:=by rw [List.length_take];omega
   have hfit:a+(us.take (min ys.length n)).length≤vs.toList.length:=by omega
   have hrn:=run_copy_into (P:=P) w t t2 o.type el ji 1 (ti.und_slice hk) j1 (by rw [j2,hw]) b a n cc vs ty e4 (ac.eval x) ys.length (us.take (min ys.length n))
    (fun u hu=>u2 u (List.mem_of_mem_take hu)) u4 (by have:=u5 w (Nat.min ys.length n) rfl (Nat.min_le_left _ _);simpa [wid] using this) (by rw [← Array.length_toList];exact hfit)
   obtain ⟨m',t'⟩:=m.update e2 (by rw [hg];rfl) (b:=b) rfl (w':=w.setRow b (vs.toList.take a++us.take (min ys.length n)++vs.toList.drop (a+(us.take (min ys.length n)).length)).toArray)
    ⟨rfl,rfl,rfl,by simp [World.setRow],fun k hk=>setRow_other w b k _ (by omega)⟩ (fun k hk=>setRow_other w b k _ hk) (B:=.chunk t' (.agg (l.take a++ys.take n++l.drop (a+min ys.length n)))) (fun tn=>by
     refine ⟨i',b,_,ty,e1,rfl,e3,setRow_heap w b vs _ ty (0,0) e4,?_,fun u hu=>?_,?_⟩
     ·simp only [List.size_toArray]
      rw [splice_len hfit,Array.length_toList,e5]
     ·simp only [List.mem_append] at hu
      rcases hu with (hu | hu) | hu
      ·exact e6 u (List.mem_of_mem_take hu)
      ·exact u2 u (List.mem_of_mem_take hu)
      ·exact e6 u (List.mem_of_mem_drop hu)
     ·rw [hp,valAt_some_full (by simp only;rw [splice_len hfit,Array.length_toList];omega)]
      refine Den.agg_iff.2 ⟨_,rfl,?_,fun k y u hy hu=>?_⟩
      ·simp only;rw [splice_len hfit,← hvl]
       simp only [List.length_append,List.length_take,List.length_drop]
       omega
      ·rw [splice_list han] at hy
       simp only at hu
       rw [splice_get hfit,hnl] at hu
       split at hy
       ·rename_i hin
        rw [if_pos hin,List.getElem?_take,if_pos (by omega)] at hu
        obtain ⟨kk,z,rfl⟩:=allIntB_get hys _ _ hy
        have hlt:k - a < ys.length:=by omega
        have:=u3 _ hlt
        rw [List.getElem?_eq_getElem hlt] at hy
        injection hy with hy
        rw [hy,Den.int_iff] at this
        simp only [valAt,hu,Option.getD_some] at this
        rw [this];exact .int _ _ _
       ·rename_i hin
        rw [if_neg hin] at hu
        exact tn.den (fun _ hr=>by cases hr) (hcs.2 k y u hy hu))
   refine ⟨_,.int .i64 (min (ys.length:Int) (n:Int)),_,ρ,?_,.inl rfl,m',.int _ _ _,t'⟩
   rw [hexec]
   simp only [Sem.run_bind,hrn,Result.andThen_ok,Sem.run_pure,goInt]
   rw [← hkint]
theorem store_ok (tys:Types P T) (sz:Sizes T) {o:Oper} {t:Nat} {x vo:Operand} (ho:o.op=.store t x vo) {d:Option Nat} {e:Operand→SV} {μ:Nat→Blk} {κ:SV→List (Nat × Blk)→Prop} (h:wval T d (.store t x vo) e μ κ) :
  ∃ y U,κ y U∧(∀ q b,(q,b)∈U→(μ q).own=true)∧Eff P T o e μ y U none:=by
 simp only [wval,O.hln,apL_eq,O.st_eq,O.hcp] at h
 split at h <;> try exact h.elim
 rename_i i ht
 split at h <;> try exact h.elim
 ·rename_i r off hx
  split at h <;> try exact h.elim
  rename_i t' y hm
  obtain ⟨B,h1,h2⟩:=store_chunk_ok (P:=P) tys sz ho ht hx hm h
  exact ⟨_,_,h1,(fun q b hq=>by simp at hq;rw [hq.1,hm];rfl),h2⟩
 ·rename_i r sh j off hx
  split at h <;> try exact h.elim
  rename_i s el l hm
  split at h <;> try exact h.elim
  rename_i hc
  simp only [Bool.and_eq_true] at hc
  have hs:=shEq_eq hc.1
  split at h <;> try exact h.elim
  rename_i y hy
  have hown:∀ l' q b,(q,b)∈frzU μ (rids (e vo))++[(r,Blk.row s el l')]→(μ q).own=true:=by
   intro l' q b hq
   rcases List.mem_append.1 hq with hq | hq
   ·obtain ⟨_,sh,e',k,g,_⟩:=frzU_mem hq
    rw [g];rfl
   ·simp at hq;rw [hq.1,hm];rfl
  split at h
  ·rename_i hc2
   simp only [Bool.and_eq_true] at hc2
   have h0:off=0:=Nat.eq_of_beq_eq_true hc2.1.1
   subst h0
   obtain ⟨hj,h⟩:=h
   exact ⟨_,_,h,hown _,store_row_ok tys ho ht hx hm hs hc.2 hy (setL_length _ _ _) (fun w Y us v hd hus _ hl=>elem_write sz ht (shEq_eq hc2.1.2) hc2.2 hj w Y us v hd hus hl)⟩
  ·split at h <;> try exact h.elim
   rename_i ys hys
   split at h <;> try exact h.elim
   rename_i hlen
   have hlen:=Nat.eq_of_beq_eq_true hlen
   obtain ⟨c,⟨hc3,hc4⟩,h⟩:=h.h
   exact ⟨_,_,h,hown _,store_row_ok tys ho ht hx hm hs hc.2 hy (setL_length _ _ _) (fun w Y us v hd hus hone hl=>part_write hys hlen hc3 hc4 w Y us v hd hus hl hone)⟩
theorem copy_ok (tys:Types P T) (sz:Sizes T) {o:Oper} {cl:Call} (hc:cl.callee=.builtin .copy) (ho:o.op=.call cl) {d:Option Nat} {e:Operand→SV} {μ:Nat→Blk} {κ:SV→List (Nat × Blk)→Prop} (h:wval T d (.call cl) e μ κ) :
  ∃ y U,κ y U∧(∀ q b,(q,b)∈U→(μ q).own=true)∧Eff P T o e μ y U none:=by
 obtain ⟨cal,args,ats⟩:=cl
 simp only at hc
 subst hc
 simp only [wval,O.hln,apL_eq,O.st_eq,O.hcp] at h
 split at h <;> try exact h.elim
 case h_1=>cases ‹Callee.builtin Builtin.copy=Callee.builtin Builtin.append›
 rename_i t t2 s x _ hat har
 obtain rfl:args=#[s,x]:=by apply Array.ext';simpa using har
 obtain rfl:ats=#[t,t2]:=by apply Array.ext';simpa using hat
 split at h <;> try exact h.elim
 rename_i i ht
 split at h <;> try exact h.elim
 rename_i el hk
 split at h <;> try exact h.elim
 rename_i j hj
 split at h <;> try exact h.elim
 rename_i hck
 simp only [Bool.and_eq_true,Bool.not_eq_true'] at hck
 have hpos:j.size≠0:=by intro h0;rw [h0] at hck;simp at hck
 split at h <;> try exact h.elim
 ·rename_i ys q hsrc hs
  split at h <;> try exact h.elim
  rename_i s' el' l hm
  split at h <;> try exact h.elim
  rename_i hsh
  have hsh:=shEq_eq hsh
  subst hsh
  refine ⟨_,_,h.h.2 _ rfl,(fun q' b hq=>by simp at hq;rw [hq.1,hm];rfl),?_⟩
  have:=copy_core (P:=P) tys sz ho ht hk hj hpos hsrc (a:=0) (n:=l.length) hm (by omega) (fun w X ρ v v0 hd hv hsl=>by
   rw [hs] at hd
   cases hd with
   | row _ _ a' n' c' hr =>
    have:=hr _ hv
    rcases hsl with ⟨a0,rfl,rfl⟩ | ⟨b,off,c,rfl⟩
    ·injection this with e1 e2 e3
     subst e1;subst e2;subst e3
     exact ⟨_,_,rfl,.inl rfl⟩
    ·injection this with e1 e2 e3
     subst e1;subst e2;subst e3
     exact ⟨_,_,rfl,.inr ⟨b,off,_,_,rfl,by simp⟩⟩)
  exact this
 ·rename_i ys q s' a n c hsrc hs
  split at h <;> try exact h.elim
  ·rename_i t' l hm
   split at h <;> try exact h.elim
   rename_i hsh
   simp only [Bool.and_eq_true] at hsh
   have hs1:=shEq_eq hsh.1.1
   have hs2:=shEq_eq hsh.1.2
   subst hs1
   obtain ⟨han,h⟩:=h
   exact ⟨_,_,h.h.2 _ rfl,(fun q' b hq=>by simp at hq;rw [hq.1,hm];rfl),copy_chunk (P:=P) tys sz ho ht hk hj hs2 hsrc hsh.2 hs hm han⟩
  rename_i s'' el' l hm
  split at h <;> try exact h.elim
  rename_i hsh
  simp only [Bool.and_eq_true] at hsh
  have hs1:=shEq_eq hsh.1
  have hs2:=shEq_eq hsh.2
  subst hs1;subst hs2
  obtain ⟨han,h⟩:=h
  refine ⟨_,_,h.h.2 _ rfl,(fun q' b hq=>by simp at hq;rw [hq.1,hm];rfl),?_⟩
  exact copy_core (P:=P) tys sz ho ht hk hj hpos hsrc hm han (fun w X ρ v v0 hd hv hcs=>by
   rw [hs] at hd
   cases hd with
   | rsl _ _ _ _ _ _ x cc hcc hr =>
    obtain ⟨x0,len,cap,rfl,e2,e3,_,_,e6⟩:=(hr _ hv).resolve_right (by rintro ⟨_,h,_⟩;rcases hcs with ⟨_,rfl,_⟩ | ⟨_,_,_,rfl⟩ <;> cases h)
    refine ⟨_,_,rfl,?_⟩
    rcases e6 with e6 | ⟨b,off,rfl,rfl⟩
    ·exact .inl (by omega)
    ·exact .inr ⟨b,off,_,_,rfl,rfl⟩)
end
section
open Go.RowKit
variable {P:Program} {T:Nat→Option TI}
structure Chz (a b:Unit→Prop):Prop where
 h:a ()∨b ()
def isRowx:Blk→Bool
 | .rowx _ _ _ _=>true
 | _=>false
def isChk:Blk→Bool
 | .chunk _ _=>true
 | _=>false
def isRow1:Blk→Bool
 | .row none _ _=>true
 | _=>false
def isRow:Blk→Bool
 | .row _ _ _=>true
 | _=>false
def isX (op:Op) (e:Operand→SV) (μ:Nat→Blk):Bool :=
 match op with
 | .load _ x=>(match e x with | .rptr r _ _ _=>isRowx (μ r) | _=>false)
 | .indexAddr _ x _=>(match e x with | .row r=>isRowx (μ r) | .rsl r _ _ _ _=>isChk (μ r) | _=>false)
 | _=>false
def xval (T:Nat→Option TI) (op:Op) (e:Operand→SV) (μ:Nat→Blk) (κ:SV→Prop):Prop :=
 match op with
 | .load t x=>(match T t with
  | some i=>(match e x with
   | .rptr r sh j o=>(match μ r with
    | .rowx _ _ i0 y=>if shEq none sh && Nat.beq o 0 && shEq none i.shape then Rq (fun _=>j=i0) (fun _=>κ y) else False
    | _=>False)
   | _=>False)
  | none=>False)
 | .indexAddr t x ix=>(match T t with
  | some i=>(match i.kind with
   | .slice el=>(match T el,e x,e ix with
    | some j,.row r,.int _ n=>(match μ r with
     | .rowx _ l _ _=>if shEq none j.shape then QV (fun (q:Nat)=>n=(q:Int)∧q < O.ln l) (fun q=>κ (.rptr r none q 0)) else False
     | _=>False)
    | some j,.rsl r none o0 m _,.int _ n=>(match μ r with
     | .chunk _ _=>if shEq none j.shape then QV (fun (q:Nat)=>n=(q:Int)∧q < m) (fun q=>κ (.ptr r (o0+q))) else False
     | _=>False)
    | _,_,_=>False)
   | _=>False)
  | none=>False)
 | _=>False
def rvalX (T:Nat→Option TI) (op:Op) (e:Operand→SV) (μ:Nat→Blk) (κ:SV→Prop):Prop:=if isX op e μ then xval T op e μ κ else rval T op e μ κ
theorem Sees.rowxAt {μ:Nat→Blk} {mem:Mem} (hμ:Sees μ mem) {N:Nat→Prop} {w0 w:World} {X:Nat→Prop} {ρ:Env} (m:MRep T N w0 w X mem ρ) {r e i:Nat} {l:List SV} {x:SV} (h:μ r=.rowx e l i x) :
  getM mem r=.rowx e l i x∧BlkRep T N w (Forb X mem ρ) ρ (.rowx e l i x) (ρ r):=by
 have hg:=hμ.row h (by simp)
 have hb:=m.blk r
 rw [hg] at hb
 exact ⟨hg,hb⟩
theorem xval_ok (tys:Types P T) (sz:Sizes T) {o:Oper} {e:Operand→SV} {μ:Nat→Blk} {κ:SV→Prop} (h:xval T o.op e μ κ):∃ v,κ v∧RdOk P T o e μ v:=by
 generalize ho:o.op=op at h
 cases op
 case load t x =>
  simp only [xval] at h
  split at h <;> try exact h.elim
  rename_i i ht
  split at h <;> try exact h.elim
  rename_i r sh j off hx
  split at h <;> try exact h.elim
  rename_i el l i0 y hm
  split at h <;> try exact h.elim
  rename_i hc
  simp only [Bool.and_eq_true] at hc
  have hs:=shEq_eq hc.1.1
  have h0:off=0:=Nat.eq_of_beq_eq_true hc.1.2
  have hi:=shEq_eq hc.2
  subst hs;subst h0
  obtain ⟨hj,h⟩:=h
  subst hj
  have tok:=tys.ok t i ht
  refine ⟨_,h,⟨fun mem hμ a N w0 w X ρ m hd=>?_⟩⟩
  obtain ⟨hg,b,off,cap,cur,e1,hN,hh,h5,h6,h7,h0,h9,hil,h8,hy⟩:=hμ.rowxAt m hm
  have hdx:=hd x (by simp [ho,Op.operands])
  rw [hx] at hdx
  have hcl:cur.toList.length=cur.size:=Array.length_toList
  have h1:i.size=1:=by rw [TI.wid_size (sz.one t i ht),← hi];rfl
  generalize hq:a.eval x=q at hdx
  cases hdx with
  | rptr _ _ _ _ _ b' o' hb' =>
   obtain ⟨len,cap',e2⟩:=hb' _ e1
   simp only [Value.slice.injEq,Option.some.injEq,Addr.mk.injEq,and_true] at e2
   obtain ⟨⟨rfl,rfl⟩,_,_⟩:=e2
   have hv:valAt none (cur.toList.drop off) j=(cur.toList[off+j]?).getD undef:=by simp [valAt]
   refine ⟨_,?_,hy⟩
   have:=run_load_at (P:=P) tok (sz.one t i ht) w b (off+j) [(cur.toList[off+j]?).getD undef] (by rw [h1];simp) (fun k u hu=>by
    match k,hu with
    | 0,hu =>
     simp at hu
     rw [cell_of_row w b (off+j+0) cur el (0,0) hh]
     have hlt:off+j < cur.size:=by omega
     simp [hlt] at hu ⊢
     exact hu)
   rw [← hi] at this
   simp only [execOp,ho,Sem.run_bind,hq]
   simp only [wid,Nat.mul_one,Nat.add_zero]
   rw [this]
   rw [hv]
   simp [valAt]
 case indexAddr t x ix =>
  simp only [xval] at h
  split at h <;> try exact h.elim
  rename_i i ht
  split at h <;> try exact h.elim
  rename_i el hk
  split at h <;> try exact h.elim
  ·rename_i j r k n hel hx hix
   split at h <;> try exact h.elim
   rename_i e' l i0 y hm
   split at h <;> try exact h.elim
   rename_i hc
   have hj:=shEq_eq hc
   obtain ⟨q,⟨hn,hq⟩,h⟩:=h.h
   rw [O.hln] at hq
   refine ⟨_,h,⟨fun mem hμ a N w0 w X ρ m hd=>?_⟩⟩
   obtain ⟨hg,b,off,cap,cur,e1,hN,hh,h5,h6,h7,h0,h9,hil,h8,hy⟩:=hμ.rowxAt m hm
   have hdx:=hd x (by simp [ho,Op.operands])
   have hdi:=hd ix (by simp [ho,Op.operands])
   rw [hx] at hdx
   rw [hix,Den.int_iff] at hdi
   have h1:j.size=1:=by rw [TI.wid_size (sz.one el j hel),← hj];rfl
   generalize hqx:a.eval x=v at hdx
   cases hdx with
   | row _ _ a' n' c' hrow =>
    have e2:=hrow _ e1
    simp only [Value.slice.injEq] at e2
    obtain ⟨rfl,rfl,rfl⟩:=e2
    have hr:=run_index_slice tys ht hk hel k b off l.length cap q hq w
    refine ⟨.pointer (some ⟨b,off+q * j.size,none⟩),?_,?_⟩
    ·simp only [execOp,ho,Sem.run_bind,hqx,hdi,hn,hr,Result.andThen_ok,Sem.run_pure]
    ·have:=Den.rptr (w:=w) (X:=Forb X mem ρ) ρ r none q 0 b off (fun v hv=>by rw [e1] at hv;injection hv with hv;subst hv;exact ⟨_,_,rfl⟩)
     rw [h1]
     simpa [wid] using this
  ·rename_i j r o0 m' c' k n hel hx hix
   split at h <;> try exact h.elim
   rename_i t' y hm
   split at h <;> try exact h.elim
   rename_i hc
   have hj:=shEq_eq hc
   obtain ⟨q,⟨hn,hq⟩,h⟩:=h.h
   refine ⟨_,h,⟨fun mem hμ a N w0 w X ρ m hd=>?_⟩⟩
   have hg:=hμ.row hm (by simp)
   have hb:=m.blk r
   rw [hg] at hb
   obtain ⟨i',b,us,ty,g1,g2,g3,g4,g5,g6,g7⟩:=hb
   have hdx:=hd x (by simp [ho,Op.operands])
   have hdi:=hd ix (by simp [ho,Op.operands])
   rw [hx] at hdx
   rw [hix,Den.int_iff] at hdi
   have h1:j.size=1:=by rw [TI.wid_size (sz.one el j hel),← hj];rfl
   generalize hqx:a.eval x=v at hdx
   cases hdx with
   | rsl _ _ _ _ _ _ x0 cc hcc hr =>
    obtain ⟨b',e1,_,e2,_⟩:=(hr _ g2).resolve_left (by rintro ⟨_,_,_,e,_⟩;cases e)
    simp only [Value.pointer.injEq,Option.some.injEq,Addr.mk.injEq,and_true] at e1
    subst e1
    have e2:=e2.resolve_left (by omega)
    subst e2
    have hr:=run_index_slice tys ht hk hel k b o0 m' cc q hq w
    refine ⟨.pointer (some ⟨b,o0+q * j.size,none⟩),?_,?_⟩
    ·simp only [execOp,ho,Sem.run_bind,hqx,hdi,hn,hr,Result.andThen_ok,Sem.run_pure]
    ·rw [h1,Nat.mul_one]
     exact .ptr _ r _ b fun q' hq'=>by rw [g2] at hq';injection hq' with hq';exact hq'.symm
 all_goals exact h.elim
theorem rvalX_ok (tys:Types P T) (sz:Sizes T) {o:Oper} {e:Operand→SV} {μ:Nat→Blk} {κ:SV→Prop} (h:rvalX T o.op e μ κ):∃ v,κ v∧RdOk P T o e μ v:=by
 unfold rvalX at h
 split at h
 ·exact xval_ok tys sz h
 ·exact rval_ok tys sz h
def canX (op:Op) (e:Operand→SV) (μ:Nat→Blk):Bool :=
 match op with
 | .store _ x v=>(match e x,e v with
  | .rptr r none _ 0,.row q=>isRow1 (μ r) && isRow (μ q) && !(Nat.beq r q)
  | _,_=>false)
 | _=>false
def xst (T:Nat→Option TI) (op:Op) (e:Operand→SV) (μ:Nat→Blk) (κ:SV→List (Nat × Blk)→Prop):Prop :=
 match op with
 | .store t x v=>(match T t with
  | some i=>(match e x,e v with
   | .rptr r none j 0,.row q=>(match μ r with
    | .row none el l=>if shEq none i.shape && isRow (μ q) && !(Nat.beq r q) then Rq (fun _=>j < O.ln l) (fun _=>κ .any [(r,.rowx el l j (.row q))]) else False
    | _=>False)
   | _,_=>False)
  | none=>False)
 | _=>False
def wvalX (T:Nat→Option TI) (d:Option Nat) (op:Op) (e:Operand→SV) (μ:Nat→Blk) (κ:SV→List (Nat × Blk)→Prop):Prop :=
 if canX op e μ then Chz (fun _=>wval T d op e μ κ) (fun _=>xst T op e μ κ) else wval T d op e μ κ
theorem xst_ok (tys:Types P T) (sz:Sizes T) {o:Oper} {t:Nat} {x vo:Operand} (ho:o.op=.store t x vo) {e:Operand→SV} {μ:Nat→Blk} {κ:SV→List (Nat × Blk)→Prop} (h:xst T (.store t x vo) e μ κ) :
  ∃ y U,κ y U∧(∀ q b,(q,b)∈U→(μ q).own=true)∧Eff P T o e μ y U none:=by
 simp only [xst] at h
 split at h <;> try exact h.elim
 rename_i i ht
 split at h <;> try exact h.elim
 rename_i r j q hx hv
 split at h <;> try exact h.elim
 rename_i el l hm
 split at h <;> try exact h.elim
 rename_i hc
 simp only [Bool.and_eq_true,Bool.not_eq_true'] at hc
 have hi:=shEq_eq hc.1.1
 have hrq:r≠q:=by intro e;have:=hc.2;simp [e] at this
 obtain ⟨hj,h⟩:=h
 rw [O.hln] at hj
 refine ⟨_,_,h,fun q' b hq=>by simp at hq;rw [hq.1,hm];rfl,?_⟩
 have tok:=tys.ok t i ht
 have h1:i.size=1:=by rw [TI.wid_size (sz.one t i ht),← hi];rfl
 refine .of_run fun mem hμ _ a N w0 w X ρ m hd=>?_
 obtain ⟨v,hv0,hg,hcase⟩:=hμ.rowAt m hm
 have hdv:=hd vo (by simp [ho,Op.operands])
 have hdx:=hd x (by simp [ho,Op.operands])
 rw [hx] at hdx
 rw [hv] at hdv
 rcases hcase with ⟨a0,rfl,rfl⟩ | ⟨b,o1,cap,cur,rfl,hN,hh,h5,h6,h7,h0,h9,h8⟩
 ·simp at hj
 have hcl:cur.toList.length=cur.size:=Array.length_toList
 simp only [wid,Nat.mul_one] at h7
 have hev:a.eval x=.pointer (some ⟨b,o1+j,none⟩):=by
  generalize hq:a.eval x=q at hdx
  cases hdx with
  | rptr _ _ _ _ _ b' o' hb' =>
   obtain ⟨len,cap',e2⟩:=hb' _ hv0
   simp only [Value.slice.injEq,Option.some.injEq,Addr.mk.injEq,and_true] at e2
   obtain ⟨⟨rfl,rfl⟩,_,_⟩:=e2
   simp [wid]
 obtain ⟨ad,n',c',hsl⟩:∃ ad n c,a.eval vo=.slice ad n c:=by
  generalize a.eval vo=z at hdv
  cases hdv with
  | row _ _ a' n' c' _=>exact ⟨_,_,_,rfl⟩
 have hcell:(a.eval vo).cells=#[a.eval vo]:=by rw [hsl];rfl
 have c1:(a.eval vo).cells.size=i.size:=by rw [hcell,h1];rfl
 have c2:∀ u∈(a.eval vo).cells.toList,u.oneCell'=true:=by intro u hu;rw [hcell] at hu;simp at hu;subst hu;rw [hsl];rfl
 have hs:=run_store_at tok w b (o1+j) cur el hh (a.eval vo) c1 c2 (by omega)
 rw [hcell] at hs
 have hone:(#[a.eval vo]:Array Value).toList=[a.eval vo]:=rfl
 rw [hone] at hs
 have hfit:o1+j+[a.eval vo].length≤cur.toList.length:=by simp;omega
 generalize hnl:cur.toList.take (o1+j)++[a.eval vo]++cur.toList.drop (o1+j+[a.eval vo].length)=nl at hs
 have hget:∀ k,nl[k]?=if k=o1+j then some (a.eval vo) else cur.toList[k]?:=by
  intro k
  rw [← hnl,splice_get hfit]
  by_cases hk:k=o1+j
  ·subst hk
   rw [if_pos (by simp),if_pos rfl];simp
  ·rw [if_neg (by simp;omega),if_neg hk]
 have hlen:nl.length=cur.size:=by rw [← hnl,splice_len hfit,hcl]
 obtain ⟨m',t'⟩:=m.update (w':=w.setRow b nl.toArray) (B:=.rowx el l j (.row q)) hv0 (by rw [hg];rfl) (b:=b) (by simp only [vblock];rw [if_neg (by omega)]) ⟨rfl,rfl,rfl,by simp [World.setRow],fun k hk=>setRow_other w b k _ (by omega)⟩ (fun k hk=>setRow_other w b k _ hk) (fun tn=>by
  refine ⟨b,o1,cap,nl.toArray,rfl,hN,setRow_heap w b cur _ el (0,0) hh,h5,h6,by simp [hlen];omega,h0,fun u hu=>?_,hj,fun k hk hkj=>?_,?_⟩
  ·have hu':u∈nl:=by simpa using hu
   rw [← hnl] at hu'
   simp only [List.mem_append] at hu'
   rcases hu' with (hu | hu) | hu
   ·exact h9 u (List.mem_of_mem_take hu)
   ·exact c2 u (by rw [hcell];simpa using hu)
   ·exact h9 u (List.mem_of_mem_drop hu)
  ·have:valAt none (nl.toArray.toList.drop o1) k=valAt none (cur.toList.drop o1) k:=by
    simp only [valAt,List.getElem?_drop]
    rw [hget,if_neg (by omega)]
   rw [this]
   exact (h8 k hk).mono tn.size tn.keep
  ·have:valAt none (nl.toArray.toList.drop o1) j=a.eval vo:=by
    simp only [valAt,List.getElem?_drop]
    rw [hget,if_pos rfl]
    rfl
   rw [this]
   exact tn.den (fun _ h=>by cases h) hdv)
 refine ⟨_,undef,_,ρ,?_,.inr ⟨rfl,rfl⟩,m',.any _ _,t'⟩
 simp only [execOp,ho,hev,Sem.run_bind]
 rw [hs]
 simp only [Result.andThen_ok,Sem.run_pure]
theorem storeX_ok (tys:Types P T) (sz:Sizes T) {o:Oper} {t:Nat} {x vo:Operand} (ho:o.op=.store t x vo) {d:Option Nat} {e:Operand→SV} {μ:Nat→Blk} {κ:SV→List (Nat × Blk)→Prop} (h:wvalX T d (.store t x vo) e μ κ) :
  ∃ y U,κ y U∧(∀ q b,(q,b)∈U→(μ q).own=true)∧Eff P T o e μ y U none:=by
 unfold wvalX at h
 split at h
 ·rcases h.h with h | h
  ·exact store_ok tys sz ho h
  ·exact xst_ok tys sz ho h
 ·exact store_ok tys sz ho h
theorem MRep.unX {N:Nat→Prop} {w0 w:World} {X:Nat→Prop} {mem:Mem} {ρ:Env} (m:MRep T N w0 w X mem ρ) {r e i q:Nat} {l:List SV} (hr:getM mem r=.rowx e l i (.row q)) {sh:Option Nat} {e2:Nat} {k:List SV} (hq:getM mem q=.row sh e2 k) :
  MRep T N w0 w X (setM (.row none e (setL l i (.lst sh k))) (setM (.frz sh k) mem q) r) ρ∧Turn w (Forb X mem ρ) ρ w (Forb X (setM (.row none e (setL l i (.lst sh k))) (setM (.frz sh k) mem q) r) ρ) ρ none:=by
 obtain ⟨m1,t1⟩:=m.freeze hq
 have hrq:r≠q:=by rintro rfl;rw [hr] at hq;cases hq
 have hr1:getM (setM (.frz sh k) mem q) r=.rowx e l i (.row q):=by rw [getM_setM,if_neg hrq];exact hr
 have hq1:getM (setM (.frz sh k) mem q) q=.frz sh k:=by rw [getM_setM,if_pos rfl]
 have hb:=m1.blk r
 have hc:=m1.blk q
 rw [hr1] at hb
 rw [hq1] at hc
 generalize setM (.frz sh k) mem q=mem1 at *
 obtain ⟨b,off,cap,cur,h1,h3,h4,h5,h6,h7,h0,h9,hi,h8,hx⟩:=hb
 obtain ⟨v,g1,g2⟩:=hc
 have hv0:vblock (.slice (some ⟨b,off,none⟩) l.length cap)=some b:=by simp only [vblock];rw [if_neg (by omega)]
 have main:=m1.step (mem':=setM (.row none e (setL l i (.lst sh k))) mem1 r) (fun p=>p=r) none (.refl _ _) (fun p hp=>⟨by rw [getM_setM,if_neg hp],rfl⟩) (fun p _=>.inr (.inl rfl)) (fun p hp=>by cases hp) (fun k _=>.inl rfl)
  (fun p u c hp h1' h2 h3'=>by subst hp;exact .inr ⟨p,u,rfl,by rw [hr1];rfl,h2,h3'⟩) (fun p p' _ _ _ h1 h2 _ _ _ _ _ _=>by rw [h1,h2]) (fun ht p hp=>by
   subst hp
   rw [getM_setM,if_pos rfl,h1]
   refine ⟨_,rfl,.inr ⟨b,off,cap,cur,by rw [setL_length],h3,h4,by rw [setL_length];exact h5,h6,by simpa [wid] using h7,h0,h9,fun j hj=>?_⟩⟩
   rw [setL_length] at hj
   rw [setL_get]
   by_cases hji:i=j
   ·subst hji
    rw [if_pos rfl]
    have hden:Den w (Forb X mem1 ρ) ρ (.row q) (valAt none (cur.toList.drop off) i):=hx
    have hv:valAt none (cur.toList.drop off) i=v:=by
     generalize valAt none (cur.toList.drop off) i=z at hden
     cases hden with
     | row _ _ a' n' c' hrow=>exact (hrow _ g1).symm
    rw [hv]
    exact g2.mono ht.size ht.keep
   ·rw [if_neg hji]
    exact (h8 j hj (fun e=>hji e.symm)).mono ht.size ht.keep)
 exact ⟨main.1,t1.trans main.2⟩
end
section
open Go.RowKit
variable {P:Program} {T:Nat→Option TI}
theorem run_slice_gen (w:World) {t el:TypeId} {size:Nat} (ht:P.underlying t=some (.slice el)) (hs:∀ w,(sizeOf el).run P w=.ok size w) (a:Option Addr) (len cap l h m:Nat) (lo hi mx:Option Value)
  (hm:(mx=none∧m=cap)∨∃ k z,mx=some (.int k z)∧0≤z∧z≤cap∧m=z.toNat) (hh:(hi=none∧mx=none∧h=len)∨∃ k z,hi=some (.int k z)∧0≤z∧z≤m∧h=z.toNat)
  (hl:(lo=none∧l=0)∨∃ k z,lo=some (.int k z)∧0≤z∧z≤h∧l=z.toNat) :
  (Instr.sliceAt t (.slice a len cap) lo hi mx).run P w=.ok (.slice (if m=l then a else a.map (·.add (l * size))) (h - l) (m - l)) w:=by
 rcases hm with ⟨rfl,rfl⟩ | ⟨km,zm,rfl,m1,m2,rfl⟩ <;> rcases hh with ⟨rfl,hx,rfl⟩ | ⟨kh,zh,rfl,h1,h2,rfl⟩ <;> rcases hl with ⟨rfl,rfl⟩ | ⟨kl,zl,rfl,l1,l2,rfl⟩ <;>
  first
  | (cases hx;done)
  | (try have em:=Int.toNat_of_nonneg m1
     try have eh:=Int.toNat_of_nonneg h1
     try have el:=Int.toNat_of_nonneg l1
     simp only [Instr.sliceAt,Instr.slice,Instr.sliceBounds,run_underlying ht,Sem.run_bind,Sem.run_pure,Result.andThen_ok,hs,Option.isSome_none,Option.isSome_some,if_true,Bool.false_eq_true,if_false]
     (try rw [run_sliceBound _ _ _ _ _ m1 (by omega)]);(try simp only [Result.andThen_ok,Sem.run_pure])
     (try rw [run_sliceBound _ _ _ _ _ h1 (by omega)]);(try simp only [Result.andThen_ok,Sem.run_pure])
     (try rw [run_sliceBound _ _ _ _ _ l1 (by omega)]);(try simp only [Result.andThen_ok,Sem.run_pure])
     try simp)
theorem run_slice_str (w:World) {t:TypeId} (ht:P.underlying t=some .string) (s:ByteArray) (l h:Nat) (lo hi:Option Value)
  (hh:(hi=none∧h=s.size)∨∃ k z,hi=some (.int k z)∧0≤z∧z≤s.size∧h=z.toNat)
  (hl:(lo=none∧l=0)∨∃ k z,lo=some (.int k z)∧0≤z∧z≤h∧l=z.toNat) :
  (Instr.sliceAt t (.string s) lo hi none).run P w=.ok (.string (s.extract l h)) w:=by
 rcases hh with ⟨rfl,rfl⟩ | ⟨kh,zh,rfl,h1,h2,rfl⟩ <;> rcases hl with ⟨rfl,rfl⟩ | ⟨kl,zl,rfl,l1,l2,rfl⟩ <;>
  first
  | (cases hx;done)
  | (try have eh:=Int.toNat_of_nonneg h1
     try have el:=Int.toNat_of_nonneg l1
     simp only [Instr.sliceAt,Instr.slice,Instr.sliceBounds,run_underlying ht,Sem.run_bind,Sem.run_pure,Result.andThen_ok,Option.isSome_none,Bool.false_eq_true,if_false]
     (try rw [run_sliceBound _ _ _ _ _ h1 (by omega)]);(try simp only [Result.andThen_ok])
     (try rw [run_sliceBound _ _ _ _ _ l1 (by omega)]);(try simp only [Result.andThen_ok])
     try simp)
theorem run_slice_arr (w:World) {t el n:Nat} {size:Nat} (ht:P.underlying t=some (.array n el)) (hs:∀ w,(sizeOf el).run P w=.ok size w) (a:Addr) (l h:Nat) (lo hi:Option Value)
  (hh:(hi=none∧h=n)∨∃ k z,hi=some (.int k z)∧0≤z∧z≤n∧h=z.toNat)
  (hl:(lo=none∧l=0)∨∃ k z,lo=some (.int k z)∧0≤z∧z≤h∧l=z.toNat) :
  (Instr.sliceAt t (.pointer (some a)) lo hi none).run P w=.ok (.slice (some (if n=l then a else a.add (l * size))) (h - l) (n - l)) w:=by
 rcases hh with ⟨rfl,rfl⟩ | ⟨kh,zh,rfl,h1,h2,rfl⟩ <;> rcases hl with ⟨rfl,rfl⟩ | ⟨kl,zl,rfl,l1,l2,rfl⟩ <;>
  first
  | (cases hx;done)
  | (try have eh:=Int.toNat_of_nonneg h1
     try have el:=Int.toNat_of_nonneg l1
     simp only [Instr.sliceAt,Instr.sureAddr,asAddr,Instr.sliceBounds,run_underlying ht,Sem.run_bind,Sem.run_pure,Result.andThen_ok,hs,Option.isSome_none,Bool.false_eq_true,if_false]
     (try rw [run_sliceBound _ _ _ _ _ h1 (by omega)]);(try simp only [Result.andThen_ok,Sem.run_pure])
     (try rw [run_sliceBound _ _ _ _ _ l1 (by omega)]);(try simp only [Result.andThen_ok,Sem.run_pure])
     try simp)
def optI (e:Operand→SV):Option Operand→Option (Option Int)
 | none=>some none
 | some y=>(match e y with | .int _ n=>some (some n) | _=>none)
def subL (l:List SV) (lo hi:Option Int):List SV :=
 match lo,hi with
 | none,none=>l
 | some a,none=>l.drop a.toNat
 | none,some b=>l.take b.toNat
 | some a,some b=>(l.drop a.toNat).take (b.toNat - a.toNat)
def optSub (c:Option Nat) (k:Nat):Option Nat:=match c with | some c=>some (c - k) | none=>none
def loN (lo:Option Int):Nat:=match lo with | none=>0 | some a=>a.toNat
def subS (s:ByteArray) (lo hi:Option Int):ByteArray:=s.extract (loN lo) (match hi with | none=>s.size | some b=>b.toNat)
def bndQ (lo hi mx:Option Int) (len:Nat) (k:Prop):Prop :=
 match lo,hi,mx with
 | none,none,none=>k
 | some a,none,none=>Rq (fun _=>0≤a∧a≤len) (fun _=>k)
 | none,some b,none=>Rq (fun _=>0≤b∧b≤len) (fun _=>k)
 | some a,some b,none=>Rq (fun _=>0≤a∧a≤b∧b≤len) (fun _=>k)
 | none,some b,some m=>Rq (fun _=>0≤b∧b≤m∧m≤len) (fun _=>k)
 | some a,some b,some m=>Rq (fun _=>0≤a∧a≤b∧b≤m∧m≤len) (fun _=>k)
 | _,none,some _=>False
theorem bndQ_k {lo hi mx:Option Int} {len:Nat} {k:Prop} (h:bndQ lo hi mx len k):k:=by
 cases lo <;> cases hi <;> cases mx <;> simp only [bndQ] at h <;> first | exact h | exact h.k | exact h.elim
def subN (lo hi:Option Int) (len:Nat):Nat:=match hi with | none=>len - loN lo | some b=>b.toNat - loN lo
def byteAt (s:ByteArray) (n:Int):Int:=((s.data.toList[n.toNat]?).getD 0).toNat
noncomputable def subLO (l:List SV) (lo hi:Option Int):List SV :=
 match lo,hi with
 | none,none=>l
 | some a,none=>O.dr a l
 | none,some b=>O.tk b l
 | some a,some b=>O.sg l (O.tn a) (O.si b a)
theorem subLO_eq (l:List SV) (lo hi:Option Int):subLO l lo hi=subL l lo hi:=by
 cases lo <;> cases hi <;> simp [subLO,subL,O.hdr,O.htk,O.hsg,O.htn,O.hsi]
noncomputable def loA (a:Nat) (lo:Option Int):Nat:=match lo with | none=>a | some z=>O.ad a z
theorem loA_eq (a:Nat) (lo:Option Int):loA a lo=a+loN lo:=by cases lo <;> simp [loA,loN,O.had]
noncomputable def subNO (lo hi:Option Int) (n:Nat):Nat:=match lo,hi with
 | none,none=>n
 | some a,none=>O.sb n a
 | none,some b=>O.tn b
 | some a,some b=>O.si b a
theorem subNO_eq (lo hi:Option Int) (n:Nat):subNO lo hi n=subN lo hi n:=by
 cases lo <;> cases hi <;> simp [subNO,subN,loN,O.hsb,O.htn,O.hsi]
noncomputable def subI (m:Int) (lo:Option Int):Nat:=match lo with | none=>O.tn m | some a=>O.si m a
theorem subI_eq (m:Int) (lo:Option Int):subI m lo=m.toNat - loN lo:=by cases lo <;> simp [subI,loN,O.htn,O.hsi]
noncomputable def optSubO (c:Option Nat) (lo:Option Int):Option Nat:=match c,lo with
 | none,_=>none
 | some c,none=>some c
 | some c,some a=>some (O.sb c a)
theorem optSubO_eq (c:Option Nat) (lo:Option Int):optSubO c lo=optSub c (loN lo):=by cases c <;> cases lo <;> simp [optSubO,optSub,loN,O.hsb]
def sval (T:Nat→Option TI) (op:Op) (e:Operand→SV) (μ:Nat→Blk) (κ:SV→Prop):Prop :=
 match op with
 | .slice t x lo hi mx=>(match T t,optI e lo,optI e hi,optI e mx with
  | some i,some lo,some hi,some mx=>(match i.kind with
   | .slice el=>(match T el with
    | some j=>(match listOf μ j.shape (e x) with
     | some l=>bndQ lo hi mx (O.ln l) (match e x with
      | .lst s l=>κ (.lst s (subLO l lo hi))
      | .nil=>κ .nil
      | .row r=>(match μ r with
       | .row _ _ _=>(match mx with | some m=>κ (.rsl r j.shape (loA 0 lo) (subNO lo hi (O.ln l)) (some (subI m lo))) | none=>κ (.rsl r j.shape (loA 0 lo) (subNO lo hi (O.ln l)) none))
       | _=>κ (.lst j.shape (subLO l lo hi)))
      | .rsl r s a n c=>(match mx with
       | none=>κ (.rsl r s (loA a lo) (subNO lo hi n) (optSubO c lo))
       | some m=>κ (.rsl r s (loA a lo) (subNO lo hi n) (some (subI m lo))))
      | _=>False)
     | none=>False)
    | none=>False)
   | .array n el=>(match T el,e x,mx with
    | some j,.ptr r o,none=>if shEq none j.shape && Nat.beq j.size 1 then bndQ lo hi none n (κ (.rsl r none (loA o lo) (subNO lo hi n) (some (subI n lo)))) else False
    | some j,.eptr (some _) (.agg l) o,none=>if shEq none j.shape && Nat.beq j.size 1 && Nat.ble (o+n) l.length && allIntB ((l.drop o).take n) then bndQ lo hi none n (κ (.lst none (subLO ((l.drop o).take n) lo hi))) else False
    | _,_,_=>False)
   | .string=>(match e x,mx with
    | .str s,none=>bndQ lo hi none s.size (QV (fun z=>z=subS s lo hi) (fun z=>κ (.str z)))
    | _,_=>False)
   | _=>False)
  | _,_,_,_=>False)
 | .index t x ix=>(match T t,e ix with
  | some i,.int _ n=>(match i.kind,e x with
   | .string,.str s=>Q1 (fun _=>0≤n∧n < s.size) (fun z=>z=byteAt s n) (fun z=>κ (.int .u8 z))
   | _,_=>False)
  | _,_=>False)
 | .convert s t x=>(match T s,T t with
  | some i,some j=>(match i.kind,j.kind with
   | .slice el,.string=>(match T el with
    | some k=>(match k.kind,listOf μ none (e x) with
     | .int .u8,some l=>QV (fun bs=>l=O.by' bs) (fun bs=>κ (.str bs))
     | _,_=>False)
    | none=>False)
   | _,_=>False)
  | _,_=>False)
 | _=>False
theorem optI_some {e:Operand→SV} {y:Option Operand} {z:Option Int} (h:optI e y=some z) {w:World} {X:Nat→Prop} {ρ:Env} {a:Act} (hd:∀ x,y=some x→Den w X ρ (e x) (a.eval x)) :
  (y.map a.eval=none∧z=none)∨∃ k n,y.map a.eval=some (.int k n)∧z=some n:=by
 cases y with
 | none=>simp only [optI] at h;injection h with h;exact .inl ⟨rfl,h.symm⟩
 | some x =>
  simp only [optI] at h
  cases hx:e x with
  | int k n =>
   rw [hx] at h
   injection h with h
   have:=hd x rfl
   rw [hx,Den.int_iff] at this
   exact .inr ⟨k,n,by simp [this],h.symm⟩
  | _=>rw [hx] at h;cases h
theorem bnd_run {lo hi mx:Option Int} {len cap:Nat} {k:Prop} (h:bndQ lo hi mx len k) (hc:len≤cap) {vl vh vm:Option Value} (hl:(vl=none∧lo=none)∨∃ k n,vl=some (.int k n)∧lo=some n) (hh:(vh=none∧hi=none)∨∃ k n,vh=some (.int k n)∧hi=some n) (hm:(vm=none∧mx=none)∨∃ k n,vm=some (.int k n)∧mx=some n) :
  ∃ l hh' m:Nat,((vm=none∧m=cap)∨∃ k z,vm=some (.int k z)∧0≤z∧z≤cap∧m=z.toNat)∧((vh=none∧vm=none∧hh'=len)∨∃ k z,vh=some (.int k z)∧0≤z∧z≤m∧hh'=z.toNat)∧((vl=none∧l=0)∨∃ k z,vl=some (.int k z)∧0≤z∧z≤hh'∧l=z.toNat) ∧
   l=loN lo∧hh' - l=subN lo hi len∧l≤hh'∧hh'≤len∧hh'≤m∧m≤cap∧(mx=none→m=cap)∧(∀ z,mx=some z→m=z.toNat∧m≤len):=by
 rcases hl with ⟨rfl,rfl⟩ | ⟨kl,zl,rfl,rfl⟩ <;> rcases hh with ⟨rfl,rfl⟩ | ⟨kh,zh,rfl,rfl⟩ <;> rcases hm with ⟨rfl,rfl⟩ | ⟨km,zm,rfl,rfl⟩ <;> simp only [bndQ] at h
 ·exact ⟨0,len,cap,.inl ⟨rfl,rfl⟩,.inl ⟨rfl,rfl,rfl⟩,.inl ⟨rfl,rfl⟩,rfl,rfl,by omega,by omega,hc,by omega,fun _=>rfl,fun z hz=>by cases hz⟩
 ·have hp:=h.p
  exact ⟨0,zh.toNat,cap,.inl ⟨rfl,rfl⟩,.inr ⟨_,_,rfl,by omega,by omega,rfl⟩,.inl ⟨rfl,rfl⟩,rfl,by simp [subN,loN],by omega,by omega,by omega,by omega,fun _=>rfl,fun z hz=>by cases hz⟩
 ·have hp:=h.p
  exact ⟨0,zh.toNat,zm.toNat,.inr ⟨_,_,rfl,by omega,by omega,rfl⟩,.inr ⟨_,_,rfl,by omega,by omega,rfl⟩,.inl ⟨rfl,rfl⟩,rfl,by simp [subN,loN],by omega,by omega,by omega,by omega,(fun hx=>by cases hx),fun z hz=>by injection hz with hz;subst hz;exact ⟨rfl,by omega⟩⟩
 ·have hp:=h.p
  exact ⟨zl.toNat,len,cap,.inl ⟨rfl,rfl⟩,.inl ⟨rfl,rfl,rfl⟩,.inr ⟨_,_,rfl,by omega,by omega,rfl⟩,rfl,by simp [subN,loN],by omega,by omega,hc,by omega,fun _=>rfl,fun z hz=>by cases hz⟩
 ·have hp:=h.p
  exact ⟨zl.toNat,zh.toNat,cap,.inl ⟨rfl,rfl⟩,.inr ⟨_,_,rfl,by omega,by omega,rfl⟩,.inr ⟨_,_,rfl,by omega,by omega,rfl⟩,rfl,by simp [subN,loN],by omega,by omega,by omega,by omega,fun _=>rfl,fun z hz=>by cases hz⟩
 ·have hp:=h.p
  exact ⟨zl.toNat,zh.toNat,zm.toNat,.inr ⟨_,_,rfl,by omega,by omega,rfl⟩,.inr ⟨_,_,rfl,by omega,by omega,rfl⟩,.inr ⟨_,_,rfl,by omega,by omega,rfl⟩,rfl,by simp [subN,loN],by omega,by omega,by omega,by omega,(fun hx=>by cases hx),fun z hz=>by injection hz with hz;subst hz;exact ⟨rfl,by omega⟩⟩
theorem subL_eq {l:List SV} {lo hi:Option Int}:subL l lo hi=(l.drop (loN lo)).take (subN lo hi l.length):=by
 cases lo <;> cases hi <;> simp only [subL,subN,loN]
 ·simp
 ·simp
 ·rw [List.take_of_length_le (by simp)]
theorem sval_ok (tys:Types P T) (sz:Sizes T) {o:Oper} {e:Operand→SV} {μ:Nat→Blk} {κ:SV→Prop} (h:sval T o.op e μ κ):∃ v,κ v∧RdOk P T o e μ v:=by
 generalize ho:o.op=op at h
 cases op
 case slice t x lo hi mx =>
  simp only [sval,O.hln,subLO_eq,loA_eq,subNO_eq,subI_eq,optSubO_eq,Nat.zero_add] at h
  split at h <;> try exact h.elim
  rename_i i zlo zhi zmx ht hlo hhi hmx
  have hops:∀ (mem:Mem) (a:Act) (w:World) (X:Nat→Prop) (ρ:Env),(∀ y∈o.op.operands,Den w X ρ (e y) (a.eval y))→Den w X ρ (e x) (a.eval x)∧((lo.map a.eval=none∧zlo=none)∨∃ k n,lo.map a.eval=some (.int k n)∧zlo=some n) ∧
    ((hi.map a.eval=none∧zhi=none)∨∃ k n,hi.map a.eval=some (.int k n)∧zhi=some n)∧((mx.map a.eval=none∧zmx=none)∨∃ k n,mx.map a.eval=some (.int k n)∧zmx=some n):=by
   intro mem a w X ρ hd
   rw [ho] at hd
   simp only [Op.operands] at hd
   exact ⟨hd x (by simp),optI_some hlo (fun y hy=>hd y (by simp [hy])),optI_some hhi (fun y hy=>hd y (by simp [hy])),optI_some hmx (fun y hy=>hd y (by simp [hy]))⟩
  split at h <;> try exact h.elim
  ·rename_i el hk
   split at h <;> try exact h.elim
   rename_i j hj
   split at h <;> try exact h.elim
   rename_i l hl
   have ti:=tys.ok t i ht
   have tj:=tys.ok el j hj
   have hw:=TI.wid_size (sz.one _ _ hj)
   have key:∀ v,(∀ (mem:Mem),Sees μ mem→∀ (a:Act) (N:Nat→Prop) (w0 w:World) (X:Nat→Prop) (ρ:Env),MRep T N w0 w X mem ρ→Den w (Forb X mem ρ) ρ (e x) (a.eval x)→∀ ad c,a.eval x=.slice ad l.length c→l.length≤c→∀ l1 h1 m1:Nat,l1=loN zlo→h1 - l1=subN zlo zhi l.length→l1≤h1→h1≤l.length→h1≤m1→m1≤c→(zmx=none→m1=c)→(∀ z,zmx=some z→m1=z.toNat∧m1≤l.length) →
     Den w (Forb X mem ρ) ρ v (.slice (if m1=l1 then ad else ad.map (·.add (l1 * j.size))) (h1 - l1) (m1 - l1)))→RdOk P T o e μ v:=by
    intro v hv
    refine ⟨fun mem hμ a N w0 w X ρ m hd=>?_⟩
    obtain ⟨d1,d2,d3,d4⟩:=hops mem a w _ ρ hd
    obtain ⟨ad,c,e1,e2,_⟩:=listOf_den hμ m hl d1
    obtain ⟨l1,h1,m1,g1,g2,g3,g4,g5,g6,g7,g8,g9,g10,g11⟩:=bnd_run h e2 d2 d3 d4
    have hr:=run_slice_gen (P:=P) w (ti.und_slice hk) (fun w=>tj.sizeOf w) ad l.length c l1 h1 m1 _ _ _ g1 g2 g3
    refine ⟨_,by simp only [execOp,ho,e1,Sem.run_bind,hr,Result.andThen_ok,Sem.run_pure],hv mem hμ a N w0 w X ρ m d1 ad c e1 e2 l1 h1 m1 g4 g5 g6 g7 g8 g9 g10 g11⟩
   have onList:live μ (e x)=false→RdOk P T o e μ (.lst j.shape (subL l zlo zhi)):=by
    intro hlive
    refine key _ fun mem hμ a N w0 w X ρ m hd ad c e1 e2 l1 h1 m1 g4 g5 g6 g7 g8 g9 g10 g11=>?_
    obtain ⟨ad',c',f1,f2,f3⟩:=listOf_den hμ m hl hd
    rw [e1] at f1
    injection f1 with f1 _ f4
    subst f1;subst f4
    rw [subL_eq,← g4,← g5]
    by_cases hm:m1=l1
    ·rw [if_pos hm]
     have:h1 - l1=0:=by omega
     rw [this,List.take_zero]
     exact .lst0 _ _ _ _
    ·rw [if_neg hm]
     rcases f3 with rfl | ⟨b,off,us,rfl,p1,p2,p3,p6,p4,p5⟩
     ·have:h1 - l1=0:=by simp at g7;omega
      rw [this,List.take_zero]
      exact .lst0 _ _ _ _
     ·have hx:¬ Forb X mem ρ b:=p2.resolve_right fun h=>by rw [hlive] at h;cases h.2
      have:=SliceAt.part (w:=w) (Y:=Forb X mem ρ) (ok:=fun b=>¬ Forb X mem ρ b) (a:=l1) (n:=h1 - l1) (c:=m1 - l1) p1 hx p3 p6 p4 p5 (by omega) (by omega)
      have:=this.lst (Z:=Forb X mem ρ) (ρ:=ρ) (fun b _ h=>h) (fun b h=>h)
      simpa [hw,addr_add] using this
   have hk':=bndQ_k h
   cases hx:e x with
   | lst s l' =>
    simp only [hx] at hk' hl
    simp only [listOf] at hl
    split at hl
    case isFalse=>cases hl
    rename_i hs
    have hs:=shEq_eq hs
    injection hl with hl
    subst hl;subst hs
    exact ⟨_,hk',onList (by rw [hx];rfl)⟩
   | nil =>
    simp only [hx] at hk' hl
    simp only [listOf] at hl
    injection hl with hl
    subst hl
    refine ⟨_,hk',key _ fun mem hμ a N w0 w X ρ m hd ad c e1 e2 l1 h1 m1 g4 g5 g6 g7 g8 g9 g10 g11=>?_⟩
    rw [hx] at hd
    rw [e1] at hd
    cases hd
    simp at g7 g9
    subst g7;subst g9
    have:l1=0:=by omega
    subst this
    simp
    exact .nil _
   | row r =>
    simp only [hx] at hk' hl
    cases hm:μ r with
    | row s' e' l' =>
     simp only [hm] at hk'
     have core:∀ c2:Option Nat,(zmx=none→c2=none)→(∀ z,zmx=some z→c2=some (z.toNat - loN zlo))→RdOk P T o e μ (.rsl r j.shape (loN zlo) (subN zlo zhi l.length) c2):=by
      intro c2 hc1 hc2
      refine key _ fun mem hμ a N w0 w X ρ m hd ad c e1 e2 l1 h1 m1 g4 g5 g6 g7 g8 g9 g10 g11=>?_
      rw [hx] at hd
      rw [e1] at hd
      rw [← g4,← g5]
      cases hd with
      | row _ _ _ _ _ hr =>
       refine .rsl _ _ _ _ _ _ _ _ (by omega) fun q hq=>?_
       have:=hr _ hq
       subst this
       refine .inl ⟨ad,_,_,rfl,by omega,by omega,fun hz=>?_,fun z hz=>?_,?_⟩
       ·cases hzm:zmx with
        | none=>rw [g10 hzm]
        | some z=>rw [hc2 z hzm] at hz;cases hz
       ·cases hzm:zmx with
        | none=>rw [hc1 hzm] at hz;cases hz
        | some z'=>rw [hc2 z' hzm] at hz;injection hz with hz;rw [(g11 z' hzm).1,g4];exact hz
       ·by_cases hml:m1=l1
        ·exact .inl (by omega)
        ·rw [if_neg hml]
         right
         obtain ⟨rv,q1,_,q4⟩:=hμ.rowAt m hm
         rw [hq] at q1
         injection q1 with q1
         rcases q4 with ⟨a0,rfl,_⟩ | ⟨b,off,cap,cur,rfl,_⟩
         ·injection q1 with _ _ q5
          omega
         ·injection q1 with q1 _ _
          exact ⟨b,off,q1,by rw [q1];simp [addr_add,hw]⟩
     cases hz:zmx with
     | none =>
      simp only [hz] at hk'
      exact ⟨_,hk',core _ (fun _=>rfl) (fun z hz'=>by rw [hz] at hz';cases hz')⟩
     | some m0 =>
      simp only [hz] at hk'
      exact ⟨_,hk',core _ (fun hz'=>by rw [hz] at hz';cases hz') (fun z hz'=>by rw [hz] at hz';injection hz' with hz';subst hz';rfl)⟩
    | frz s' l' =>
     simp only [hm] at hk'
     exact ⟨_,hk',onList (by rw [hx];simp [live,hm,liveB])⟩
    | _=>rw [listOf,hm] at hl;simp [listB] at hl
   | rsl r s a n c =>
    simp only [hx] at hk' hl
    have hsj:s=j.shape:=by
     simp only [listOf] at hl
     split at hl
     ·rename_i hs;exact shEq_eq hs
     ·cases hl
    have core:∀ c2:Option Nat,(zmx=none→c2=optSub c (loN zlo))→(∀ z,zmx=some z→c2=some (z.toNat - loN zlo))→RdOk P T o e μ (.rsl r s (a+loN zlo) (subN zlo zhi n) c2):=by
     intro c2 hc1 hc2
     refine key _ fun mem hμ ac N w0 w X ρ m hd ad c' e1 e2 l1 h1 m1 g4 g5 g6 g7 g8 g9 g10 g11=>?_
     rw [hx] at hd
     rw [e1] at hd
     have hns:∃ q A B C,ρ r=some q∧q=.slice A B C:=by
      simp only [listOf] at hl
      split at hl
      case isFalse=>cases hl
      cases hl':listB j.shape (μ r) with
      | none=>rw [hl'] at hl;cases hl
      | some k =>
       obtain ⟨q,g1,A,C,g2,_⟩:=listB_den hμ m hl'
       exact ⟨q,A,_,C,g1,g2⟩
     generalize hll:l.length=L at *
     cases hd with
     | rsl _ _ _ _ _ _ _ _ hcc hr =>
      rw [← g4,← g5]
      refine .rsl _ _ _ _ _ _ _ _ (by omega) fun q hq=>?_
      obtain ⟨x0,len,cap,e3,e4,e5,e6,e7,e8⟩:=(hr _ hq).resolve_right (by
       rintro ⟨_,h,_⟩
       obtain ⟨q',A,B,C,k1,k2⟩:=hns
       rw [hq] at k1
       injection k1 with k1
       rw [k1,k2] at h
       cases h)
      refine .inl ⟨x0,len,cap,e3,by omega,by omega,fun hz=>?_,fun z hz=>?_,?_⟩
      ·cases hzm:zmx with
       | none =>
        rw [hc1 hzm] at hz
        cases c with
        | none=>rw [g10 hzm,e6 rfl];omega
        | some k=>cases hz
       | some z=>rw [hc2 z hzm] at hz;cases hz
      ·cases hzm:zmx with
       | none =>
        rw [hc1 hzm] at hz
        cases c with
        | none=>cases hz
        | some k=>injection hz with hz;rw [g10 hzm,e7 k rfl,g4];exact hz
       | some z'=>rw [hc2 z' hzm] at hz;injection hz with hz;rw [(g11 z' hzm).1,g4];exact hz
      ·by_cases hml:m1=l1
       ·exact .inl (by omega)
       ·rw [if_neg hml]
        right
        rcases e8 with e8 | ⟨b,off,e8,e9⟩
        ·omega
        ·refine ⟨b,off,e8,?_⟩
         rw [e9]
         simp only [Option.map_some,addr_add,hsj,← hw,Nat.add_mul,Nat.add_assoc]
    cases hz:zmx with
    | none =>
     simp only [hz] at hk'
     exact ⟨_,hk',core _ (fun _=>rfl) (fun z hz'=>by rw [hz] at hz';cases hz')⟩
    | some m0 =>
     simp only [hz] at hk'
     exact ⟨_,hk',core _ (fun hz'=>by rw [hz] at hz';cases hz') (fun z hz'=>by rw [hz] at hz';injection hz' with hz';subst hz';rfl)⟩
   | _=>simp only [hx] at hk'
  ·rename_i n el hk
   split at h <;> try exact h.elim
   ·rename_i j r o hj hx
    split at h
    case isFalse=>exact h.elim
    rename_i hc
    simp only [Bool.and_eq_true] at hc
    have hsz:j.size=1:=Nat.eq_of_beq_eq_true hc.2
    have ti:=tys.ok t i ht
    have tj:=tys.ok el j hj
    refine ⟨_,bndQ_k h,⟨fun mem hμ a N w0 w X ρ m hd=>?_⟩⟩
    obtain ⟨d1,d2,d3,d4⟩:=hops mem a w _ ρ hd
    rw [hx] at d1
    have d4':mx.map a.eval=none:=by
     rcases d4 with d4 | ⟨_,_,_,d4⟩
     ·exact d4.1
     ·cases d4
    obtain ⟨l1,h1,m1,g1,g2,g3,g4,g5,g6,g7,g8,g9,g10,g11⟩:=bnd_run h (Nat.le_refl _) d2 d3 (.inl ⟨d4',rfl⟩)
    have hm1:m1=n:=g10 rfl
    subst hm1
    generalize hv:a.eval x=v at d1
    cases d1 with
    | ptr _ _ _ b hb =>
     have hr:=run_slice_arr (P:=P) w (ti.und_array hk) (fun w=>tj.sizeOf w) ⟨b,o,none⟩ l1 h1 _ _ (g2.imp (fun g=>⟨g.1,g.2.2⟩) (fun ⟨k,z,a1,a2,a3,a4⟩=>⟨k,z,a1,a2,a3,a4⟩)) g3
     refine ⟨.slice (some (if m1=l1 then ⟨b,o,none⟩ else Addr.add ⟨b,o,none⟩ (l1 * j.size))) (h1 - l1) (m1 - l1),by simp only [execOp,ho,hv,d4',Sem.run_bind,hr,Result.andThen_ok,Sem.run_pure],?_⟩
     rw [← g4,← g5]
     refine .rsl _ _ _ _ _ _ _ _ (by omega) fun q hq=>.inr ⟨b,hb q hq,rfl,?_,fun m hm=>?_⟩
     ·by_cases hm:m1=l1
      ·exact .inl (by omega)
      ·right
       rw [if_neg hm]
       (try simp [hsz,addr_add])
     ·injection hm with hm
      (try rw [← hm])
   rename_i j q l o hj hx
   split at h
   case isFalse=>exact h.elim
   rename_i hc
   simp only [Bool.and_eq_true] at hc
   have c1:=hc.1.1.2
   have c2:o+n≤l.length:=Nat.le_of_ble_eq_true hc.1.2
   have c3:=hc.2
   have hsz:j.size=1:=Nat.eq_of_beq_eq_true c1
   have ti:=tys.ok t i ht
   have tj:=tys.ok el j hj
   refine ⟨_,bndQ_k h,⟨fun mem hμ a N w0 w X ρ m hd=>?_⟩⟩
   obtain ⟨d1,d2,d3,d4⟩:=hops mem a w _ ρ hd
   rw [hx] at d1
   have d4':mx.map a.eval=none:=by
    rcases d4 with d4 | ⟨_,_,_,d4⟩
    ·exact d4.1
    ·cases d4
   obtain ⟨l1,h1,m1,g1,g2,g3,g4,g5,g6,g7,g8,g9,g10,g11⟩:=bnd_run h (Nat.le_refl _) d2 d3 (.inl ⟨d4',rfl⟩)
   have hm1:m1=n:=g10 rfl
   subst hm1
   generalize hv:a.eval x=v at d1
   cases d1 with
   | eptr _ _ _ _ b oo us hb hx' hu hl hd' =>
    have hr:=run_slice_arr (P:=P) w (ti.und_array hk) (fun w=>tj.sizeOf w) ⟨b,oo+o,none⟩ l1 h1 _ _ (g2.imp (fun g=>⟨g.1,g.2.2⟩) (fun ⟨k,z,a1,a2,a3,a4⟩=>⟨k,z,a1,a2,a3,a4⟩)) g3
    refine ⟨.slice (some (if m1=l1 then ⟨b,oo+o,none⟩ else Addr.add ⟨b,oo+o,none⟩ (l1 * j.size))) (h1 - l1) (m1 - l1),by simp only [execOp,ho,hv,d4',Sem.run_bind,hr,Result.andThen_ok,Sem.run_pure],?_⟩
    have hL:((l.drop o).take m1).length=m1:=by simp;omega
    rw [subL_eq,hL,← g4,← g5]
    by_cases hm:m1=l1
    ·rw [if_pos hm]
     have:h1 - l1=0:=by omega
     rw [this,List.take_zero]
     exact .lst0 _ _ _ _
    ·rw [if_neg hm]
     rw [valAt_some_full (by simp only [wid] at hl;omega)] at hd'
     obtain ⟨cs,hcs,hdl⟩:=Den.agg_iff.1 hd'
     injection hcs with hcs
     injection hcs with hcs
     subst hcs
     have hK:((((l.drop o).take m1).drop l1).take (h1 - l1)).length=h1 - l1:=by rw [List.length_take,List.length_drop,hL];omega
     have hget:∀ (i:Nat) (x:SV),((((l.drop o).take m1).drop l1).take (h1 - l1))[i]?=some x→l[o+l1+i]?=some x∧((l.drop o).take m1)[l1+i]?=some x∧i < h1 - l1:=by
      intro i x hi
      have hlt:i < h1 - l1:=by have:=(List.getElem?_eq_some_iff.1 hi).1;omega
      rw [List.getElem?_take,if_pos hlt,List.getElem?_drop] at hi
      refine ⟨?_,hi,hlt⟩
      rw [List.getElem?_take,if_pos (by omega),List.getElem?_drop] at hi
      rw [← hi];congr 1;omega
     have key:=Den.lst (w:=w) (X:=Forb X mem ρ) ρ none ((((l.drop o).take m1).drop l1).take (h1 - l1)) b (oo+o+l1) (m1 - l1) ((us.drop (o+l1)).take (h1 - l1)) hb hx' (by rw [hK];omega)
      (fun k u hk=>by
        have hlt:k < h1 - l1:=by
         have:=(List.getElem?_eq_some_iff.1 hk).1
         simp at this;omega
        rw [List.getElem?_take,if_pos hlt,List.getElem?_drop] at hk
        have:=hu _ u hk
        rw [← this];congr 2;omega)
      (by rw [hK];have:=hdl.1;simp [wid];omega)
      (fun u hu'=>by
        obtain ⟨k,hk⟩:=List.mem_iff_getElem?.1 hu'
        have hlt:k < h1 - l1:=by
         have:=(List.getElem?_eq_some_iff.1 hk).1
         simp at this;omega
        rw [List.getElem?_take,if_pos hlt,List.getElem?_drop] at hk
        have hkl:k < ((((l.drop o).take m1).drop l1).take (h1 - l1)).length:=by omega
        obtain ⟨e1,e2,_⟩:=hget k _ (List.getElem?_eq_getElem hkl)
        obtain ⟨kk,z,hz⟩:=allIntB_get c3 _ _ e2
        have:=hdl.2 _ _ _ e1 hk
        rw [hz,Den.int_iff] at this
        rw [this];rfl)
      (fun k hk=>by
        obtain ⟨e1,e2,e3⟩:=hget k _ (List.getElem?_eq_getElem hk)
        have hlu:o+l1+k < us.length:=by have:=hdl.1;omega
        have:=hdl.2 _ _ _ e1 (List.getElem?_eq_getElem hlu)
        simp only [valAt,List.getElem?_take,if_pos e3,List.getElem?_drop,List.getElem?_eq_getElem hlu,Option.getD_some]
        exact this)
     rw [hK] at key
     simpa [hsz,addr_add,Nat.add_assoc] using key
  ·rename_i hk
   split at h <;> try exact h.elim
   rename_i s hx
   obtain ⟨zz,hzz,hkk⟩:=(bndQ_k h).h
   subst hzz
   refine ⟨_,hkk,⟨fun mem hμ a N w0 w X ρ m hd=>?_⟩⟩
   obtain ⟨d1,d2,d3,d4⟩:=hops mem a w _ ρ hd
   rw [hx,Den.str_iff] at d1
   have d4':mx.map a.eval=none:=by
    rcases d4 with d4 | ⟨_,_,_,d4⟩
    ·exact d4.1
    ·cases d4
   obtain ⟨l1,h1,m1,g1,g2,g3,g4,g5,g6,g7,g8,g9,g10,g11⟩:=bnd_run h (Nat.le_refl _) d2 d3 (.inl ⟨d4',rfl⟩)
   have hm1:m1=s.size:=g10 rfl
   have hr:=run_slice_str (P:=P) w ((tys.ok t i ht).und_string hk) s l1 h1 _ _ (g2.imp (fun g=>⟨g.1,g.2.2⟩) (fun ⟨k,z,a1,a2,a3,a4⟩=>⟨k,z,a1,a2,by omega,a4⟩)) g3
   refine ⟨.string (s.extract l1 h1),by simp only [execOp,ho,d1,d4',Sem.run_bind,hr,Result.andThen_ok,Sem.run_pure],?_⟩
   have:s.extract l1 h1=subS s zlo zhi:=by
    unfold subS
    rw [g4]
    congr 1
    rcases d3 with ⟨d3,rfl⟩ | ⟨k,n,d3,rfl⟩
    ·rcases g2 with ⟨_,_,g2⟩ | ⟨k,z,g2,_⟩
     ·exact g2
     ·rw [d3] at g2;cases g2
    ·rcases g2 with ⟨g2,_⟩ | ⟨k',z,g2,_,_,g2'⟩
     ·rw [d3] at g2;cases g2
     ·rw [d3] at g2;injection g2 with g2;injection g2 with _ g2;rw [g2',g2]
   rw [this]
   exact .str _ _
 case index t x ix =>
  simp only [sval] at h
  split at h <;> try exact h.elim
  rename_i i k n ht hix
  split at h <;> try exact h.elim
  rename_i s hk hx
  have hp:=h.h.1
  refine ⟨_,h.h.2 _ rfl,⟨fun mem hμ a N w0 w X ρ m hd=>?_⟩⟩
  rw [ho] at hd
  have d1:=hd x (by simp [Op.operands])
  have d2:=hd ix (by simp [Op.operands])
  rw [hx,Den.str_iff] at d1
  rw [hix,Den.int_iff] at d2
  have hlt:n.toNat < s.size:=by omega
  refine ⟨.int .u8 (byteAt s n),?_,.int _ _ _⟩
  have hb:byteAt s n=(s[n.toNat]'hlt).toNat:=by
   simp only [byteAt]
   rw [List.getElem?_eq_getElem (by simpa using hlt)]
   rfl
  simp only [execOp,ho,d1,d2,Instr.index,asIntOf,Sem.run_bind,Sem.run_pure,Result.andThen_ok,run_underlying ((tys.ok t i ht).und_string hk),if_pos hp.1]
  rw [getElem?_pos s n.toNat hlt]
  simp [hb]
 case convert s t x =>
  simp only [sval,O.by_eq] at h
  split at h <;> try exact h.elim
  rename_i i j hs ht
  split at h <;> try exact h.elim
  rename_i el hk hk2
  split at h <;> try exact h.elim
  rename_i k hel
  split at h <;> try exact h.elim
  rename_i l hk3 hl
  obtain ⟨bs,rfl,h'⟩:=h.h
  refine ⟨_,h',⟨fun mem hμ a N w0 w X ρ m hd=>?_⟩⟩
  rw [ho] at hd
  have hd:=hd x (by simp [Op.operands])
  obtain ⟨ad,c,e1,e2,e3⟩:=listOf_den hμ m hl hd
  have us:=(tys.ok s i hs).und_slice hk
  have ue:=(tys.ok el k hel).und_int hk3
  have ud:=(tys.ok t j ht).und_string hk2
  refine ⟨.string bs,?_,.str _ _⟩
  have hbl:(bytesSV bs).length=bs.size:=by simp [bytesSV]
  have hr:(convert s t (a.eval x)).run P w=.ok (.string bs) w:=by
   rw [e1]
   by_cases h0:bs.size=0
   ·have hbs:bs=.empty:=by
     apply ByteArray.ext
     exact Array.eq_empty_of_size_eq_zero h0
    subst hbs
    cases ad with
    | none=>exact run_convert_bytes_nil w s el us ue _ _ t ud
    | some q =>
     rw [run_convert_bytes_string w s t el _ _ _ us ue ud]
     simp [hbl,Conv.bytesToString,loadCells,loadCellsFrom]
   ·rcases e3 with e3 | ⟨b,off,us',rfl,p1,p2,p3,p6,p4,p5⟩
    ·rw [e3] at hbl;simp at hbl;omega
    ·have hget:∀ q,q < bs.size→us'[q]?=some (.int .u8 ((bs.data.toList.map (fun b=>(b.toNat:Int))).getD q 0)):=by
      intro q hq
      have hq':q < (bytesSV bs).length:=by omega
      have h5:=p5 q hq'
      have e4:(bytesSV bs)[q]=.int .u8 ((bs.data.toList.map (fun b=>(b.toNat:Int))).getD q 0):=by
       have h6:q < bs.data.toList.length:=by simpa [bytesSV] using hq'
       have h6':q < bs.data.size:=by simpa using h6
       simp [bytesSV,List.getD,Array.getElem?_eq_getElem h6']
      rw [e4,Den.int_iff] at h5
      simp only [valAt] at h5
      cases h7:us'[q]? with
      | none=>rw [h7] at h5;simp [undef] at h5
      | some u=>simp only [h7,Option.getD_some] at h5;rw [h5]
     have:=run_convert_bytes_arg w s el us ue b off (bytesSV bs).length c (bs.data.toList.map fun b=>(b.toNat:Int)) (by simp [bytesSV]) (fun q hq=>p4 q _ (hget q (by omega))) t ud
     rw [this]
     have e5:strOfNums (bs.data.toList.map fun b=>(b.toNat:Int))=bs:=by
      apply ByteArray.ext
      apply Array.ext'
      rw [strOfNums_data,List.map_map]
      conv=>rhs;rw [← List.map_id bs.data.toList]
      apply List.map_congr_left
      intro b _
      simp
     rw [e5]
  simp only [execOp,ho,Sem.run_bind,hr,Result.andThen_ok,Sem.run_pure]
 all_goals exact h.elim
end
section
open Go.RowKit
variable {P:Program} {T:Nat→Option TI}
def flatB:SV→Bool
 | .bool _ | .int _ _ | .str _ | .nil | .any=>true
 | _=>false
def flatsB:List SV→Bool
 | []=>true
 | x::l=>flatB x && flatsB l
def flatR:SV→Bool
 | .agg l=>flatsB l
 | .tup l=>flatsB l
 | x=>flatB x
theorem flatsB_get:∀ {l:List SV},flatsB l=true→∀ (i:Nat) (h:i < l.length),flatB l[i]=true
 | x::l,hl,0,_=>by simp [flatsB] at hl;exact hl.1
 | x::l,hl,i+1,h=>by simp [flatsB] at hl;exact flatsB_get hl.2 i (by simpa using h)
theorem Den.flat1 {w w':World} {X X':Nat→Prop} {ρ ρ':Env} {x:SV} {v:Value} (h:Den w X ρ x v) (hf:flatB x=true):Den w' X' ρ' x v:=by
 cases h <;> first | exact .any _ _ | exact .bool _ _ | exact .int _ _ _ | exact .str _ _ | exact .nil _ | (simp [flatB] at hf;done)
theorem Den.flat {w w':World} {X X':Nat→Prop} {ρ ρ':Env} {x:SV} {v:Value} (h:Den w X ρ x v) (hf:flatR x=true):Den w' X' ρ' x v:=by
 cases h with
 | agg _ l cs hl h=>exact .agg _ l cs hl fun i h1 h2=>(h i h1 h2).flat1 (flatsB_get (by simpa [flatR] using hf) i h1)
 | tup _ l cs hl h=>exact .tup _ l cs hl fun i h1 h2=>(h i h1 h2).flat1 (flatsB_get (by simpa [flatR] using hf) i h1)
 | any=>exact .any _ _
 | bool=>exact .bool _ _
 | int=>exact .int _ _ _
 | str=>exact .str _ _
 | nil=>exact .nil _
 | _=>simp [flatR,flatB] at hf
structure CT where
 args:List SV
 lent:Option (Nat × SV)
 r:SV
 lent':SV
 new:Blk
def inM (c:CT):Mem:=match c.lent with | some (t,x)=>[(0,.chunk t x)] | none=>[]
def outM (c:CT):Mem:=match c.lent with
 | some (t,_)=>(0,.chunk t c.lent')::(match c.new with | .no=>[] | b=>[(1,b)])
 | none=>(match c.new with | .no=>[] | b=>[(1,b)])
def lentB (l:Option (Nat × SV)):Blk:=match l with | some (t,x)=>.chunk t x | none=>.no
def lentB' (l:Option (Nat × SV)) (y:SV):Blk:=match l with | some (t,_)=>.chunk t y | none=>.no
theorem getM_in (c:CT) (q:Nat):getM (inM c) q=if q=0 then lentB c.lent else .no:=by
 unfold inM lentB
 rcases c.lent with _ | ⟨t,x⟩
 ·simp [getM]
 ·simp only [getM,nbeq]
  by_cases h:q=0
  ·subst h;simp
  ·rw [if_neg (Ne.symm h),if_neg h]
theorem getM_out (c:CT) (q:Nat):getM (outM c) q=if q=0 then lentB' c.lent c.lent' else if q=1 then c.new else .no:=by
 have hn:getM (match c.new with | .no=>[] | b=>[(1,b)]) q=if q=1 then c.new else .no:=by
  cases c.new <;> simp only [getM,nbeq]
  ·split <;> rfl
  all_goals
   by_cases h:q=1
   ·subst h;simp
   ·rw [if_neg (Ne.symm h),if_neg h]
 unfold outM lentB'
 rcases c.lent with _ | ⟨t,x⟩
 ·simp only
  rw [hn]
  by_cases h:q=0
  ·subst h;simp
  ·rw [if_neg h]
 ·simp only [getM,nbeq]
  by_cases h:q=0
  ·subst h;simp
  ·rw [if_neg (Ne.symm h),if_neg h]
   exact hn
structure KeepY (Y:Nat→Prop) (w w':World):Prop where
 size:w.heap.size≤w'.heap.size
 same:∀ b,b < w.heap.size→¬ Y b→w'.heap[b]?=w.heap[b]?
structure ASeq (P:Program) (f:FuncId) (caps:List SV) (xs:List (List SV)):Prop where
 h:∀ (w:World) (Y:Nat→Prop) (us:List Value),DenL w Y noEnv caps us→∀ (l:Nat) (J:Nat→World→Prop) (Jx:World→Prop) (W:World),
  (∀ k W1 W2,J k W1→Below W1.heap.size W1 W2→J k W2)→(∀ W1 W2,Jx W1→Below W1.heap.size W1 W2→Jx W2)→(∀ k W1,J k W1→KeepY Y w W1) →
  (∀ k x vs W1,J k W1→xs[k]?=some x→DenL w Y noEnv x vs→∀ m,YieldAt Fence.wide m P l ⟨vs⟩ W1 fun e W'=>(e=.returned (.bool true)∧J (k+1) W')∨(e=.returned (.bool false)∧Jx W')) →
  J 0 W→∀ n,CallsIn Fence.wide n P f (#[.func (.yield l) #[] #[]]++⟨us⟩) W fun e W'=>(∃ v,e=.returned v)∧(J xs.length W'∨Jx W')
def isSeq (c:CT):Bool:=match c.new with
 | .iter _ _=>true
 | _=>false
def untup:SV→List SV
 | .tup l=>l
 | _=>[]
def seqL:SV→List (List SV)
 | .tup l=>l.map untup
 | _=>[]
def seqC (caps:List SV) (xs:List (List SV)):CT:=⟨caps,none,.tup (xs.map .tup),.any,.iter .empty 0⟩
theorem seqC_L (caps:List SV) (xs:List (List SV)):seqL (seqC caps xs).r=xs:=by simp [seqC,seqL,Function.comp_def,untup]
def lrC (sh:Option Nat) (e:Nat) (l az k:List SV):CT:=⟨.row 0::az,some (e,.lst sh l),.row 0,.lst sh k,.frz none []⟩
def isLR (c:CT):Bool:=match c.new with
 | .frz _ _=>true
 | _=>false
abbrev Ln:=Nat × Nat × SV × SV
def encL (p:Ln):SV:=.tup [.int .i64 p.1,.int .i64 p.2.1,p.2.2.1,p.2.2.2]
def gC (az:List SV) (L:List Ln) (r:SV) (b:Blk):CT:=⟨az,some (0,.tup (L.map encL)),r,.any,b⟩
def isG (c:CT):Bool:=match c.lent with
 | some (_,.tup _)=>true
 | _=>false
def inL (L:List Ln):Mem:=L.map fun p=>(p.1,.chunk p.2.1 p.2.2.1)
def newM:Blk→Mem
 | .no=>[]
 | b=>[(1,b)]
def outL (b:Blk) (L:List Ln):Mem:=(L.map fun p=>(p.1,.chunk p.2.1 p.2.2.2))++newM b
theorem encL_inj {p q:Ln} (h:encL p=encL q):p=q:=by
 obtain ⟨a,b,x,y⟩:=p
 obtain ⟨a',b',x',y'⟩:=q
 simp only [encL,SV.tup.injEq,List.cons.injEq,SV.int.injEq,true_and,and_true] at h
 obtain ⟨h1,h2,h3,h4⟩:=h
 have h1:a=a':=by omega
 have h2:b=b':=by omega
 subst h1;subst h2;subst h3;subst h4
 rfl
theorem encL_map_inj:∀ {L L':List Ln},L.map encL=L'.map encL→L=L'
 | [],[],_=>rfl
 | [],_::_,h=>by simp at h
 | _::_,[],h=>by simp at h
 | p::L,q::L',h=>by
  simp only [List.map_cons,List.cons.injEq] at h
  rw [encL_inj h.1,encL_map_inj h.2]
theorem gC_inj {az az':List SV} {L L':List Ln} {r r':SV} {b b':Blk} (h:gC az L r b=gC az' L' r' b'):az=az'∧L=L'∧r=r'∧b=b':=by
 simp only [gC,CT.mk.injEq,Option.some.injEq,Prod.mk.injEq,SV.tup.injEq,true_and,and_true] at h
 exact ⟨h.1,encL_map_inj h.2.1,h.2.2.1,h.2.2.2⟩
structure ACall (P:Program) (T:Nat→Option TI) (f:FuncId) (c:CT):Prop where
 fn:∃ fn,P.funcs[f]?=some fn∧fn.body.isSome=true∧(fn.name == "runtime.NumGoroutine")=false
 q:isSeq c=true→ASeq P f c.args (seqL c.r)
 lr:∀ sh e l az k,c=lrC sh e l az k→∀ (N:Nat→Prop) (w:World) (X:Nat→Prop) (ρ:Env) (vs:List Value),MRep T N w w X [(0,.row sh e l)] ρ→DenL w (Forb X [(0,.row sh e l)] ρ) ρ (.row 0::az) vs →
  Calls P f ⟨vs⟩ w fun en w'=>∃ v l' ρ',en=.returned v∧MRep T N w w' X [(0,.row sh e l')] ρ'∧ρ' 0=ρ 0∧l'.take k.length=k∧Den w' (Forb X [(0,.row sh e l')] ρ') ρ' (.rsl 0 sh 0 k.length none) v
 g:∀ az L r b,c=gC az L r b→isSeq c=false→isLR c=false→(L.map (fun p=>p.1)).Nodup→∀ (N:Nat→Prop) (w:World) (X:Nat→Prop) (ρ:Env) (vs:List Value),MRep T N w w X (inL L) ρ→DenL w (Forb X (inL L) ρ) ρ az vs →
  Calls P f ⟨vs⟩ w fun e w'=>∃ v ρ',e=.returned v∧MRep T N w w' X (outL b L) ρ'∧(∀ p∈L,ρ' p.1=ρ p.1)∧Den w' (Forb X (outL b L) ρ') ρ' r v
 h:isSeq c=false→isLR c=false→isG c=false→∀ (N:Nat→Prop) (w:World) (X:Nat→Prop) (ρ:Env) (vs:List Value),MRep T N w w X (inM c) ρ→DenL w (Forb X (inM c) ρ) ρ c.args vs →
  Calls P f ⟨vs⟩ w fun e w'=>∃ v ρ',e=.returned v∧MRep T N w w' X (outM c) ρ'∧ρ' 0=ρ 0∧Den w' (Forb X (outM c) ρ') ρ' c.r v
def ren (d:Nat):SV→SV
 | .ptr r o=>.ptr (if Nat.beq r 1 then d else r) o
 | .row r=>.row (if Nat.beq r 1 then d else r)
 | .rsl r sh a n c=>.rsl (if Nat.beq r 1 then d else r) sh a n c
 | .rptr r sh i o=>.rptr (if Nat.beq r 1 then d else r) sh i o
 | .obj r=>.obj (if Nat.beq r 1 then d else r)
 | .agg l=>.agg (rens d l)
 | .tup l=>.tup (rens d l)
 | x=>x
where rens (d:Nat):List SV→List SV
 | []=>[]
 | x::l=>ren d x::rens d l
def only1:SV→Bool
 | .ptr r _=>Nat.beq r 1
 | .row r=>Nat.beq r 1
 | .rsl r _ _ _ _=>Nat.beq r 1
 | .rptr r _ _ _=>Nat.beq r 1
 | .obj r=>Nat.beq r 1
 | .agg l=>only1s l
 | .tup l=>only1s l
 | .fcl _ _ | .cel _=>false
 | _=>true
where only1s:List SV→Bool
 | []=>true
 | x::l=>only1 x && only1s l
theorem rens_length (d:Nat):∀ l:List SV,(ren.rens d l).length=l.length
 | []=>rfl
 | x::l=>by simp [ren.rens,rens_length d l]
theorem rens_get (d:Nat):∀ (l:List SV) (i:Nat) (h:i < (ren.rens d l).length),(ren.rens d l)[i]=ren d (l[i]'(by rwa [rens_length] at h))
 | [],i,h=>by simp [ren.rens] at h
 | x::l,0,h=>rfl
 | x::l,i+1,h=>rens_get d l i (by simpa [ren.rens] using h)
theorem only1s_get:∀ {l:List SV},only1.only1s l=true→∀ (i:Nat) (h:i < l.length),only1 l[i]=true
 | x::l,hl,0,_=>by simp [only1.only1s] at hl;exact hl.1
 | x::l,hl,i+1,h=>by simp [only1.only1s] at hl;exact only1s_get hl.2 i (by simpa using h)
theorem Den.ren {w:World} {X:Nat→Prop} {ρ ρ':Env} {d:Nat} {x:SV} {v:Value} (h:Den w X ρ x v) (ho:only1 x=true) (he:ρ' d=ρ 1):Den w X ρ' (ren d x) v:=by
 induction h generalizing ρ' with
 | any ρ v=>exact .any _ v
 | bool ρ b=>exact .bool _ b
 | int ρ k n=>exact .int _ k n
 | str ρ s=>exact .str _ s
 | agg ρ l cs hl h ih =>
  refine .agg _ _ cs (by rw [rens_length];exact hl) fun i h1 h2=>?_
  rw [rens_get]
  exact ih i (by rwa [rens_length] at h1) h2 (only1s_get (by simpa [only1] using ho) i _) he
 | tup ρ l cs hl h ih =>
  refine .tup _ _ cs (by rw [rens_length];exact hl) fun i h1 h2=>?_
  rw [rens_get]
  exact ih i (by rwa [rens_length] at h1) h2 (only1s_get (by simpa [only1] using ho) i _) he
 | lst0 ρ sh a cap=>exact .lst0 _ sh a cap
 | lst ρ sh l b off cap us hb hx hc hu hl h1 h ih=>exact .lst _ sh l b off cap us hb hx hc hu hl h1 h
 | nil ρ=>exact .nil _
 | ptr ρ r off b h =>
  obtain rfl:r=1:=nbeq.1 (by simpa [only1] using ho)
  exact .ptr _ d off b fun q hq=>h q (by rw [← he];exact hq)
 | row ρ r a n c h =>
  obtain rfl:r=1:=nbeq.1 (by simpa [only1] using ho)
  exact .row _ d a n c fun q hq=>h q (by rw [← he];exact hq)
 | rsl ρ r sh a n c x cc hc h =>
  obtain rfl:r=1:=nbeq.1 (by simpa [only1] using ho)
  exact .rsl _ d sh a n c x cc hc fun q hq=>h q (by rw [← he];exact hq)
 | rptr ρ r sh i off b o h =>
  obtain rfl:r=1:=nbeq.1 (by simpa [only1] using ho)
  exact .rptr _ d sh i off b o fun q hq=>h q (by rw [← he];exact hq)
 | obj ρ r v h1 h =>
  obtain rfl:r=1:=nbeq.1 (by simpa [only1] using ho)
  exact .obj _ d v h1 fun q hq=>h q (by rw [← he];exact hq)
 | eptr ρ sh x off b o us hb hx hu hl h ih=>exact .eptr _ sh x off b o us hb hx hu hl h
 | clo ρ f caps us hl h ih=>exact .clo _ f caps us hl h
 | fcl ρ f caps us hl h ih=>simp [only1] at ho
 | cel ρ x b o u hb hx hu h ih=>simp [only1] at ho
 | val ρ v=>exact .val _ v
def datasB:List SV→Bool
 | []=>true
 | x::l=>dataB x && datasB l
def dataR:SV→Bool
 | .tup l=>datasB l
 | x=>dataB x
theorem datasB_noref:∀ {l:List SV},datasB l=true→∀ r,noref.norefs r l=true
 | [],_,r=>rfl
 | x::l,h,r=>by
  simp [datasB] at h
  simp [noref.norefs,data_noref h.1 r,datasB_noref h.2 r]
theorem dataR_noref {x:SV} (h:dataR x=true) (r:Nat):noref r x=true:=by
 cases x with
 | tup l=>exact datasB_noref (by simpa [dataR] using h) r
 | _=>exact data_noref (by simpa [dataR] using h) r
def peekB:SV→Bool
 | .row _=>true
 | x=>flatB x
def peeksB:List SV→Bool
 | []=>true
 | x::l=>peekB x && peeksB l
def peekR:SV→Bool
 | .tup l=>peeksB l
 | x=>peekB x
theorem peeksB_get:∀ {l:List SV},peeksB l=true→∀ (i:Nat) (h:i < l.length),peekB l[i]=true
 | x::l,hl,0,_=>by simp [peeksB] at hl;exact hl.1
 | x::l,hl,i+1,h=>by simp [peeksB] at hl;exact peeksB_get hl.2 i (by simpa using h)
theorem Den.peek1 {w w':World} {X X':Nat→Prop} {ρ:Env} {x:SV} {v:Value} (h:Den w X ρ x v) (hf:peekB x=true):Den w' X' ρ x v:=by
 cases h with
 | row _ r a n c h=>exact .row _ r a n c h
 | any=>exact .any _ _
 | bool=>exact .bool _ _
 | int=>exact .int _ _ _
 | str=>exact .str _ _
 | nil=>exact .nil _
 | _=>simp [peekB,flatB] at hf
theorem Den.peek {w w':World} {X X':Nat→Prop} {ρ:Env} {x:SV} {v:Value} (h:Den w X ρ x v) (hf:peekR x=true):Den w' X' ρ x v:=by
 cases h with
 | tup _ l cs hl h=>exact .tup _ l cs hl fun i h1 h2=>(h i h1 h2).peek1 (peeksB_get (by simpa [peekR] using hf) i h1)
 | row _ r a n c h=>exact .row _ r a n c h
 | any=>exact .any _ _
 | bool=>exact .bool _ _
 | int=>exact .int _ _ _
 | str=>exact .str _ _
 | nil=>exact .nil _
 | _=>simp [peekR,peekB,flatB] at hf
structure PeekC (c:CT):Prop where
 r:peekR c.r=true
 l:c.lent=none
 n:∃ sh e l,c.new=.row sh e l∧∀ x∈l,flatB x=true
structure CallQ (G:Nat→CT→Prop) (f:Nat) (args:List SV) (lent:Option (Nat × SV)) (κ:Bool→CT→Prop) (alt:Unit→Prop):Prop where
 h:(∃ pk c,G f c∧c.args=args∧c.lent=lent∧(pk=true→PeekC c)∧κ pk c)∨alt ()
theorem callq {G:Nat→CT→Prop} {f:Nat} {args:List SV} {lent:Option (Nat × SV)} {κ:Bool→CT→Prop} {alt:Unit→Prop} {c:CT} (h:G f c) (ha:c.args=args) (hl:c.lent=lent) (k:κ false c):CallQ G f args lent κ alt:=⟨.inl ⟨false,c,h,ha,hl,(fun h=>by cases h),k⟩⟩
structure LrQ (G:Nat→CT→Prop) (f:Nat) (sh:Option Nat) (e:Nat) (l az:List SV) (κ:List SV→Prop):Prop where
 h:∃ k,G f (lrC sh e l az k)∧κ k
noncomputable def callArgs (T:Nat→Option TI) (μ:Nat→Blk):List Nat→List SV→Option (List SV × Option (Nat × Nat × SV))
 | _::ts,.ptr q 0::xs=>(match μ q with
  | .chunk t x=>if dataB x then (match views T μ ts xs with | some az=>some (.ptr 0 0::az,some (q,t,x)) | none=>none) else none
  | _=>none)
 | ts,xs=>(match views T μ ts xs with | some az=>some (az,none) | none=>none)
def isNew:Blk→Bool
 | .chunk _ _=>true
 | .row _ _ _=>true
 | .rowx _ _ _ _=>true
 | .iter _ _=>true
 | .gen _ _ _=>true
 | _=>false
def okC (d:Option Nat) (c:CT):Bool :=
 (match c.lent with | some _=>dataB c.lent' | none=>true) && (match c.new with
  | .no=>dataR c.r
  | .chunk _ x=>dataB x && only1 c.r && d.isSome
  | .row _ _ _=>only1 c.r && d.isSome
  | .frz _ _=>false | .rowx _ _ _ _=>false | .iter _ _=>false | .gen _ _ _=>false)
def flatC (c:CT):Bool:=flatR c.r && (match c.new with | .no=>true | _=>false) && (match c.lent with | none=>true | _=>false)
def lentU (q:Option (Nat × Nat × SV)) (y:SV):List (Nat × Blk):=match q with | some (q,t,_)=>[(q,.chunk t y)] | none=>[]
def newU (b:Blk) (d:Option Nat):List (Nat × Blk):=match b,d with | .no,_=>[] | b,some d=>[(d,b)] | _,none=>[]
def callU (pk:Bool) (μ:Nat→Blk) (d:Option Nat) (ids:List Nat) (q:Option (Nat × Nat × SV)) (c:CT):List (Nat × Blk) :=
 (if pk || flatC c then [] else frzU μ ids)++(lentU q c.lent'++newU c.new d)
def callR (d:Option Nat) (c:CT):SV:=match c.new,d with
 | .no,_=>c.r
 | _,some d=>ren d c.r
 | _,none=>.any
def calleeOf (e:Operand→SV):Callee→Option (Nat × List SV)
 | .value (.func f)=>some (f,[])
 | .value o=>(match e o with
  | .clo f caps=>if allPlain caps then some (f,caps) else none
  | _=>none)
 | _=>none
def altV (G:Nat→CT→Prop) (d:Option Nat) (f:Nat) (xs caps:List SV) (μ:Nat→Blk) (κ:SV→List (Nat × Blk)→Option Nat→Prop):Prop :=
 match xs,caps,d with
 | .row q::az,[],some d=>(match μ q with
  | .row sh e l=>if allPlain az then LrQ G f sh e l az (fun k=>κ (.row d) [(q,.no),(d,.row sh e k)] (some d)) else False
  | _=>False)
 | _,_,_=>False
def ccls:SV→Option (Nat × IntKind)
 | .int k _=>some (0,k)
 | .bool _=>some (1,.i64)
 | .str _=>some (2,.i64)
 | .lst _ _ | .nil | .row _ | .rsl _ _ _ _ _=>some (3,.i64)
 | _=>none
def cclsV:Value→Nat × IntKind
 | .int k _=>(0,k)
 | .bool _=>(1,.i64)
 | .string _=>(2,.i64)
 | .slice _ _ _=>(3,.i64)
 | _=>(9,.i64)
theorem den_cls {w:World} {X:Nat→Prop} {ρ:Env} {x:SV} {v:Value} (h:Den w X ρ x v) {c:Nat × IntKind} (hc:ccls x=some c):cclsV v=c:=by
 cases h <;> simp [ccls] at hc <;> simp [cclsV,hc]
def cellsS:SV→List SV
 | .agg l=>l
 | x=>[x]
def awayC (C:List SV) (x:SV):Prop:=∃ (j:Nat) (y:SV) (c:Nat × IntKind),(cellsS x)[j]?=some y∧ccls y=some c∧∀ z∈C,∃ c',ccls z=some c'∧c'≠c
inductive Away (Cs:List (List SV)):SV→Prop
 | flat {x:SV} (h:flatB x=true):Away Cs x
 | tup {l:List SV} (h:∀ x∈l,Away Cs x):Away Cs (.tup l)
 | agg {l:List SV} (h:∀ x∈l,Away Cs x):Away Cs (.agg l)
 | lst {sh:Option Nat} {l:List SV} (h:∀ x∈l,Away Cs x) (h1:∀ x,l[0]?=some x→∀ C∈Cs,awayC C x):Away Cs (.lst sh l)
def ChunkAt (w:World) (b:Nat) (C:List SV):Prop:=∃ us ty fz,w.heap[b]?=some (.cells us ty fz)∧∀ u∈us.toList,∃ z∈C,∀ c,ccls z=some c→cclsV u=c
theorem Den.away {Cs:List (List SV)} {w:World} {F F':Nat→Prop} (hF:∀ b,F' b→F b∨∃ C∈Cs,ChunkAt w b C) {x:SV} (hA:Away Cs x):∀ {ρ:Env} {v:Value},Den w F ρ x v→Den w F' ρ x v:=by
 induction hA with
 | flat h=>exact fun hd=>hd.flat1 h
 | tup h ih =>
  intro ρ v hd
  cases hd with
  | tup _ _ cs hl hc=>exact .tup _ _ cs hl fun i h1 h2=>ih _ (List.getElem_mem h1) (hc i h1 h2)
 | agg h ih =>
  intro ρ v hd
  cases hd with
  | agg _ _ cs hl hc=>exact .agg _ _ cs hl fun i h1 h2=>ih _ (List.getElem_mem h1) (hc i h1 h2)
 | @lst sh l h h1 ih =>
  intro ρ v hd
  cases hd with
  | lst0 _ _ a cap=>exact .lst0 _ _ a cap
  | lst _ _ _ b off cap us hb hx hc hu hl ho hel =>
   by_cases hn:l=[]
   ·subst hn;exact .lst0 _ _ _ _
   ·have h0:0 < l.length:=List.length_pos_iff.2 hn
    refine .lst _ _ l b off cap us hb (fun hf=>?_) hc hu hl ho fun i hi=>ih _ (List.getElem_mem hi) (hel i hi)
    rcases hF b hf with hf | ⟨C,hC,us',ty,fz,hh,hcl⟩
    ·exact hx hf
    ·obtain ⟨j,y,c,hy,hcy,hz⟩:=h1 _ (List.getElem?_eq_getElem h0) C hC
     have hd0:=hel 0 h0
     have key:∃ u,us[j]?=some u∧cclsV u=c:=by
      have hone:∀ u,u∈us→∀ cs,u≠.agg cs:=by
       rintro u hu' cs rfl
       have:=ho _ hu'
       simp [Value.oneCell'] at this
      cases hx0:l[0] with
      | agg fs =>
       rw [hx0] at hy hd0
       obtain ⟨cs,hv,hdc⟩:=Den.agg_iff.1 hd0
       have hj:(fs)[j]?=some y:=hy
       obtain ⟨hj1,hj2⟩:=List.getElem?_eq_some_iff.1 hj
       cases sh with
       | none =>
        exfalso
        simp only [valAt] at hv
        have hlen:0 < us.length:=by rw [hl];simp [wid];omega
        rw [List.getElem?_eq_getElem hlen] at hv
        exact hone _ (List.getElem_mem hlen) _ hv
       | some n =>
        simp only [valAt,Nat.zero_mul,List.drop_zero] at hv
        injection hv with hv
        have hv:us.take n=cs:=by simpa using hv
        have hjc:j < cs.length:=by rw [← hdc.1];exact hj1
        have hju:us[j]?=some cs[j]:=by
         have:(us.take n)[j]?=some cs[j]:=by rw [hv];exact List.getElem?_eq_getElem hjc
         rw [List.getElem?_take] at this
         split at this
         ·exact this
         ·cases this
        exact ⟨cs[j],hju,den_cls (hdc.2 j y _ hj (List.getElem?_eq_getElem hjc)) hcy⟩
      | _ =>
       rw [hx0] at hy hd0
       have hj:j=0∧y=l[0]:=by
        cases j with
        | zero=>simp [cellsS] at hy;exact ⟨rfl,by rw [hx0];exact hy.symm⟩
        | succ j=>simp [cellsS] at hy
       obtain ⟨rfl,rfl⟩:=hj
       rw [hx0] at hcy
       have hcv:=den_cls hd0 hcy
       cases sh with
       | none =>
        simp only [valAt] at hcv
        have hlen:0 < us.length:=by rw [hl];simp [wid];omega
        rw [List.getElem?_eq_getElem hlen] at hcv
        exact ⟨us[0],List.getElem?_eq_getElem hlen,hcv⟩
       | some n =>
        exfalso
        simp only [valAt,cclsV] at hcv
        subst hcv
        simp [ccls] at hcy
     obtain ⟨u,hju,hcu⟩:=key
     have hcell:=hu j u hju
     rw [cell_of_row w b (off+j) us' ty fz hh] at hcell
     obtain ⟨z,hzC,hzc⟩:=hcl u (List.mem_of_getElem? (by rw [Array.getElem?_toList];exact hcell))
     obtain ⟨c',hc1,hc2⟩:=hz z hzC
     exact hc2 ((hzc c' hc1).symm.trans hcu)
  | _=>skip
def matV (T:Nat→Option TI) (μ:Nat→Blk):List SV→Option (List (Nat × List SV))
 | []=>some []
 | .rsl q none 0 n _::l=>(match μ q,matV T μ l with
  | .chunk t (.agg k),some ms=>(match T t with
   | some i=>if (Nat.beq k.length n && Nat.beq i.size n) && (shEq i.shape (some n) && flatsB k) then some ((q,k)::ms) else none
   | none=>none)
  | _,_=>none)
 | _=>none
def matL:List (Nat × List SV)→List SV
 | []=>[]
 | (_,k)::l=>.lst none k::matL l
def matC:List (Nat × List SV)→List (List SV)
 | []=>[]
 | (_,k)::l=>k::matC l
structure MatQ (G:Nat→CT→Prop) (f:Nat) (args:List SV) (Cs:List (List SV)) (κ:SV→Prop):Prop where
 h:∃ r,G f ⟨args,none,r,.any,.no⟩∧dataR r=true∧Away Cs r∧κ r
noncomputable def altK (T:Nat→Option TI) (G:Nat→CT→Prop) (f:Nat) (ats:List Nat) (xs caps:List SV) (μ:Nat→Blk) (κ:SV→List (Nat × Blk)→Option Nat→Prop):Prop :=
 match ats,xs,caps with
 | _::ts,.rsl q none 0 n _::az,[]=>(match μ q with
  | .chunk t (.agg l)=>(match T t with
   | some i=>if (Nat.beq l.length n && Nat.beq i.size n) && shEq i.shape (some n) then (match matV T μ l,views T μ ts az with
    | some ms,some az'=>MatQ G f (.lst none (matL ms)::az') (l::matC ms) (fun r=>κ r (frzU μ (rids.ridsL az)) none)
    | _,_=>False) else False
   | none=>False)
  | _=>False)
 | _,_,_=>False
def fclOf (e:Operand→SV):Callee→Option (Nat × List SV)
 | .value o=>(match e o with
  | .fcl f caps=>some (f,caps)
  | _=>none)
 | _=>none
def cap1 (μ:Nat→Blk) (pos:Nat):SV→Option (SV × List (Nat × Nat × Nat × SV))
 | .ptr q o=>if Nat.beq o 0 then (match μ q with
  | .chunk t z=>if dataB z then some (.ptr (900+pos) 0,[(q,900+pos,t,z)]) else none
  | _=>none) else none
 | .cel (.ptr q o)=>if Nat.beq o 0 then (match μ q with
  | .chunk t z=>if dataB z then some (.cel (.ptr 0 0),[(q,0,t,z)]) else none
  | _=>none) else none
 | x=>if plainB x then some (x,[]) else none
def capsG (μ:Nat→Blk):Nat→List SV→Option (List SV × List (Nat × Nat × Nat × SV))
 | _,[]=>some ([],[])
 | pos,x::l=>(match cap1 μ pos x,capsG μ (pos+1) l with
  | some (y,Q),some (ys,QS)=>some (y::ys,Q++QS)
  | _,_=>none)
structure GenQ (G:Nat→CT→Prop) (f:Nat) (az:List SV) (QS:List (Nat × Nat × Nat × SV)) (κ:SV→List SV→Blk→Prop):Prop where
 h:∃ L r b,G f (gC az L r b)∧L.map (fun p=>(p.1,p.2.1,p.2.2.1))=QS.map (fun p=>p.2)∧κ r (L.map fun p=>p.2.2.2) b
theorem genq {G:Nat→CT→Prop} {f:Nat} {az az':List SV} {QS:List (Nat × Nat × Nat × SV)} {κ:SV→List SV→Blk→Prop} {L:List Ln} {r:SV} {b:Blk} (h:G f (gC az' L r b)) (ha:az'=az) (hl:L.map (fun p=>(p.1,p.2.1,p.2.2.1))=QS.map (fun p=>p.2)) (k:κ r (L.map fun p=>p.2.2.2) b):GenQ G f az QS κ:=by
 subst ha;exact ⟨⟨L,r,b,h,hl,k⟩⟩
def memN (q:Nat):List Nat→Bool
 | []=>false
 | x::l=>Nat.beq x q || memN q l
def nodupN:List Nat→Bool
 | []=>true
 | x::l=>!(memN x l) && nodupN l
theorem memN_iff {q:Nat}:∀ {l:List Nat},memN q l=true ↔ q∈l
 | []=>by simp [memN]
 | x::l=>by
  simp only [memN,Bool.or_eq_true,Nat.beq_eq,memN_iff (l:=l),List.mem_cons]
  exact or_congr_left eq_comm
theorem nodupN_ok:∀ {l:List Nat},nodupN l=true→l.Nodup
 | [],_=>List.nodup_nil
 | x::l,h=>by
  simp only [nodupN,Bool.and_eq_true,Bool.not_eq_true'] at h
  refine List.nodup_cons.2 ⟨fun hm=>?_,nodupN_ok h.2⟩
  rw [memN_iff.2 hm] at h
  cases h.1
def updG:List (Nat × Nat × Nat × SV)→List SV→List (Nat × Blk)
 | (q,_,t,_)::l,y::ys=>(q,.chunk t y)::updG l ys
 | _,_=>[]
def qsOf:List (Nat × Nat × Nat × SV)→List Nat
 | []=>[]
 | (q,_,_,_)::l=>q::qsOf l
def csOf:List (Nat × Nat × Nat × SV)→List Nat
 | []=>[]
 | (_,c,_,_)::l=>c::csOf l
def okG (d:Option Nat) (r:SV) (ys:List SV):Blk→Bool
 | .no=>dataR r && datasB ys
 | .chunk _ x=>dataB x && (only1 r && only1.only1s ys) && d.isSome
 | .row _ _ _=>(only1 r && only1.only1s ys) && d.isSome
 | _=>false
def renG (d:Option Nat) (b:Blk) (x:SV):SV:=match b,d with
 | .no,_=>x
 | _,some d=>ren d x
 | _,none=>.any
def renGs (d:Option Nat) (b:Blk):List SV→List SV
 | []=>[]
 | x::l=>renG d b x::renGs d b l
noncomputable def genV (T:Nat→Option TI) (G:Nat→CT→Prop) (d:Option Nat) (f:Nat) (ats:List Nat) (xs caps:List SV) (μ:Nat→Blk) (κ:SV→List (Nat × Blk)→Option Nat→Prop):Prop :=
 match views T μ ats xs with
 | some az=>(match capsG μ xs.length caps with
  | some (cs,QS)=>if nodupN (qsOf QS) && nodupN (csOf QS) then GenQ G f (az++cs) QS (fun r ys b=>if okG d r ys b then κ (renG d b r) (frzU μ (rids.ridsL xs)++(updG QS (renGs d b ys)++newU b d)) (if isNew b then d else none) else False) else False
  | none=>False)
 | none=>False
noncomputable def callV (T:Nat→Option TI) (G:Nat→CT→Prop) (d:Option Nat) (c:Call) (e:Operand→SV) (μ:Nat→Blk) (κ:SV→List (Nat × Blk)→Option Nat→Prop):Prop :=
 match fclOf e c.callee with
 | some (f,caps)=>genV T G d f c.argTypes.toList (c.args.toList.map e) caps μ κ
 | none=>match calleeOf e c.callee with
 | some (f,caps)=>(match callArgs T μ c.argTypes.toList (c.args.toList.map e) with
  | some (az,q)=>CallQ G f (az++caps) (q.map fun p=>p.2) (fun pk ct=>if okC d ct then κ (callR d ct) (callU pk μ d (rids.ridsL (c.args.toList.map e)) q ct) (if isNew ct.new then d else none) else False) (fun _=>altV G d f (c.args.toList.map e) caps μ κ)
  | none=>altK T G f c.argTypes.toList (c.args.toList.map e) caps μ κ)
 | none=>False
theorem run_callFunc {f:FuncId} {fn:Func} (hf:P.funcs[f]?=some fn) (hb:fn.body.isSome=true) (hn:(fn.name == "runtime.NumGoroutine")=false) (args:Array Value) (w:World) :
  (callFunc f args).run P w=.ok (.enter f args) w:=by
 have hb':fn.body.isNone=false:=by cases h:fn.body <;> simp_all
 simp only [callFunc,Sem.run_bind,run_program,Result.andThen_ok,hf,hn,hb',Bool.false_eq_true,if_false,Sem.run_pure]
theorem exec_clo {o:Oper} {cal:Operand} {f:FuncId} {us:Array Value} {az:Array Operand} {ats:Array TypeId} {a:Act} (hop:o.op=.call { callee:=.value cal,args:=az,argTypes:=ats }) (ef:a.eval cal=.func (.func f) #[] us):execOp a.eval o=callFunc f (az.map a.eval++us):=by
 unfold execOp
 simp [hop,resolve,Deferred.ofValue,invoke,ef]
theorem callee_ok {o:Oper} {cal:Callee} {f:FuncId} {caps:List SV} {az:Array Operand} {ats:Array TypeId} {a:Act} {e:Operand→SV} {w:World} {Y:Nat→Prop} {ρ:Env} (hop:o.op=.call { callee:=cal,args:=az,argTypes:=ats }) (hc:calleeOf e cal=some (f,caps)) (hd:∀ y∈o.op.operands,Den w Y ρ (e y) (a.eval y)) :
  ∃ us:List Value,execOp a.eval o=callFunc f (az.map a.eval++⟨us⟩)∧DenL w Y noEnv caps us∧allPlain caps=true:=by
 unfold calleeOf at hc
 split at hc
 ·injection hc with hc
  injection hc with h1 h2
  subst h1;subst h2
  exact ⟨[],by rw [exec_clo hop (us:=#[]) rfl],⟨rfl,fun i x u h=>by simp at h⟩,rfl⟩
 ·rename_i cal hn
  split at hc
  ·rename_i f' caps' he
   split at hc
   ·rename_i hp
    injection hc with hc
    injection hc with h1 h2
    subst h1;subst h2
    have hv:=hd cal (by rw [hop];simp [Op.operands,Call.operands])
    rw [he] at hv
    generalize hq:a.eval cal=v at hv
    cases hv with
    | clo _ _ _ us hl h=>exact ⟨us,exec_clo hop hq,⟨hl,fun i x u hx hu=>by
      obtain ⟨h1,rfl⟩:=List.getElem?_eq_some_iff.1 hx
      obtain ⟨h2,rfl⟩:=List.getElem?_eq_some_iff.1 hu
      exact h i h1 h2⟩,hp⟩
   ·cases hc
  ·cases hc
 ·cases hc
theorem Den.plain_env {w:World} {X:Nat→Prop} {ρ ρ':Env} {x:SV} {v:Value} (h:Den w X ρ x v) (hd:dataR x=true):Den w X ρ' x v:=h.env fun q=>.inr (.inr (dataR_noref hd q))
end
section
open Go.RowKit
variable {P:Program} {T:Nat→Option TI}
abbrev En:=List (Nat × Ln)
def lnE (E:En):List Ln:=E.map fun p=>p.2
def envG (ρ:Env):En→Env
 | []=>fun _=>none
 | p::l=>fun r=>if p.2.1=r then ρ p.1 else envG ρ l r
def lblkG (ρ:Env) (E:En) (b:Nat):Prop:=∃ p∈E,ρ p.1=some (.pointer (some ⟨b,0,none⟩))
def nG (w:World) (ρ:Env) (E:En):Nat→Prop:=fun b=>w.heap.size≤b∨lblkG ρ E b
def xG (Z:Nat→Prop) (ρ:Env) (E:En):Nat→Prop:=fun b=>Z b∧¬ lblkG ρ E b
structure LentG (mem:Mem) (E:En):Prop where
 h:∀ p∈E,getM mem p.1=.chunk p.2.2.1 p.2.2.2.1∧dataB p.2.2.2.1=true
 q:(E.map fun p=>p.1).Nodup
 c:(E.map fun p=>p.2.1).Nodup
theorem getM_newM (b:Blk) (r:Nat):getM (newM b) r=if r=1 then b else .no:=by
 cases b <;> simp only [newM,getM,nbeq]
 ·split <;> rfl
 all_goals
  by_cases h:r=1
  ·subst h;simp
  ·rw [if_neg (Ne.symm h),if_neg h]
theorem getM_outL0 (b:Blk):∀ (L:List Ln) (r:Nat),(∃ p∈L,p.1=r∧getM (outL b L) r=.chunk p.2.1 p.2.2.2)∨((∀ p∈L,p.1≠r)∧getM (outL b L) r=if r=1 then b else .no)
 | [],r=>.inr ⟨fun p h=>by simp at h,getM_newM b r⟩
 | p::L,r=>by
  simp only [outL,List.map_cons,List.cons_append,getM,nbeq]
  by_cases h:p.1=r
  ·left;exact ⟨p,by simp,h,by rw [if_pos h]⟩
  ·rcases getM_outL0 b L r with ⟨q,hq,h1,h2⟩ | ⟨h1,h2⟩
   ·left;exact ⟨q,by simp [hq],h1,by rw [if_neg h];exact h2⟩
   ·right
    refine ⟨fun q hq=>?_,by rw [if_neg h];exact h2⟩
    rcases List.mem_cons.1 hq with rfl | hq
    ·exact h
    ·exact h1 q hq
theorem findG (ρ:Env) (b:Blk):∀ (E:En) (r:Nat),(∃ p∈E,p.2.1=r∧getM (inL (lnE E)) r=.chunk p.2.2.1 p.2.2.2.1∧getM (outL b (lnE E)) r=.chunk p.2.2.1 p.2.2.2.2∧envG ρ E r=ρ p.1) ∨
  ((∀ p∈E,p.2.1≠r)∧getM (inL (lnE E)) r=.no∧getM (outL b (lnE E)) r=(if r=1 then b else .no)∧envG ρ E r=none)
 | [],r=>.inr ⟨fun p h=>by simp at h,rfl,getM_newM b r,rfl⟩
 | p::E,r=>by
  simp only [lnE,inL,outL,List.map_cons,List.cons_append,getM,nbeq,envG]
  by_cases h:p.2.1=r
  ·left
   exact ⟨p,by simp,h,by rw [if_pos h],by rw [if_pos h],by rw [if_pos h]⟩
  ·rcases findG ρ b E r with ⟨q,hq,h1,h2,h3,h4⟩ | ⟨h1,h2,h3,h4⟩
   ·left
    refine ⟨q,by simp [hq],h1,?_,?_,?_⟩
    ·rw [if_neg h];exact h2
    ·rw [if_neg h];exact h3
    ·rw [if_neg h];exact h4
   ·right
    refine ⟨fun q hq=>?_,?_,?_,?_⟩
    ·rcases List.mem_cons.1 hq with rfl | hq
     ·exact h
     ·exact h1 q hq
    ·rw [if_neg h];exact h2
    ·rw [if_neg h];exact h3
    ·rw [if_neg h];exact h4
theorem nodup_inj {A:Type} {f:A→Nat}:∀ {l:List A},(l.map f).Nodup→∀ {p q:A},p∈l→q∈l→f p=f q→p=q
 | [],_,p,q,hp,_,_=>by simp at hp
 | a::l,h,p,q,hp,hq,he=>by
  simp only [List.map_cons,List.nodup_cons] at h
  rcases List.mem_cons.1 hp with rfl | hp' <;> rcases List.mem_cons.1 hq with rfl | hq'
  ·rfl
  ·exact absurd (List.mem_map.2 ⟨q,hq',he.symm⟩) h.1
  ·exact absurd (List.mem_map.2 ⟨p,hp',he⟩) h.1
  ·exact nodup_inj h.2 hp' hq' he
theorem atG {mem:Mem} {E:En} (l:LentG mem E) (ρ:Env) (b:Blk) {p:Nat × Ln} (hp:p∈E):getM (inL (lnE E)) p.2.1=.chunk p.2.2.1 p.2.2.2.1∧getM (outL b (lnE E)) p.2.1=.chunk p.2.2.1 p.2.2.2.2∧envG ρ E p.2.1=ρ p.1:=by
 rcases findG ρ b E p.2.1 with ⟨q,hq,h1,h2,h3,h4⟩ | ⟨h1,_⟩
 ·have:=nodup_inj l.c hq hp h1
  subst this
  exact ⟨h2,h3,h4⟩
 ·exact absurd rfl (h1 p hp)
theorem forbG {mem:Mem} {E:En} (lq:LentG mem E) {X:Nat→Prop} {ρ:Env} {Z:Nat→Prop} (hZ:∀ b,Z b→Forb X mem ρ b) {b:Nat} (h:Forb (xG Z ρ E) (inL (lnE E)) (envG ρ E) b):Forb X mem ρ b:=by
 rcases h with h | ⟨r,v,h1,h2,h3⟩
 ·exact hZ b h.1
 ·rcases findG ρ .no E r with ⟨p,hp,_,_,_,g4⟩ | ⟨_,g2,_⟩
  ·rw [g4] at h2
   exact .inr ⟨p.1,v,by rw [(lq.h p hp).1];rfl,h2,h3⟩
  ·rw [g2] at h1;simp [Blk.own] at h1
theorem callG_in {N:Nat→Prop} {w0 w:World} {X:Nat→Prop} {mem:Mem} {ρ:Env} (m:MRep T N w0 w X mem ρ) {E:En} (lq:LentG mem E) {Z:Nat→Prop} (hZ:∀ b,Z b→Forb X mem ρ b) :
  MRep T (nG w ρ E) w w (xG Z ρ E) (inL (lnE E)) (envG ρ E):=by
 refine ⟨fun b h=>⟨m.forb_lt (hZ b h.1),fun hn=>?_⟩,.refl _ _,fun b h=>.inl h,fun r=>?_,fun r r' v v' b h1 h2 e1 e2 e3 e4=>?_,gl_mono m.gl (Nat.le_refl _) fun b _ hf=>⟨fun hf'=>hf (forbG lq hZ hf'),rfl⟩⟩
 ·rcases hn with hn | hn
  ·have:=m.forb_lt (hZ b h.1);omega
  ·exact h.2 hn
 ·rcases findG ρ .no E r with ⟨p,hp,g1,g2,g3,g4⟩ | ⟨g1,g2,g3,g4⟩
  ·rw [g2,g4]
   obtain ⟨k1,k2⟩:=lq.h p hp
   have hb:=m.blk p.1
   rw [k1] at hb
   obtain ⟨i,b,us,ty,h1,h2,h3,h4,h5,h6,h7⟩:=hb
   refine ⟨i,b,us,ty,h1,h2,.inr ⟨p,hp,h2⟩,h4,h5,h6,?_⟩
   exact (h7.mono (w':=w) (X':=Forb (xG Z ρ E) (inL (lnE E)) (envG ρ E)) (Nat.le_refl _) (fun b _ hf=>⟨fun hf'=>hf (forbG lq hZ hf'),rfl⟩)).data (ρ':=envG ρ E) k2
  ·rw [g2];exact g4
 ·have at':∀ r v,(getM (inL (lnE E)) r).own=true→envG ρ E r=some v→∃ p∈E,p.2.1=r∧ρ p.1=some v∧(getM mem p.1).own=true:=by
   intro r v h1 h2
   rcases findG ρ .no E r with ⟨p,hp,g1,g2,g3,g4⟩ | ⟨g1,g2,g3,g4⟩
   ·exact ⟨p,hp,g1,by rw [← g4];exact h2,by rw [(lq.h p hp).1];rfl⟩
   ·rw [g2] at h1;simp [Blk.own] at h1
  obtain ⟨p,hp,rfl,k1,k2⟩:=at' r v h1 e1
  obtain ⟨p',hp',rfl,k1',k2'⟩:=at' r' v' h2 e2
  have:=m.inj _ _ v v' b k2 k2' k1 k1' e3 e4
  rw [nodup_inj lq.q hp hp' this]
def updE (E:En):List (Nat × Blk):=E.map fun p=>(p.1,.chunk p.2.2.1 p.2.2.2.2)
theorem getM_updE:∀ {E:En} {mem:Mem},(E.map fun p=>p.1).Nodup→(∀ p∈E,getM (appU (updE E) mem) p.1=.chunk p.2.2.1 p.2.2.2.2)∧∀ r,(∀ p∈E,p.1≠r)→getM (appU (updE E) mem) r=getM mem r
 | [],mem,_=>⟨fun p h=>by simp at h,fun r _=>rfl⟩
 | p::E,mem,h=>by
  simp only [List.map_cons,List.nodup_cons] at h
  obtain ⟨h1,h2⟩:=getM_updE (E:=E) (mem:=setM (.chunk p.2.2.1 p.2.2.2.2) mem p.1) h.2
  simp only [updE,List.map_cons,appU]
  refine ⟨fun q hq=>?_,fun r hr=>?_⟩
  ·rcases List.mem_cons.1 hq with rfl | hq
   ·have:=h2 q.1 fun p' hp' e=>h.1 (List.mem_map.2 ⟨p',hp',e⟩)
    simp only [updE] at this
    rw [this,getM_setM,if_pos rfl]
   ·exact h1 q hq
  ·have:=h2 r fun q hq=>hr q (by simp [hq])
   simp only [updE] at this
   rw [this,getM_setM,if_neg (Ne.symm (hr p (by simp)))]
theorem only1s_mem:∀ {l:List SV},only1.only1s l=true→∀ y∈l,only1 y=true
 | x::l,h,y,hy=>by
  simp only [only1.only1s,Bool.and_eq_true] at h
  rcases List.mem_cons.1 hy with rfl | hy
  ·exact h.1
  ·exact only1s_mem h.2 y hy
def renE (d:Option Nat) (b:Blk) (E:En):En:=E.map fun p=>(p.1,p.2.1,p.2.2.1,p.2.2.2.1,renG d b p.2.2.2.2)
theorem callG_out {N:Nat→Prop} {w0 w w':World} {X:Nat→Prop} {mem:Mem} {ρ ρc:Env} (m:MRep T N w0 w X mem ρ) {E:En} (lq:LentG mem E) {c:Blk} {d:Option Nat} {r:SV} (hok:okG d r ((lnE E).map fun p=>p.2.2.2) c=true) (h1E:∀ p∈E,p.2.1≠1)
  (mc:MRep T (nG w ρ E) w w' (xG (Forb X mem ρ) ρ E) (outL c (lnE E)) ρc) (h0:∀ p∈lnE E,ρc p.1=envG ρ E p.1) {cr:Option Nat} (hcr:cr=if isNew c then d else none)
  (hfr:∀ k,cr=some k→getM mem k=.no∧memNoref k mem=true) {v:Value} (hv:Den w' (Forb (xG (Forb X mem ρ) ρ E) (outL c (lnE E)) ρc) ρc r v) :
  let U:=updE (renE d c E)++newU c d
  let ρ':Env:=fun r=>if cr=some r then ρc 1 else ρ r
  MRep T N w0 w' X (appU U mem) ρ'∧Turn w (Forb X mem ρ) ρ w' (Forb X (appU U mem) ρ') ρ' cr∧Den w' (Forb X (appU U mem) ρ') ρ' (renG d c r) v:=by
 intro U ρ'
 have hq':((renE d c E).map fun p=>p.1).Nodup:=by
  simp only [renE,List.map_map,Function.comp_def]
  exact lq.q
 obtain ⟨u1,u2⟩:=getM_updE (mem:=mem) hq'
 have hnew1:∀ k,cr=some k→isNew c=true∧d=some k:=by
  intro k hk
  rw [hcr] at hk
  split at hk
  ·rename_i h;exact ⟨h,hk⟩
  ·cases hk
 have hqne:∀ p∈E,cr≠some p.1:=by
  intro p hp hk
  have:=(hfr _ hk).1
  rw [(lq.h p hp).1] at this
  cases this
 have hg:∀ r,getM (appU U mem) r=if cr=some r then c else getM (appU (updE (renE d c E)) mem) r:=by
  intro r
  simp only [U,appU_append]
  cases hn:c with
  | no=>rw [hcr,hn];simp only [isNew,Bool.false_eq_true,if_false,newU];cases d <;> simp [appU]
  | frz sh l=>rw [hn] at hok;cases hok
  | rowx _ _ _ _=>rw [hn] at hok;cases hok
  | iter _ _=>rw [hn] at hok;cases hok
  | gen _ _ _=>rw [hn] at hok;cases hok
  | _ =>
   rw [hn] at hok
   simp only [okG,Bool.and_eq_true] at hok
   cases hd:d with
   | none=>rw [hd] at hok;simp at hok
   | some k=>rw [hcr,hn];simp only [isNew,if_true,hd,newU,appU,getM_setM,Option.some.injEq,eq_comm]
 have hgE:∀ p∈E,getM (appU U mem) p.1=.chunk p.2.2.1 (renG d c p.2.2.2.2):=by
  intro p hp
  rw [hg,if_neg (hqne p hp)]
  exact u1 (p.1,p.2.1,p.2.2.1,p.2.2.2.1,renG d c p.2.2.2.2) (List.mem_map.2 ⟨p,hp,rfl⟩)
 have hgo:∀ r,cr≠some r→(∀ p∈E,p.1≠r)→getM (appU U mem) r=getM mem r:=by
  intro r h1 h2
  rw [hg,if_neg h1]
  refine u2 r fun p hp=>?_
  obtain ⟨p',hp',rfl⟩:=List.mem_map.1 hp
  exact h2 p' hp'
 have hc0:∀ p∈E,ρc p.2.1=ρ p.1:=fun p hp=>by rw [h0 p.2 (List.mem_map.2 ⟨p,hp,rfl⟩)];exact (atG lq ρ c hp).2.2
 have out1:getM (outL c (lnE E)) 1=c:=by
  rcases getM_outL0 c (lnE E) 1 with ⟨p,hp,h1,_⟩ | ⟨_,h2⟩
  ·obtain ⟨p',hp',rfl⟩:=List.mem_map.1 hp
   exact absurd h1 (h1E p' hp')
  ·rw [h2,if_pos rfl]
 have hown:∀ r,cr≠some r→((getM (appU U mem) r).own=true ↔ (getM mem r).own=true):=by
  intro r hr
  by_cases h:∃ p∈E,p.1=r
  ·obtain ⟨p,hp,rfl⟩:=h
   rw [hgE p hp,(lq.h p hp).1]
   exact ⟨fun _=>rfl,fun _=>rfl⟩
  ·rw [hgo r hr fun p hp e=>h ⟨p,hp,e⟩]
 have hN0:∀ b,lblkG ρ E b→∃ p∈E,ρ p.1=some (.pointer (some ⟨b,0,none⟩))∧(getM mem p.1).own=true∧N b:=by
  rintro b ⟨p,hp,hr⟩
  exact ⟨p,hp,hr,by rw [(lq.h p hp).1];rfl,(m.owned_lt ⟨p.1,_,by rw [(lq.h p hp).1];rfl,hr,rfl⟩).1⟩
 have hnb:∀ u b,ρc 1=some u→vblock u=some b→c.own=true→w.heap.size≤b∧b < w'.heap.size:=by
  intro u b hu hb ho
  obtain ⟨g1,g2⟩:=mc.owned_lt ⟨1,u,by rw [out1];exact ho,hu,hb⟩
  refine ⟨g1.resolve_right fun hl=>?_,g2⟩
  obtain ⟨p,hp,hr,_,_⟩:=hN0 b hl
  have e0:ρc p.2.1=some (.pointer (some ⟨b,0,none⟩)):=by rw [hc0 p hp];exact hr
  exact h1E p hp (mc.inj _ _ _ _ b (by rw [(atG lq ρ c hp).2.1];rfl) (by rw [out1];exact ho) e0 hu rfl hb)
 have hback:∀ b,Forb X (appU U mem) ρ' b→Forb (xG (Forb X mem ρ) ρ E) (outL c (lnE E)) ρc b:=by
  intro b hb
  have old:Forb X mem ρ b→Forb (xG (Forb X mem ρ) ρ E) (outL c (lnE E)) ρc b:=by
   intro h
   by_cases hl:lblkG ρ E b
   ·obtain ⟨p,hp,hr,_,_⟩:=hN0 b hl
    exact .inr ⟨p.2.1,_,by rw [(atG lq ρ c hp).2.1];rfl,by rw [hc0 p hp];exact hr,rfl⟩
   ·exact .inl ⟨h,hl⟩
  rcases hb with h | ⟨r,u,g1,g2,g3⟩
  ·exact old (.inl h)
  ·by_cases hr:cr=some r
   ·rw [hg,if_pos hr] at g1
    simp only [ρ',if_pos hr] at g2
    exact .inr ⟨1,u,by rw [out1];exact g1,g2,g3⟩
   ·simp only [ρ',if_neg hr] at g2
    exact old (.inr ⟨r,u,(hown r hr).1 g1,g2,g3⟩)
 have hlift:∀ {ρ0:Env} {x:SV} {u:Value},Den w' (Forb (xG (Forb X mem ρ) ρ E) (outL c (lnE E)) ρc) ρ0 x u→Den w' (Forb X (appU U mem) ρ') ρ0 x u:=fun h =>
  h.mono (Nat.le_refl _) fun b _ hf=>⟨fun hf'=>hf (hback b hf'),rfl⟩
 have hren:∀ {x:SV} {u:Value},(c=.no→dataR x=true)→(c≠.no→only1 x=true)→Den w' (Forb (xG (Forb X mem ρ) ρ E) (outL c (lnE E)) ρc) ρc x u→Den w' (Forb X (appU U mem) ρ') ρ' (renG d c x) u:=by
  intro x u hx1 hx2 hd
  cases hn:c with
  | no =>
   have:renG d Blk.no x=x:=by cases d <;> rfl
   rw [this]
   exact (hlift hd).env fun q=>.inr (.inr (dataR_noref (hx1 hn) q))
  | frz sh l=>rw [hn] at hok;cases hok
  | rowx _ _ _ _=>rw [hn] at hok;cases hok
  | iter _ _=>rw [hn] at hok;cases hok
  | gen _ _ _=>rw [hn] at hok;cases hok
  | _ =>
   have hok':=hok
   rw [hn] at hok'
   simp only [okG,Bool.and_eq_true] at hok'
   cases hd':d with
   | none=>rw [hd'] at hok';simp at hok'
   | some k =>
    have hcrk:cr=some k:=by rw [hcr,hn];simp [isNew,hd']
    exact (hlift hd).ren (hx2 (by rw [hn];simp)) (by simp only [ρ',if_pos hcrk])
 have hys:∀ p∈E,(c=.no→dataR p.2.2.2.2=true)∧(c≠.no→only1 p.2.2.2.2=true):=by
  intro p hp
  have hm:p.2.2.2.2∈(lnE E).map fun p=>p.2.2.2:=List.mem_map.2 ⟨p.2,List.mem_map.2 ⟨p,hp,rfl⟩,rfl⟩
  refine ⟨fun hn=>?_,fun hn=>?_⟩
  ·rw [hn] at hok
   simp only [okG,Bool.and_eq_true] at hok
   have:∀ {l:List SV},datasB l=true→∀ y∈l,dataB y=true:=by
    intro l
    induction l with
    | nil=>intro _ y hy;simp at hy
    | cons x l ih =>
     intro h y hy
     simp only [datasB,Bool.and_eq_true] at h
     rcases List.mem_cons.1 hy with rfl | hy
     ·exact h.1
     ·exact ih h.2 y hy
   have:=this hok.2 _ hm
   cases hx:p.2.2.2.2 with
   | tup l=>rw [hx] at this;simp [dataB,plainB] at this
   | _=>rw [hx] at this;exact this
  ·cases hc:c with
   | no=>exact absurd hc hn
   | frz sh l=>rw [hc] at hok;cases hok
   | rowx _ _ _ _=>rw [hc] at hok;cases hok
   | iter _ _=>rw [hc] at hok;cases hok
   | gen _ _ _=>rw [hc] at hok;cases hok
   | _ =>
    rw [hc] at hok
    simp only [okG,Bool.and_eq_true] at hok
    first | exact only1s_mem hok.1.2.2 _ hm | exact only1s_mem hok.1.2 _ hm
 have hrr:(c=.no→dataR r=true)∧(c≠.no→only1 r=true):=by
  refine ⟨fun hn=>?_,fun hn=>?_⟩
  ·rw [hn] at hok
   simp only [okG,Bool.and_eq_true] at hok
   exact hok.1
  ·cases hc:c with
   | no=>exact absurd hc hn
   | frz sh l=>rw [hc] at hok;cases hok
   | rowx _ _ _ _=>rw [hc] at hok;cases hok
   | iter _ _=>rw [hc] at hok;cases hok
   | gen _ _ _=>rw [hc] at hok;cases hok
   | _ =>
    rw [hc] at hok
    simp only [okG,Bool.and_eq_true] at hok
    first | exact hok.1.2.1 | exact hok.1.1
 have hbel:BelowW N w w':=⟨mc.below.os,mc.below.tape,mc.below.output,mc.below.size,fun k hk hnk=>mc.below.block k hk fun hn=>by
  rcases hn with hn | hn
  ·omega
  ·obtain ⟨_,_,_,_,hNb⟩:=hN0 k hn;exact hnk hNb⟩
 obtain ⟨m',t'⟩:=m.step (w':=w') (mem':=appU U mem) (ρ':=ρ') (fun r=>(∃ p∈E,p.1=r)∨cr=some r) cr hbel
  (fun r hr=>by
    have h1:cr≠some r:=fun h=>hr (.inr h)
    exact ⟨hgo r h1 fun p hp e=>hr (.inl ⟨p,hp,e⟩),by simp only [ρ',if_neg h1]⟩)
  (fun r _=>by
    by_cases h1:cr=some r
    ·exact .inr (.inr h1)
    ·exact .inr (.inl (by simp only [ρ',if_neg h1])))
  (fun r hr=>(hfr r hr).2)
  (fun b hb=>by
    by_cases hl:lblkG ρ E b
    ·obtain ⟨p,hp,hr,k1,_⟩:=hN0 b hl
     exact .inr ⟨p.1,_,.inl ⟨p,hp,rfl⟩,k1,hr,rfl⟩
    ·exact .inl (mc.below.block b hb fun hn=>hn.elim (by omega) hl))
  (fun r v b hr h1 h2 h3=>by
    by_cases hk:cr=some r
    ·rw [hg,if_pos hk] at h1
     simp only [ρ',if_pos hk] at h2
     exact .inl (hnb v b h2 h3 h1)
    ·simp only [ρ',if_neg hk] at h2
     exact .inr ⟨r,v,hr,(hown r hk).1 h1,h2,h3⟩)
  (fun r r' u u' b hr hr' g1 g2 g3 g4 g5 g6=>by
    have side:∀ r r' u u',cr=some r→cr≠some r'→(getM (appU U mem) r).own=true→(getM (appU U mem) r').own=true→ρ' r=some u→ρ' r'=some u'→vblock u=some b→vblock u'=some b→False:=by
     intro r r' u u' h1 h2 k1 k2 k3 k4 k5 k6
     rw [hg,if_pos h1] at k1
     simp only [ρ',if_pos h1] at k3
     simp only [ρ',if_neg h2] at k4
     have a1:=(hnb u b k3 k5 k1).1
     have a2:=(m.owned_lt ⟨r',u',(hown r' h2).1 k2,k4,k6⟩).2
     omega
    by_cases h1:cr=some r <;> by_cases h2:cr=some r'
    ·rw [h1] at h2;injection h2
    ·exact (side r r' u u' h1 h2 g1 g2 g3 g4 g5 g6).elim
    ·exact (side r' r u' u h2 h1 g2 g1 g4 g3 g6 g5).elim
    ·simp only [ρ',if_neg h1] at g3
     simp only [ρ',if_neg h2] at g4
     exact m.inj r r' u u' b ((hown r h1).1 g1) ((hown r' h2).1 g2) g3 g4 g5 g6)
  (fun _ r hr=>by
    by_cases hrc:cr=some r
    ·rw [hg,if_pos hrc]
     simp only [ρ',if_pos hrc]
     obtain ⟨hn,hd⟩:=hnew1 r hrc
     have hb:=mc.blk 1
     rw [out1] at hb
     cases hnw:c with
     | no=>rw [hnw] at hn;cases hn
     | frz sh l=>rw [hnw] at hn;cases hn
     | rowx _ _ _ _=>rw [hnw] at hok;cases hok
     | iter _ _=>rw [hnw] at hok;cases hok
     | gen _ _ _=>rw [hnw] at hok;cases hok
     | chunk t x =>
      have hok':=hok
      rw [hnw] at hok'
      simp only [okG,Bool.and_eq_true] at hok'
      rw [hnw] at hb
      obtain ⟨i,b,us,ty,h1,h2,h3,h4,h5,h6,h7⟩:=hb
      rw [← hnw] at h7
      have h8:=(hlift h7).data (ρ':=ρ') hok'.1.1
      exact ⟨i,b,us,ty,h1,h2,m.szN b (hnb _ b h2 rfl (by rw [hnw];rfl)).1,h4,h5,h6,h8⟩
     | row sh e l =>
      rw [hnw] at hb
      obtain ⟨u,h1,h2⟩:=hb
      refine ⟨u,h1,?_⟩
      rcases h2 with h2 | ⟨b,off,cap,cur,rfl,k1,k2,k3,k4,k5,k6,k7,k8⟩
      ·exact .inl h2
      ·exact .inr ⟨b,off,cap,cur,rfl,m.szN b (hnb _ b h1 (by simp only [vblock];rw [if_neg (by omega)]) (by rw [hnw];rfl)).1,k2,k3,k4,k5,k6,k7,fun i hi=>by
        have:=k8 i hi
        rw [← hnw] at this
        exact hlift this⟩
    ·obtain ⟨p,hp,rfl⟩:=hr.resolve_right hrc
     rw [hgE p hp]
     simp only [ρ',if_neg hrc]
     have hb:=mc.blk p.2.1
     rw [(atG lq ρ c hp).2.1,hc0 p hp] at hb
     obtain ⟨i,b,us,ty,h1,h2,h3,h4,h5,h6,h7⟩:=hb
     obtain ⟨_,_,_,_,hNb⟩:=hN0 b ⟨p,hp,h2⟩
     exact ⟨i,b,us,ty,h1,h2,hNb,h4,h5,h6,hren (hys p hp).1 (hys p hp).2 h7⟩)
 exact ⟨m',t',hren hrr.1 hrr.2 hv⟩
theorem zipE:∀ {QS:List (Nat × Nat × Nat × SV)} {L:List Ln},L.map (fun p=>(p.1,p.2.1,p.2.2.1))=QS.map (fun p=>p.2)→∃ E:En,lnE E=L∧qsOf QS=E.map (fun p=>p.1)∧csOf QS=E.map (fun p=>p.2.1)∧(∀ d b,updG QS (renGs d b (L.map fun p=>p.2.2.2))=updE (renE d b E))∧(∀ p∈E,(p.1,p.2.1,p.2.2.1,p.2.2.2.1)∈QS)∧∀ p∈QS,∃ p'∈E,p=(p'.1,p'.2.1,p'.2.2.1,p'.2.2.2.1)
 | [],[],_=>⟨[],rfl,rfl,rfl,fun _ _=>rfl,fun p h=>by simp at h,fun p h=>by simp at h⟩
 | [],_::_,h=>by simp at h
 | _::_,[],h=>by simp at h
 | (q,c,t,x)::QS,(c',t',x',y)::L,h=>by
  simp only [List.map_cons,List.cons.injEq,Prod.mk.injEq] at h
  obtain ⟨⟨rfl,rfl,rfl⟩,h⟩:=h
  obtain ⟨E,h1,h2,h3,h4,h5,h6⟩:=zipE h
  refine ⟨(q,c',t',x',y)::E,by simp [lnE,← h1],by simp [qsOf,h2],by simp [csOf,h3],(fun d b=>by have:=h4 d b;simp only [List.map_cons,renGs,updG,updE,renE] at this ⊢;rw [this]),fun p hp=>?_,fun p hp=>?_⟩
  ·rcases List.mem_cons.1 hp with rfl | hp
   ·simp
   ·exact List.mem_cons_of_mem _ (h5 p hp)
  ·rcases List.mem_cons.1 hp with rfl | hp
   ·exact ⟨_,List.mem_cons_self ..,rfl⟩
   ·obtain ⟨p',k1,k2⟩:=h6 p hp
    exact ⟨p',List.mem_cons_of_mem _ k1,k2⟩
theorem capsG_mem {μ:Nat→Blk}:∀ {pos:Nat} {caps cs:List SV} {QS:List (Nat × Nat × Nat × SV)},capsG μ pos caps=some (cs,QS)→∀ p∈QS,μ p.1=.chunk p.2.2.1 p.2.2.2∧dataB p.2.2.2=true
 | pos,[],cs,QS,h,p,hp=>by simp only [capsG] at h;injection h with h;injection h with _ h;subst h;simp at hp
 | pos,x::l,cs,QS,h,p,hp=>by
  simp only [capsG] at h
  split at h
  ·rename_i y Q ys QS' h1 h2
   injection h with h;injection h with _ h;subst h
   rcases List.mem_append.1 hp with hp | hp
   ·unfold cap1 at h1
    split at h1
    ·split at h1
     ·split at h1
      ·rename_i t z hm
       split at h1
       ·rename_i hd
        injection h1 with h1;injection h1 with _ h1;subst h1
        simp at hp;subst hp
        exact ⟨hm,hd⟩
       ·cases h1
      ·cases h1
     ·cases h1
    ·split at h1
     ·split at h1
      ·rename_i t z hm
       split at h1
       ·rename_i hd
        injection h1 with h1;injection h1 with _ h1;subst h1
        simp at hp;subst hp
        exact ⟨hm,hd⟩
       ·cases h1
      ·cases h1
     ·cases h1
    ·split at h1
     ·injection h1 with h1;injection h1 with _ h1;subst h1;simp at hp
     ·cases h1
   ·exact capsG_mem h2 p hp
  ·cases h
theorem capsG_ids {μ:Nat→Blk}:∀ {pos:Nat} {caps cs:List SV} {QS:List (Nat × Nat × Nat × SV)},capsG μ pos caps=some (cs,QS)→∀ p∈QS,p.2.1≠1
 | pos,[],cs,QS,h,p,hp=>by simp only [capsG] at h;injection h with h;injection h with _ h;subst h;simp at hp
 | pos,x::l,cs,QS,h,p,hp=>by
  simp only [capsG] at h
  split at h
  ·rename_i y Q ys QS' h1 h2
   injection h with h;injection h with _ h;subst h
   rcases List.mem_append.1 hp with hp | hp
   ·unfold cap1 at h1
    split at h1
    ·split at h1
     ·split at h1
      ·split at h1
       ·injection h1 with h1;injection h1 with _ h1;subst h1
        simp at hp;subst hp
        simp only;omega
       ·cases h1
      ·cases h1
     ·cases h1
    ·split at h1
     ·split at h1
      ·split at h1
       ·injection h1 with h1;injection h1 with _ h1;subst h1
        simp at hp;subst hp
        simp
       ·cases h1
      ·cases h1
     ·cases h1
    ·split at h1
     ·injection h1 with h1;injection h1 with _ h1;subst h1;simp at hp
     ·cases h1
   ·exact capsG_ids h2 p hp
  ·cases h
theorem capsG_den {μ:Nat→Blk} {w:World} {Y Y':Nat→Prop} {ρ ρ':Env} (hY:∀ b,b < w.heap.size→¬ Y b→¬ Y' b):∀ {pos:Nat} {caps cs:List SV} {QS:List (Nat × Nat × Nat × SV)} {us:List Value},capsG μ pos caps=some (cs,QS)→(∀ p∈QS,ρ' p.2.1=ρ p.1)→DenL w Y ρ caps us→DenL w Y' ρ' cs us
 | pos,[],cs,QS,us,h,_,hd=>by
  simp only [capsG] at h;injection h with h;injection h with h _;subst h
  exact ⟨hd.1,fun i x u hx=>by simp at hx⟩
 | pos,x::l,cs,QS,us,h,hq,hd=>by
  simp only [capsG] at h
  split at h
  ·rename_i y Q ys QS' h1 h2
   injection h with h;injection h with h3 h;subst h;subst h3
   cases us with
   | nil=>have:=hd.1;simp at this
   | cons u us =>
    have ih:=capsG_den hY (us:=us) h2 (fun p hp=>hq p (List.mem_append_right _ hp)) ⟨by have:=hd.1;simpa using this,fun i x u hx hu=>hd.2 (i+1) x u hx hu⟩
    have h0:=(hd.2 0 x u rfl rfl).mono (w':=w) (X':=Y') (Nat.le_refl _) fun b hb hn=>⟨hY b hb hn,rfl⟩
    have hy:Den w Y' ρ' y u:=by
     unfold cap1 at h1
     split at h1
     ·rename_i q o
      split at h1
      ·rename_i ho
       have ho:=nbeq.1 ho
       subst ho
       split at h1
       ·rename_i t z hm
        split at h1
        ·injection h1 with h1;injection h1 with h3 h1;subst h1;subst h3
         have e:=hq (q,900+pos,t,z) (by simp)
         simp only at e
         cases h0 with
         | ptr _ _ _ b hb=>exact .ptr _ _ _ b fun k hk=>hb k (by rw [← e];exact hk)
        ·cases h1
       ·cases h1
      ·cases h1
     ·rename_i q o
      split at h1
      ·rename_i ho
       have ho:=nbeq.1 ho
       subst ho
       split at h1
       ·rename_i t z hm
        split at h1
        ·injection h1 with h1;injection h1 with h3 h1;subst h1;subst h3
         have e:=hq (q,0,t,z) (by simp)
         simp only at e
         cases h0 with
         | cel _ _ b o u' hb hx hu hy =>
          refine .cel _ _ b o u' hb hx hu ?_
          cases hy with
          | ptr _ _ _ b hb=>exact .ptr _ _ _ b fun k hk=>hb k (by rw [← e];exact hk)
        ·cases h1
       ·cases h1
      ·cases h1
     ·split at h1
      ·rename_i hp
       injection h1 with h1;injection h1 with h3 h1;subst h3
       exact h0.env fun r=>.inr (.inr (plain_noref hp r))
      ·cases h1
    refine ⟨by simp [ih.1],fun i x' u' hx' hu'=>?_⟩
    cases i with
    | zero=>simp at hx' hu';subst hx';subst hu';exact hy
    | succ i=>exact ih.2 i x' u' (by simpa using hx') (by simpa using hu')
  ·cases h
theorem fcl_ok {o:Oper} {cal:Callee} {f:FuncId} {caps:List SV} {az:Array Operand} {ats:Array TypeId} {a:Act} {e:Operand→SV} {w:World} {Y:Nat→Prop} {ρ:Env} (hop:o.op=.call { callee:=cal,args:=az,argTypes:=ats }) (hc:fclOf e cal=some (f,caps)) (hd:∀ y∈o.op.operands,Den w Y ρ (e y) (a.eval y)) :
  ∃ us:List Value,execOp a.eval o=callFunc f (az.map a.eval++⟨us⟩)∧DenL w Y ρ caps us:=by
 unfold fclOf at hc
 split at hc
 ·rename_i cal
  split at hc
  ·rename_i f' caps' he
   injection hc with hc
   injection hc with h1 h2
   subst h1;subst h2
   have hv:=hd cal (by rw [hop];simp [Op.operands,Call.operands])
   rw [he] at hv
   generalize hq:a.eval cal=v at hv
   cases hv with
   | fcl _ _ _ us hl h=>exact ⟨us,exec_clo hop hq,⟨hl,fun i x u hx hu=>by
     obtain ⟨h1,rfl⟩:=List.getElem?_eq_some_iff.1 hx
     obtain ⟨h2,rfl⟩:=List.getElem?_eq_some_iff.1 hu
     exact h i h1 h2⟩⟩
  ·cases hc
 ·cases hc
theorem DenL.appG {w:World} {X:Nat→Prop} {ρ:Env} {xs ys:List SV} {us vs:List Value} (h:DenL w X ρ xs us) (g:DenL w X ρ ys vs):DenL w X ρ (xs++ys) (us++vs):=by
 refine ⟨by simp [h.1,g.1],fun i x u hx hu=>?_⟩
 by_cases hi:i < xs.length
 ·rw [List.getElem?_append_left hi] at hx
  rw [List.getElem?_append_left (by rw [← h.1];exact hi)] at hu
  exact h.2 i x u hx hu
 ·rw [List.getElem?_append_right (by omega)] at hx
  rw [List.getElem?_append_right (by rw [← h.1];omega),← h.1] at hu
  exact g.2 _ x u hx hu
theorem viewsG_data {μ:Nat→Blk}:∀ {ts:List Nat} {l l':List SV},views T μ ts l=some l'→∀ (i:Nat) (y:SV),l'[i]?=some y→dataB y=true
 | [],[],l',hv,i,y,hy=>by simp only [views] at hv;injection hv with hv;subst hv;simp at hy
 | [],_::_,l',hv,_,_,_=>by simp [views] at hv
 | _::_,[],l',hv,_,_,_=>by simp [views] at hv
 | t::ts,x::l,l',hv,i,y,hy=>by
  simp only [views] at hv
  cases h1:view T μ t x with
  | none=>rw [h1] at hv;cases hv
  | some y' =>
   cases h2:views T μ ts l with
   | none=>rw [h1,h2] at hv;cases hv
   | some ys =>
    rw [h1,h2] at hv
    injection hv with hv;subst hv
    cases i with
    | zero=>simp at hy;subst hy;exact view_data h1
    | succ i=>exact viewsG_data h2 i y (by simpa using hy)
theorem viewsG_same {μ μ':Nat→Blk}:∀ {ts:List Nat} {l l':List SV},(∀ r∈rids.ridsL l,∀ sh k,((∃ e,μ r=.row sh e k)→μ' r=.frz sh k)∧(μ r=.frz sh k→μ' r=.frz sh k))→views T μ ts l=some l'→views T μ' ts l=some l'∧live.lives μ' l=false
 | [],[],l',_,hv=>⟨hv,rfl⟩
 | [],_::_,l',_,hv=>by simp [views] at hv
 | _::_,[],l',_,hv=>by simp [views] at hv
 | t::ts,x::l,l',h,hv=>by
  simp only [views] at hv
  cases h1:view T μ t x with
  | none=>rw [h1] at hv;cases hv
  | some y =>
   cases h2:views T μ ts l with
   | none=>rw [h1,h2] at hv;cases hv
   | some ys =>
    obtain ⟨a1,a2⟩:=view_same (T:=T) (fun r hr=>h r (by simp [rids.ridsL,hr])) h1
    obtain ⟨b1,b2⟩:=viewsG_same (ts:=ts) (fun r hr=>h r (by simp [rids.ridsL,hr])) h2
    rw [h1,h2] at hv
    simp only [views,a1,b1,live.lives,a2,b2,Bool.or_self]
    exact ⟨hv,trivial⟩
theorem genV_ok {G:Nat→CT→Prop} (hG:∀ f c,G f c→ACall P T f c) {o:Oper} {cal:Callee} {args:Array Operand} {ats:Array TypeId} (ho:o.op=.call ⟨cal,args,ats⟩) {d:Option Nat} {e:Operand→SV} {μ:Nat→Blk} {κ:SV→List (Nat × Blk)→Option Nat→Prop} {f:Nat} {caps:List SV} (hcal:fclOf e cal=some (f,caps))
  (h:genV T G d f ats.toList (args.toList.map e) caps μ κ):∃ x U cr,κ x U cr∧(∀ q b,(q,b)∈U→cr=some q∨(μ q).own=true)∧(∀ k,cr=some k→d=some k)∧Eff P T o e μ x U cr:=by
 unfold genV at h
 split at h <;> try exact h.elim
 rename_i az hviews
 split at h <;> try exact h.elim
 rename_i cs QS hcaps
 split at h <;> try exact h.elim
 rename_i hnd
 simp only [Bool.and_eq_true] at hnd
 obtain ⟨L,r,nb,hg,hL,h⟩:=h.h
 split at h <;> try exact h.elim
 rename_i hdat
 obtain ⟨E,e1,e2,e3,e4,e5,e6⟩:=zipE hL
 have hmemQ:=capsG_mem hcaps
 have h1E:∀ p∈E,p.2.1≠1:=fun p hp=>capsG_ids hcaps _ (e5 p hp)
 refine ⟨_,_,if isNew nb then d else none,h,fun k b hk=>?_,(fun k hk=>?_),?_⟩
 ·rw [e4] at hk
  rcases List.mem_append.1 hk with hk | hk
  ·obtain ⟨_,sh,e',l,hm,_⟩:=frzU_mem hk
   exact .inr (by rw [hm];rfl)
  rcases List.mem_append.1 hk with hk | hk
  ·obtain ⟨p',hp',hpe⟩:=List.mem_map.1 hk
   obtain ⟨p,hp,rfl⟩:=List.mem_map.1 hp'
   injection hpe with h1 h2
   subst h1
   exact .inr (by rw [(hmemQ _ (e5 p hp)).1];rfl)
  ·cases hn:nb <;> rw [hn] at hk <;> cases hd:d <;> rw [hd] at hk <;> simp [newU] at hk
   all_goals first | (left;simp [isNew,hk.1];done) | (rw [hn] at hdat;simp [okG] at hdat;done)
 ·split at hk
  ·exact hk
  ·cases hk
 refine ⟨fun mem hμ hcr a N w0 w X ρ m hd K Q hK ro nn=>⟨fun _ _=>trivial,?_⟩⟩
 have ac:=hG _ _ hg
 obtain ⟨fn,hf,hb,hn⟩:=ac.fn
 obtain ⟨us,hex,hcd⟩:=fcl_ok ho hcal hd
 have hrun:(execOp a.eval o).run P w=.ok (.enter f (args.map a.eval++⟨us⟩)) w:=by rw [hex,run_callFunc hf hb hn]
 rw [semAt_exec hrun (fun d hd=>by cases hd),hrun,Oper.uponIn_enter]
 refine ⟨fun h=>by simp [FR,Fence.wide] at h,calls_FR ?_⟩
 have hden:DenL w (Forb X mem ρ) ρ (args.toList.map e) (args.toList.map a.eval):=by
  refine ⟨by simp,fun i x v hx hv=>?_⟩
  simp only [List.getElem?_map,Option.map_eq_some_iff] at hx hv
  obtain ⟨y,hy,rfl⟩:=hx
  obtain ⟨y',hy',rfl⟩:=hv
  rw [hy] at hy'
  injection hy' with hy'
  subst hy'
  refine hd y ?_
  rw [ho]
  simp only [Op.operands,Call.operands]
  have:y∈args:=by simpa using List.mem_of_getElem? hy
  simp [this]
 have fz:=freeze_ids (T:=T) hμ m (rids.ridsL (args.toList.map e))
 generalize hM:appU (frzU μ (rids.ridsL (args.toList.map e))) mem=mem1 at fz
 have lq0:∀ p∈E,getM mem1 p.1=.chunk p.2.2.1 p.2.2.2.1∧dataB p.2.2.2.1=true:=fun p hp=>by
  obtain ⟨k1,k2⟩:=hmemQ _ (e5 p hp)
  simp only at k1 k2
  refine ⟨?_,k2⟩
  rcases fz.old p.1 with g | ⟨_,sh,e',l,g,_⟩
  ·rw [g];exact hμ.row k1 (by simp)
  ·rw [k1] at g;cases g
 have lq:LentG mem1 E:=⟨lq0,by rw [← e2];exact nodupN_ok hnd.1,by rw [← e3];exact nodupN_ok hnd.2⟩
 have hfb:∀ b,Forb (xG (Forb X mem1 ρ) ρ E) (inL (lnE E)) (envG ρ E) b→Forb X mem1 ρ b:=fun b hf'=>forbG lq (fun b h=>h) hf'
 have min:=callG_in fz.m lq (Z:=Forb X mem1 ρ) (fun b h=>h)
 have hargs:DenL w (Forb (xG (Forb X mem1 ρ) ρ E) (inL (lnE E)) (envG ρ E)) (envG ρ E) az (args.toList.map a.eval):=by
  obtain ⟨v1,v2⟩:=viewsG_same (T:=T) (μ':=getM mem1) (fun r hr'=>fz.at' r hr') hviews
  have:=views_den (sees_all _) fz.m (Z:=Forb (xG (Forb X mem1 ρ) ρ E) (inL (lnE E)) (envG ρ E)) (fun b _ hf hf'=>hf (hfb b hf')) (fun hlive=>by rw [v2] at hlive;cases hlive) v1 ⟨hden.1,fun i x u hx hu=>fz.t.den (fun _ h=>by cases h) (hden.2 i x u hx hu)⟩
  exact ⟨this.1,fun i x u hx hu=>(this.2 i x u hx hu).data (viewsG_data hviews i x hx)⟩
 have hcs:DenL w (Forb (xG (Forb X mem1 ρ) ρ E) (inL (lnE E)) (envG ρ E)) (envG ρ E) cs us :=
  capsG_den (Y:=Forb X mem1 ρ) (ρ:=ρ) (fun b _ hn hf'=>hn (hfb b hf')) hcaps (fun p hp=>by
   obtain ⟨p',hp',rfl⟩:=e6 p hp
   exact (atG lq ρ .no hp').2.2) ⟨hcd.1,fun i x u hx hu=>fz.t.den (fun _ h=>by cases h) (hcd.2 i x u hx hu)⟩
 have hsq:isSeq (gC (az++cs) L r nb)=false:=by
  cases hnw:nb <;> first | rfl | (rw [hnw] at hdat;simp [okG] at hdat;done)
 have hlr:isLR (gC (az++cs) L r nb)=false:=by
  cases hnw:nb <;> first | rfl | (rw [hnw] at hdat;simp [okG] at hdat;done)
 have hcall:=ac.g _ _ _ _ rfl hsq hlr (by rw [← e1];simpa [lnE,Function.comp_def] using lq.c) (nG w ρ E) w (xG (Forb X mem1 ρ) ρ E) (envG ρ E) _ (by rw [← e1];exact min) (by rw [← e1];exact hargs.appG hcs)
 have e7:(⟨args.toList.map a.eval++us⟩:Array Value)=args.map a.eval++⟨us⟩:=by apply Array.ext';simp
 rw [e7] at hcall
 refine hcall.mono fun en w' hh=>?_
 obtain ⟨v,ρc,rfl,mc,h0,hv⟩:=hh
 rw [← e1] at mc h0 hv
 obtain ⟨m',t',hden'⟩:=callG_out fz.m lq (d:=d) (by rw [e1];exact hdat) h1E mc h0 (cr:=if isNew nb then d else none) rfl (fun k hk=>by
  obtain ⟨k1,k2,_⟩:=hcr k hk
  exact ⟨by rw [← hM] at fz ⊢;exact fz.no hμ k1,by rw [← hM];exact appU_noref k2 fun q' b hb=>by obtain ⟨_,sh,e',l,_,rfl⟩:=frzU_mem hb;rfl⟩) hv
 have e8:appU (frzU μ (rids.ridsL (args.toList.map e))++(updG QS (renGs d nb (L.map fun p=>p.2.2.2))++newU nb d)) mem=appU (updE (renE d nb E)++newU nb d) mem1:=by
  rw [appU_append,hM,e4]
 refine hK v w' _ (by rw [e8];exact m') (by rw [e8];exact hden') (by rw [e8];exact fz.t.trans t')
end
section
open Go.RowKit
variable {P:Program} {T:Nat→Option TI}
def lblk (ρ:Env) (q:Option (Nat × Nat × SV)) (b:Nat):Prop:=∃ r t x,q=some (r,t,x)∧ρ r=some (.pointer (some ⟨b,0,none⟩))
def envC (ρ:Env) (q:Option (Nat × Nat × SV)):Env:=fun r=>if r=0 then (match q with | some (k,_,_)=>ρ k | none=>none) else none
def nC (w:World) (ρ:Env) (q:Option (Nat × Nat × SV)):Nat→Prop:=fun b=>w.heap.size≤b∨lblk ρ q b
def xC (Z:Nat→Prop) (ρ:Env) (q:Option (Nat × Nat × SV)):Nat→Prop:=fun b=>Z b∧¬ lblk ρ q b
structure Lent (mem:Mem) (q:Option (Nat × Nat × SV)):Prop where
 h:∀ r t x,q=some (r,t,x)→getM mem r=.chunk t x∧dataB x=true
theorem forbC {mem:Mem} {q:Option (Nat × Nat × SV)} (lq:Lent mem q) {X:Nat→Prop} {ρ:Env} {c:CT} (hc:c.lent=q.map fun p=>p.2) {Z:Nat→Prop} (hZ:∀ b,Z b→Forb X mem ρ b) {b:Nat} (h:Forb (xC Z ρ q) (inM c) (envC ρ q) b):Forb X mem ρ b:=by
 rcases h with h | ⟨r,v,h1,h2,h3⟩
 ·exact hZ b h.1
 ·rw [getM_in] at h1
  split at h1
  case isFalse=>simp [Blk.own] at h1
  rename_i hr
  subst hr
  cases hq:q with
  | none=>rw [hq] at hc;rw [hc] at h1;simp [lentB,Blk.own] at h1
  | some p =>
   obtain ⟨k,t,x⟩:=p
   obtain ⟨g1,g2⟩:=lq.h k t x hq
   simp only [envC,if_true,hq] at h2
   exact .inr ⟨k,v,by rw [g1];rfl,h2,h3⟩
theorem call_in {N:Nat→Prop} {w0 w:World} {X:Nat→Prop} {mem:Mem} {ρ:Env} (m:MRep T N w0 w X mem ρ) {q:Option (Nat × Nat × SV)} (lq:Lent mem q) {c:CT} (hc:c.lent=q.map fun p=>p.2) {Z:Nat→Prop} (hZ:∀ b,Z b→Forb X mem ρ b) :
  MRep T (nC w ρ q) w w (xC Z ρ q) (inM c) (envC ρ q):=by
 refine ⟨fun b h=>⟨m.forb_lt (hZ b h.1),fun hn=>?_⟩,.refl _ _,fun b h=>.inl h,fun r=>?_,fun r r' v v' b h1 h2 _ _ _ _=>?_,gl_mono m.gl (Nat.le_refl _) fun b _ hf=>⟨fun hf'=>hf (forbC lq hc hZ hf'),rfl⟩⟩
 ·rcases hn with hn | hn
  ·have:=m.forb_lt (hZ b h.1);omega
  ·exact h.2 hn
 ·rw [getM_in]
  by_cases hr:r=0
  ·subst hr
   rw [if_pos rfl]
   cases hq:q with
   | none=>rw [hq] at hc;rw [hc];simp only [Option.map_none,lentB,envC,if_true];rfl
   | some p =>
    obtain ⟨k,t,x⟩:=p
    obtain ⟨g1,g2⟩:=lq.h k t x hq
    have hb:=m.blk k
    rw [g1] at hb
    obtain ⟨i,b,us,ty,h1,h2,h3,h4,h5,h6,h7⟩:=hb
    rw [hc,hq]
    simp only [Option.map_some,lentB,envC,if_true]
    refine ⟨i,b,us,ty,h1,h2,.inr ⟨k,t,x,rfl,h2⟩,h4,h5,h6,?_⟩
    have:=(h7.mono (w':=w) (X':=Forb (xC Z ρ q) (inM c) (envC ρ q)) (Nat.le_refl _) (fun b _ hf=>⟨fun hf'=>hf (forbC lq hc hZ hf'),rfl⟩)).data (ρ':=envC ρ q) g2
    rw [hq] at this
    exact this
  ·rw [if_neg hr]
   show envC ρ q r=none
   simp only [envC,if_neg hr]
 ·rw [getM_in] at h1 h2
  have k:∀ r,(if r=0 then lentB c.lent else Blk.no).own=true→r=0:=by
   intro r h
   by_cases hr:r=0
   ·exact hr
   ·rw [if_neg hr] at h;simp [Blk.own] at h
  rw [k r h1,k r' h2]
def memL (q:Option (Nat × Nat × SV)) (y:SV) (mem:Mem) (r:Nat):Blk:=match q with | some (k,t,_)=>if r=k then .chunk t y else getM mem r | none=>getM mem r
theorem call_out {N:Nat→Prop} {w0 w w':World} {X:Nat→Prop} {mem:Mem} {ρ ρc:Env} (m:MRep T N w0 w X mem ρ) {q:Option (Nat × Nat × SV)} (lq:Lent mem q) {c:CT} (hc:c.lent=q.map fun p=>p.2) {Z:Nat→Prop} (_hZ:∀ b,Z b→Forb X mem ρ b)
  (mc:MRep T (nC w ρ q) w w' (xC Z ρ q) (outM c) ρc) (h0:ρc 0=envC ρ q 0) {d:Option Nat} (hok:okC d c=true) {cr:Option Nat} (hcr:cr=if isNew c.new then d else none)
  (hfr:∀ k,cr=some k→getM mem k=.no∧memNoref k mem=true) (hqd:∀ r t x,q=some (r,t,x)→cr≠some r) (hfull:(∀ b,Forb X mem ρ b→Z b)∨flatC c=true∨PeekC c) {v:Value} (hv:Den w' (Forb (xC Z ρ q) (outM c) ρc) ρc c.r v) :
  let U:=lentU q c.lent'++newU c.new d
  let ρ':Env:=fun r=>if cr=some r then ρc 1 else ρ r
  MRep T N w0 w' X (appU U mem) ρ'∧Turn w (Forb X mem ρ) ρ w' (Forb X (appU U mem) ρ') ρ' cr∧Den w' (Forb X (appU U mem) ρ') ρ' (callR d c) v:=by
 intro U ρ'
 simp only [okC,Bool.and_eq_true] at hok
 obtain ⟨ok1,ok2⟩:=hok
 have hg:∀ r,getM (appU U mem) r=if cr=some r then c.new else memL q c.lent' mem r:=by
  intro r
  cases q with
  | none =>
   cases hn:c.new with
   | no=>simp only [U,hn,hcr,isNew,Bool.false_eq_true,if_false,lentU,newU,memL];simp [appU]
   | frz sh l=>rw [hn] at ok2;cases ok2
   | rowx _ _ _ _=>rw [hn] at ok2;cases ok2
   | iter _ _=>rw [hn] at ok2;cases ok2
   | gen _ _ _=>rw [hn] at ok2;cases ok2
   | _ =>
    rw [hn] at ok2
    simp only [Bool.and_eq_true] at ok2
    cases hd:d with
    | none=>rw [hd] at ok2;simp at ok2
    | some k =>
     simp only [U,hn,hd,hcr,isNew,if_true,lentU,newU,memL,List.nil_append,appU,getM_setM,Option.some.injEq,eq_comm]
  | some p =>
   obtain ⟨k0,t,x⟩:=p
   have hne:=hqd k0 t x rfl
   cases hn:c.new with
   | no =>
    have e1:newU Blk.no d=[]:=by cases d <;> rfl
    simp only [U,e1,hcr,hn,isNew,Bool.false_eq_true,if_false,lentU,memL,List.append_nil,appU,getM_setM]
    simp
   | frz sh l=>rw [hn] at ok2;cases ok2
   | rowx _ _ _ _=>rw [hn] at ok2;cases ok2
   | iter _ _=>rw [hn] at ok2;cases ok2
   | gen _ _ _=>rw [hn] at ok2;cases ok2
   | _ =>
    rw [hn] at ok2
    simp only [Bool.and_eq_true] at ok2
    cases hd:d with
    | none=>rw [hd] at ok2;simp at ok2
    | some k =>
     simp only [U,hn,hd,hcr,isNew,if_true,lentU,newU,memL,List.singleton_append,appU,getM_setM,Option.some.injEq]
     by_cases hr:r=k
     ·subst hr;simp
     ·rw [if_neg hr,if_neg (Ne.symm hr)]
 have hN0:∀ b,lblk ρ q b→∃ r t x,q=some (r,t,x)∧(getM mem r).own=true∧ρ r=some (.pointer (some ⟨b,0,none⟩))∧N b:=by
  rintro b ⟨r,t,x,hq,hr⟩
  have g:=(lq.h r t x hq).1
  refine ⟨r,t,x,hq,by rw [g];rfl,hr,(m.owned_lt ⟨r,_,by rw [g];rfl,hr,rfl⟩).1⟩
 have hnew1:∀ k,cr=some k→isNew c.new=true∧d=some k:=by
  intro k hk
  rw [hcr] at hk
  split at hk
  ·rename_i h;exact ⟨h,hk⟩
  ·cases hk
 have out1:getM (outM c) 1=c.new:=by rw [getM_out];simp
 have out0:getM (outM c) 0=lentB' c.lent c.lent':=by rw [getM_out];simp
 have hnb:∀ u b,ρc 1=some u→vblock u=some b→c.new.own=true→w.heap.size≤b∧b < w'.heap.size:=by
  intro u b hu hb ho
  obtain ⟨g1,g2⟩:=mc.owned_lt ⟨1,u,by rw [out1];exact ho,hu,hb⟩
  refine ⟨g1.resolve_right fun hl=>?_,g2⟩
  obtain ⟨r,t,x,hq,_,hr,_⟩:=hN0 b hl
  have e0:ρc 0=some (.pointer (some ⟨b,0,none⟩)):=by rw [h0];simp only [envC,if_true,hq];exact hr
  have:=mc.inj 0 1 _ _ b (by rw [out0,hc,hq];rfl) (by rw [out1];exact ho) e0 hu rfl hb
  omega
 have hfo:∀ b,Forb X (appU U mem) ρ' b→b < w'.heap.size→w.heap.size≤b∨Forb X mem ρ b:=by
  rintro b (h | ⟨r,u,g1,g2,g3⟩) hlt
  ·exact .inr (.inl h)
  ·rw [hg] at g1
   by_cases hr:cr=some r
   ·rw [if_pos hr] at g1
    simp only [ρ',if_pos hr] at g2
    exact .inl (hnb u b g2 g3 g1).1
   ·rw [if_neg hr] at g1
    simp only [ρ',if_neg hr] at g2
    refine .inr (.inr ⟨r,u,?_,g2,g3⟩)
    cases hq:q with
    | none=>rw [hq] at g1;exact g1
    | some p =>
     obtain ⟨k,t,x⟩:=p
     rw [hq] at g1
     simp only [memL] at g1
     split at g1
     ·rename_i hk;rw [hk,(lq.h k t x hq).1];rfl
     ·exact g1
 have hback:(∀ b,Forb X mem ρ b→Z b)→∀ b,Forb X (appU U mem) ρ' b→Forb (xC Z ρ q) (outM c) ρc b:=by
  intro hZ' b hb
  have old:Forb X mem ρ b→Forb (xC Z ρ q) (outM c) ρc b:=by
   intro h
   by_cases hl:lblk ρ q b
   ·obtain ⟨r,t,x,hq,_,hr,_⟩:=hN0 b hl
    refine .inr ⟨0,.pointer (some ⟨b,0,none⟩),by rw [out0,hc,hq];rfl,?_,rfl⟩
    rw [h0];simp only [envC,if_true,hq];exact hr
   ·exact .inl ⟨hZ' b h,hl⟩
  rcases hb with h | ⟨r,u,g1,g2,g3⟩
  ·exact old (.inl h)
  ·rw [hg] at g1
   by_cases hr:cr=some r
   ·rw [if_pos hr] at g1
    simp only [ρ',if_pos hr] at g2
    exact .inr ⟨1,u,by rw [out1];exact g1,g2,g3⟩
   ·rw [if_neg hr] at g1
    simp only [ρ',if_neg hr] at g2
    refine old (.inr ⟨r,u,?_,g2,g3⟩)
    cases hq:q with
    | none=>rw [hq] at g1;exact g1
    | some p =>
     obtain ⟨k,t,x⟩:=p
     rw [hq] at g1
     simp only [memL] at g1
     split at g1
     ·rename_i hk;rw [hk,(lq.h k t x hq).1];rfl
     ·exact g1
 have hlift:(∀ b,Forb X mem ρ b→Z b)→∀ {ρ0:Env} {x:SV} {u:Value},Den w' (Forb (xC Z ρ q) (outM c) ρc) ρ0 x u→Den w' (Forb X (appU U mem) ρ') ρ0 x u:=fun hZ' ρ0 x u h =>
  h.mono (Nat.le_refl _) fun b _ hf=>⟨fun hf'=>hf (hback hZ' b hf'),rfl⟩
 have hflat:flatC c=true→flatR c.r=true∧c.new=.no∧q=none:=by
  intro h
  simp only [flatC,Bool.and_eq_true] at h
  refine ⟨h.1.1,?_,?_⟩
  ·have:=h.1.2;cases hn:c.new <;> rw [hn] at this <;> first | rfl | cases this
  ·have:=h.2
   rw [hc] at this
   cases hq:q with
   | none=>rfl
   | some p=>rw [hq] at this;cases this
 have hB:Turn w (Forb X mem ρ) ρ w' (Forb X (appU U mem) ρ') ρ' cr→∀ r,((∃ t x,q=some (r,t,x))∨cr=some r)→BlkRep T N w' (Forb X (appU U mem) ρ') ρ' (getM (appU U mem) r) (ρ' r):=by
  intro tn r hr
  have hZ':(∀ b,Forb X mem ρ b→Z b)∨PeekC c:=by
   rcases hfull with h | h | h
   ·exact .inl h
   ·exfalso
    obtain ⟨_,f2,f3⟩:=hflat h
    rcases hr with ⟨t,x,hr⟩ | hr
    ·rw [f3] at hr;cases hr
    ·have:=(hnew1 r hr).1;rw [f2] at this;cases this
   ·exact .inr h
  by_cases hrc:cr=some r
  ·rw [hg,if_pos hrc]
   simp only [ρ',if_pos hrc]
   obtain ⟨hn,hd⟩:=hnew1 r hrc
   have hb:=mc.blk 1
   rw [out1] at hb
   cases hnw:c.new with
   | no=>rw [hnw] at hn;cases hn
   | frz sh l=>rw [hnw] at hn;cases hn
   | rowx _ _ _ _=>rw [hnw] at ok2;cases ok2
   | iter _ _=>rw [hnw] at ok2;cases ok2
   | gen _ _ _=>rw [hnw] at ok2;cases ok2
   | chunk t x =>
    rw [hnw] at hb ok2
    simp only [Bool.and_eq_true] at ok2
    obtain ⟨i,b,us,ty,h1,h2,h3,h4,h5,h6,h7⟩:=hb
    have hZ':=hZ'.resolve_right fun hp=>by obtain ⟨_,_,_,e,_⟩:=hp.n;rw [hnw] at e;cases e
    exact ⟨i,b,us,ty,h1,h2,m.szN b (hnb _ b h2 rfl (by rw [hnw];rfl)).1,h4,h5,h6,(hlift hZ' h7).data ok2.1.1⟩
   | row sh e l =>
    rw [hnw] at hb
    obtain ⟨u,h1,h2⟩:=hb
    refine ⟨u,h1,?_⟩
    rcases h2 with h2 | ⟨b,off,cap,cur,rfl,k1,k2,k3,k4,k5,k6,k7,k8⟩
    ·exact .inl h2
    ·exact .inr ⟨b,off,cap,cur,rfl,m.szN b (hnb _ b h1 (by simp only [vblock];rw [if_neg (by omega)]) (by rw [hnw];rfl)).1,k2,k3,k4,k5,k6,k7,fun i hi=>by
      rcases hZ' with hZ' | hp
      ·exact hlift hZ' (k8 i hi)
      ·obtain ⟨_,_,_,e,hl⟩:=hp.n
       rw [hnw] at e
       injection e with _ _ e
       exact (k8 i hi).flat1 (hl _ (by rw [← e];exact List.getElem_mem hi))⟩
  ·obtain ⟨t,x,hq⟩:=hr.resolve_right hrc
   have hZ':=hZ'.resolve_right fun hp=>by have:=hp.l;rw [hc,hq] at this;cases this
   rw [hg,if_neg hrc,hq]
   simp only [memL,if_true,ρ',if_neg hrc]
   have hb:=mc.blk 0
   rw [out0,hc,hq] at hb
   simp only [Option.map_some,lentB'] at hb
   have e0:ρc 0=ρ r:=by rw [h0];simp only [envC,if_true,hq]
   rw [e0] at hb
   obtain ⟨i,b,us,ty,h1,h2,h3,h4,h5,h6,h7⟩:=hb
   rw [hc,hq] at ok1
   obtain ⟨_,_,_,hq',_,_,hNb⟩:=hN0 b ⟨r,t,x,hq,h2⟩
   have h7':=(hlift hZ' (show Den w' (Forb (xC Z ρ q) (outM c) ρc) ρc c.lent' (valAt i.shape us.toList 0) by rw [hq];exact h7)).data (ρ':=ρ') ok1
   exact ⟨i,b,us,ty,h1,h2,hNb,h4,h5,h6,h7'⟩
 have hbel:BelowW N w w':=⟨mc.below.os,mc.below.tape,mc.below.output,mc.below.size,fun k hk hnk=>mc.below.block k hk fun hn=>by
  rcases hn with hn | hn
  ·omega
  ·obtain ⟨_,_,_,_,_,_,hNb⟩:=hN0 k hn;exact hnk hNb⟩
 obtain ⟨m',t'⟩:=m.step (w':=w') (mem':=appU U mem) (ρ':=ρ') (fun r=>(∃ t x,q=some (r,t,x))∨cr=some r) cr hbel (fun r hr=>by
   have h1:cr≠some r:=fun h=>hr (.inr h)
   refine ⟨?_,by simp only [ρ',if_neg h1]⟩
   rw [hg,if_neg h1]
   cases hq:q with
   | none=>rfl
   | some p =>
    obtain ⟨k,t,x⟩:=p
    simp only [memL]
    rw [if_neg]
    rintro rfl
    exact hr (.inl ⟨t,x,hq⟩))
  (fun r hr=>by
    by_cases h1:cr=some r
    ·exact .inr (.inr h1)
    ·exact .inr (.inl (by simp only [ρ',if_neg h1])))
  (fun r hr=>(hfr r hr).2)
  (fun b hb=>by
    by_cases hl:lblk ρ q b
    ·obtain ⟨r,t,x,hq,k1,k2,_⟩:=hN0 b hl
     exact .inr ⟨r,_,.inl ⟨t,x,hq⟩,k1,k2,rfl⟩
    ·exact .inl (mc.below.block b hb fun hn=>hn.elim (by omega) hl))
  (fun r u b hr g1 g2 g3=>by
    rw [hg] at g1
    by_cases h1:cr=some r
    ·rw [if_pos h1] at g1
     simp only [ρ',if_pos h1] at g2
     exact .inl (hnb u b g2 g3 g1)
    ·simp only [ρ',if_neg h1] at g2
     obtain ⟨t,x,hq⟩:=hr.resolve_right h1
     exact .inr ⟨r,u,.inl ⟨t,x,hq⟩,by rw [(lq.h r t x hq).1];rfl,g2,g3⟩)
  (fun r r' u u' b hr hr' g1 g2 g3 g4 g5 g6=>by
    have side:∀ r r' u u',cr=some r→cr≠some r'→(getM (appU U mem) r).own=true→(∃ t x,q=some (r',t,x))→ρ' r=some u→ρ' r'=some u'→vblock u=some b→vblock u'=some b→False:=by
     intro r r' u u' h1 h2 k1 ⟨t,x,hq⟩ k3 k4 k5 k6
     rw [hg,if_pos h1] at k1
     simp only [ρ',if_pos h1] at k3
     simp only [ρ',if_neg h2] at k4
     have a1:=(hnb u b k3 k5 k1).1
     have a2:=(m.owned_lt ⟨r',u',by rw [(lq.h r' t x hq).1];rfl,k4,k6⟩).2
     omega
    by_cases h1:cr=some r <;> by_cases h2:cr=some r'
    ·rw [h1] at h2;injection h2
    ·exact (side r r' u u' h1 h2 g1 (hr'.resolve_right h2) g3 g4 g5 g6).elim
    ·exact (side r' r u' u h2 h1 g2 (hr.resolve_right h1) g4 g3 g6 g5).elim
    ·obtain ⟨t,x,hq⟩:=hr.resolve_right h1
     obtain ⟨t',x',hq'⟩:=hr'.resolve_right h2
     rw [hq] at hq'
     injection hq' with hq'
     injection hq')
  hB
 refine ⟨m',t',?_⟩
 cases hnw:c.new with
 | no =>
  rw [hnw] at ok2
  have hr:callR d c=c.r:=by simp only [callR,hnw]
  rw [hr]
  rcases hfull with h | h | h
  ·exact (hlift h hv).plain_env ok2
  ·exact hv.flat (hflat h).1
  ·obtain ⟨_,_,_,e,_⟩:=h.n
   rw [hnw] at e;cases e
 | frz sh l=>rw [hnw] at ok2;cases ok2
 | rowx _ _ _ _=>rw [hnw] at ok2;cases ok2
 | iter _ _=>rw [hnw] at ok2;cases ok2
 | gen _ _ _=>rw [hnw] at ok2;cases ok2
 | _ =>
  rw [hnw] at ok2
  simp only [Bool.and_eq_true] at ok2
  have hZ':(∀ b,Forb X mem ρ b→Z b)∨PeekC c:=by
   rcases hfull with h | h | h
   ·exact .inl h
   ·have:=(hflat h).2.1;rw [hnw] at this;cases this
   ·exact .inr h
  cases hd:d with
  | none=>rw [hd] at ok2;simp at ok2
  | some k =>
   have hr:callR (some k) c=ren k c.r:=by simp only [callR,hnw]
   rw [hr]
   have hcrk:cr=some k:=by rw [hcr,hnw];simp [isNew,hd]
   have hv':Den w' (Forb X (appU U mem) ρ') ρc c.r v:=by
    rcases hZ' with hZ' | hp
    ·exact hlift hZ' hv
    ·exact hv.peek hp.r
   refine hv'.ren ?_ (by simp only [ρ',if_pos hcrk])
   first | exact ok2.1.2 | exact ok2.1
theorem views_same {μ μ':Nat→Blk}:∀ {ts:List Nat} {l l':List SV},(∀ r∈rids.ridsL l,∀ sh k,((∃ e,μ r=.row sh e k)→μ' r=.frz sh k)∧(μ r=.frz sh k→μ' r=.frz sh k))→views T μ ts l=some l'→views T μ' ts l=some l'∧live.lives μ' l=false
 | [],[],l',_,hv=>⟨hv,rfl⟩
 | [],_::_,l',_,hv=>by simp [views] at hv
 | _::_,[],l',_,hv=>by simp [views] at hv
 | t::ts,x::l,l',h,hv=>by
  simp only [views] at hv
  cases h1:view T μ t x with
  | none=>rw [h1] at hv;cases hv
  | some y =>
   cases h2:views T μ ts l with
   | none=>rw [h1,h2] at hv;cases hv
   | some ys =>
    obtain ⟨a1,a2⟩:=view_same (T:=T) (fun r hr=>h r (by simp [rids.ridsL,hr])) h1
    obtain ⟨b1,b2⟩:=views_same (ts:=ts) (fun r hr=>h r (by simp [rids.ridsL,hr])) h2
    rw [h1,h2] at hv
    simp only [views,a1,b1,live.lives,a2,b2,Bool.or_self]
    exact ⟨hv,trivial⟩
theorem views_data {μ:Nat→Blk}:∀ {ts:List Nat} {l l':List SV},views T μ ts l=some l'→∀ (i:Nat) (y:SV),l'[i]?=some y→dataB y=true
 | [],[],l',hv,i,y,hy=>by simp only [views] at hv;injection hv with hv;subst hv;simp at hy
 | [],_::_,l',hv,_,_,_=>by simp [views] at hv
 | _::_,[],l',hv,_,_,_=>by simp [views] at hv
 | t::ts,x::l,l',hv,i,y,hy=>by
  simp only [views] at hv
  cases h1:view T μ t x with
  | none=>rw [h1] at hv;cases hv
  | some y' =>
   cases h2:views T μ ts l with
   | none=>rw [h1,h2] at hv;cases hv
   | some ys =>
    rw [h1,h2] at hv
    injection hv with hv;subst hv
    cases i with
    | zero=>simp at hy;subst hy;exact view_data h1
    | succ i=>exact views_data h2 i y (by simpa using hy)
theorem callArgs_some {μ:Nat→Blk} {ts:List Nat} {xs az:List SV} {q:Option (Nat × Nat × SV)} (h:callArgs T μ ts xs=some (az,q)) :
  (q=none∧views T μ ts xs=some az)∨∃ t0 ts' k xs' t x az',ts=t0::ts'∧xs=.ptr k 0::xs'∧μ k=.chunk t x∧dataB x=true∧views T μ ts' xs'=some az'∧az=.ptr 0 0::az'∧q=some (k,t,x):=by
 unfold callArgs at h
 split at h
 ·rename_i t0 ts' k xs'
  split at h
  ·rename_i t x hm
   split at h
   ·rename_i hd
    split at h
    ·rename_i az' hv
     injection h with h
     injection h with h1 h2
     exact .inr ⟨t0,ts',k,xs',t,x,az',rfl,rfl,hm,hd,hv,h1.symm,h2.symm⟩
    ·cases h
   ·cases h
  ·cases h
 ·split at h
  ·rename_i az' hv
   injection h with h
   injection h with h1 h2
   subst h1
   exact .inl ⟨h2.symm,hv⟩
  ·cases h
theorem DenL.app' {w:World} {X:Nat→Prop} {ρ:Env} {xs ys:List SV} {us vs:List Value} (h:DenL w X ρ xs us) (g:DenL w X ρ ys vs):DenL w X ρ (xs++ys) (us++vs):=by
 refine ⟨by simp [h.1,g.1],fun i x u hx hu=>?_⟩
 by_cases hi:i < xs.length
 ·rw [List.getElem?_append_left hi] at hx
  rw [List.getElem?_append_left (by rw [← h.1];exact hi)] at hu
  exact h.2 i x u hx hu
 ·rw [List.getElem?_append_right (by omega)] at hx
  rw [List.getElem?_append_right (by rw [← h.1];omega),← h.1] at hu
  exact g.2 _ x u hx hu
theorem rsl_at {w:World} {X:Nat→Prop} {ρ:Env} {q a n:Nat} {sh:Option Nat} {c:Option Nat} {v v0:Value} (h:Den w X ρ (.rsl q sh a n c) v) (hv:ρ q=some v0) (hs:∀ b,v0≠.pointer (some ⟨b,0,none⟩)) :
  ∃ x cc x0 len cap,v=.slice x n cc∧n≤cc∧v0=.slice x0 len cap∧a+n≤len∧a+cc≤cap∧(c=none→cc=cap - a)∧(∀ m,c=some m→cc=m)∧(cc=0∨∃ b off,x0=some ⟨b,off,none⟩∧x=some ⟨b,off+a * wid sh,none⟩):=by
 cases h with
 | rsl _ _ _ _ _ _ x cc hc hr =>
  obtain ⟨x0,len,cap,h1,h2,h3,h4,h5,h6⟩:=(hr _ hv).resolve_right (by rintro ⟨b,h,_⟩;exact hs b h)
  exact ⟨x,cc,x0,len,cap,rfl,hc,h1,h2,h3,h4,h5,h6⟩
theorem altV_ok {G:Nat→CT→Prop} (hG:∀ f c,G f c→ACall P T f c) {o:Oper} {cal:Callee} {args:Array Operand} {ats:Array TypeId} (ho:o.op=.call ⟨cal,args,ats⟩) {d:Option Nat} {e:Operand→SV} {μ:Nat→Blk} {κ:SV→List (Nat × Blk)→Option Nat→Prop} {f:Nat} {caps:List SV} (hcal:calleeOf e cal=some (f,caps))
  (h:altV G d f (args.toList.map e) caps μ κ):∃ x U cr,κ x U cr∧(∀ q b,(q,b)∈U→cr=some q∨(μ q).own=true)∧(∀ k,cr=some k→d=some k)∧Eff P T o e μ x U cr:=by
 unfold altV at h
 split at h <;> try exact h.elim
 rename_i xs caps' d' q az d hxs
 split at h <;> try exact h.elim
 rename_i sh el l hm
 split at h <;> try exact h.elim
 rename_i hpl
 obtain ⟨k,hg,h⟩:=h.h
 refine ⟨_,_,_,h,(fun q' b hq=>by
  simp only [List.mem_cons,Prod.mk.injEq,List.not_mem_nil,or_false] at hq
  rcases hq with ⟨rfl,_⟩ | ⟨rfl,_⟩
  ·rw [hm];exact .inr rfl
  ·exact .inl rfl),(fun k hk=>hk),⟨fun mem hμ hcr a N w0 w X ρ m hd K Q hK ro nn=>⟨fun _ _=>trivial,?_⟩⟩⟩
 obtain ⟨hno,hnr,hnn⟩:=hcr d rfl
 have ac:=hG _ _ hg
 obtain ⟨fn,hf,hb,hn⟩:=ac.fn
 obtain ⟨us,hex,hcaps,hcp⟩:=callee_ok ho hcal hd
 obtain rfl:us=[]:=List.eq_nil_of_length_eq_zero (by rw [← hcaps.1];rfl)
 have hrun:(execOp a.eval o).run P w=.ok (.enter f (args.map a.eval++⟨[]⟩)) w:=by rw [hex,run_callFunc hf hb hn]
 rw [semAt_exec hrun (fun d hd=>by cases hd),hrun,Oper.uponIn_enter]
 refine ⟨fun h=>by simp [FR,Fence.wide] at h,calls_FR ?_⟩
 have hden:DenL w (Forb X mem ρ) ρ (args.toList.map e) (args.toList.map a.eval):=by
  refine ⟨by simp,fun i x v hx hv=>?_⟩
  simp only [List.getElem?_map,Option.map_eq_some_iff] at hx hv
  obtain ⟨y,hy,rfl⟩:=hx
  obtain ⟨y',hy',rfl⟩:=hv
  rw [hy] at hy'
  injection hy' with hy'
  subst hy'
  refine hd y ?_
  rw [ho]
  simp only [Op.operands,Call.operands]
  have:y∈args:=by simpa using List.mem_of_getElem? hy
  simp [this]
 rw [hxs] at hden
 have hgm:getM mem q=.row sh el l:=hμ.row hm (by simp)
 obtain ⟨v0,hv0,hg',hcase⟩:=hμ.rowAt m hm
 have hqd:q≠d:=fun h=>by rw [h,hno] at hgm;cases hgm
 have hown:∀ b,vblock v0=some b→owned mem ρ b:=fun b hb=>⟨q,v0,by rw [hgm];rfl,hv0,hb⟩
 generalize hN':(fun b=>w.heap.size≤b∨vblock v0=some b:Nat→Prop)=N'
 generalize hX':(fun b=>Forb X mem ρ b∧vblock v0≠some b:Nat→Prop)=X'
 generalize hρ':(fun r=>if r=0 then some v0 else none:Env)=ρ'
 have fb:∀ (l':List SV) (ρ1:Env),ρ1 0=some v0→∀ b,Forb X' [(0,.row sh el l')] ρ1 b ↔ Forb X mem ρ b:=by
  intro l' ρ1 h1 b
  constructor
  ·rintro (h | ⟨r,v,g1,g2,g3⟩)
   ·rw [← hX'] at h;exact h.1
   ·simp only [getM] at g1
    split at g1
    ·rename_i hr
     have hr:=Nat.eq_of_beq_eq_true hr
     subst hr
     rw [h1] at g2
     injection g2 with g2
     subst g2
     exact .inr (hown b g3)
    ·simp [Blk.own] at g1
  ·intro h
   by_cases hb:vblock v0=some b
   ·exact .inr ⟨0,v0,rfl,h1,hb⟩
   ·left;rw [← hX'];exact ⟨h,hb⟩
 have fbe:∀ (l':List SV) (ρ1:Env),ρ1 0=some v0→Forb X' [(0,.row sh el l')] ρ1=Forb X mem ρ:=fun l' ρ1 h1=>funext fun b=>propext (fb l' ρ1 h1 b)
 have hr0:ρ' 0=some v0:=by rw [← hρ'];rfl
 have min:MRep T N' w w X' [(0,.row sh el l)] ρ':=by
  refine ⟨fun b hb=>?_,.refl _ _,fun b hb=>by rw [← hN'];exact .inl hb,fun r=>?_,fun r r' v v' b g1 g2 _ _ _ _=>?_,?_⟩
  ·rw [← hX'] at hb
   refine ⟨m.forb_lt hb.1,fun hn=>?_⟩
   rw [← hN'] at hn
   rcases hn with hn | hn
   ·have:=m.forb_lt hb.1;omega
   ·exact hb.2 hn
  ·by_cases hr:r=0
   ·subst hr
    rw [fbe _ _ hr0,hr0]
    show BlkRep T N' w _ ρ' (.row sh el l) (some v0)
    refine ⟨v0,rfl,?_⟩
    rcases hcase with h1 | ⟨b,off,cap,cur,rfl,k1,k2,k3,k4,k5,k6,k7,k8⟩
    ·exact .inl h1
    ·exact .inr ⟨b,off,cap,cur,rfl,by rw [← hN'];right;simp only [vblock];rw [if_neg (by omega)],k2,k3,k4,k5,k6,k7,k8⟩
   ·have e1:getM [(0,Blk.row sh el l)] r=.no:=by
     simp only [getM]
     rw [if_neg]
     intro h;exact hr (Nat.eq_of_beq_eq_true h).symm
    rw [e1,← hρ']
    show (if r=0 then some v0 else none)=none
    rw [if_neg hr]
  ·have key:∀ r,(getM [(0,Blk.row sh el l)] r).own=true→r=0:=fun r h=>by
    simp only [getM] at h
    split at h
    ·rename_i hr;exact (Nat.eq_of_beq_eq_true hr).symm
    ·simp [Blk.own] at h
   rw [key r g1,key r' g2]
  ·rw [fbe _ _ hr0];exact m.gl
 have hargs:DenL w (Forb X' [(0,.row sh el l)] ρ') ρ' (.row 0::az) (args.toList.map a.eval):=by
  rw [fbe _ _ hr0]
  refine ⟨by rw [← hden.1];rfl,fun i x u hx hu=>?_⟩
  cases i with
  | zero =>
   simp only [List.getElem?_cons_zero,Option.some.injEq] at hx
   subst hx
   have h0:=hden.2 0 _ u rfl hu
   generalize u=u' at h0
   cases h0 with
   | row _ _ a1 n1 c1 hr =>
    refine .row _ 0 _ _ _ fun q' hq'=>?_
    rw [hr0] at hq'
    injection hq' with hq'
    subst hq'
    exact hr _ hv0
  | succ i =>
   have hx':az[i]?=some x:=by simpa using hx
   have:=hden.2 (i+1) x u (by simpa using hx') hu
   refine this.env fun r=>.inr (.inr ?_)
   obtain ⟨h1,rfl⟩:=List.getElem?_eq_some_iff.1 hx'
   exact plain_noref (allPlain_get hpl i h1) r
 have hcall:=ac.lr sh el l az k rfl N' w X' ρ' _ min hargs
 have e1:(⟨args.toList.map a.eval⟩:Array Value)=args.map a.eval++⟨[]⟩:=by apply Array.ext';simp
 rw [e1] at hcall
 refine hcall.mono fun en w' hh=>?_
 obtain ⟨v,l',ρc,rfl,mc,h0,htk,hv⟩:=hh
 rw [hr0] at h0
 have hfc:=fbe l' ρc h0
 have hblk:=mc.blk 0
 rw [h0,hfc] at hblk
 rw [hfc] at hv
 obtain ⟨v0',e2,hcase'⟩:=(show BlkRep T N' w' (Forb X mem ρ) ρc (.row sh el l') (some v0) from hblk)
 injection e2 with e2
 subst e2
 have hN:∀ b,N' b→N b:=fun b hb=>by
  rw [← hN'] at hb
  rcases hb with hb | hb
  ·exact m.szN b hb
  ·exact (m.owned_lt (hown b hb)).1
 obtain ⟨x,cc,x0,len,cap,f1,f2,f3,f4,f5,f6,_,f8⟩:=rsl_at hv h0 (by rintro b rfl;rcases hcase' with ⟨_,h,_⟩ | ⟨_,_,_,_,h,_⟩ <;> cases h)
 have hkl:k.length≤l'.length:=by rw [← htk,List.length_take];omega
 obtain ⟨m',t'⟩:=m.move (w':=w') (by rw [hgm];rfl) hv0 hqd hno hnr (B:=.row sh el k) (v:=v) ⟨mc.below.os,mc.below.tape,mc.below.output,mc.below.size,fun b h1 h2=>mc.below.block b h1 fun h=>h2 (hN b h)⟩
  (fun b h1 h2=>mc.below.block b h1 fun h=>by rw [← hN'] at h;exact h.elim (fun h=>absurd h (by omega)) h2)
  (fun b hb=>.inr (by
    rw [f1] at hb
    cases x with
    | none=>simp [vblock] at hb
    | some x =>
     simp only [vblock] at hb
     split at hb
     ·cases hb
     ·rename_i hc
      rcases f8 with f8 | ⟨b1,off,f8,f9⟩
      ·exact absurd f8 hc
      ·injection f9 with f9
       subst f9
       injection hb with hb
       subst hb
       rw [f3,f8]
       simp only [vblock]
       rw [if_neg (by omega)]))
  (fun tn=>by
    have lift:∀ {x:SV} {u:Value},Den w' (Forb X mem ρ) noEnv x u→Den w' (Forb X (setM (.row sh el k) (setM .no mem q) d) (fun r=>if r=d then some v else if r=q then none else ρ r)) noEnv x u:=fun hd=>hd.mono (Nat.le_refl _) fun b _ hb=>⟨fun hf'=>by
     rcases hf' with hf' | ⟨r,u,g1,g2,g3⟩
     ·exact hb (.inl hf')
     ·simp only [getM_setM] at g1
      by_cases hr:r=d
      ·subst hr
       simp only [if_true] at g2
       injection g2 with g2
       subst g2
       rw [f1] at g3
       cases x with
       | none=>simp [vblock] at g3
       | some x =>
        simp only [vblock] at g3
        split at g3
        ·cases g3
        ·rename_i hc
         rcases f8 with f8 | ⟨b1,off,f8,f9⟩
         ·exact absurd f8 hc
         ·injection f9 with f9
          subst f9
          injection g3 with g3
          subst g3
          refine hb (.inr (hown _ ?_))
          rw [f3,f8]
          simp only [vblock]
          rw [if_neg (by omega)]
      ·have g2:(if r=d then some v else if r=q then none else ρ r)=some u:=g2
       rw [if_neg hr] at g1 g2
       by_cases hrq:r=q
       ·rw [if_pos hrq] at g1;simp [Blk.own] at g1
       ·rw [if_neg hrq] at g1 g2
        exact hb (.inr ⟨r,u,g1,g2,g3⟩),rfl⟩
    refine ⟨v,rfl,?_⟩
    rcases hcase' with ⟨a0,g1,g2⟩ | ⟨b,off,cap',cur,g1,k1,k2,k3,k4,k5,k6,k7,k8⟩
    ·rw [g1] at f3
     injection f3 with f3 f3' f3''
     have hk0:k.length=0:=by omega
     have hc0:cc=0:=by omega
     exact .inl ⟨x,by rw [f1,hk0,hc0],List.eq_nil_of_length_eq_zero hk0⟩
    ·rw [g1] at f3
     injection f3 with f3 f3' f3''
     subst f3;subst f3';subst f3''
     have hcc:cc=cap':=by rw [f6 rfl];omega
     subst hcc
     rcases f8 with f8 | ⟨b1,off1,f8,f9⟩
     ·omega
     ·injection f8 with f8
      injection f8 with f8 f8' _
      subst f8;subst f8'
      refine .inr ⟨b,off,cc,cur,by rw [f1,f9,Nat.zero_mul,Nat.add_zero],hN _ k1,k2,by omega,k4,k5,k6,k7,fun i hi=>?_⟩
      have hi':i < l'.length:=by omega
      have:k[i]=l'[i]:=by
       have h1:k[i]?=l'[i]?:=by rw [← htk,List.getElem?_take,if_pos hi]
       rw [List.getElem?_eq_getElem hi,List.getElem?_eq_getElem hi'] at h1
       exact Option.some.inj h1
      rw [this]
      exact lift (k8 i hi'))
 refine hK v w' _ m' ?_ t'
 suffices hs:Den w' (Forb X (setM (.row sh el k) (setM .no mem q) d) (fun r=>if r=d then some v else if r=q then none else ρ r)) (fun r=>if r=d then some v else if r=q then none else ρ r) (.row d) (.slice x k.length cc) by rw [← f1] at hs;exact hs
 refine .row _ d _ _ _ fun q' hq'=>?_
 simp only [if_true] at hq'
 injection hq' with hq'
 exact hq'.symm.trans f1
theorem matV_some {μ:Nat→Blk}:∀ {l:List SV} {ms:List (Nat × List SV)},matV T μ l=some ms →
  l.length=ms.length∧∀ (i:Nat) (q:Nat) (k:List SV),ms[i]?=some (q,k)→∃ t ti c,l[i]?=some (.rsl q none 0 k.length c)∧μ q=.chunk t (.agg k)∧T t=some ti∧ti.size=k.length∧ti.shape=some k.length∧flatsB k=true
 | [],ms,h=>by simp only [matV] at h;injection h with h;subst h;exact ⟨rfl,fun i q k h=>by simp at h⟩
 | x::l,ms,h=>by
  cases x with
  | rsl q sh a n c =>
   cases sh with
   | some _=>simp [matV] at h
   | none =>
    cases a with
    | succ a=>simp [matV] at h
    | zero =>
     simp only [matV] at h
     split at h <;> try (cases h;done)
     rename_i t k ms' hm hms
     split at h <;> try (cases h;done)
     rename_i ti ht
     split at h <;> try (cases h;done)
     rename_i hc
     simp only [Bool.and_eq_true] at hc
     injection h with h
     subst h
     obtain ⟨h1,h2⟩:=matV_some hms
     have e1:k.length=n:=Nat.eq_of_beq_eq_true hc.1.1
     have e2:ti.size=n:=Nat.eq_of_beq_eq_true hc.1.2
     have e3:=shEq_eq hc.2.1
     refine ⟨by simp [h1],fun i q' k' hi=>?_⟩
     cases i with
     | zero =>
      simp at hi
      obtain ⟨rfl,rfl⟩:=hi
      exact ⟨t,ti,c,by simp [e1],hm,ht,by omega,by rw [e3,e1],hc.2.2⟩
     | succ i=>exact h2 i q' k' (by simpa using hi)
  | _=>simp [matV] at h
theorem matL_get:∀ (ms:List (Nat × List SV)) (i:Nat),(matL ms)[i]?=(ms[i]?).map fun p=>.lst none p.2
 | [],i=>by simp [matL]
 | (q,k)::ms,0=>rfl
 | (q,k)::ms,i+1=>by simp [matL,matL_get ms i]
theorem matL_len:∀ ms:List (Nat × List SV),(matL ms).length=ms.length
 | []=>rfl
 | (q,k)::ms=>by simp [matL,matL_len ms]
theorem matC_mem:∀ {ms:List (Nat × List SV)} {q:Nat} {k:List SV},(q,k)∈ms→k∈matC ms
 | (q,k)::ms,q',k',h=>by
  rcases List.mem_cons.1 h with h | h
  ·injection h with _ h;subst h;simp [matC]
  ·simp [matC,matC_mem h]
theorem chunkCells {N:Nat→Prop} {w0 w:World} {X:Nat→Prop} {mem:Mem} {ρ:Env} (m:MRep T N w0 w X mem ρ) {q t:Nat} {k:List SV} {ti:TI} (hm:getM mem q=.chunk t (.agg k)) (ht:T t=some ti) (h1:ti.size=k.length) (h2:ti.shape=some k.length) :
  ∃ b us ty,ρ q=some (.pointer (some ⟨b,0,none⟩))∧w.heap[b]?=some (.cells us ty (0,0))∧us.toList.length=k.length∧(∀ u∈us.toList,u.oneCell'=true)∧DenL w (Forb X mem ρ) ρ k us.toList:=by
 have hb:=m.blk q
 rw [hm] at hb
 obtain ⟨i,b,us,ty,g1,g2,g3,g4,g5,g6,g7⟩:=hb
 rw [ht] at g1
 injection g1 with g1
 subst g1
 have hl:us.toList.length=k.length:=by rw [Array.length_toList,g5,h1]
 rw [h2,valAt_some_full (by omega)] at g7
 obtain ⟨cs,e,hc⟩:=Den.agg_iff.1 g7
 injection e with e
 have e:us.toList=cs:=congrArg Array.toList e
 exact ⟨b,us,ty,g2,g4,hl,g6,by rw [e];exact hc⟩
theorem chunk_cls {w:World} {F:Nat→Prop} {ρ:Env} {b ty:Nat} {us:Array Value} {k:List SV} (hh:w.heap[b]?=some (.cells us ty (0,0))) (hd:DenL w F ρ k us.toList):ChunkAt w b k:=by
 refine ⟨us,ty,(0,0),hh,fun u hu=>?_⟩
 obtain ⟨i,hi⟩:=List.mem_iff_getElem?.1 hu
 obtain ⟨h1,h2⟩:=List.getElem?_eq_some_iff.1 hi
 have h3:i < k.length:=by rw [hd.1];exact h1
 exact ⟨k[i],List.getElem_mem h3,fun c hc=>den_cls (hd.2 i _ _ (List.getElem?_eq_getElem h3) hi) hc⟩
theorem rsl_lst {w:World} {F Z:Nat→Prop} {ρ ρ':Env} {q n:Nat} {c:Option Nat} {v:Value} (hd:Den w F ρ (.rsl q none 0 n c) v) {b ty:Nat} {us:Array Value} (hq:ρ q=some (.pointer (some ⟨b,0,none⟩))) (hh:w.heap[b]?=some (.cells us ty (0,0))) (hl:us.toList.length=n)
  (ho:∀ u∈us.toList,u.oneCell'=true) (hz:¬ Z b) {L:List SV} (hL:L.length=n) (he:∀ (i:Nat) (h:i < L.length) (u:Value),us.toList[i]?=some u→Den w Z noEnv L[i] u):Den w Z ρ' (.lst none L) v:=by
 cases hd with
 | rsl _ _ _ _ _ _ x cc hc h =>
  by_cases hn:n=0
  ·have:L=[]:=List.eq_nil_of_length_eq_zero (by omega)
   subst this
   have e:n=0:=hn
   subst e
   exact .lst0 _ _ _ _
  ·obtain ⟨b',e1,_,e2,_⟩:=(h _ hq).resolve_left (by rintro ⟨_,_,_,e,_⟩;cases e)
   simp only [Value.pointer.injEq,Option.some.injEq,Addr.mk.injEq,and_true] at e1
   subst e1
   have e2:=e2.resolve_left (by omega)
   subst e2
   have:=Den.lst (w:=w) (X:=Z) ρ' none L b 0 cc us.toList (heap_lt hh) hz (by omega) (fun j u hj=>by rw [cell_of_row w b (0+j) us ty (0,0) hh,Nat.zero_add];rw [Array.getElem?_toList] at hj;exact hj) (by rw [hl,hL];simp [wid]) ho (fun i hi=>by
    have hi':i < us.toList.length:=by omega
    simp only [valAt,List.getElem?_eq_getElem hi',Option.getD_some]
    exact he i hi _ (List.getElem?_eq_getElem hi'))
   rw [hL] at this
   exact this
set_option maxHeartbeats 1000000 in
theorem altK_ok {G:Nat→CT→Prop} (hG:∀ f c,G f c→ACall P T f c) {o:Oper} {cal:Callee} {args:Array Operand} {ats:Array TypeId} (ho:o.op=.call ⟨cal,args,ats⟩) {d:Option Nat} {e:Operand→SV} {μ:Nat→Blk} {κ:SV→List (Nat × Blk)→Option Nat→Prop} {f:Nat} {caps:List SV} (hcal:calleeOf e cal=some (f,caps))
  (h:altK T G f ats.toList (args.toList.map e) caps μ κ):∃ x U cr,κ x U cr∧(∀ q b,(q,b)∈U→cr=some q∨(μ q).own=true)∧(∀ k,cr=some k→d=some k)∧Eff P T o e μ x U cr:=by
 unfold altK at h
 split at h <;> try exact h.elim
 rename_i t0 ts q n c az hts hxs
 split at h <;> try exact h.elim
 rename_i t l hm
 split at h <;> try exact h.elim
 rename_i ti ht
 split at h <;> try exact h.elim
 rename_i hc
 simp only [Bool.and_eq_true] at hc
 have l1:l.length=n:=Nat.eq_of_beq_eq_true hc.1.1
 have l2:ti.size=n:=Nat.eq_of_beq_eq_true hc.1.2
 have l3:=shEq_eq hc.2
 split at h <;> try exact h.elim
 rename_i ms az' hms hvw
 obtain ⟨r,hg,hdr,haw,hk⟩:=h.h
 obtain ⟨k1,k2⟩:=matV_some hms
 refine ⟨r,_,none,hk,fun q' b hq=>?_,(fun k hk=>by cases hk),⟨fun mem hμ hcr a N w0 w X ρ m hd K Q hK ro nn=>⟨fun _ _=>trivial,?_⟩⟩⟩
 ·obtain ⟨_,sh,e',l',hm',_⟩:=frzU_mem hq
  exact .inr (by rw [hm'];rfl)
 have ac:=hG _ _ hg
 obtain ⟨fn,hf,hb,hn⟩:=ac.fn
 obtain ⟨us0,hex,hcaps,hcp⟩:=callee_ok ho hcal hd
 obtain rfl:us0=[]:=List.eq_nil_of_length_eq_zero (by rw [← hcaps.1];rfl)
 have hrun:(execOp a.eval o).run P w=.ok (.enter f (args.map a.eval++⟨[]⟩)) w:=by rw [hex,run_callFunc hf hb hn]
 rw [semAt_exec hrun (fun d hd=>by cases hd),hrun,Oper.uponIn_enter]
 refine ⟨fun h=>by simp [FR,Fence.wide] at h,calls_FR ?_⟩
 have hden:DenL w (Forb X mem ρ) ρ (args.toList.map e) (args.toList.map a.eval):=by
  refine ⟨by simp,fun i x v hx hv=>?_⟩
  simp only [List.getElem?_map,Option.map_eq_some_iff] at hx hv
  obtain ⟨y,hy,rfl⟩:=hx
  obtain ⟨y',hy',rfl⟩:=hv
  rw [hy] at hy'
  injection hy' with hy'
  subst hy'
  refine hd y ?_
  rw [ho]
  simp only [Op.operands,Call.operands]
  have:y∈args:=by simpa using List.mem_of_getElem? hy
  simp [this]
 rw [hxs] at hden
 have fz:=freeze_ids (T:=T) hμ m (rids.ridsL az)
 generalize hmem1:appU (frzU μ (rids.ridsL az)) mem=mem1 at fz
 have hch:∀ {q' t':Nat} {k:List SV},μ q'=.chunk t' (.agg k)→getM mem1 q'=.chunk t' (.agg k):=by
  intro q' t' k hq'
  rcases fz.old q' with g | ⟨_,sh,e',l',g,_⟩
  ·rw [g];exact hμ.row hq' (by simp)
  ·rw [hq'] at g;cases g
 let B:Nat→Prop:=fun b=>∃ q' t' ti' k,getM mem1 q'=.chunk t' (.agg k)∧T t'=some ti'∧ti'.size=k.length∧ti'.shape=some k.length∧k∈l::matC ms∧ρ q'=some (.pointer (some ⟨b,0,none⟩))
 let Z:Nat→Prop:=fun b=>Forb X mem1 ρ b∧¬ B b
 have lq:Lent mem1 none:=⟨fun r t x h=>by cases h⟩
 let ct:CT:=⟨.lst none (matL ms)::az',none,r,.any,.no⟩
 have min:=call_in fz.m lq (c:=ct) rfl (Z:=Z) (fun b h=>h.1)
 have hfb:∀ b,Forb (xC Z ρ none) (inM ct) (envC ρ none) b→Z b:=by
  rintro b (h | ⟨r',v,h1,_,_⟩)
  ·exact h.1
  ·rw [getM_in] at h1
   split at h1 <;> simp [ct,lentB,Blk.own] at h1
 obtain ⟨b0,us,ty,hq0,hh0,hl0,ho0,hd0⟩:=chunkCells fz.m (hch hm) ht (by omega) (by rw [l3,l1])
 have hB0:B b0:=⟨q,t,ti,l,hch hm,ht,by omega,by rw [l3,l1],by simp,hq0⟩
 have hargs:DenL w (Forb (xC Z ρ none) (inM ct) (envC ρ none)) (envC ρ none) (.lst none (matL ms)::az') (args.toList.map a.eval):=by
  cases hvs:args.toList.map a.eval with
  | nil=>rw [hvs] at hden;have:=hden.1;simp at this
  | cons v0 vs =>
   rw [hvs] at hden
   obtain ⟨v1,v2⟩:=views_same (T:=T) (μ':=getM mem1) (fun r' hr'=>fz.at' r' hr') hvw
   have hrest:=views_den (sees_all _) fz.m (Z:=Forb (xC Z ρ none) (inM ct) (envC ρ none)) (fun b _ hf hf'=>hf (hfb b hf').1) (fun hlive=>by rw [v2] at hlive;cases hlive) v1 (us:=vs) ⟨by have:=hden.1;simpa using this,fun i x u hx hu=>fz.t.den (fun _ h=>by cases h) (hden.2 (i+1) x u hx hu)⟩
   refine ⟨by simp [hrest.1],fun i x u hx hu=>?_⟩
   cases i with
   | succ i=>exact (hrest.2 i x u (by simpa using hx) (by simpa using hu)).data (views_data hvw i x (by simpa using hx))
   | zero =>
    simp at hx hu
    subst hx;subst hu
    have h0:=fz.t.den (fun _ h=>by cases h) (hden.2 0 _ _ rfl rfl)
    refine rsl_lst h0 hq0 hh0 (by omega) ho0 (fun hz=>(hfb _ hz).2 hB0) (by rw [matL_len,← k1,l1]) (fun i hi u hu=>?_)
    have hi':i < ms.length:=by rw [matL_len] at hi;exact hi
    obtain ⟨⟨qi,ki⟩,hmi⟩:∃ p,ms[i]?=some p:=⟨_,List.getElem?_eq_getElem hi'⟩
    obtain ⟨t',ti',c',g1,g2,g3,g4,g5,g6⟩:=k2 i qi ki hmi
    have e1:(matL ms)[i]=.lst none ki:=by
     have:=matL_get ms i
     rw [List.getElem?_eq_getElem hi,hmi] at this
     simpa using this
    rw [e1]
    obtain ⟨bi,usi,tyi,hqi,hhi,hli,hoi,hdi⟩:=chunkCells fz.m (hch g2) g3 g4 g5
    refine rsl_lst (hd0.2 i _ u g1 hu) hqi hhi hli hoi (fun hz=>(hfb _ hz).2 ⟨qi,t',ti',ki,hch g2,g3,g4,g5,List.mem_cons_of_mem _ (matC_mem (List.mem_of_getElem? hmi)),hqi⟩) rfl (fun j hj u' hu'=>?_)
    exact (hdi.2 j _ u' (List.getElem?_eq_getElem hj) hu').flat1 (flatsB_get g6 j hj)
 have hcall:=ac.h rfl rfl rfl _ w _ _ _ min hargs
 have e1:(⟨args.toList.map a.eval⟩:Array Value)=args.map a.eval++⟨[]⟩:=by apply Array.ext';simp
 rw [e1] at hcall
 refine hcall.mono fun en w' hh=>?_
 obtain ⟨v,ρc,rfl,mc,h0,hv⟩:=hh
 have hbl:Below w.heap.size w w':=⟨mc.below.os,mc.below.tape,mc.below.output,mc.below.size,fun k hk=>mc.below.block k hk fun hn=>by
  rcases hn with hn | ⟨_,_,_,hn,_⟩
  ·omega
  ·cases hn⟩
 have m':=fz.m.grow hbl
 have hv':Den w' (Forb X mem1 ρ) ρc r v:=by
  refine Den.away (F:=Forb (xC Z ρ none) (outM ct) ρc) (fun b hb=>?_) haw hv
  by_cases hB:B b
  ·obtain ⟨q',t',ti',k,g1,g2,g3,g4,g5,g6⟩:=hB
   obtain ⟨b',us',ty',e2,e3,e4,_,e5⟩:=chunkCells m' g1 g2 g3 g4
   rw [g6] at e2
   simp only [Option.some.injEq,Value.pointer.injEq,Addr.mk.injEq,and_true] at e2
   subst e2
   exact .inr ⟨k,g5,chunk_cls e3 e5⟩
  ·exact .inl (.inl ⟨⟨hb,hB⟩,fun hn=>by obtain ⟨_,_,_,hn,_⟩:=hn;cases hn⟩)
 rw [hmem1] at hK
 exact hK v w' ρ m' (hv'.plain_env hdr) (fz.t.trans ⟨fun _=>.inr (.inl rfl),hbl.size,fun b h1 h2=>⟨h2,hbl.block b h1⟩⟩)
theorem call_ok {G:Nat→CT→Prop} (hG:∀ f c,G f c→ACall P T f c) {o:Oper} {cl:Call} (ho:o.op=.call cl) {d:Option Nat} {e:Operand→SV} {μ:Nat→Blk} {κ:SV→List (Nat × Blk)→Option Nat→Prop} (h:callV T G d cl e μ κ) :
  ∃ x U cr,κ x U cr∧(∀ q b,(q,b)∈U→cr=some q∨(μ q).own=true)∧(∀ k,cr=some k→d=some k)∧Eff P T o e μ x U cr:=by
 obtain ⟨cal,args,ats⟩:=cl
 unfold callV at h
 split at h
 ·rename_i f caps hcal
  exact genV_ok hG ho hcal h
 split at h <;> try exact h.elim
 rename_i _ f caps hcal
 simp only at hcal
 split at h
 case h_2=>exact altK_ok hG ho hcal h
 rename_i az q has
 simp only at has h
 rcases h.h with hmain | halt
 rotate_left
 ·exact altV_ok hG ho hcal halt
 obtain ⟨pk,c,hg,hca,hcl,hpk,h⟩:=hmain
 split at h <;> try exact h.elim
 rename_i hok
 refine ⟨_,_,if isNew c.new then d else none,h,?_,fun k hk=>?_,?_⟩
 ·intro k b hk
  simp only [callU,List.mem_append] at hk
  rcases hk with hk | hk | hk
  ·split at hk
   ·simp at hk
   ·obtain ⟨_,sh,e',l,hm,_⟩:=frzU_mem hk
    exact .inr (by rw [hm];rfl)
  ·rcases callArgs_some has with ⟨rfl,_⟩ | ⟨t0,ts',k0,xs',t,x,az',_,_,hm,_,_,_,rfl⟩
   ·simp [lentU] at hk
   ·simp [lentU] at hk;rw [hk.1,hm];exact .inr rfl
  ·cases hn:c.new <;> rw [hn] at hk <;> cases hd:d <;> rw [hd] at hk <;> simp [newU] at hk
   all_goals first | (left;simp [isNew,hk.1];done) | (rw [okC,hn] at hok;simp at hok;done)
 ·split at hk
  ·exact hk
  ·cases hk
 refine ⟨fun mem hμ hcr a N w0 w X ρ m hd K Q hK ro nn=>⟨fun _ _=>trivial,?_⟩⟩
 have ac:=hG _ _ hg
 obtain ⟨fn,hf,hb,hn⟩:=ac.fn
 obtain ⟨us,hex,hcaps,hcp⟩:=callee_ok ho hcal hd
 have hrun:(execOp a.eval o).run P w=.ok (.enter f (args.map a.eval++⟨us⟩)) w:=by rw [hex,run_callFunc hf hb hn]
 rw [semAt_exec hrun (fun d hd=>by cases hd),hrun,Oper.uponIn_enter]
 refine ⟨fun h=>by simp [FR,Fence.wide] at h,calls_FR ?_⟩
 have hden:DenL w (Forb X mem ρ) ρ (args.toList.map e) (args.toList.map a.eval):=by
  refine ⟨by simp,fun i x v hx hv=>?_⟩
  simp only [List.getElem?_map,Option.map_eq_some_iff] at hx hv
  obtain ⟨y,hy,rfl⟩:=hx
  obtain ⟨y',hy',rfl⟩:=hv
  rw [hy] at hy'
  injection hy' with hy'
  subst hy'
  refine hd y ?_
  rw [ho]
  simp only [Op.operands,Call.operands]
  have:y∈args:=by simpa using List.mem_of_getElem? hy
  simp [this]
 have main:∀ (mem1:Mem),mem1=appU (if pk || flatC c then [] else frzU μ (rids.ridsL (args.toList.map e))) mem→MRep T N w0 w X mem1 ρ→Turn w (Forb X mem ρ) ρ w (Forb X mem1 ρ) ρ none→(∀ k,getM mem k=.no→getM mem1 k=.no)→(∀ k,memNoref k mem=true→memNoref k mem1=true) →
   (∀ k t x,q=some (k,t,x)→getM mem1 k=.chunk t x)→∀ (Z:Nat→Prop),(∀ b,Z b→Forb X mem1 ρ b)→((∀ b,Forb X mem1 ρ b→Z b)∨flatC c=true∨PeekC c) →
   (∀ (ts:List Nat) (xs az':List SV) (vs:List Value),(∀ r∈rids.ridsL xs,r∈rids.ridsL (args.toList.map e))→views T μ ts xs=some az'→DenL w (Forb X mem ρ) ρ xs vs→DenL w (Forb (xC Z ρ q) (inM c) (envC ρ q)) noEnv az' vs) →
   (∀ (i:Nat) (x:SV) (u:Value),caps[i]?=some x→us[i]?=some u→Den w (Forb (xC Z ρ q) (inM c) (envC ρ q)) noEnv x u) →
   Calls P f (args.map a.eval++⟨us⟩) w fun
    | .returned v,w''=>K (a.put o.dst v) w''
    | .panicked chain,w''=>Q (.panic chain) a w''
    | .outgrown,_=>LetsOut Q:=by
  intro mem1 hmem1 m1 t1 hno hnr hlent Z hZ hfull hviews hcd
  have lq:Lent mem1 q:=⟨fun k t x hq=>⟨hlent k t x hq,by
   rcases callArgs_some has with ⟨rfl,_⟩ | ⟨t0,ts',k0,xs',t',x',az',_,_,hm,hdat,_,_,rfl⟩
   ·cases hq
   ·injection hq with hq;injection hq with _ hq;injection hq with _ hq;rw [← hq];exact hdat⟩⟩
  have min:=call_in m1 lq hcl hZ
  have hcd':DenL w (Forb (xC Z ρ q) (inM c) (envC ρ q)) (envC ρ q) caps us:=⟨hcaps.1,fun i x u hx hu=>(hcd i x u hx hu).env fun r=>.inr (.inr (by
   obtain ⟨h1,rfl⟩:=List.getElem?_eq_some_iff.1 hx
   exact plain_noref (allPlain_get hcp i h1) r))⟩
  have hargs:DenL w (Forb (xC Z ρ q) (inM c) (envC ρ q)) (envC ρ q) az (args.toList.map a.eval):=by
   rcases callArgs_some has with ⟨hq,hv⟩ | ⟨t0,ts',k0,xs',t',x',az',hts,hxs,hm,hdat,hv,rfl,hq⟩
   ·have:=hviews _ _ _ _ (fun r hr=>hr) hv hden
    exact ⟨this.1,fun i x u hx hu=>(this.2 i x u hx hu).data (views_data hv i x hx)⟩
   ·rw [hxs] at hden
    cases hvs:args.toList.map a.eval with
    | nil=>rw [hvs] at hden;have:=hden.1;simp at this
    | cons v0 vs =>
     rw [hvs] at hden
     have:=hviews ts' xs' az' vs (fun r hr=>by rw [hxs];simp [rids.ridsL,hr]) hv ⟨by have:=hden.1;simpa using this,fun i x u hx hu=>hden.2 (i+1) x u hx hu⟩
     refine ⟨by simp [this.1],fun i x u hx hu=>?_⟩
     cases i with
     | succ i=>exact (this.2 i x u (by simpa using hx) (by simpa using hu)).data (views_data hv i x (by simpa using hx))
     | zero =>
      simp at hx hu
      subst hx;subst hu
      have h0:=hden.2 0 _ _ rfl rfl
      cases h0 with
      | ptr _ _ _ b hb=>exact .ptr _ 0 0 b fun q' hq'=>hb q' (by simp only [envC,if_true,hq] at hq';exact hq')
  have hsq:isSeq c=false:=by
   cases hnw:c.new <;> simp [isSeq,hnw]
   simp [okC,hnw] at hok
  have hlr:isLR c=false:=by
   cases hnw:c.new <;> simp [isLR,hnw]
   simp [okC,hnw] at hok
  have hcall:=ac.h hsq hlr (by rw [isG,hcl];rcases callArgs_some has with ⟨rfl,_⟩ | ⟨t0,ts',k0,xs',t',x',az',_,_,_,hdat,_,_,rfl⟩ <;> first | rfl | (cases x' <;> first | rfl | (simp [dataB,plainB] at hdat;done))) _ w _ _ _ min (hca ▸ hargs.app' hcd')
  have e1:(⟨args.toList.map a.eval++us⟩:Array Value)=args.map a.eval++⟨us⟩:=by apply Array.ext';simp
  rw [e1] at hcall
  refine hcall.mono fun en w' hh=>?_
  obtain ⟨v,ρc,rfl,mc,h0,hv⟩:=hh
  obtain ⟨m',t',hden'⟩:=call_out m1 lq hcl hZ mc h0 hok (cr:=if isNew c.new then d else none) rfl (fun k hk=>⟨hno k (hcr k hk).1,hnr k (hcr k hk).2.1⟩) (fun k t x hq hk=>by
   have g1:=hlent k t x hq
   rw [hno k (hcr k hk).1] at g1
   cases g1) hfull hv
  have e2:appU (callU pk μ d (rids.ridsL (args.toList.map e)) q c) mem=appU (lentU q c.lent'++newU c.new d) mem1:=by
   rw [callU,appU_append,hmem1]
  refine hK v w' _ (by rw [e2];exact m') (by rw [e2];exact hden') (by rw [e2];exact t1.trans t')
 have hlm:∀ k t x,q=some (k,t,x)→getM mem k=.chunk t x∧μ k=.chunk t x:=by
  intro k t x hq
  rcases callArgs_some has with ⟨rfl,_⟩ | ⟨t0,ts',k0,xs',t',x',az',_,_,hm,hdat,_,_,rfl⟩
  ·cases hq
  ·injection hq with hq;injection hq with hq1 hq;injection hq with hq2 hq3
   subst hq1;subst hq2;subst hq3
   exact ⟨hμ.row hm (by simp),hm⟩
 cases hfl:(pk || flatC c) with
 | true =>
  have hfl':flatC c=true∨PeekC c:=by
   simp only [Bool.or_eq_true] at hfl
   exact hfl.symm.imp id hpk
  have hq0:q=none:=by
   have:c.lent=none:=by
    rcases hfl' with h | h
    ·simp only [flatC,Bool.and_eq_true] at h
     have:=h.2
     cases hq:c.lent with
     | none=>rfl
     | some p=>rw [hq] at this;cases this
    ·exact h.l
   rw [hcl] at this
   cases hq:q with
   | none=>rfl
   | some p=>rw [hq] at this;cases this
  have hfb:∀ b,Forb (xC (fun _=>False) ρ q) (inM c) (envC ρ q) b→Forb X mem ρ b:=fun b hf'=>forbC (X:=X) (Z:=fun _=>False) ⟨fun r t x hq=>by rw [hq0] at hq;cases hq⟩ hcl (fun b h=>h.elim) hf'
  refine main mem (by rw [hfl];rfl) m (Turn.refl _ _ _ _) (fun k h=>h) (fun k h=>h) (fun k t x hq=>(hlm k t x hq).1) (fun _=>False) (fun b h=>h.elim) (.inr hfl') (fun ts xs az' vs _ hv hdv=>?_)
   (fun i x u hx hu=>(hcaps.2 i x u hx hu).mono (Nat.le_refl _) fun b _ h2=>⟨fun hf'=>h2 (hfb b hf'),rfl⟩)
  refine views_den hμ m (fun b _ hf hf'=>hf (hfb b hf')) (fun _ b _ hf'=>?_) hv hdv
  rcases hf' with hf' | ⟨r,u,g1,g2,_⟩
  ·exact hf'.1
  ·simp only [envC,hq0] at g2
   split at g2 <;> cases g2
 | false =>
  have fz:=freeze_ids (T:=T) hμ m (rids.ridsL (args.toList.map e))
  have hl1:∀ k t x,q=some (k,t,x)→getM (appU (frzU μ (rids.ridsL (args.toList.map e))) mem) k=.chunk t x:=by
   intro k t x hq
   rcases fz.old k with g | ⟨_,sh,e',l,g,_⟩
   ·rw [g];exact (hlm k t x hq).1
   ·rw [(hlm k t x hq).2] at g;cases g
  have hld:∀ k t x,q=some (k,t,x)→dataB x=true:=by
   intro k t x hq
   rcases callArgs_some has with ⟨rfl,_⟩ | ⟨t0,ts',k0,xs',t',x',az',_,_,hm,hdat,_,_,rfl⟩
   ·cases hq
   ·injection hq with hq;injection hq with _ hq;injection hq with _ hq;rw [← hq];exact hdat
  have hfb:∀ b,Forb (xC (Forb X (appU (frzU μ (rids.ridsL (args.toList.map e))) mem) ρ) ρ q) (inM c) (envC ρ q) b→Forb X (appU (frzU μ (rids.ridsL (args.toList.map e))) mem) ρ b:=fun b hf'=>forbC (X:=X) ⟨fun r t x hq=>⟨hl1 r t x hq,hld r t x hq⟩⟩ hcl (fun b h=>h) hf'
  refine main _ (by rw [hfl];rfl) fz.m fz.t (fun k h=>fz.no hμ h) (fun k h=>appU_noref h fun q' b hb=>by obtain ⟨_,sh,e',l,_,rfl⟩:=frzU_mem hb;rfl) hl1 (Forb X _ ρ) (fun b h=>h) (.inl fun b h=>h) (fun ts xs az' vs hr hv hdv=>?_)
   (fun i x u hx hu=>((fz.t.den (fun _ h=>by cases h) ((hcaps.2 i x u hx hu).env (ρ':=ρ) fun r=>.inr (.inr (by
     obtain ⟨h1,rfl⟩:=List.getElem?_eq_some_iff.1 hx
     exact plain_noref (allPlain_get hcp i h1) r)))).mono (Nat.le_refl _) fun b _ h2=>⟨fun hf'=>h2 (hfb b hf'),rfl⟩).to_no)
  obtain ⟨v1,v2⟩:=views_same (T:=T) (μ':=getM (appU (frzU μ (rids.ridsL (args.toList.map e))) mem)) (fun r hr'=>fz.at' r (hr r hr')) hv
  exact views_den (sees_all _) fz.m (fun b _ hf hf'=>hf (hfb b hf')) (fun hlive=>by rw [v2] at hlive;cases hlive) v1 ⟨hdv.1,fun i x u hx hu=>fz.t.den (fun _ h=>by cases h) (hdv.2 i x u hx hu)⟩
end
section
open Go.RowKit
variable {P:Program} {T:Nat→Option TI}
structure NextK (s:ByteArray) (p:Nat) (k:Int→Nat→Int→Prop):Prop where
 h:∀ (r:Nat) (w:Nat) (z y:Int),z=(p:Int)→y=(r:Int)→Utf8.decode s p=(r,w)→k y w z
def isGen:Blk→Bool
 | .gen 0 _ _=>true
 | _=>false
def isO (op:Op) (e:Operand→SV) (μ:Nat→Blk):Bool :=
 match op with
 | .range _ _=>true
 | .next _ _=>true
 | .convert _ _ x=>(match e x with | .str _=>true | .row r=>isGen (μ r) | _=>false)
 | .indexAddr _ x _=>(match e x with | .row r=>isGen (μ r) | _=>false)
 | .store _ x _=>(match e x with | .rptr r _ _ _=>isGen (μ r) | _=>false)
 | .call c=>(match c.callee,c.args.toList with | .builtin .len,[x]=>(match e x with | .row r=>isGen (μ r) | _=>false) | _,_=>false)
 | _=>false
noncomputable def oval (T:Nat→Option TI) (d:Option Nat) (op:Op) (e:Operand→SV) (μ:Nat→Blk) (κ:SV→List (Nat × Blk)→Option Nat→Prop):Prop :=
 match op with
 | .range t x=>(match T t,e x,d with
  | some i,.str s,some d=>(match i.kind with | .string=>κ (.ptr d 0) [(d,.iter s 0)] (some d) | _=>False)
  | _,_,_=>False)
 | .next x true=>(match e x with
  | .ptr q 0=>(match μ q with
   | .iter s p=>QC (fun _=>p < s.size) (fun b=>match b with
    | true=>NextK s p (fun y w z=>κ (.tup [.bool true,.int .i64 z,.int .i32 y]) [(q,.iter s (p+w))] none)
    | false=>κ (.tup [.bool false]) [] none)
   | _=>False)
  | _=>False)
 | .convert a b x=>(match T a,T b,e x,d with
  | some i,some j,.str s,some d=>(match i.kind,j.kind with
   | .string,.slice el=>(match T el with
    | some k=>(match k.kind with
     | .int .u8=>Rq (fun _=>s.size≤281474976710656) (fun _=>QC (fun _=>s.size=0) (fun b=>match b with
      | true=>κ (.lst none []) [] none
      | false=>κ (.row d) [(d,.gen 0 el (O.by' s))] (some d)))
     | _=>False)
    | none=>False)
   | _,_=>False)
  | some i,some j,.row r,_=>(match i.kind,j.kind with
   | .slice el,.string=>(match T el with
    | some k=>(match k.kind,μ r with
     | .int .u8,.gen 0 _ l=>QV (fun bs=>l=O.by' bs) (fun bs=>κ (.str bs) [] none)
     | _,_=>False)
    | none=>False)
   | _,_=>False)
  | _,_,_,_=>False)
 | .indexAddr t x ix=>(match T t,e x,e ix with
  | some i,.row r,.int _ n=>(match i.kind,μ r with
   | .slice el,.gen 0 _ l=>(match T el with
    | some j=>(match j.kind with
     | .int .u8=>QV (fun (q:Nat)=>n=(q:Int)∧q < O.ln l) (fun q=>κ (.rptr r none q 0) [] none)
     | _=>False)
    | none=>False)
   | _,_=>False)
  | _,_,_=>False)
 | .store t x v=>(match T t,e x,e v with
  | some i,.rptr r none j 0,.int .u8 n=>(match i.kind,μ r with
   | .int .u8,.gen 0 k l=>Rq (fun _=>j < O.ln l) (fun _=>κ .any [(r,.gen 0 k (O.st l j (.int .u8 n)))] none)
   | _,_=>False)
  | _,_,_=>False)
 | .call c=>(match c.args.toList,c.argTypes.toList with
  | [x],[t]=>(match e x,T t with
   | .row r,some i=>(match μ r,i.kind with
    | .gen 0 _ l,.slice _=>Q1 (fun _=>True) (fun z=>z=O.ln l) (fun z=>κ (.int .i64 z) [] none)
    | _,_=>False)
   | _,_=>False)
  | _,_=>False)
 | _=>False
theorem Sees.gen {N:Nat→Prop} {w0 w:World} {X:Nat→Prop} {mem:Mem} {ρ:Env} {μ:Nat→Blk} (hμ:Sees μ mem) (m:MRep T N w0 w X mem ρ) {r tag k:Nat} {l:List SV} (h:μ r=.gen tag k l) :
  getM mem r=.gen tag k l∧∃ v b ob,ρ r=some v∧vblock v=some b∧N b∧w.heap[b]?=some ob∧genRep tag k l v b ob:=by
 have hm:=hμ.row h (by simp)
 have hb:=m.blk r
 rw [hm] at hb
 exact ⟨hm,hb⟩
theorem oby_at (s:ByteArray) (i:Nat) (x:SV) (h:(O.by' s)[i]?=some x):∃ n:Int,x=.int .u8 n∧(s.data.map (fun b=>Value.int .u8 b.toNat))[i]?=some (.int .u8 n):=by
 rw [O.hby,List.getElem?_map] at h
 cases hb:s.data.toList[i]? with
 | none=>rw [hb] at h;cases h
 | some b =>
  rw [hb] at h
  injection h with h
  refine ⟨b.toNat,h.symm,?_⟩
  have hb':s.data[i]?=some b:=by simpa using hb
  simp [hb']
theorem gen_slice {w:World} {Y:Nat→Prop} {k:Nat} {l:List SV} {v:Value} {b:Nat} {ob:Obj} (h:w.heap[b]?=some ob) (g:genRep 0 k l v b ob):SliceAt w Y (fun _=>True) none l v:=by
 obtain ⟨cap,cur,fz,rfl,rfl,g1,g2,g3,g4,g5,g6,g7⟩:=g
 refine ⟨_,cap,rfl,g2,.inr ⟨b,0,cur.toList.take l.length,rfl,heap_lt h,trivial,by simp [wid];omega,fun u hu=>g6 u (List.mem_of_mem_take hu),fun j u hj=>?_,fun i hi=>?_⟩⟩
 ·rw [List.getElem?_take] at hj
  split at hj
  ·rw [Nat.zero_add,cell_of_row w b j cur k fz h]
   simpa using hj
  ·cases hj
 ·obtain ⟨n,h1,h2⟩:=g7 i _ (List.getElem?_eq_getElem hi)
  rw [h1]
  have:valAt none (cur.toList.take l.length) i=.int .u8 n:=by
   have h3:cur.toList[i]?=some (.int .u8 n):=by simpa using h2
   simp [valAt,List.getElem?_take,hi,h3]
  rw [this]
  exact .int _ _ _
theorem conv_back (tys:Types P T) {w:World} {Y ok:Nat→Prop} {s t el:Nat} {i j k:TI} (hs:T s=some i) (ht:T t=some j) (hk:i.kind=.slice el) (hk2:j.kind=.string) (hel:T el=some k) (hk3:k.kind=.int .u8) {bs:ByteArray} {v:Value}
  (h:SliceAt w Y ok none (bytesSV bs) v):(convert s t v).run P w=.ok (.string bs) w:=by
 have us:=(tys.ok s i hs).und_slice hk
 have ue:=(tys.ok el k hel).und_int hk3
 have ud:=(tys.ok t j ht).und_string hk2
 obtain ⟨ad,c,e1,e2,e3⟩:=h
 have hbl:(bytesSV bs).length=bs.size:=by simp [bytesSV]
 rw [e1]
 by_cases h0:bs.size=0
 ·have hbs:bs=.empty:=by
   apply ByteArray.ext
   exact Array.eq_empty_of_size_eq_zero h0
  subst hbs
  cases ad with
  | none=>exact run_convert_bytes_nil w s el us ue _ _ t ud
  | some q =>
   rw [run_convert_bytes_string w s t el _ _ _ us ue ud]
   simp [hbl,Conv.bytesToString,loadCells,loadCellsFrom]
 ·rcases e3 with e3 | ⟨b,off,us',rfl,p1,p2,p3,p6,p4,p5⟩
  ·rw [e3] at hbl;simp at hbl;omega
  ·have hget:∀ q,q < bs.size→us'[q]?=some (.int .u8 ((bs.data.toList.map (fun b=>(b.toNat:Int))).getD q 0)):=by
    intro q hq
    have hq':q < (bytesSV bs).length:=by omega
    have h5:=p5 q hq'
    have e4:(bytesSV bs)[q]=.int .u8 ((bs.data.toList.map (fun b=>(b.toNat:Int))).getD q 0):=by
     have h6:q < bs.data.toList.length:=by simpa [bytesSV] using hq'
     have h6':q < bs.data.size:=by simpa using h6
     simp [bytesSV,List.getD,Array.getElem?_eq_getElem h6']
    rw [e4,Den.int_iff] at h5
    simp only [valAt] at h5
    cases h7:us'[q]? with
    | none=>rw [h7] at h5;simp [undef] at h5
    | some u=>simp only [h7,Option.getD_some] at h5;rw [h5]
   have:=run_convert_bytes_arg w s el us ue b off (bytesSV bs).length c (bs.data.toList.map fun b=>(b.toNat:Int)) (by simp [bytesSV]) (fun q hq=>p4 q _ (hget q (by omega))) t ud
   rw [this]
   have e5:strOfNums (bs.data.toList.map fun b=>(b.toNat:Int))=bs:=by
    apply ByteArray.ext
    apply Array.ext'
    rw [strOfNums_data,List.map_map]
    conv=>rhs;rw [← List.map_id bs.data.toList]
    apply List.map_congr_left
    intro b _
    simp
   rw [e5]
theorem Below.drew_alloc (w:World) (o:Obj):Below w.heap.size w (w.drew.alloc o):=(Below.refl _ w.drew).alloc (Nat.le_refl _) o |> fun h=>⟨h.os,h.tape,h.output,h.size,h.block⟩
theorem oval_ok (tys:Types P T) (sz:Sizes T) {o:Oper} {e:Operand→SV} {μ:Nat→Blk} {κ:SV→List (Nat × Blk)→Option Nat→Prop} (hi:isO o.op e μ=true) (h:oval T o.dst o.op e μ κ) :
  ∃ x U cr,κ x U cr∧(∀ q b,(q,b)∈U→cr=some q∨(μ q).own=true)∧(∀ k,cr=some k→o.dst=some k∧((∃ a b,o.op=.range a b)∨∃ a b c,o.op=.convert a b c))∧Eff P T o e μ x U cr:=by
 generalize ho:o.op=op at h hi
 cases op
 case range t x =>
  simp only [oval] at h
  split at h <;> try exact h.elim
  rename_i i s d ht hx hd
  split at h <;> try exact h.elim
  rename_i hk
  refine ⟨_,_,_,h,(fun q b hq=>by simp at hq;exact .inl (by rw [hq.1])),(fun k hk=>⟨by rw [hd,← hk],.inl ⟨_,_,rfl⟩⟩),.of_run fun mem hμ hcr a N w0 w X ρ m hden=>?_⟩
  obtain ⟨hno,hnr,hn⟩:=hcr d rfl
  have hv:=hden x (by simp [ho,Op.operands])
  rw [hx,Den.str_iff] at hv
  have hbel:Below w.heap.size w (w.alloc (.stringIter s 0)):=(Below.refl _ _).alloc (Nat.le_refl _) _
  obtain ⟨m',t'⟩:=m.create (w':=w.alloc (.stringIter s 0)) hno hnr (B:=.iter s 0) (v:=.pointer (some ⟨w.heap.size,0,none⟩)) (fun b hb=>by simp only [vblock] at hb;injection hb with hb;subst hb;exact ⟨Nat.le_refl _,by show _ < (w.heap.push _).size;simp⟩) hbel
   (fun _=>⟨w.heap.size,rfl,m.szN _ (Nat.le_refl _),heap_alloc_new w _⟩)
  refine ⟨_,_,_,_,?_,.inl rfl,m',.ptr _ d 0 w.heap.size (fun q hq=>?_),t'⟩
  ·simp only [execOp,ho,hv]
   have:=run_range_string (P:=P) w t s ((tys.ok t i ht).und_string hk)
   simp only [Sem.run_bind,this,Result.andThen_ok,Sem.run_pure]
   rfl
  ·simp only [upd,if_true] at hq
   injection hq with hq
   exact hq.symm
 case next x str =>
  cases str with
  | false=>simp only [oval] at h
  | true =>
  simp only [oval] at h
  split at h <;> try exact h.elim
  rename_i q hx
  split at h <;> try exact h.elim
  rename_i s p hm
  by_cases hp:p < s.size
  ·have h:=(h.t hp).h (Utf8.decode s p).1 (Utf8.decode s p).2 p ((Utf8.decode s p).1:Nat) rfl rfl rfl
   refine ⟨_,_,_,h,(fun q' b hq=>by simp at hq;rw [hq.1,hm];exact .inr rfl),(fun k hk=>by cases hk),.of_run fun mem hμ hcr a N w0 w X ρ m hden=>?_⟩
   have hgm:=hμ.row hm (by simp)
   have hb:=m.blk q
   rw [hgm] at hb
   obtain ⟨b,h1,h2,h3⟩:=hb
   have hv:=hden x (by simp [ho,Op.operands])
   rw [hx] at hv
   generalize hax:a.eval x=v at hv
   cases hv with
   | ptr _ _ _ b' hq =>
    have:=hq _ h1
    injection this with this
    injection this with this
    injection this with this _ _
    subst this
    obtain ⟨m',t'⟩:=m.update (w':={ w with heap:=w.heap.setIfInBounds b (.stringIter s (p+(Utf8.decode s p).2)) }) h1 (by rw [hgm];rfl) (b:=b) rfl ⟨rfl,rfl,rfl,by simp,fun k hk=>by simp [Array.getElem?_setIfInBounds,show b≠k by omega]⟩ (fun k hk=>by simp [Array.getElem?_setIfInBounds,Ne.symm hk])
     (B:=.iter s (p+(Utf8.decode s p).2)) (fun _=>⟨b,rfl,h2,by simp [Array.getElem?_setIfInBounds,heap_lt h3]⟩)
    refine ⟨_,_,_,ρ,?_,.inl rfl,m',Den.tup_iff.2 ⟨[.bool true,.int .i64 p,.int .i32 (Utf8.decode s p).1],rfl,rfl,fun i x' u hx' hu=>?_⟩,t'⟩
    ·simp only [execOp,ho,hax,Instr.next,getObj,setObj,Sem.run_bind,Sem.run,h3,Result.andThen,hp,if_true]
     rfl
    ·match i,hx',hu with
     | 0,hx',hu=>simp at hx' hu;subst hx';subst hu;exact .bool _ _
     | 1,hx',hu=>simp at hx' hu;subst hx';subst hu;exact .int _ _ _
     | 2,hx',hu=>simp at hx' hu;subst hx';subst hu;exact .int _ _ _
     | _+3,hx',_=>simp at hx'
  ·have h:=h.f hp
   refine ⟨_,_,_,h,(fun q b hq=>by simp at hq),(fun k hk=>by cases hk),.of_run fun mem hμ hcr a N w0 w X ρ m hden=>?_⟩
   have hgm:=hμ.row hm (by simp)
   have hb:=m.blk q
   rw [hgm] at hb
   obtain ⟨b,h1,h2,h3⟩:=hb
   have hv:=hden x (by simp [ho,Op.operands])
   rw [hx] at hv
   generalize hax:a.eval x=v at hv
   cases hv with
   | ptr _ _ _ b' hq =>
    have:=hq _ h1
    injection this with this
    injection this with this
    injection this with this _ _
    subst this
    refine ⟨_,_,w,ρ,?_,.inl rfl,m,Den.tup_iff.2 ⟨[.bool false],rfl,by simp,fun i x' u hx' hu=>?_⟩,Turn.refl _ _ _ _⟩
    ·simp only [execOp,ho,hax,Instr.next,getObj,Sem.run_bind,Sem.run,h3,Result.andThen,hp,if_false]
     rfl
    ·match i,hx',hu with
     | 0,hx',hu=>simp at hx' hu;subst hx';subst hu;exact .bool _ _
     | _+1,hx',_=>simp at hx'
 case convert ta tb x =>
  simp only [oval] at h
  split at h
  ·rename_i i j s d hta htb hx hd
   split at h <;> try exact h.elim
   rename_i el hk1 hk2
   split at h <;> try exact h.elim
   rename_i k hel
   split at h <;> try exact h.elim
   rename_i hk3
   have hsz:=h.p
   have h:=h.k
   have us:=(tys.ok ta i hta).und_string hk1
   have ud:=(tys.ok tb j htb).und_slice hk2
   have ue:=(tys.ok el k hel).und_int hk3
   have run:∀ (a:Act) (w:World),Den w (fun _=>False) noEnv (.str s) (a.eval x)→(execOp a.eval o).run P w=.ok (.value (.slice (some ⟨w.heap.size,0,none⟩) s.size (grownCap w s.size 0 el)))
     (w.drew.alloc (.cells (bytesRow s (grownCap w s.size 0 el)) el ((bytesRow s (grownCap w s.size 0 el)).size,(bytesRow s (grownCap w s.size 0 el)).size+1))):=by
    intro a w hv
    rw [Den.str_iff] at hv
    simp only [execOp,ho,hv,Sem.run_bind,run_bytes_of_string (P:=P) w ta tb el s us ud ue,Result.andThen_ok,Sem.run_pure]
   by_cases hs0:s.size=0
   ·have h:=h.t hs0
    refine ⟨_,_,_,h,(fun q b hq=>by simp at hq),(fun k hk=>by cases hk),.of_run fun mem hμ hcr a N w0 w X ρ m hden=>?_⟩
    have hv:=hden x (by simp [ho,Op.operands])
    rw [hx] at hv
    have hr:=run a w (Den.str_iff.2 (Den.str_iff.1 hv))
    have hbel:=Below.drew_alloc w (.cells (bytesRow s (grownCap w s.size 0 el)) el ((bytesRow s (grownCap w s.size 0 el)).size,(bytesRow s (grownCap w s.size 0 el)).size+1))
    refine ⟨_,_,_,ρ,hr,.inl rfl,m.grow hbel,?_,⟨fun _=>.inr (.inl rfl),hbel.size,fun b h1 h2=>⟨h2,hbel.block b h1⟩⟩⟩
    rw [hs0]
    exact .lst0 _ _ _ _
   ·have h:=h.f hs0
    refine ⟨_,_,_,h,(fun q b hq=>by simp at hq;exact .inl (by rw [hq.1])),(fun k hk=>⟨by rw [hd,← hk],.inr ⟨_,_,_,rfl⟩⟩),.of_run fun mem hμ hcr a N w0 w X ρ m hden=>?_⟩
    obtain ⟨hno,hnr,hn⟩:=hcr d rfl
    have hv:=hden x (by simp [ho,Op.operands])
    rw [hx] at hv
    have hr:=run a w (Den.str_iff.2 (Den.str_iff.1 hv))
    have hge:=grownCap_ge w s.size 0 el
    have hle:=grownCap_le_maxLen w s.size 0 el (by rw [maxLen];omega)
    generalize grownCap w s.size 0 el=cap at *
    have hbs:(bytesRow s cap).size=cap:=by
     have:s.data.size=s.size:=rfl
     simp [bytesRow];omega
    have hbel:=Below.drew_alloc w (.cells (bytesRow s cap) el ((bytesRow s cap).size,(bytesRow s cap).size+1))
    have hone:∀ u∈(bytesRow s cap).toList,u.oneCell'=true:=fun u hu=>by
     simp only [bytesRow,Array.toList_append,Array.toList_map,Array.toList_replicate,List.mem_append,List.mem_map] at hu
     rcases hu with ⟨b,_,rfl⟩ | hu
     ·rfl
     ·rw [List.eq_of_mem_replicate hu];rfl
    have hat:∀ (q:Nat) (y:SV),(O.by' s)[q]?=some y→∃ n:Int,y=.int .u8 n∧(bytesRow s cap)[q]?=some (.int .u8 n):=fun q y hy=>by
     obtain ⟨n,h1,h2⟩:=oby_at s q y hy
     refine ⟨n,h1,?_⟩
     rw [bytesRow,Array.getElem?_append_left]
     ·exact h2
     ·exact (Array.getElem?_eq_some_iff.1 h2).1
    have hbl:(O.by' s).length=s.size:=by rw [O.hby];show _=s.data.size;simp
    obtain ⟨m',t'⟩:=m.create (w':=w.drew.alloc (.cells (bytesRow s cap) el ((bytesRow s cap).size,(bytesRow s cap).size+1))) hno hnr (B:=.gen 0 el (O.by' s)) (v:=.slice (some ⟨w.heap.size,0,none⟩) s.size cap)
     (fun b hb=>by
       simp only [vblock] at hb
       split at hb
       ·cases hb
       ·injection hb with hb;subst hb;exact ⟨Nat.le_refl _,by show _ < (w.heap.push _).size;simp⟩) hbel
     (fun _=>⟨_,w.heap.size,_,rfl,by simp only [vblock];rw [if_neg (by omega)],m.szN _ (Nat.le_refl _),heap_alloc_new w.drew _,cap,_,_,by rw [hbl],rfl,Nat.le_refl _,by omega,hle,by omega,by omega,hone,hat⟩)
    ·refine ⟨_,_,_,_,hr,.inl rfl,m',.row _ d _ _ _ (fun q hq=>?_),t'⟩
     simp only [upd,if_true] at hq
     injection hq with hq
     exact hq.symm
  ·rename_i i j r hta htb hx
   split at h <;> try exact h.elim
   rename_i el hk1 hk2
   split at h <;> try exact h.elim
   rename_i k hel
   split at h <;> try exact h.elim
   rename_i k2 l hk3 hm
   obtain ⟨bs,hl,h'⟩:=h.h
   subst hl
   clear h
   have h:=h'
   refine ⟨_,_,_,h,(fun q b hq=>by simp at hq),(fun k hk=>by cases hk),.of_run fun mem hμ hcr a N w0 w X ρ m hden=>?_⟩
   obtain ⟨hgm,v,b,ob,h1,h2,h3,h4,h5⟩:=hμ.gen m hm
   have hv:=hden x (by simp [ho,Op.operands])
   rw [hx] at hv
   generalize hax:a.eval x=u at hv
   cases hv with
   | row _ _ a' n' c' hrow =>
    have e:=hrow _ h1
    subst e
    have hs:=gen_slice (Y:=Forb X mem ρ) h4 h5
    rw [O.by_eq] at hs
    have hr:=conv_back tys hta htb hk1 hk2 hel hk3 hs
    refine ⟨_,_,w,ρ,?_,.inl rfl,m,.str _ _,Turn.refl _ _ _ _⟩
    simp only [execOp,ho,hax,Sem.run_bind,hr,Result.andThen_ok,Sem.run_pure]
  ·exact h.elim
 case indexAddr t x ix =>
  simp only [oval] at h
  split at h <;> try exact h.elim
  rename_i i r ki n ht hx hix
  split at h <;> try exact h.elim
  rename_i el k l hk hm
  split at h <;> try exact h.elim
  rename_i j hel
  split at h <;> try exact h.elim
  rename_i hk3
  obtain ⟨q,⟨hn,hq⟩,h⟩:=h.h
  rw [O.hln] at hq
  refine ⟨_,_,_,h,(fun q b hq=>by simp at hq),(fun k hk=>by cases hk),.of_run fun mem hμ hcr a N w0 w X ρ m hden=>?_⟩
  obtain ⟨hgm,v,b,ob,h1,h2,h3,h4,h5⟩:=hμ.gen m hm
  have hv:=hden x (by simp [ho,Op.operands])
  have hvi:=hden ix (by simp [ho,Op.operands])
  rw [hx] at hv
  rw [hix,Den.int_iff] at hvi
  generalize hax:a.eval x=u at hv
  cases hv with
  | row _ _ a' n' c' hrow =>
   have e:=hrow _ h1
   subst e
   obtain ⟨cap,cur,fz,e1,e2,_⟩:=h5
   injection e1 with e3 e4 e5
   subst e3;subst e4
   have hj1:j.size=1:=sz.one el j hel (by rw [hk3];rfl)
   refine ⟨_,_,w,ρ,?_,.inl rfl,m,.rptr _ r none q 0 b 0 (fun v' hv'=>by rw [h1] at hv';injection hv' with hv';subst hv';exact ⟨_,_,rfl⟩),Turn.refl _ _ _ _⟩
   simp only [execOp,ho,hax,hvi,hn,Sem.run_bind,run_index_slice (P:=P) tys ht hk hel ki b 0 l.length c' q hq w,Result.andThen_ok,Sem.run_pure,hj1,wid,Nat.zero_add,Nat.mul_one,Nat.add_zero]
 case store t x vo =>
  simp only [oval] at h
  split at h <;> try exact h.elim
  rename_i i r j n ht hx hv0
  split at h <;> try exact h.elim
  rename_i k l hk hm
  have hj:=h.p
  have h:=h.k
  rw [O.hln] at hj
  refine ⟨_,_,_,h,(fun q b hq=>by simp at hq;rw [hq.1,hm];exact .inr rfl),(fun k hk=>by cases hk),.of_run fun mem hμ hcr a N w0 w X ρ m hden=>?_⟩
  obtain ⟨hgm,v,b,ob,h1,h2,h3,h4,h5⟩:=hμ.gen m hm
  have hv:=hden x (by simp [ho,Op.operands])
  have hvo:=hden vo (by simp [ho,Op.operands])
  rw [hx] at hv
  rw [hv0,Den.int_iff] at hvo
  have tok:=tys.ok t i ht
  have hsz1:i.size=1:=sz.one t i ht (by rw [hk];rfl)
  obtain ⟨cap,cur,fz,rfl,rfl,c1,c2,c3,c4,c5,c6,c7⟩:=h5
  generalize hax:a.eval x=u at hv
  cases hv with
  | rptr _ _ _ _ _ b' o1 hrow =>
   obtain ⟨_,_,e⟩:=hrow _ h1
   injection e with e _ _
   injection e with e
   injection e with e1 e2 _
   subst e1;subst e2
   have hjc:j < cur.size:=by omega
   have hcell:w.cell? ⟨b,0+j * wid none+0,none⟩=some (cur[j]'hjc):=by
    simp only [wid,Nat.mul_one,Nat.zero_add,Nat.add_zero]
    rw [cell_of_row w b j cur k fz h4]
    exact Array.getElem?_eq_getElem hjc
   have hnf:w.frozen? ⟨b,0+j * wid none+0,none⟩=false:=by
    obtain ⟨f1,f2⟩:=fz
    simp only [wid,Nat.mul_one,Nat.zero_add,Nat.add_zero,World.frozen?,h4]
    have:¬ f1≤j:=by dsimp only at c1;omega
    simp [this]
   have hone:∀ u∈(cur.setIfInBounds j (.int .u8 n)).toList,u.oneCell'=true:=fun u hu=>by
    rw [Array.toList_setIfInBounds] at hu
    rcases List.mem_or_eq_of_mem_set hu with h | h
    ·exact c6 u h
    ·rw [h];rfl
   have hat:∀ (q:Nat) (y:SV),(O.st l j (.int .u8 n))[q]?=some y→∃ n':Int,y=.int .u8 n'∧(cur.setIfInBounds j (.int .u8 n))[q]?=some (.int .u8 n'):=fun q y hy=>by
    rw [O.hst,List.getElem?_set] at hy
    split at hy
    ·rename_i hjq
     injection hy with hy
     refine ⟨n,hy.symm,?_⟩
     subst hjq
     simp [Array.getElem?_setIfInBounds,hjc]
    ·rename_i hjq
     obtain ⟨n',h1,h2⟩:=c7 q y hy
     exact ⟨n',h1,by rw [Array.getElem?_setIfInBounds,if_neg hjq];exact h2⟩
   obtain ⟨m',t'⟩:=m.update (w':=w.setRow b (cur.setIfInBounds j (.int .u8 n))) h1 (by rw [hgm];rfl) (b:=b) h2 ⟨rfl,rfl,rfl,by simp [World.setRow],fun k hk=>setRow_other w b k _ (by omega)⟩ (fun k hk=>setRow_other w b k _ hk)
    (B:=.gen 0 k (O.st l j (.int .u8 n))) (fun _=>⟨_,b,_,rfl,h2,h3,setRow_heap w b cur _ k fz h4,cap,_,fz,by rw [O.hst,List.length_set],rfl,by simpa using c1,by rw [O.hst,List.length_set];exact c2,c3,by simpa using c4,c5,hone,hat⟩)
   refine ⟨_,undef,_,ρ,?_,.inr ⟨rfl,rfl⟩,m',.any _ _,t'⟩
   have hst:(Instr.storeAt t (.pointer (some ⟨b,0+j * wid none+0,none⟩)) (.int .u8 n)).run P w=.ok () (w.setRow b (cur.setIfInBounds j (.int .u8 n))):=by
    have e1:(Value.int .u8 n).cells.size=i.size:=by rw [hsz1];rfl
    simp only [Instr.storeAt,Instr.sureAddr,Sem.run_bind,Sem.run_pure,Result.andThen_ok,storeVar,tok.sizeOf]
    rw [if_neg (by omega)]
    show (storeCells ⟨b,0+j * wid none+0,none⟩ [.int .u8 n] 0).run P w=_
    have hadd:(⟨b,0+j * wid none+0,none⟩:Addr).add 0=⟨b,0+j * wid none+0,none⟩:=by simp [Addr.add]
    have hst:(store ((⟨b,0+j * wid none+0,none⟩:Addr).add 0) (.int .u8 n)).run P w=.ok () (w.setRow b (cur.setIfInBounds j (.int .u8 n))):=by
     rw [hadd,run_store P w _ _ _ rfl,hcell]
     simp only [wid,Nat.mul_one,Nat.zero_add,Nat.add_zero] at hnf ⊢
     simp [hnf,setCell_eq_setRow w b j cur k fz (.int .u8 n) h4]
    simp only [storeCells,Sem.run_bind,hst,Result.andThen_ok,Sem.run_pure]
   simp only [execOp,ho,hax,hvo,Sem.run_bind,hst,Result.andThen_ok,Sem.run_pure]
 case call c =>
  obtain ⟨cal,args,ats⟩:=c
  simp only [oval] at h
  simp only [isO] at hi
  split at h <;> try exact h.elim
  rename_i x t hargs hats
  split at h <;> try exact h.elim
  rename_i r i hx ht
  split at h <;> try exact h.elim
  rename_i k l el hm hk
  split at hi <;> try (cases hi;done)
  have h:=h.h.2 _ rfl
  obtain rfl:args=#[x]:=by apply Array.ext';simpa using hargs
  obtain rfl:ats=#[t]:=by apply Array.ext';simpa using hats
  refine ⟨_,_,_,h,(fun q b hq=>by simp at hq),(fun k hk=>by cases hk),.of_run fun mem hμ hcr a N w0 w X ρ m hden=>?_⟩
  obtain ⟨hgm,v,b,ob,h1,h2,h3,h4,h5⟩:=hμ.gen m hm
  have hv:=hden x (by simp [ho,Op.operands,Call.operands])
  rw [hx] at hv
  generalize hax:a.eval x=u at hv
  cases hv with
  | row _ _ a' n' c' hrow =>
   have e:=hrow _ h1
   subst e
   obtain ⟨ad,c,e1,_,_⟩:=gen_slice (Y:=Forb X mem ρ) h4 h5
   rw [e1] at hax
   refine ⟨_,_,w,ρ,?_,.inl rfl,m,.int _ _ _,Turn.refl _ _ _ _⟩
   simp [execOp,ho,resolve,invoke,builtin,hax,Builtin.len_,goInt,run_underlying ((tys.ok t i ht).und_slice hk),O.hln]
 all_goals simp only [oval] at h
end
end Go.Proofs.YtgfpjhddojhfpaaGreat

/- Texts put together: Xp Reg Drw Ren Rg Swp Mk. -/
import Derived.Test.YtgfpjhddojhfpaaGreatZ01
import Derived.DeepKeys3
import Derived.Scope
import Derived.Test.YtgfpjhddojhfpaaGreatChecked
namespace Go.Proofs.YtgfpjhddojhfpaaGreat
set_option linter.unusedVariables false
set_option linter.unusedSimpArgs false
section
open Go.RowKit
variable {P:Program} {T:Nat→Option TI}
structure Chp (a b:Unit→Prop):Prop where
 h:a ()∨b ()
theorem chpA {a b:Unit→Prop} (h:a ()):Chp a b:=⟨.inl h⟩
theorem chpB {a b:Unit→Prop} (h:b ()):Chp a b:=⟨.inr h⟩
structure MapOk (P:Program) (t:Nat) (m:Nat × Nat × List IntKind):Prop where
 und:P.underlying t=some (.map m.1 m.2.1)
 zero:∀ w,(zeroValue m.2.1).run P w=.ok (.bool false) w
 law:WideMaps.KeyLaw P m.1
 fits:∀ ys us,KFit m.2.2 ys us→∃ l,keyOf P m.1 (.agg ⟨us⟩)=some l
def kfitQ:List IntKind→List SV→Prop
 | [],[]=>True
 | k::ks,.int j n::ys=>(if k=j then k.min≤n∧n≤k.max else False)∧kfitQ ks ys
 | _,_=>False
theorem kfit_den {w:World} {X:Nat→Prop} {ρ:Env}:∀ {ks:List IntKind} {ys:List SV} {us:List Value},kfitQ ks ys→DenL w X ρ ys us→KFit ks ys us
 | [],[],us,_,h=>by
  have:=h.1
  cases us with
  | nil=>exact .nil
  | cons=>simp at this
 | k::ks,y::ys,[],_,h=>by have:=h.1;simp at this
 | k::ks,y::ys,u::us,hq,h=>by
  cases y with
  | int j n =>
   simp only [kfitQ] at hq
   obtain ⟨h1,h2⟩:=hq
   split at h1
   ·rename_i e
    subst e
    have h0:=h.2 0 _ _ rfl rfl
    rw [Den.int_iff] at h0
    subst h0
    exact .cons h1 (kfit_den h2 ⟨by have:=h.1;simpa using this,fun i x u hx hu=>h.2 (i+1) x u hx hu⟩)
   ·exact h1.elim
  | _=>exact hq.elim
 | [],_::_,_,hq,_=>hq.elim
 | _::_,[],_,hq,_=>hq.elim
theorem KFit.val {ks:List IntKind} {ys:List SV} {us us':List Value} (h:KFit ks ys us) (h':KFit ks ys us'):us=us':=by
 induction h generalizing us' with
 | nil=>cases h';rfl
 | cons h r ih=>cases h' with | cons h2 r2=>rw [ih r2]
theorem KFit.key {ks:List IntKind} {ys ys':List SV} {us:List Value} (h:KFit ks ys us) (h':KFit ks ys' us):ys=ys':=by
 induction h generalizing ys' with
 | nil=>cases h';rfl
 | cons h r ih=>cases h' with | cons h2 r2=>rw [ih r2]
def isP (op:Op) (e:Operand→SV):Bool :=
 match op with
 | .makeMap _ none=>true
 | .lookup _ x _ false=>(match e x with | .obj _=>true | _=>false)
 | .mapUpdate _ m _ _=>(match e m with | .obj _=>true | _=>false)
 | .call c=>(match c.callee,c.args.toList with
  | .builtin .cap,[x]=>(match e x with | .rsl _ _ _ _ (some _)=>true | _=>false)
  | .builtin .clear,[x]=>(match e x with | .rsl _ _ _ _ _=>true | _=>false)
  | _,_=>false)
 | _=>false
def isP2 (op:Op) (e:Operand→SV):Bool :=
 match op with
 | .makeSlice _ (.const (.int _ z)) _=>decide (z=0)
 | .slice _ x _ (some _) none=>(match e x with | .rsl _ _ _ _ _=>true | _=>false)
 | .call c=>(match c.callee,c.args.toList with
  | .builtin .append,[x,_]=>(match e x with | .rsl _ _ _ _ _=>true | _=>false)
  | _,_=>false)
 | _=>false
def capFits (c:Option Nat) (n:Nat):Prop:=match c with | some m=>n≤m | none=>True
def capLess (c:Option Nat) (n:Nat):Option Nat:=match c with | some m=>some (m - n) | none=>none
noncomputable def pvO (T:Nat→Option TI) (d:Option Nat) (op:Op) (e:Operand→SV) (μ:Nat→Blk) (κ:SV→List (Nat × Blk)→Option Nat→Prop):Prop :=
 match op with
 | .makeMap t none=>(match mapT t,d with
  | some _,some d=>κ (.obj d) [(d,.gen 1 t [])] (some d)
  | _,_=>False)
 | .lookup t x k false=>(match mapT t,e x,e k with
  | some m,.obj r,.agg ys=>(match μ r with
   | .gen 1 t' l=>if Nat.beq t' t then Rq (fun _=>kfitQ m.2.2 ys) (fun _=>QC (fun _=>SV.agg ys∈l) (fun b=>κ (.bool b) [] none)) else False
   | _=>False)
  | _,_,_=>False)
 | .mapUpdate t x k v=>(match mapT t,e x,e k,e v with
  | some m,.obj r,.agg ys,.bool true=>(match μ r with
   | .gen 1 t' l=>if Nat.beq t' t then Rq (fun _=>kfitQ m.2.2 ys) (fun _=>κ .any [(r,.gen 1 t' (O.ap l [.agg ys]))] none) else False
   | _=>False)
  | _,_,_,_=>False)
 | .makeSlice t n c=>(match T t,d with
  | some i,some d=>(match i.kind with
   | .slice el=>(match T el,e n,e c with
    | some j,.int _ n,.int _ c=>if chunkOk j j.zero && !(Nat.beq j.size 0) then
      QV (fun (m:Nat)=>n=0∧c=(m:Int)∧c≤9223372036854775807∧(j.bytes:Int) * c≤140737488355328) (fun m=>κ (.rsl d j.shape 0 0 (some m)) [(d,.row j.shape el (O.rp c j.zero))] (some d)) else False
    | _,_,_=>False)
   | _=>False)
  | _,_=>False)
 | .call c=>(match c.callee,c.argTypes.toList,c.args.toList with
  | .builtin .append,[t,t2],[s,x]=>(match T t with
   | some i=>(match i.kind with
    | .slice el=>(match T el with
     | some j=>if isSrc (T t2) && !(Nat.beq j.size 0) then (match e s,srcOf μ j.shape (e x) with
      | .rsl q sh a n c,some ys=>(match μ q with
       | .row s' el' l=>if shEq sh j.shape && shEq s' j.shape then
         QV (fun (r:Nat × Nat × Nat)=>r.1=n+O.ln ys∧capFits c r.1∧a+r.1≤O.ln l∧r.2.1=a+n∧r.2.2=O.ln ys) (fun r=>κ (.rsl q sh a r.1 c) [(q,.row s' el' (O.cp l r.2.1 r.2.2 ys))] none) else False
       | _=>False)
      | _,_=>False) else False
     | none=>False)
    | _=>False)
   | none=>False)
  | .builtin .cap,[t],[s]=>(match T t with
   | some i=>(match i.kind,e s with
    | .slice _,.rsl q sh _ _ (some c)=>(match listB sh (μ q) with
     | some _=>Q1 (fun _=>True) (fun z=>z=(c:Int)) (fun z=>κ (.int .i64 z) [] none)
     | none=>False)
    | _,_=>False)
   | none=>False)
  | .builtin .clear,[t],[s]=>(match T t with
   | some i=>(match i.kind with
    | .slice el=>(match T el,e s with
     | some j,.rsl q sh a n _=>(match μ q with
      | .row s' el' l=>if shEq sh j.shape && shEq s' j.shape && chunkOk j j.zero && !(Nat.beq j.size 0) then Rq (fun _=>a+n≤O.ln l) (fun _=>κ .any [(q,.row s' el' (O.cp l a n (O.rp n j.zero)))] none) else False
      | _=>False)
     | _,_=>False)
    | _=>False)
   | none=>False)
  | _,_,_=>False)
 | .slice t x lo (some hi) none=>(match T t with
  | some i=>(match i.kind with
   | .slice el=>(match T el,e x,optI e lo,e hi with
    | some j,.rsl q sh a _ c,some zl,.int _ zh=>(match listB j.shape (μ q) with
     | some l=>if shEq sh j.shape then
       QV (fun (r:Nat × Nat × Option Nat)=>∃ lo hi:Nat,(match zl with | some z=>z | none=>0)=(lo:Int)∧zh=(hi:Int)∧lo≤hi∧a+hi≤O.ln l∧capFits c hi∧r=(a+lo,hi - lo,capLess c lo)) (fun r=>κ (.rsl q sh r.1 r.2.1 r.2.2) [] none) else False
     | none=>False)
    | _,_,_,_=>False)
   | _=>False)
  | none=>False)
 | _=>False
theorem run_append_into (w:World) (t t2 ty e:TypeId) (d2:TypeDesc) (i:TypeInfo) (size:Nat) (ht:P.underlying t=some (.slice e)) (ht2:P.underlying t2=some d2) (hd2:d2=.string∨∃ e',d2=.slice e') (hi:P.info? e=some i) (hsz:i.size=size)
  (b off n cap:Nat) (cur:Array Value) (eb:TypeId) (hg:w.heap[b]?=some (.cells cur eb (0,0))) (x:Value) (m:Nat) (news:List Value) (hn1:∀ u∈news,u.oneCell'=true)
  (hlen:∀ w',(Builtin.lenOf x).run P w'=.ok m w') (hfc:(Builtin.firstCells size m x).run P w=.ok news.toArray w) (hroom:n+m≤cap) (hfit:off+n * size+news.length≤cur.size) :
  (Builtin.append_ #[t,t2] ty #[.slice (some ⟨b,off,none⟩) n cap,x]).run P w=.ok (.slice (some ⟨b,off,none⟩) (n+m) cap) (w.setRow b (cur.toList.take (off+n * size)++news++cur.toList.drop (off+n * size+news.length)).toArray):=by
 have hst:=run_storeCells_at P b (off+n * size) eb news 0 cur w hg (by omega) hn1
 simp only [Nat.add_zero] at hst
 rcases hd2 with rfl | ⟨e',rfl⟩ <;> simp [Builtin.append_,run_underlying ht,run_underlying ht2,sizeOf,typeInfo,hi,hsz,hfc,hlen,hroom,addr_add,hst]
theorem run_append_none (w:World) (t t2 ty e:TypeId) (d2:TypeDesc) (i:TypeInfo) (size:Nat) (ht:P.underlying t=some (.slice e)) (ht2:P.underlying t2=some d2) (hd2:d2=.string∨∃ e',d2=.slice e') (hi:P.info? e=some i) (hsz:i.size=size)
  (a:Option Addr) (n cap:Nat) (hnc:n≤cap) (x:Value) (hlen:∀ w',(Builtin.lenOf x).run P w'=.ok 0 w') (hfc:(Builtin.firstCells size 0 x).run P w=.ok #[] w) :
  (Builtin.append_ #[t,t2] ty #[.slice a n cap,x]).run P w=.ok (.slice a n cap) w:=by
 rcases hd2 with rfl | ⟨e',rfl⟩
 all_goals cases a <;> simp [Builtin.append_,run_underlying ht,run_underlying ht2,sizeOf,typeInfo,hi,hsz,hfc,hlen,storeCells,hnc]
theorem row_splice {N:Nat→Prop} {w0 w:World} {X:Nat→Prop} {mem:Mem} {ρ:Env} (m:MRep T N w0 w X mem ρ) {q:Nat} {sh:Option Nat} {el:Nat} {l ys:List SV} (hg:getM mem q=.row sh el l) (hp:0 < wid sh)
  {b off cap:Nat} {cur:Array Value} (hv:ρ q=some (.slice (some ⟨b,off,none⟩) l.length cap)) (k1:N b) (k2:w.heap[b]?=some (.cells cur el (0,0))) (k3:l.length≤cap) (k4:cap≤maxLen) (k5:off+cap * wid sh≤cur.size) (k6:0 < cap)
  (k7:∀ u∈cur.toList,u.oneCell'=true) (k8:∀ (i:Nat) (h:i < l.length),Den w (Forb X mem ρ) noEnv l[i] (valAt sh (cur.toList.drop off) i)) {a:Nat} {us:List Value} (u1:us.length=ys.length * wid sh) (u2:∀ u∈us,u.oneCell'=true)
  (u3:∀ (i:Nat) (h:i < ys.length),Den w (Forb X mem ρ) noEnv ys[i] (valAt sh us i)) (ha:a+ys.length≤l.length) :
  off+a * wid sh+us.length≤cur.size∧MRep T N w0 (w.setRow b (cur.toList.take (off+a * wid sh)++us++cur.toList.drop (off+a * wid sh+us.length)).toArray) X (setM (.row sh el (O.cp l a (O.ln ys) ys)) mem q) ρ ∧
   Turn w (Forb X mem ρ) ρ (w.setRow b (cur.toList.take (off+a * wid sh)++us++cur.toList.drop (off+a * wid sh+us.length)).toArray) (Forb X (setM (.row sh el (O.cp l a (O.ln ys) ys)) mem q) ρ) ρ none:=by
 have e0:O.cp l a (O.ln ys) ys=l.take a++ys++l.drop (a+ys.length):=by rw [O.hcp,O.hln,List.take_length,Nat.min_self]
 rw [e0]
 have hcl:cur.toList.length=cur.size:=Array.length_toList
 have hle:l.length * wid sh≤cap * wid sh:=Nat.mul_le_mul_right _ k3
 have hle2:(a+ys.length) * wid sh≤l.length * wid sh:=Nat.mul_le_mul_right _ ha
 have hadd:(a+ys.length) * wid sh=a * wid sh+ys.length * wid sh:=Nat.add_mul _ _ _
 have hfit:off+a * wid sh+us.length≤cur.toList.length:=by omega
 have hll:(l.take a++ys++l.drop (a+ys.length)).length=l.length:=by
  simp only [List.length_append,List.length_take,List.length_drop]
  omega
 refine ⟨by omega,row_write (l':=l.take a++ys++l.drop (a+ys.length)) m hg hll hv k1 k2 k3 k4 k5 k6 k7 (off+a * wid sh) us (by omega) u2 (fun k hk=>?_)⟩
 have hk':k < l.length:=by omega
 have hkl:k * wid sh+wid sh≤l.length * wid sh:=by rw [← Nat.succ_mul];exact Nat.mul_le_mul_right _ hk'
 have hlen:((cur.toList.take (off+a * wid sh)++us++cur.toList.drop (off+a * wid sh+us.length)).drop off).length=cur.size - off:=by
  rw [List.length_drop,splice_len hfit,hcl]
 have hgetl:(l.take a++ys++l.drop (a+ys.length))[k]?=if a≤k∧k < a+ys.length then ys[k - a]? else l[k]?:=by
  by_cases c1:k < a
  ·rw [if_neg (by omega),List.append_assoc,List.getElem?_append_left (by rw [List.length_take];omega),List.getElem?_take,if_pos c1]
  ·by_cases c2:k < a+ys.length
   ·rw [if_pos (by omega),List.append_assoc,List.getElem?_append_right (by rw [List.length_take];omega),List.getElem?_append_left (by rw [List.length_take];omega)]
    congr 1
    rw [List.length_take]
    omega
   ·rw [if_neg (by omega),List.getElem?_append_right (by rw [List.length_append,List.length_take];omega),List.getElem?_drop]
    congr 1
    rw [List.length_append,List.length_take]
    omega
 rw [List.getElem?_eq_getElem hk] at hgetl
 split at hgetl
 ·rename_i hin
  have hky:k - a < ys.length:=by omega
  rw [List.getElem?_eq_getElem hky] at hgetl
  injection hgetl with hgetl
  rw [hgetl]
  have e1:(k - a) * wid sh+wid sh≤ys.length * wid sh:=by rw [← Nat.succ_mul];exact Nat.mul_le_mul_right _ (by omega)
  have e2:k * wid sh=a * wid sh+(k - a) * wid sh:=by rw [← Nat.add_mul];congr 1;omega
  have:valAt sh ((cur.toList.take (off+a * wid sh)++us++cur.toList.drop (off+a * wid sh+us.length)).drop off) k=valAt sh us (k - a):=by
   rw [valAt_seg _ _ k (by omega),valAt_seg sh us (k - a) (by omega)]
   congr 1
   apply List.ext_getElem?
   intro p
   rw [List.getElem?_take,List.getElem?_take]
   split
   ·rw [List.getElem?_drop,List.getElem?_drop,List.getElem?_drop,splice_get hfit,if_pos (by omega)]
    congr 1
    omega
   ·rfl
  rw [this]
  exact u3 _ hky
 ·rename_i hin
  rw [List.getElem?_eq_getElem hk'] at hgetl
  injection hgetl with hgetl
  rw [hgetl]
  have e1:k < a→k * wid sh+wid sh≤a * wid sh:=fun h=>by rw [← Nat.succ_mul];exact Nat.mul_le_mul_right _ h
  have e2:¬ k < a→(a+ys.length) * wid sh≤k * wid sh:=fun h=>Nat.mul_le_mul_right _ (by omega)
  rw [valAt_ext (vs:=cur.toList.drop off) (by omega) (by rw [List.length_drop];omega) (fun p h1 h2=>by
   rw [List.getElem?_drop,List.getElem?_drop,splice_get hfit,if_neg]
   by_cases c1:k < a
   ·have:=e1 c1;omega
   ·have:=e2 c1;omega)]
  exact k8 k hk'
theorem cp_nil (l:List SV) (a:Nat):O.cp l a 0 []=l:=by rw [O.hcp];simp
theorem rp_get (n:Int) (z:SV) (i:Nat) (h:i < (O.rp n z).length):(O.rp n z)[i]=z:=by
 have h':=h
 simp only [O.hrp] at h'
 have:(O.rp n z)[i]?=some z:=by rw [O.hrp,List.getElem?_replicate,if_pos (by simpa using h')]
 rw [List.getElem?_eq_getElem h] at this
 exact Option.some.inj this
theorem pvO_ok (tys:Types P T) (sz:Sizes T) (mp:∀ t m,mapT t=some m→MapOk P t m) {o:Oper} {e:Operand→SV} {μ:Nat→Blk} {κ:SV→List (Nat × Blk)→Option Nat→Prop} (h:pvO T o.dst o.op e μ κ) :
  ∃ x U cr,κ x U cr∧(∀ q b,(q,b)∈U→cr=some q∨(μ q).own=true)∧(∀ k,cr=some k→o.dst=some k∧((∃ t,o.op=.makeMap t none)∨∃ t n c,o.op=.makeSlice t n c))∧Eff P T o e μ x U cr:=by
 generalize ho:o.op=op at h
 cases op
 case makeMap t r =>
  cases r with
  | some r=>exact h.elim
  | none =>
  simp only [pvO] at h
  split at h <;> try exact h.elim
  rename_i mt d hmt hd
  refine ⟨_,_,_,h,(fun q b hq=>by simp at hq;exact .inl (by rw [hq.1])),(fun k hk=>⟨by rw [hd,← hk],.inl ⟨_,rfl⟩⟩),.of_run fun mem hμ hcr a N w0 w X ρ m hden=>?_⟩
  obtain ⟨hno,hnr,hn⟩:=hcr d rfl
  have hbel:Below w.heap.size w (w.alloc (.map #[] 0)):=(Below.refl _ _).alloc (Nat.le_refl _) _
  obtain ⟨m',t'⟩:=m.create (w':=w.alloc (.map #[] 0)) hno hnr (B:=.gen 1 t []) (v:=.map (some w.heap.size)) (fun b hb=>by simp only [vblock] at hb;injection hb with hb;subst hb;exact ⟨Nat.le_refl _,by show _ < (w.heap.push _).size;simp⟩) hbel
   (fun _=>⟨_,w.heap.size,_,rfl,rfl,m.szN _ (Nat.le_refl _),heap_alloc_new w _,mt,hmt,rfl,#[],0,rfl,by simp,by simp⟩)
  refine ⟨_,.map (some w.heap.size),_,_,?_,.inl rfl,m',.obj _ d _ rfl (fun q hq=>?_),t'⟩
  ·simp only [execOp,ho,Option.map_none,Instr.makeMap,newObj]
   rfl
  ·simp only [upd,if_true] at hq
   injection hq with hq
   exact hq.symm
 case lookup t x k ok =>
  cases ok with
  | true=>exact h.elim
  | false =>
  simp only [pvO] at h
  split at h <;> try exact h.elim
  rename_i mt r ys hmt hx hk
  split at h <;> try exact h.elim
  rename_i t' l hm
  split at h <;> try exact h.elim
  rename_i htt
  have htt:t'=t:=Nat.eq_of_beq_eq_true htt
  subst htt
  obtain ⟨hfit,h⟩:=h
  have key:∀ b:Bool,(b=true ↔ SV.agg ys∈l)→Eff P T o e μ (.bool b) [] none:=by
   intro b hb
   refine .of_run fun mem hμ hcr a N w0 w X ρ m hden=>?_
   obtain ⟨hgm,v,bl,ob,h1,h2,h3,h4,mt',g0,rfl,es,clock,rfl,g1,g2⟩:=hμ.gen m hm
   rw [hmt] at g0
   injection g0 with g0
   subst g0
   have mo:=mp _ _ hmt
   have hdx:=hden x (by simp [ho,Op.operands])
   have hdk:=hden k (by simp [ho,Op.operands])
   rw [hx] at hdx
   rw [hk] at hdk
   obtain ⟨us,hku,hus⟩:=Den.agg_iff.1 hdk
   have fk:=kfit_den hfit hus
   obtain ⟨lx,hlx⟩:=mo.fits _ _ fk
   generalize hax:a.eval x=u at hdx
   cases hdx with
   | obj _ _ _ _ hob =>
    obtain rfl:=hob _ h1
    have hall:∀ z∈es.toList,∃ l,keyOf P mt.1 z.key=some l:=fun z hz=>by
     obtain ⟨_,ys',us',f1,f2,_⟩:=g1 z hz
     rw [f2];exact mo.fits _ _ f1
    have hchk:=mo.law.check w es.isEmpty hlx
    have hfind:∃ r:Option (Nat × Value),(Instr.findKey mt.1 (.agg ⟨us⟩) es.toList).run P w=.ok r w∧((r=none∧b=false)∨∃ j,r=some (j,.bool true)∧b=true):=by
     rcases mo.law.find w hlx es.toList hall with ⟨f1,f2⟩ | ⟨j,z,f1,f2,f3⟩
     ·refine ⟨_,f1,.inl ⟨rfl,?_⟩⟩
      cases hbb:b with
      | false=>rfl
      | true =>
       obtain ⟨ys',us',z,e1,e2,e3,e4⟩:=g2 _ (hb.1 hbb)
       injection e1 with e1
       subst e1
       rw [e2.val fk] at e4
       exact absurd e4 (f2 z e3)
     ·have hz:z∈es.toList:=List.mem_of_getElem? f2
      obtain ⟨e1,ys',us',e2,e3,e4⟩:=g1 z hz
      rw [f3] at e3
      injection e3 with e3
      injection e3 with e3
      subst e3
      rw [e2.key fk] at e4
      refine ⟨_,f1,.inr ⟨j,by rw [e1],hb.2 e4⟩⟩
    obtain ⟨rr,hf1,hf2⟩:=hfind
    refine ⟨_,.bool b,w,ρ,?_,.inl rfl,m,.bool _ _,Turn.refl _ _ _ _⟩
    have hgo:(getObj bl).run P w=.ok (.map es clock) w:=by simp [getObj,Sem.run,h4]
    simp only [execOp,ho,hax,hku,Instr.lookup,run_underlying mo.und,Sem.run_bind,Result.andThen_ok,hgo,Sem.run_pure,hchk,hf1]
    rcases hf2 with ⟨rfl,rfl⟩ | ⟨j,rfl,rfl⟩
    ·simp [mo.zero w]
    ·simp
  by_cases hmem:SV.agg ys∈l
  ·exact ⟨_,_,_,h.t hmem,(fun q b hq=>by simp at hq),(fun k hk=>by cases hk),key true (by simp [hmem])⟩
  ·exact ⟨_,_,_,h.f hmem,(fun q b hq=>by simp at hq),(fun k hk=>by cases hk),key false (by simp [hmem])⟩
 case mapUpdate t x k vo =>
  simp only [pvO] at h
  split at h <;> try exact h.elim
  rename_i mt r ys hmt hx hk hvo
  split at h <;> try exact h.elim
  rename_i t' l hm
  split at h <;> try exact h.elim
  rename_i htt
  have htt:t'=t:=Nat.eq_of_beq_eq_true htt
  subst htt
  obtain ⟨hfit,h⟩:=h
  rw [O.hap] at h
  refine ⟨_,_,_,h,(fun q b hq=>by simp at hq;rw [hq.1,hm];exact .inr rfl),(fun k hk=>by cases hk),.of_run fun mem hμ hcr a N w0 w X ρ m hden=>?_⟩
  obtain ⟨hgm,v,bl,ob,h1,h2,h3,h4,mt',g0,rfl,es,clock,rfl,g1,g2⟩:=hμ.gen m hm
  rw [hmt] at g0
  injection g0 with g0
  subst g0
  have mo:=mp _ _ hmt
  have hdx:=hden x (by simp [ho,Op.operands])
  have hdk:=hden k (by simp [ho,Op.operands])
  have hdv:=hden vo (by simp [ho,Op.operands])
  rw [hx] at hdx
  rw [hk] at hdk
  rw [hvo,Den.bool_iff] at hdv
  obtain ⟨us,hku,hus⟩:=Den.agg_iff.1 hdk
  have fk:=kfit_den hfit hus
  obtain ⟨lx,hlx⟩:=mo.fits _ _ fk
  generalize hax:a.eval x=u at hdx
  cases hdx with
  | obj _ _ _ _ hob =>
   obtain rfl:=hob _ h1
   have hall:∀ z∈es.toList,∃ l,keyOf P mt.1 z.key=some l:=fun z hz=>by
    obtain ⟨_,ys',us',f1,f2,_⟩:=g1 z hz
    rw [f2];exact mo.fits _ _ f1
   have hchk:=mo.law.check w false hlx
   have hgo:(getObj bl).run P w=.ok (.map es clock) w:=by simp [getObj,Sem.run,h4]
   have up:=fun (es':Array MapEntry) (clock':Nat) (c1:∀ z∈es'.toList,z.val=.bool true∧∃ zs us,KFit mt.2.2 zs us∧z.key=.agg ⟨us⟩∧SV.agg zs∈l++[SV.agg ys]) (c2:∀ z∈l++[SV.agg ys],∃ zs us e,z=.agg zs∧KFit mt.2.2 zs us∧e∈es'.toList∧e.key=.agg ⟨us⟩) =>
    m.update (w':={ w with heap:=w.heap.setIfInBounds bl (.map es' clock') }) h1 (by rw [hgm];rfl) (b:=bl) rfl ⟨rfl,rfl,rfl,by simp,fun k hk=>by simp [Array.getElem?_setIfInBounds,show bl≠k by omega]⟩ (fun k hk=>by simp [Array.getElem?_setIfInBounds,Ne.symm hk])
     (B:=.gen 1 t' (l++[.agg ys])) (fun _=>⟨_,bl,_,rfl,rfl,h3,by simp [Array.getElem?_setIfInBounds,heap_lt h4],mt,hmt,rfl,es',clock',rfl,c1,c2⟩)
   rcases mo.law.find w hlx es.toList hall with ⟨f1,f2⟩ | ⟨j,z,f1,f2,f3⟩
   ·obtain ⟨m',tn⟩:=up (es.push { key:=.agg ⟨us⟩,val:=.bool true,born:=clock }) (clock+1) (fun z hz=>by
     simp only [Array.toList_push,List.mem_append,List.mem_singleton] at hz
     rcases hz with hz | rfl
     ·obtain ⟨e1,ys',us',e2,e3,e4⟩:=g1 z hz
      exact ⟨e1,ys',us',e2,e3,List.mem_append_left _ e4⟩
     ·exact ⟨rfl,ys,us,fk,rfl,by simp⟩) (fun z hz=>by
     rcases List.mem_append.1 hz with hz | hz
     ·obtain ⟨ys',us',z',e1,e2,e3,e4⟩:=g2 z hz
      exact ⟨ys',us',z',e1,e2,by simp [e3],e4⟩
     ·simp only [List.mem_singleton] at hz
      exact ⟨ys,us,{ key:=.agg ⟨us⟩,val:=.bool true,born:=clock },hz,fk,by simp,rfl⟩)
    refine ⟨_,undef,_,ρ,?_,.inr ⟨rfl,rfl⟩,m',.any _ _,tn⟩
    simp only [execOp,ho,hax,hku,hdv,Instr.mapUpdate,run_underlying mo.und,Sem.run_bind,Result.andThen_ok,hgo,Sem.run_pure,hchk,f1]
    simp [setObj,Sem.run,h4]
   ·have hz:z∈es.toList:=List.mem_of_getElem? f2
    obtain ⟨e1,ys',us',e2,e3,e4⟩:=g1 z hz
    have hself:es.modify j (fun e=>{ e with key:=.agg ⟨us⟩,val:=.bool true })=es:=by
     apply Array.ext'
     have hj:es[j]?=some z:=by simpa using f2
     obtain ⟨hj1,hj2⟩:=Array.getElem?_eq_some_iff.1 hj
     simp only [Array.toList_modify]
     apply List.ext_getElem?
     intro i
     rw [List.getElem?_modify]
     by_cases hij:j=i
     ·subst hij
      rw [f2]
      simp only [if_true,Option.map_some,Option.some.injEq]
      obtain ⟨zk,zv,zb⟩:=z
      simp only at f3 e1
      subst f3;subst e1
      rfl
     ·simp [hij]
    obtain ⟨m',tn⟩:=up es clock (fun z hz=>by
     obtain ⟨e1,ys',us',e2,e3,e4⟩:=g1 z hz
     exact ⟨e1,ys',us',e2,e3,List.mem_append_left _ e4⟩) (fun y hy=>by
     rcases List.mem_append.1 hy with hy | hy
     ·exact g2 y hy
     ·simp only [List.mem_singleton] at hy
      exact ⟨ys,us,z,hy,fk,hz,f3⟩)
    refine ⟨_,undef,_,ρ,?_,.inr ⟨rfl,rfl⟩,m',.any _ _,tn⟩
    have hj:es[j]?=some z:=by simpa using f2
    simp only [execOp,ho,hax,hku,hdv,Instr.mapUpdate,run_underlying mo.und,Sem.run_bind,Result.andThen_ok,hgo,Sem.run_pure,hchk,f1,hj,Option.map_some,Option.getD_some,f3,mo.law.stays w hlx,hself]
    simp [setObj,Sem.run,h4]
 case makeSlice t n c =>
  simp only [pvO] at h
  split at h <;> try exact h.elim
  rename_i i d ht hd
  split at h <;> try exact h.elim
  rename_i el hk
  split at h <;> try exact h.elim
  rename_i j kn nv kc cv hj hn hc
  split at h <;> try exact h.elim
  rename_i hck
  simp only [Bool.and_eq_true,Bool.not_eq_true'] at hck
  obtain ⟨cm,⟨g1,g2,g3,g4⟩,h⟩:=h.h
  rw [O.hrp] at h
  refine ⟨_,_,_,h,(fun q b hq=>by simp at hq;exact .inl (by rw [hq.1])),(fun k hk=>⟨by rw [hd,← hk],.inr ⟨_,_,_,rfl⟩⟩),.of_run fun mem hμ hcr a N w0 w X ρ m hden=>?_⟩
  obtain ⟨hno,hnr,_⟩:=hcr d rfl
  have d1:=hden n (by simp [ho,Op.operands])
  have d2:=hden c (by simp [ho,Op.operands])
  rw [hn,Den.int_iff] at d1
  rw [hc,Den.int_iff] at d2
  have tj:=tys.ok el j hj
  have ti:=tys.ok t i ht
  obtain ⟨ji,j1,j2,j3⟩:=tj.inf
  obtain ⟨z,z1,z2,z3,z4,z5⟩:=tj.zero
  have hz:ji.zero=some z:=by rw [j1] at z1;simpa using z1
  have hw:=TI.wid_size (sz.one _ _ hj)
  have hp:0 < wid j.shape:=by
   rcases Nat.eq_zero_or_pos (wid j.shape) with h0 | h0
   ·rw [hw,h0] at hck;simp at hck
   ·exact h0
  have hdz:∀ Y ρ,Den w Y ρ j.zero z:=fun Y ρ=>by rw [z2];exact ofValue_den _ _ _ _
  obtain ⟨c1,c2,c3⟩:=chunk_den (sz.one el j hj) hck.1 (hdz (Forb X mem ρ) noEnv)
  have hrun:=run_make (P:=P) w t el ji z (ti.und_slice hk) j1 hz kn kc nv cv (by omega) (by omega) (by rw [j3];omega) (by omega)
  rw [j2] at hrun
  have hcm:cv.toNat=cm:=by omega
  have hsz:(madeCells z.cells (cv.toNat * j.size)).size=cv.toNat * wid j.shape:=by rw [size_madeCells,hw]
  obtain ⟨ρ',m',d',t'⟩:=new_row (e:=el) (sh:=j.shape) (l:=List.replicate cv.toNat j.zero) m hno hnr (madeCells z.cells (cv.toNat * j.size)) cv.toNat (by simp) (by simp only [maxLen];omega) hsz
   (made_one z4 (by omega) _) (fun i hi=>by
    rw [List.getElem_replicate,show madeCells z.cells (cv.toNat * j.size)=(Array.range (cv.toNat * j.size)).map (z.cells[· % z.cells.size]!) from rfl]
    rw [valAt_made (n:=cv.toNat) (by omega) c3 (by simpa using hi) _ (by rw [hw];exact Nat.le_refl _)]
    exact hdz _ _)
  refine ⟨_,.slice (some ⟨w.heap.size,0,none⟩) nv.toNat cv.toNat,_,ρ',?_,.inl rfl,m',?_,t'⟩
  ·simp only [execOp,ho,d1,d2,Sem.run_bind,hrun,Result.andThen_ok,Sem.run_pure]
  ·rw [g1,hcm]
   refine .rsl _ _ _ _ _ _ _ _ (by simp) fun q hq=>?_
   cases d' with
   | row _ _ _ _ _ hr =>
    have:=hr q hq
    subst this
    refine .inl ⟨_,_,_,rfl,by omega,by omega,(fun h=>by cases h),(fun m hm=>by injection hm),.inr ⟨w.heap.size,0,rfl,by simp⟩⟩
 case slice t x lo hi mx =>
  cases mx with
  | some _=>cases hi <;> exact h.elim
  | none =>
  cases hi with
  | none=>exact h.elim
  | some hi =>
  simp only [pvO] at h
  split at h <;> try exact h.elim
  rename_i i ht
  split at h <;> try exact h.elim
  rename_i el hk
  split at h <;> try exact h.elim
  rename_i j q sh av nv c zl kz zh hj hx hlo hhi
  split at h <;> try exact h.elim
  rename_i l hm
  split at h <;> try exact h.elim
  rename_i hsh
  have hs1:=shEq_eq hsh
  subst hs1
  obtain ⟨r,⟨lov,hiv,b1,b2,b3,b4,b5,rfl⟩,h⟩:=h.h
  rw [O.hln] at b4
  simp only at h
  refine ⟨_,_,_,h,(fun q b hq=>by simp at hq),(fun k hk=>by cases hk),.of_run fun mem hμ hcr a N w0 w X ρ m hden=>?_⟩
  have ti:=tys.ok t i ht
  have tj:=tys.ok el j hj
  have hw:=TI.wid_size (sz.one _ _ hj)
  rw [ho] at hden
  simp only [Op.operands] at hden
  have dx:=hden x (by simp)
  have dh:=hden hi (by simp)
  rw [hx] at dx
  rw [hhi,Den.int_iff] at dh
  have dl:=optI_some (a:=a) hlo (w:=w) (X:=Forb X mem ρ) (ρ:=ρ) (fun y hy=>hden y (by simp [hy]))
  obtain ⟨v,hv,ad0,c0,hv0,hle0,_⟩:=listB_den hμ m hm
  obtain ⟨ad,cc,x0,len,cap,e1,e2,e3,e4,e5,e6,e7,e8⟩:=rsl_at dx hv (by rintro b rfl;cases hv0)
  have hlen:len=l.length∧len≤cap:=by
   rw [hv0] at e3;injection e3 with _ e3 e3';omega
  have hhc:hiv≤cc:=by
   cases c with
   | none=>rw [e6 rfl];omega
   | some m0=>rw [e7 m0 rfl];exact b5
  have hr:=run_slice_gen (P:=P) w (ti.und_slice hk) (fun w=>tj.sizeOf w) ad nv cc lov hiv cc (lo.map a.eval) (some (a.eval hi)) none (.inl ⟨rfl,rfl⟩) (.inr ⟨_,_,by rw [dh],by omega,by omega,by omega⟩)
   (by
     rcases dl with ⟨d1,d2⟩ | ⟨k,z,d1,d2⟩
     ·subst d2;exact .inl ⟨d1,by simp at b1;omega⟩
     ·subst d2;simp only at b1;exact .inr ⟨k,z,d1,by omega,by omega,by omega⟩)
  refine ⟨_,_,w,ρ,by simp only [execOp,ho,e1,Option.map_some,Option.map_none,Sem.run_bind,hr,Result.andThen_ok,Sem.run_pure];rfl,.inl rfl,m,?_,Turn.refl _ _ _ _⟩
  refine .rsl _ _ _ _ _ _ _ _ (by omega) fun q' hq'=>?_
  rw [hv] at hq'
  injection hq' with hq'
  subst hq'
  refine .inl ⟨x0,len,cap,e3,by omega,by omega,fun hz=>?_,fun z hz=>?_,?_⟩
  ·cases c with
   | none=>rw [e6 rfl];omega
   | some _=>cases hz
  ·cases c with
   | none=>cases hz
   | some m0=>simp only [capLess] at hz;injection hz with hz;rw [e7 m0 rfl,hz]
  ·by_cases hml:cc=lov
   ·exact .inl (by omega)
   ·rw [if_neg hml]
    rcases e8 with e8 | ⟨b,off,e8,e9⟩
    ·exact .inl (by omega)
    ·refine .inr ⟨b,off,e8,?_⟩
     rw [e9]
     simp [addr_add,hw,Nat.add_mul,Nat.add_assoc]
 case call cl =>
  obtain ⟨cal,args,ats⟩:=cl
  simp only [pvO] at h
  split at h <;> try exact h.elim
  ·rename_i t t2 s x hat har
   obtain rfl:args=#[s,x]:=by apply Array.ext';simpa using har
   obtain rfl:ats=#[t,t2]:=by apply Array.ext';simpa using hat
   split at h <;> try exact h.elim
   rename_i i ht
   split at h <;> try exact h.elim
   rename_i el hk
   split at h <;> try exact h.elim
   rename_i j hj
   split at h <;> try exact h.elim
   rename_i hck
   simp only [Bool.and_eq_true,Bool.not_eq_true'] at hck
   have hpos:j.size≠0:=by intro h0;rw [h0] at hck;simp at hck
   split at h <;> try exact h.elim
   rename_i q sh av nv c ys hs hsrc
   split at h <;> try exact h.elim
   rename_i s' el' l hm
   split at h <;> try exact h.elim
   rename_i hsh
   simp only [Bool.and_eq_true] at hsh
   have hs1:=shEq_eq hsh.1
   have hs2:=shEq_eq hsh.2
   subst hs1;subst hs2
   obtain ⟨⟨p,pa,pl⟩,⟨b1,b2,b3,b4,b5⟩,h⟩:=h.h
   simp only at b1 b2 b3 b4 b5 h
   subst b4;subst b5
   rw [O.hln] at b1 b3
   refine ⟨_,_,_,h,(fun q b hq=>by simp at hq;rw [hq.1,hm];exact .inr rfl),(fun k hk=>by cases hk),.of_run fun mem hμ hcr ac N w0 w X ρ m hd=>?_⟩
   have ti:=tys.ok t i ht
   have tj:=tys.ok el j hj
   have hw:=TI.wid_size (sz.one _ _ hj)
   obtain ⟨ji,j1,j2,j3⟩:=tj.inf
   obtain ⟨d2,hd2,hd3⟩:=isSrc_und tys hck.1
   obtain ⟨us,u1,u2,u3,u4,u5⟩:=(src_den (P:=P) hμ m hsrc (hd x (by simp [ho,Op.operands,Call.operands]))).h
   have dx:=hd s (by simp [ho,Op.operands,Call.operands])
   rw [hs] at dx
   obtain ⟨v,hv,hg,hcase⟩:=hμ.rowAt m hm
   obtain ⟨ad,cc,x0,len,cap,e1,e2,e3,e4,e5,e6,e7,e8⟩:=rsl_at dx hv (by rintro b rfl;rcases hcase with ⟨_,h,_⟩ | ⟨_,_,_,_,h,_⟩ <;> cases h)
   have hexec:execOp ac.eval o=(do let v ← Builtin.append_ #[t,t2] o.type #[ac.eval s,ac.eval x];pure (.value v)):=by
    simp [execOp,ho,resolve,invoke,builtin]
   have hlen:len=l.length∧len≤cap:=by
    rcases hcase with ⟨a0,r1,r2⟩ | ⟨b,off,cap',cur,r1,_,_,r4,_⟩
    ·rw [r1] at e3;injection e3 with _ e3 e3';subst r2;simp;omega
    ·rw [r1] at e3;injection e3 with _ e3 e3';omega
   have hpc:p≤cc:=by
    cases c with
    | none=>rw [e6 rfl];omega
    | some m0=>rw [e7 m0 rfl];exact b2
   by_cases h0:ys.length=0
   ·have hys:ys=[]:=List.eq_nil_of_length_eq_zero h0
    subst hys
    have hus:us=[]:=List.eq_nil_of_length_eq_zero (by rw [u1];simp)
    subst hus
    have hr:=run_append_none (P:=P) w t t2 o.type el d2 ji (wid j.shape) (ti.und_slice hk) hd2 hd3 j1 (by rw [j2,hw]) ad nv cc e2 (ac.eval x) u4 (by have:=u5 w 0 rfl (Nat.zero_le _);simpa using this)
    have hsame:∀ q',getM (appU [(q,.row j.shape el' (O.cp l (av+nv) (O.ln []) []))] mem) q'=getM mem q':=by
     intro q'
     simp only [appU,getM_setM]
     split
     ·rename_i hq;rw [hq,hg,O.hln,List.length_nil,cp_nil]
     ·rfl
    refine ⟨_,.slice ad nv cc,w,ρ,?_,.inl rfl,m.congr hsame,?_,?_⟩
    ·rw [hexec,e1]
     simp only [Sem.run_bind,hr,Result.andThen_ok,Sem.run_pure]
    ·rw [forb_congr hsame]
     have:p=nv:=by simpa using b1
     rw [this,← e1]
     exact dx
    ·rw [forb_congr hsame]
     exact Turn.refl _ _ _ _
   ·have hcc:¬ cc=0:=by omega
    obtain ⟨b,off,e8,e9⟩:=e8.resolve_left hcc
    subst e8;subst e9
    rcases hcase with ⟨a0,hc1,rfl⟩ | ⟨b',off',cap',cur,hc1,k1,k2,k3,k4,k5,k6,k7,k8⟩
    ·simp at b3;omega
    ·rw [e3] at hc1
     injection hc1 with hc1 hc2 hc3
     simp only [Option.some.injEq,Addr.mk.injEq,and_true] at hc1
     obtain ⟨rfl,rfl⟩:=hc1
     subst hc2;subst hc3
     have hmul:(av+nv) * wid j.shape=av * wid j.shape+nv * wid j.shape:=Nat.add_mul _ _ _
     obtain ⟨hfit,m',tn⟩:=row_splice (ys:=ys) (us:=us) (a:=av+nv) m hg (by omega) (by rw [hv,e3]) k1 k2 k3 k4 k5 k6 k7 k8 u1 u2 u3 (by omega)
     have hr:=run_append_into (P:=P) w t t2 o.type el d2 ji (wid j.shape) (ti.und_slice hk) hd2 hd3 j1 (by rw [j2,hw]) b (off+av * wid j.shape) nv cc cur el' k2 (ac.eval x) ys.length us u2 u4
      (by have:=u5 w ys.length rfl (Nat.le_refl _);rw [List.take_of_length_le (by omega)] at this;exact this) (by omega) (by omega)
     rw [show off+av * wid j.shape+nv * wid j.shape=off+(av+nv) * wid j.shape by omega] at hr
     refine ⟨_,.slice (some ⟨b,off+av * wid j.shape,none⟩) p cc,_,ρ,?_,.inl rfl,m',?_,tn⟩
     ·rw [hexec,e1,b1]
      simp only [Sem.run_bind,hr,Result.andThen_ok,Sem.run_pure]
     ·refine .rsl _ _ _ _ _ _ _ _ hpc fun q' hq'=>?_
      rw [hv] at hq'
      injection hq' with hq'
      subst hq'
      exact .inl ⟨_,_,_,e3,by omega,e5,e6,e7,.inr ⟨b,off,rfl,rfl⟩⟩
  ·rename_i t s hat har
   obtain rfl:args=#[s]:=by apply Array.ext';simpa using har
   obtain rfl:ats=#[t]:=by apply Array.ext';simpa using hat
   split at h <;> try exact h.elim
   rename_i i ht
   split at h <;> try exact h.elim
   rename_i el q sh av nv c hk hs
   split at h <;> try exact h.elim
   rename_i l hm
   have h:=h.h.2 _ rfl
   refine ⟨_,_,_,h,(fun q b hq=>by simp at hq),(fun k hk=>by cases hk),.of_run fun mem hμ hcr ac N w0 w X ρ m hd=>?_⟩
   have dx:=hd s (by simp [ho,Op.operands,Call.operands])
   rw [hs] at dx
   obtain ⟨v,hv,_,_,hv0,_⟩:=listB_den hμ m hm
   obtain ⟨ad,cc,x0,len,cap,e1,e2,e3,e4,e5,e6,e7,e8⟩:=rsl_at dx hv (by rintro b rfl;cases hv0)
   refine ⟨_,.int .i64 (c:Int),w,ρ,?_,.inl rfl,m,.int _ _ _,Turn.refl _ _ _ _⟩
   simp [execOp,ho,resolve,invoke,builtin,e1,Builtin.cap_,run_underlying ((tys.ok t i ht).und_slice hk),goInt,e7 c rfl]
  ·rename_i t s hat har
   obtain rfl:args=#[s]:=by apply Array.ext';simpa using har
   obtain rfl:ats=#[t]:=by apply Array.ext';simpa using hat
   split at h <;> try exact h.elim
   rename_i i ht
   split at h <;> try exact h.elim
   rename_i el hk
   split at h <;> try exact h.elim
   rename_i j q sh av nv c hj hs
   split at h <;> try exact h.elim
   rename_i s' el' l hm
   split at h <;> try exact h.elim
   rename_i hsh
   simp only [Bool.and_eq_true,Bool.not_eq_true'] at hsh
   have hs1:=shEq_eq hsh.1.1.1
   have hs2:=shEq_eq hsh.1.1.2
   subst hs1;subst hs2
   have hpos:j.size≠0:=by intro h0;rw [h0] at hsh;simp at hsh
   obtain ⟨b3,h⟩:=h
   rw [O.hln] at b3
   refine ⟨_,_,_,h,(fun q b hq=>by simp at hq;rw [hq.1,hm];exact .inr rfl),(fun k hk=>by cases hk),.of_run fun mem hμ hcr ac N w0 w X ρ m hd=>?_⟩
   have ti:=tys.ok t i ht
   have tj:=tys.ok el j hj
   have hw:=TI.wid_size (sz.one _ _ hj)
   have dx:=hd s (by simp [ho,Op.operands,Call.operands])
   rw [hs] at dx
   obtain ⟨v,hv,hg,hcase⟩:=hμ.rowAt m hm
   obtain ⟨ad,cc,x0,len,cap,e1,e2,e3,e4,e5,e6,e7,e8⟩:=rsl_at dx hv (by rintro b rfl;rcases hcase with ⟨_,h,_⟩ | ⟨_,_,_,_,h,_⟩ <;> cases h)
   obtain ⟨z,zr,z2,z3,z4,z5⟩:=tj.zero_run
   have hp:0 < wid j.shape:=by omega
   have hdz:∀ Y ρ,Den w Y ρ j.zero z:=fun Y ρ=>by rw [z2];exact ofValue_den _ _ _ _
   obtain ⟨c1,c2,c3⟩:=chunk_den (sz.one el j hj) hsh.1.2 (hdz (Forb X mem ρ) noEnv)
   have hexec:execOp ac.eval o=(do let v ← Builtin.clear_ #[t] o.type #[ac.eval s];pure (.value v)):=by
    simp [execOp,ho,resolve,invoke,builtin]
   have hrl:(O.rp (nv:Int) j.zero).length=nv:=by rw [O.hrp];simp
   by_cases h0:nv=0
   ·subst h0
    have hnil:O.rp ((0:Nat):Int) j.zero=[]:=List.eq_nil_of_length_eq_zero hrl
    have hsame:∀ q',getM (appU [(q,.row j.shape el' (O.cp l av 0 (O.rp ((0:Nat):Int) j.zero)))] mem) q'=getM mem q':=by
     intro q'
     simp only [appU,getM_setM]
     split
     ·rename_i hq;rw [hq,hg,hnil,cp_nil]
     ·rfl
    refine ⟨_,.tuple #[],w,ρ,?_,.inl rfl,m.congr hsame,.any _ _,?_⟩
    ·rw [hexec,e1]
     cases ad <;> simp [Builtin.clear_,run_underlying (ti.und_slice hk)]
    ·rw [forb_congr hsame]
     exact Turn.refl _ _ _ _
   ·obtain ⟨b,off,e8,e9⟩:=e8.resolve_left (by omega)
    subst e8;subst e9
    rcases hcase with ⟨a0,hc1,rfl⟩ | ⟨b',off',cap',cur,hc1,k1,k2,k3,k4,k5,k6,k7,k8⟩
    ·simp at b3;omega
    ·rw [e3] at hc1
     injection hc1 with hc1 hc2 hc3
     simp only [Option.some.injEq,Addr.mk.injEq,and_true] at hc1
     obtain ⟨rfl,rfl⟩:=hc1
     subst hc2;subst hc3
     have hzz:Builtin.zeroCells z.cells nv=(Array.range (nv * z.cells.size)).map (z.cells[· % z.cells.size]!):=rfl
     obtain ⟨hfit,m',tn⟩:=row_splice (ys:=O.rp (nv:Int) j.zero) (us:=(Builtin.zeroCells z.cells nv).toList) (a:=av) m hg (by omega) (by rw [hv,e3]) k1 k2 k3 k4 k5 k6 k7 k8 (by rw [hzz,hrl];simp;rw [z3,hw])
      (by rw [hzz];exact made_one z4 (by omega) _) (fun i hi=>by
       rw [rp_get,hzz,valAt_made (n:=nv) (by omega) c3 (by omega) _ (by rw [z3,hw];exact Nat.le_refl _)]
       exact hdz _ _) (by omega)
     rw [O.hln,hrl] at m' tn
     have hst:=run_storeCells_at P b (off+av * wid j.shape) el' (Builtin.zeroCells z.cells nv).toList 0 cur w k2 (by omega) (by rw [hzz];exact made_one z4 (by omega) _)
     simp only [Nat.add_zero] at hst
     refine ⟨_,.tuple #[],_,ρ,?_,.inl rfl,m',.any _ _,tn⟩
     rw [hexec,e1]
     obtain ⟨nv',rfl⟩:∃ n',nv=n'+1:=⟨nv - 1,by omega⟩
     simp [Builtin.clear_,run_underlying (ti.und_slice hk),zr w,hst]
 all_goals exact h.elim
end
section
open Go.RowKit
variable {P:Program} {T:Nat→Option TI} {G:Nat→CT→Prop}
structure St where
 slots:List SV
 mem:Mem
def St.ev (s:St):Operand→SV
 | .tmp t=>getN .any s.slots t
 | .const v=>ofValue v
 | .func f=>.clo f []
 | .global g=>(match glob g with | some x=>x | none=>.val (.pointer (some ⟨g,0,none⟩)))
def St.put (s:St) (d:Option Nat) (x:SV):St:=match d with
 | some d=>⟨setN x s.slots d,s.mem⟩
 | none=>s
def isNo:Blk→Bool
 | .no=>true
 | _=>false
def St.fresh (s:St) (d:Nat):Bool:=!(Nat.beq d 0) && Nat.blt d s.slots.length && isNo (getM s.mem d) && noref.norefs d s.slots && memNoref d s.mem
def memB (q:Nat):List Nat→Bool
 | []=>false
 | x::l=>Nat.beq x q || memB q l
theorem memB_iff {q:Nat}:∀ {l:List Nat},memB q l=true ↔ q∈l
 | []=>by simp [memB]
 | x::l=>by
  simp only [memB,Bool.or_eq_true,Nat.beq_eq,memB_iff (l:=l),List.mem_cons]
  exact or_congr_left eq_comm
def idsV:SV→List Nat
 | .ptr r _=>[r]
 | .row r=>[r]
 | .rsl r _ _ _ _=>[r]
 | .rptr r _ _ _=>[r]
 | .obj r=>[r]
 | .agg l=>idsVs l
 | .tup l=>idsVs l
 | .fcl _ l=>idsVs l
 | .cel x=>idsV x
 | _=>[]
where idsVs:List SV→List Nat
 | []=>[]
 | x::l=>idsV x++idsVs l
theorem idsV_noref {q:Nat}:∀ {x:SV},q∈idsV x→noref q x=false
 | .ptr r o,h=>by simp [idsV] at h;simp [noref,h]
 | .row r,h=>by simp [idsV] at h;simp [noref,h]
 | .rsl r _ _ _ _,h=>by simp [idsV] at h;simp [noref,h]
 | .rptr r _ _ _,h=>by simp [idsV] at h;simp [noref,h]
 | .obj r,h=>by simp [idsV] at h;simp [noref,h]
 | .agg l,h=>go (l:=l) h
 | .tup l,h=>go (l:=l) h
 | .fcl _ l,h=>go (l:=l) h
 | .cel x,h=>idsV_noref (x:=x) h
 | .any,h | .bool _,h | .int _ _,h | .str _,h | .lst _ _,h | .nil,h | .eptr _ _ _,h | .clo _ _,h | .val _,h=>by simp [idsV] at h
where go {q:Nat}:∀ {l:List SV},q∈idsV.idsVs l→noref.norefs q l=false
 | [],h=>by simp [idsV.idsVs] at h
 | x::l,h=>by
  simp only [idsV.idsVs,List.mem_append] at h
  simp only [noref.norefs,Bool.and_eq_false_iff]
  rcases h with h | h
  ·exact .inl (idsV_noref h)
  ·exact .inr (go h)
def opIds (e:Operand→SV):List Operand→List Nat
 | []=>[]
 | y::l=>idsV (e y)++opIds e l
theorem opIds_mem {e:Operand→SV} {q:Nat}:∀ {l:List Operand},q∈opIds e l→∃ y∈l,noref q (e y)=false
 | [],h=>by simp [opIds] at h
 | y::l,h=>by
  simp only [opIds,List.mem_append] at h
  rcases h with h | h
  ·exact ⟨y,by simp,idsV_noref h⟩
  ·obtain ⟨z,hz,hn⟩:=opIds_mem h
   exact ⟨z,by simp [hz],hn⟩
inductive Cls where
 | p | r | s | m | w | f
def cls:Op→Cls
 | .load _ _ | .indexAddr _ _ _=>.r
 | .slice _ _ _ _ _ | .index _ _ _ | .convert _ _ _ | .range _ _ | .next _ _=>.s
 | .box _ _ | .alloc _ | .makeSlice _ _ _ | .buildSlice _ _ _ | .makeFunc _ _ _ | .makeMap _ _=>.m
 | .lookup _ _ _ _=>.s
 | .store _ _ _ | .mapUpdate _ _ _ _=>.w
 | .call c=>(match c.callee with | .builtin .min | .builtin .max=>.p | .builtin .len | .builtin .cap=>.r | .builtin .append | .builtin .copy | .builtin .clear=>.w | .value _=>.f | _=>.p)
 | _=>.p
def Cls.reads:Cls→Bool
 | .p=>false
 | _=>true
theorem isO_reads {op:Op} {e:Operand→SV} {μ:Nat→Blk} (h:isO op e μ=true):(cls op).reads=true:=by
 cases op with
 | call c =>
  simp only [isO] at h
  split at h
  ·rename_i hc _
   simp [cls,hc,Cls.reads]
  ·cases h
 | range | next | convert | indexAddr | store=>rfl
 | _=>simp [isO] at h
theorem isP_reads {op:Op} {e:Operand→SV} (h:isP op e=true∨isP2 op e=true):(cls op).reads=true:=by
 cases op with
 | call c =>
  obtain ⟨cal,args,ats⟩:=c
  rcases h with h | h
  ·simp only [isP] at h
   split at h
   ·first | rfl | (rename_i hc _;first | (subst hc;rfl) | (simp only at hc;subst hc;rfl))
   ·first | rfl | (rename_i hc _;first | (subst hc;rfl) | (simp only at hc;subst hc;rfl))
   ·cases h
  ·simp only [isP2] at h
   split at h
   ·first | rfl | (rename_i hc _;first | (subst hc;rfl) | (simp only at hc;subst hc;rfl))
   ·cases h
 | makeMap | lookup | mapUpdate | makeSlice | slice=>rfl
 | _=>rcases h with h | h <;> simp [isP,isP2] at h
def maker (o:Oper):Bool:=match o.op with
 | .range _ _=>true
 | .convert _ _ _=>true
 | _=>(match cls o.op with
  | .m=>true
  | .f=>true
  | .w=>true
  | _=>false)
def isInt:SV→Bool
 | .int _ _=>true
 | _=>false
def seen (R:List Nat) (m:Mem) (q:Nat):Blk:=if memB q R then getM m q else .no
def opV0 (T:Nat→Option TI) (G:Nat→CT→Prop) (o:Oper) (s:St) (R:List Nat) (κ:SV→List (Nat × Blk)→Option Nat→Prop):Prop :=
 match cls o.op with
 | .p=>pval T o.op s.ev (fun x=>κ x [] none)
 | .r=>rvalX T o.op s.ev (seen R s.mem) (fun x=>κ x [] none)
 | .s=>(match o.op with
  | .convert a b x=>if isInt (s.ev x) then pval T (.convert a b x) s.ev (fun x=>κ x [] none) else sval T (.convert a b x) s.ev (seen R s.mem) (fun x=>κ x [] none)
  | op=>sval T op s.ev (seen R s.mem) (fun x=>κ x [] none))
 | .m=>(match o.dst with
  | some d=>mval T d o.op s.ev (seen R s.mem) (fun x U=>κ x U (some d))
  | none=>False)
 | .w=>(match o.op with
  | .call c=>(match c.callee,o.dst with
   | .builtin .append,some d=>wval T (some d) (.call c) s.ev (seen R s.mem) (fun x U=>κ x U (some d))
   | .builtin .copy,d=>wval T d (.call c) s.ev (seen R s.mem) (fun x U=>κ x U none)
   | _,_=>False)
  | .store t x v=>wvalX T none (.store t x v) s.ev (seen R s.mem) (fun x U=>κ x U none)
  | _=>False)
 | .f=>(match o.op with
  | .call c=>callV T G o.dst c s.ev (seen R s.mem) κ
  | _=>False)
noncomputable def opV (T:Nat→Option TI) (G:Nat→CT→Prop) (o:Oper) (s:St) (R:List Nat) (κ:SV→List (Nat × Blk)→Option Nat→Prop):Prop :=
 if isO o.op s.ev (seen R s.mem) then oval T o.dst o.op s.ev (seen R s.mem) κ else
 if isP o.op s.ev then pvO T o.dst o.op s.ev (seen R s.mem) κ else
 if isP2 o.op s.ev then Chp (fun _=>opV0 T G o s R κ) (fun _=>pvO T o.dst o.op s.ev (seen R s.mem) κ) else
 opV0 T G o s R κ
def nrD (d:Option Nat) (x:SV):List Nat→Bool
 | []=>true
 | q::D=>(noref q x || (match d with | some p=>Nat.beq p q | none=>false)) && nrD d x D
def nbD (b:Blk):List Nat→Bool
 | []=>true
 | q::D=>bNoref q b && nbD b D
def nbU (D:List Nat):List (Nat × Blk)→Bool
 | []=>true
 | (_,b)::U=>nbD b D && nbU D U
def freshC (s:St):Option Nat→Bool
 | some d=>s.fresh d
 | none=>true
def writesL (cr:Option Nat):List (Nat × Blk)→List Nat
 | []=>[]
 | (q,_)::U=>(match cr with | some d=>if Nat.beq d q then writesL cr U else q::writesL cr U | none=>q::writesL cr U)
theorem writesL_mem {cr:Option Nat}:∀ {U:List (Nat × Blk)} {q:Nat} {b:Blk},(q,b)∈U→cr=some q∨q∈writesL cr U
 | [],q,b,h=>by simp at h
 | (k,c)::U,q,b,h=>by
  rcases List.mem_cons.1 h with h | h
  ·injection h with h1 h2
   subst h1
   cases cr with
   | none=>right;simp [writesL]
   | some d =>
    by_cases hd:d=q
    ·left;rw [hd]
    ·right;simp [writesL,nbeq,hd]
  ·rcases writesL_mem h with g | g
   ·exact .inl g
   ·right
    cases cr with
    | none=>simp [writesL,g]
    | some d =>
     simp only [writesL]
     split
     ·exact g
     ·simp [g]
abbrev FP:=List Nat × List Nat
def nxt (o:Oper) (s:St) (x:SV) (U:List (Nat × Blk)):St:=⟨(s.put o.dst x).slots,appU U s.mem⟩
def opS (T:Nat→Option TI) (G:Nat→CT→Prop) (D:List Nat) (o:Oper) (s:St) (k:FP→St→Prop):Prop :=
 opV T G o s (opIds s.ev o.op.operands.toList) (fun x U cr=>if freshC s cr && nrD o.dst x D && nbU D U then k (if (cls o.op).reads then opIds s.ev o.op.operands.toList else [],writesL cr U) (nxt o s x U) else False)
def opG (T:Nat→Option TI) (G:Nat→CT→Prop) (D:List Nat) (all:Array Oper) (o:Oper) (s:St) (k:FP→St→Prop):Prop :=
 match o.guard with
 | none=>opS T G D o s k
 | some (j,want)=>(match (all[j]?).bind (·.dst) with
  | some t=>(match getN .any s.slots t,want with
   | .bool b,true=>br b (fun _=>opS T G D o s k) (fun _=>k ([],[]) (s.put o.dst (.val (.tuple #[]))))
   | .bool b,false=>br b (fun _=>k ([],[]) (s.put o.dst (.val (.tuple #[])))) (fun _=>opS T G D o s k)
   | .val (.tuple _),_=>k ([],[]) (s.put o.dst (.val (.tuple #[])))
   | _,_=>False)
  | none=>False)
def hdL:List (List Nat)→List Nat
 | []=>[]
 | a::_=>a
def tlL:List (List Nat)→List (List Nat)
 | []=>[]
 | _::l=>l
theorem hdL_eq (l:List (List Nat)):hdL l=l.getD 0 []:=by cases l <;> rfl
theorem tlL_get (l:List (List Nat)) (i:Nat):(tlL l).getD i []=l.getD (i+1) []:=by cases l <;> simp [tlL]
def opsG (T:Nat→Option TI) (G:Nat→CT→Prop):List (List Nat)→Array Oper→List Oper→List FP→St→(List FP→St→Prop)→Prop
 | _,_,[],fs,s,k=>k fs s
 | D,all,o::l,fs,s,k=>opG T G (hdL D) all o s (fun f s=>opsG T G (tlL D) all l (f::fs) s k)
structure DefOk (N:Nat→Prop) (w:World) (Y:Nat→Prop) (ds:List Deferred):Prop where
 h:∃ Ds:List Nat,ds=Ds.map (fun D=>{ target:=.collected D,args:=#[] })∧Ds.Nodup∧∀ D∈Ds,N D∧¬ Y D∧w.heap[D]?=some (.deferred (some []))
theorem DefOk.nil (N:Nat→Prop) (w:World) (Y:Nat→Prop):DefOk N w Y []:=⟨[],rfl,List.nodup_nil,fun _ h=>by cases h⟩
theorem DefOk.turn {N:Nat→Prop} {w w':World} {Y Y':Nat→Prop} {ρ ρ':Env} {d:Option Nat} {ds:List Deferred} (h:DefOk N w Y ds) (t:Turn w Y ρ w' Y' ρ' d):DefOk N w' Y' ds:=by
 obtain ⟨Ds,h1,h2,h3⟩:=h.h
 refine ⟨Ds,h1,h2,fun D hD=>?_⟩
 obtain ⟨g1,g2,g3⟩:=h3 D hD
 obtain ⟨k1,k2⟩:=t.keep D (heap_lt g3) g2
 exact ⟨g1,k1,k2.trans g3⟩
theorem DefOk.sub {N:Nat→Prop} {w:World} {Y Y':Nat→Prop} {ds:List Deferred} (h:DefOk N w Y ds) (hY:∀ b,Y' b→Y b):DefOk N w Y' ds:=by
 obtain ⟨Ds,h1,h2,h3⟩:=h.h
 exact ⟨Ds,h1,h2,fun D hD=>by obtain ⟨g1,g2,g3⟩:=h3 D hD;exact ⟨g1,fun h=>g2 (hY D h),g3⟩⟩
structure Anc where
 z:Option Value
 fx:Nat→Option Value
 len:Option Nat
 nd:Bool
structure Rep (T:Nat→Option TI) (N:Nat→Prop) (w0:World) (X:Nat→Prop) (z:Anc) (s:St) (a:Act) (w:World) (ρ:Env):Prop where
 m:MRep T N w0 w X s.mem ρ
 defers:DefOk N w (Forb X s.mem ρ) a.defers
 size:a.tmps.size=s.slots.length
 slot:∀ t:Nat,Den w (Forb X s.mem ρ) ρ (getN .any s.slots t) (a.tmps.getD t undef)
 anch:∀ v,z.z=some v→getM s.mem 0≠.no→ρ 0=some v
 fix:∀ t v,z.fx t=some v→a.tmps.getD t undef=v
 len:∀ k,z.len=some k→a.tmps.size=k
 nod:z.nd=true→a.defers=[]
theorem MRep.some0 {N:Nat→Prop} {w0 w:World} {X:Nat→Prop} {mem:Mem} {ρ:Env} (m:MRep T N w0 w X mem ρ) (r:Nat):(getM mem r=.no→ρ r=none)∧(ρ r=none→getM mem r=.no):=by
 have hb:=m.blk r
 constructor
 ·intro h;rw [h] at hb;exact hb
 ·intro h
  rw [h] at hb
  cases hm:getM mem r with
  | no=>rfl
  | chunk t x=>rw [hm] at hb;obtain ⟨_,_,_,_,_,h,_⟩:=hb;cases h
  | row sh e l=>rw [hm] at hb;obtain ⟨_,h,_⟩:=hb;cases h
  | frz sh l=>rw [hm] at hb;obtain ⟨_,h,_⟩:=hb;cases h
  | rowx e l i x=>rw [hm] at hb;obtain ⟨_,_,_,_,h,_⟩:=hb;cases h
  | iter s p=>rw [hm] at hb;obtain ⟨_,h,_⟩:=hb;cases h
  | gen _ _ _=>rw [hm] at hb;obtain ⟨_,_,_,h,_⟩:=hb;cases h
theorem Turn.env0 {w w':World} {Y Y':Nat→Prop} {ρ ρ':Env} {d:Option Nat} (t:Turn w Y ρ w' Y' ρ' d) (h:d≠some 0):ρ' 0=none∨ρ' 0=ρ 0:=by
 rcases t.env 0 with e | e | e
 ·exact .inl e
 ·exact .inr e
 ·exact absurd e h
theorem anch_turn {N:Nat→Prop} {w0 w w':World} {X:Nat→Prop} {mem mem':Mem} {ρ ρ':Env} {z:Option Value} (m:MRep T N w0 w X mem ρ) (m':MRep T N w0 w' X mem' ρ') (h:∀ v,z=some v→getM mem 0≠.no→ρ 0=some v) (t:ρ' 0=none∨ρ' 0=ρ 0) :
  ∀ v,z=some v→getM mem' 0≠.no→ρ' 0=some v:=by
 intro v hz hn
 rcases t with t | t
 ·exact absurd ((m'.some0 0).2 t) hn
 ·rw [t]
  refine h v hz fun h0=>?_
  rw [(m.some0 0).1 h0] at t
  exact hn ((m'.some0 0).2 t)
theorem Rep.ev {N:Nat→Prop} {w0:World} {X:Nat→Prop} {z:Anc} {s:St} {a:Act} {w:World} {ρ:Env} (h:Rep T N w0 X z s a w ρ) (y:Operand):Den w (Forb X s.mem ρ) ρ (s.ev y) (a.eval y):=by
 cases y with
 | tmp t=>exact h.slot t
 | const v=>exact ofValue_den _ _ _ v
 | func f=>exact .clo _ f [] [] rfl (fun i h1 h2=>by simp at h1)
 | global g =>
  simp only [St.ev]
  cases hg:glob g with
  | none=>exact .val _ _
  | some x =>
   obtain ⟨h1,h2⟩:=h.m.gl g x hg
   exact h2.env fun r=>.inr (.inr (plain_noref h1 r))
def gd (all:Array Oper) (o:Oper) (s:St):Option Bool :=
 match o.guard with
 | none=>some true
 | some (j,want)=>(match (all[j]?).bind (·.dst) with
  | some t=>(match getN .any s.slots t with | .bool b=>some (b == want) | .val (.tuple _)=>some false | _=>none)
  | none=>none)
inductive Stp (P:Program) (T:Nat→Option TI) (all:Array Oper) (o:Oper):St→SV→List (Nat × Blk)→Option Nat→FP→Prop
 | skip (s:St) (hg:gd all o s=some false):Stp P T all o s (.val (.tuple #[])) [] none ([],[])
 | run (s:St) (x:SV) (U:List (Nat × Blk)) (cr:Option Nat) (f:FP) (e:Operand→SV) (μ:Nat→Blk) (hg:gd all o s=some true) (he:∀ y∈o.op.operands,s.ev y=e y)
   (hμ:∀ q,μ q=.no∨(q∈f.1∧μ q=getM s.mem q)) (hR:∀ q∈f.1,∃ y∈o.op.operands,noref q (e y)=false) (hU:∀ q b,(q,b)∈U→cr=some q∨(q∈f.1∧q∈f.2))
   (hc:∀ d,cr=some d→o.dst=some d∧s.fresh d=true∧maker o=true) (h:Eff P T o e μ x U cr):Stp P T all o s x U cr f
def Chain (P:Program) (T:Nat→Option TI):List (List Nat)→Array Oper→List Oper→List FP→St→(List FP→St→Prop)→Prop
 | _,_,[],fs,s,k=>k fs s
 | D,all,o::l,fs,s,k=>∃ x U cr f,Stp P T all o s x U cr f∧nrD o.dst x (hdL D)=true∧nbU (hdL D) U=true∧Chain P T (tlL D) all l (f::fs) (nxt o s x U) k
structure Tab (P:Program) (T:Nat→Option TI):Prop where
 tys:Types P T
 sz:Sizes T
 cl:Closed T
 z:∀ t i,T t=some i→∀ d,noref d i.zero=true
 mp:∀ t m,mapT t=some m→MapOk P t m
theorem opV0_eff (tab:Tab P T) (hG:∀ f c,G f c→ACall P T f c) {o:Oper} {s:St} {R:List Nat} {κ:SV→List (Nat × Blk)→Option Nat→Prop} (h:opV0 T G o s R κ) :
  ∃ x U cr,κ x U cr∧(∀ q b,(q,b)∈U→cr=some q∨(seen R s.mem q).own=true)∧(∀ k,cr=some k→o.dst=some k∧maker o=true)∧((cls o.op).reads=false→U=[]∧cr=none∧∀ μ,Eff P T o s.ev μ x U cr)∧Eff P T o s.ev (seen R s.mem) x U cr:=by
 have pure:∀ {x:SV},((cls o.op).reads=false→∀ μ,Eff P T o s.ev μ x [] none)→Eff P T o s.ev (seen R s.mem) x [] none→κ x [] none→∃ x U cr,κ x U cr∧(∀ q b,(q,b)∈U→cr=some q∨(seen R s.mem q).own=true)∧(∀ k,cr=some k→o.dst=some k∧maker o=true)∧((cls o.op).reads=false→U=[]∧cr=none∧∀ μ,Eff P T o s.ev μ x U cr)∧Eff P T o s.ev (seen R s.mem) x U cr :=
  fun hμ he hk=>⟨_,[],none,hk,(fun q b h=>by simp at h),(fun k h=>by cases h),(fun h=>⟨rfl,rfl,hμ h⟩),he⟩
 unfold opV0 at h
 have mk:∀ {c:Cls},cls o.op=c→(c=.m∨c=.f∨c=.w)→maker o=true:=by
  intro c h1 h2
  unfold maker
  split
  ·rfl
  ·rfl
  ·rw [h1]
   rcases h2 with rfl | rfl | rfl <;> rfl
 cases hc:cls o.op with
 | p =>
  simp only [hc] at h
  obtain ⟨x,hx,hp⟩:=pval_ok tab.tys tab.sz tab.cl h
  exact hc ▸ pure (fun _ μ=>hp.eff μ) (hp.eff _) hx
 | r =>
  simp only [hc] at h
  obtain ⟨x,hx,hr⟩:=rvalX_ok tab.tys tab.sz h
  exact hc ▸ pure (fun h=>by rw [hc] at h;cases h) hr.eff hx
 | s =>
  simp only [hc] at h
  split at h
  ·rename_i a b x ho
   split at h
   ·rw [← ho] at h
    obtain ⟨x,hx,hp⟩:=pval_ok tab.tys tab.sz tab.cl h
    exact hc ▸ pure (fun h=>by rw [hc] at h;cases h) (hp.eff _) hx
   ·rw [← ho] at h
    obtain ⟨x,hx,hr⟩:=sval_ok tab.tys tab.sz h
    exact hc ▸ pure (fun h=>by rw [hc] at h;cases h) hr.eff hx
  ·obtain ⟨x,hx,hr⟩:=sval_ok tab.tys tab.sz h
   exact hc ▸ pure (fun h=>by rw [hc] at h;cases h) hr.eff hx
 | m =>
  simp only [hc] at h
  cases hd:o.dst with
  | none=>simp only [hd] at h
  | some d =>
   simp only [hd] at h
   obtain ⟨x,U,hx,hU,he⟩:=mval_ok (P:=P) tab.tys tab.sz tab.z h
   exact ⟨x,U,some d,hx,(fun q b hq=>(hU q b hq).imp (fun e=>by rw [e]) id),(fun k hk=>by injection hk with hk;subst hk;exact ⟨rfl,mk hc (by simp)⟩),(fun h=>by cases h),he⟩
 | w =>
  simp only [hc] at h
  split at h
  ·rename_i c ho
   split at h
   ·rename_i d hcal hd
    obtain ⟨x,U,hx,hU,he⟩:=append_ok (P:=P) tab.tys tab.sz hcal ho h
    exact ⟨x,U,some d,hx,(fun q b hq=>(hU q b hq).imp (fun e=>by rw [e]) id),(fun k hk=>by injection hk with hk;subst hk;exact ⟨hd,mk hc (by simp)⟩),(fun h=>by cases h),he⟩
   ·rename_i hcal
    obtain ⟨x,U,hx,hU,he⟩:=copy_ok (P:=P) tab.tys tab.sz hcal ho h
    exact ⟨x,U,none,hx,(fun q b hq=>.inr (hU q b hq)),(fun k hk=>by cases hk),(fun h=>by cases h),he⟩
   ·exact h.elim
  ·rename_i t x v ho
   obtain ⟨x,U,hx,hU,he⟩:=storeX_ok (P:=P) tab.tys tab.sz ho h
   exact ⟨x,U,none,hx,(fun q b hq=>.inr (hU q b hq)),(fun k hk=>by cases hk),(fun h=>by cases h),he⟩
  ·exact h.elim
 | f =>
  simp only [hc] at h
  split at h
  ·rename_i c ho
   obtain ⟨x,U,cr,hx,hU,hcr,he⟩:=call_ok hG ho h
   exact ⟨x,U,cr,hx,hU,(fun k hk=>⟨hcr k hk,mk hc (by simp)⟩),(fun h=>by cases h),he⟩
  ·exact h.elim
theorem opV_eff (tab:Tab P T) (hG:∀ f c,G f c→ACall P T f c) {o:Oper} {s:St} {R:List Nat} {κ:SV→List (Nat × Blk)→Option Nat→Prop} (h:opV T G o s R κ) :
  ∃ x U cr,κ x U cr∧(∀ q b,(q,b)∈U→cr=some q∨(seen R s.mem q).own=true)∧(∀ k,cr=some k→o.dst=some k∧maker o=true)∧((cls o.op).reads=false→U=[]∧cr=none∧∀ μ,Eff P T o s.ev μ x U cr)∧Eff P T o s.ev (seen R s.mem) x U cr:=by
 have room:(isP o.op s.ev=true∨isP2 o.op s.ev=true)→pvO T o.dst o.op s.ev (seen R s.mem) κ→∃ x U cr,κ x U cr∧(∀ q b,(q,b)∈U→cr=some q∨(seen R s.mem q).own=true)∧(∀ k,cr=some k→o.dst=some k∧maker o=true)∧((cls o.op).reads=false→U=[]∧cr=none∧∀ μ,Eff P T o s.ev μ x U cr)∧Eff P T o s.ev (seen R s.mem) x U cr:=by
  intro hi h
  obtain ⟨x,U,cr,hx,hU,hcr,he⟩:=pvO_ok tab.tys tab.sz tab.mp h
  refine ⟨x,U,cr,hx,hU,(fun k hk=>⟨(hcr k hk).1,?_⟩),(fun hr=>?_),he⟩
  ·rcases (hcr k hk).2 with ⟨a,e⟩ | ⟨a,b,c,e⟩ <;> simp [maker,cls,e]
  ·rw [isP_reads hi] at hr;cases hr
 unfold opV at h
 split at h
 ·rename_i hi
  obtain ⟨x,U,cr,hx,hU,hcr,he⟩:=oval_ok tab.tys tab.sz hi h
  refine ⟨x,U,cr,hx,hU,(fun k hk=>⟨(hcr k hk).1,?_⟩),(fun hr=>?_),he⟩
  ·rcases (hcr k hk).2 with ⟨a,b,e⟩ | ⟨a,b,c,e⟩ <;> simp [maker,e]
  ·rw [isO_reads hi] at hr;cases hr
 ·split at h
  ·rename_i hi;exact room (.inl hi) h
  ·split at h
   ·rename_i hi
    rcases h.h with h | h
    ·exact opV0_eff tab hG h
    ·exact room (.inr hi) h
   ·exact opV0_eff tab hG h
theorem seen_own {R:List Nat} {m:Mem} {q:Nat} (h:(seen R m q).own=true):q∈R:=by
 unfold seen at h
 split at h
 ·rename_i hq;exact memB_iff.1 hq
 ·simp [Blk.own] at h
theorem opS_res (tab:Tab P T) (hG:∀ f c,G f c→ACall P T f c) {D:List Nat} {all:Array Oper} {o:Oper} {s:St} {k:FP→St→Prop} (hg:gd all o s=some true) (h:opS T G D o s k) :
  ∃ x U cr f,Stp P T all o s x U cr f∧nrD o.dst x D=true∧nbU D U=true∧k f (nxt o s x U):=by
 obtain ⟨x,U,cr,hk,hU,hcr,hp,he⟩:=opV_eff tab hG h
 split at hk
 case isFalse=>exact hk.elim
 rename_i hc
 simp only [Bool.and_eq_true] at hc
 obtain ⟨⟨c1,c2⟩,c3⟩:=hc
 have hfr:∀ d,cr=some d→o.dst=some d∧s.fresh d=true∧maker o=true:=by
  intro d hd
  subst hd
  exact ⟨(hcr d rfl).1,c1,(hcr d rfl).2⟩
 refine ⟨x,U,cr,_,?_,c2,c3,hk⟩
 cases hr:(cls o.op).reads with
 | true =>
  refine .run s x U cr _ s.ev (seen (opIds s.ev o.op.operands.toList) s.mem) hg (fun _ _=>rfl) (fun q=>?_) (fun q hq=>?_) (fun q b hq=>?_) hfr he
  ·unfold seen
   split
   ·rename_i hq;exact .inr ⟨memB_iff.1 hq,rfl⟩
   ·exact .inl rfl
  ·obtain ⟨y,hy,hn⟩:=opIds_mem hq
   exact ⟨y,by simpa using hy,hn⟩
  ·rcases writesL_mem (cr:=cr) hq with g | g
   ·exact .inl g
   ·rcases hU q b hq with g' | g'
    ·exact .inl g'
    ·exact .inr ⟨seen_own g',g⟩
 | false =>
  obtain ⟨rfl,rfl,hp⟩:=hp hr
  exact .run s x [] none _ s.ev (fun _=>.no) hg (fun _ _=>rfl) (fun q=>.inl rfl) (fun q hq=>by simp at hq) (fun q b hq=>by simp at hq) hfr (hp _)
theorem nrD_skip (d:Option Nat):∀ D,nrD d (.val (.tuple #[])) D=true
 | []=>by simp [nrD]
 | q::D=>by simp [nrD,noref,nrD_skip d D]
theorem nxt_skip (o:Oper) (s:St):nxt o s (.val (.tuple #[])) []=s.put o.dst (.val (.tuple #[])):=by unfold nxt St.put;cases o.dst <;> rfl
theorem opG_res (tab:Tab P T) (hG:∀ f c,G f c→ACall P T f c) {D:List Nat} {all:Array Oper} {o:Oper} {s:St} {k:FP→St→Prop} (h:opG T G D all o s k) :
  ∃ x U cr f,Stp P T all o s x U cr f∧nrD o.dst x D=true∧nbU D U=true∧k f (nxt o s x U):=by
 unfold opG at h
 cases hg:o.guard with
 | none =>
  simp only [hg] at h
  exact opS_res tab hG (by simp [gd,hg]) h
 | some jw =>
  obtain ⟨j,want⟩:=jw
  simp only [hg] at h
  cases ht:(all[j]?).bind (·.dst) with
  | none=>simp only [ht] at h
  | some t =>
   simp only [ht] at h
   cases hx:getN SV.any s.slots t with
   | bool b =>
    simp only [hx] at h
    have skip:gd all o s=some false→k ([],[]) (s.put o.dst (.val (.tuple #[])))→∃ x U cr f,Stp P T all o s x U cr f∧nrD o.dst x D=true∧nbU D U=true∧k f (nxt o s x U) :=
     fun hg hk=>⟨.val (.tuple #[]),[],none,([],[]),.skip s hg,nrD_skip _ D,rfl,by rw [nxt_skip];exact hk⟩
    cases want <;> cases b <;> simp only [br] at h
    ·exact opS_res tab hG (by simp [gd,hg,ht,hx]) h
    ·exact skip (by simp [gd,hg,ht,hx]) h
    ·exact skip (by simp [gd,hg,ht,hx]) h
    ·exact opS_res tab hG (by simp [gd,hg,ht,hx]) h
   | val v =>
    cases v with
    | tuple us =>
     simp only [hx] at h
     exact ⟨.val (.tuple #[]),[],none,([],[]),.skip s (by simp [gd,hg,ht,hx]),nrD_skip _ D,rfl,by rw [nxt_skip];exact h⟩
    | _=>simp only [hx] at h
   | _=>simp only [hx] at h
theorem opsG_chain (tab:Tab P T) (hG:∀ f c,G f c→ACall P T f c) {all:Array Oper}:∀ (l:List Oper) (D:List (List Nat)) (fs:List FP) (s:St) (k:List FP→St→Prop),opsG T G D all l fs s k→Chain P T D all l fs s k
 | [],D,fs,s,k,h=>by unfold opsG at h;unfold Chain;exact h
 | o::l,D,fs,s,k,h=>by
  unfold opsG at h
  obtain ⟨x,U,cr,f,h1,h2,h3,h4⟩:=opG_res tab hG h
  unfold Chain
  exact ⟨x,U,cr,f,h1,h2,h3,opsG_chain tab hG l _ _ _ k h4⟩
theorem wanted_gd {N:Nat→Prop} {w0:World} {X:Nat→Prop} {z:Anc} {s:St} {a:Act} {w:World} {ρ:Env} (h:Rep T N w0 X z s a w ρ) {all:Array Oper} {o:Oper} {b:Bool} (hg:gd all o s=some b):Region.wanted o (yielded all a.tmps)=b:=by
 unfold gd at hg
 unfold Region.wanted
 cases ho:o.guard with
 | none=>simp only [ho] at hg ⊢;injection hg
 | some jw =>
  obtain ⟨j,want⟩:=jw
  simp only [ho] at hg ⊢
  cases ht:(all[j]?).bind (·.dst) with
  | none=>simp only [ht] at hg;cases hg
  | some t =>
   simp only [ht] at hg
   cases hx:getN SV.any s.slots t with
   | bool c =>
    simp only [hx] at hg
    injection hg with hg
    have hd:=h.slot t
    rw [hx,Den.bool_iff] at hd
    have ht':a.tmps[t]?=some (.bool c):=by
     cases hq:a.tmps[t]? with
     | none=>simp [hq,undef] at hd
     | some v=>simp [hq] at hd;rw [hd]
    simp only [yielded,ht,Option.bind_some,ht',← hg]
    cases c <;> cases want <;> rfl
   | val v =>
    cases v with
    | tuple us =>
     simp only [hx] at hg
     injection hg with hg
     have hd:=h.slot t
     rw [hx] at hd
     generalize hq:a.tmps.getD t undef=q at hd
     cases hd
     have ht':yielded all a.tmps j=none:=by
      cases hq':a.tmps[t]? with
      | none=>simp only [yielded,ht,Option.bind_some,hq']
      | some v=>simp [hq'] at hq;simp only [yielded,ht,Option.bind_some,hq',hq]
     rw [ht',← hg]
     rfl
    | _=>simp only [hx] at hg;cases hg
   | _=>simp only [hx] at hg;cases hg
theorem norefs_getN {r:Nat}:∀ {l:List SV},noref.norefs r l=true→∀ t,noref r (getN .any l t)=true
 | [],_,t=>by simp [getN,noref]
 | x::l,h,0=>by simp [noref.norefs] at h;simpa [getN] using h.1
 | x::l,h,t+1=>by simp [noref.norefs] at h;simpa [getN] using norefs_getN h.2 t
theorem Rep.put {N:Nat→Prop} {w0:World} {X:Nat→Prop} {z:Anc} {s:St} {a:Act} {w w':World} {ρ ρ':Env} (h:Rep T N w0 X z s a w ρ) {dst d:Option Nat} {x:SV} {u:Value} {mem':Mem}
  (m':MRep T N w0 w' X mem' ρ') (hx:Den w' (Forb X mem' ρ') ρ' x u) (t:Turn w (Forb X s.mem ρ) ρ w' (Forb X mem' ρ') ρ' d) (hn:∀ q,d=some q→∀ t:Nat,noref q (getN .any s.slots t)=true) (h00:d≠some 0) (hfx:∀ q,dst=some q→z.fx q=none) :
  Rep T N w0 X z ⟨(s.put dst x).slots,mem'⟩ (a.put dst u) w' ρ':=by
 refine ⟨m',?_,?_,fun k=>?_,anch_turn h.m m' h.anch (t.env0 h00),fun k v hk=>?_,fun k hk=>?_,fun hnd=>by cases dst <;> exact h.nod hnd⟩
 rotate_left 3
 ·have old:=h.fix k v hk
  cases dst with
  | none=>exact old
  | some q =>
   have hne:q≠k:=by rintro rfl;rw [hfx q rfl] at hk;cases hk
   simp only [Act.put]
   rw [← old]
   simp [Array.getElem?_setIfInBounds_ne hne]
 ·have old:=h.len k hk
  cases dst with
  | none=>exact old
  | some q=>simp only [Act.put,Array.size_setIfInBounds];exact old
 ·have:=h.defers.turn t
  cases dst <;> exact this
 ·cases dst with
  | none=>exact h.size
  | some q=>simp only [Act.put,St.put,Array.size_setIfInBounds,setN_length];exact h.size
 ·have old:=t.den (fun q hq=>hn q hq k) (h.slot k)
  cases dst with
  | none=>exact old
  | some q =>
   simp only [St.put,Act.put]
   by_cases hq:q < s.slots.length
   ·rw [getN_setN _ _ _ _ _ hq]
    by_cases hk:k=q
    ·subst hk
     rw [if_pos rfl]
     have hk':k < a.tmps.size:=by rw [h.size];exact hq
     simpa [hk'] using hx
    ·rw [if_neg hk]
     have:(a.tmps.setIfInBounds q u).getD k undef=a.tmps.getD k undef:=by simp [Array.getElem?_setIfInBounds_ne (Ne.symm hk)]
     rw [this]
     exact old
   ·have e1:setN x s.slots q=s.slots:=by rw [setN_eq,List.set_eq_of_length_le (by omega)]
    rw [e1]
    have:(a.tmps.setIfInBounds q u).getD k undef=a.tmps.getD k undef:=by
     rw [Array.setIfInBounds_eq_of_size_le (by rw [h.size];omega)]
    rw [this]
    exact old
def Step1 (r:Option Nat) (n:Nat) (P:Program) (all:Array Oper) (o:Oper) (K:Act→World→Prop) (Q:Exit→Act→World→Prop) (a:Act) (w:World):Prop :=
 if Region.wanted o (yielded all a.tmps) then o.wpIn (FR r) n P a w K Q else (∀ f,o.about P w a.eval=some f→(FR r).fn f)∧K (a.put o.dst undef) w
theorem ofValue_noref (d:Nat) (v:Value):noref d (ofValue v)=true:=by
 unfold ofValue
 split
 ·rename_i cs
  show noref.norefs d (cs.toList.map ofAtom)=true
  generalize cs.toList=l
  induction l with
  | nil=>rfl
  | cons v l ih =>
   simp only [List.map_cons,noref.norefs,ih,Bool.and_true]
   unfold ofAtom
   split <;> rfl
 ·unfold ofAtom
  split <;> rfl
theorem noref_ev {s:St} {d:Nat} (h:noref.norefs d s.slots=true) (y:Operand):noref d (s.ev y)=true:=by
 cases y with
 | tmp t=>exact norefs_getN h t
 | const v=>exact ofValue_noref d v
 | func f=>rfl
 | global g =>
  simp only [St.ev]
  split
  ·rename_i h;exact glob_noref h d
  ·rfl
theorem fresh_ne {s:St} {d:Nat} (h:s.fresh d=true):d≠0:=by rintro rfl;simp [St.fresh] at h
theorem fresh_iff0 {s:St} {d:Nat}:s.fresh d=true ↔ d≠0∧d < s.slots.length∧getM s.mem d=.no∧noref.norefs d s.slots=true∧memNoref d s.mem=true:=by
 unfold St.fresh
 simp only [Bool.and_eq_true,Nat.blt_eq,Bool.not_eq_true']
 constructor
 ·rintro ⟨⟨⟨⟨f0,f1⟩,f2⟩,f3⟩,f4⟩
  refine ⟨fun h=>by subst h;simp at f0,f1,?_,f3,f4⟩
  cases hm:getM s.mem d <;> simp_all [isNo]
 ·rintro ⟨f0,f1,f2,f3,f4⟩
  exact ⟨⟨⟨⟨by cases h:Nat.beq d 0;rfl;exact absurd (nbeq.1 h) f0,f1⟩,by rw [f2];rfl⟩,f3⟩,f4⟩
theorem fresh_iff {s:St} {d:Nat} (h0:d≠0):s.fresh d=true ↔ d < s.slots.length∧getM s.mem d=.no∧noref.norefs d s.slots=true∧memNoref d s.mem=true:=by
 rw [fresh_iff0]
 exact ⟨fun h=>h.2,fun h=>⟨h0,h⟩⟩
theorem Stp.sound {all:Array Oper} {o:Oper} {s:St} {x:SV} {U:List (Nat × Blk)} {cr:Option Nat} {f:FP} (hr:Stp P T all o s x U cr f) {N:Nat→Prop} {w0:World} {X:Nat→Prop} {z:Anc} {a:Act} {w:World} {ρ:Env} (h:Rep T N w0 X z s a w ρ)
  {K:Act→World→Prop} {Q:Exit→Act→World→Prop} (hK:∀ a' w' ρ',Rep T N w0 X z (nxt o s x U) a' w' ρ'→K a' w') (hfx:∀ q,o.dst=some q→z.fx q=none) (ro:Option Nat) (nn:Nat):Step1 ro nn P all o K Q a w:=by
 unfold Step1
 cases hr with
 | skip hg =>
  rw [wanted_gd h hg]
  simp only [Bool.false_eq_true,if_false]
  refine ⟨fun _ _=>trivial,?_⟩
  exact hK _ _ ρ (h.put (dst:=o.dst) (x:=.val (.tuple #[])) (u:=undef) h.m (.val _ _) (Turn.refl _ _ _ none) (fun q hq=>by cases hq) (by simp) hfx)
 | run _ _ _ _ e μ hg he hμ hR hU hc hd =>
  rw [wanted_gd h hg,if_pos rfl]
  refine hd.h s.mem (fun q=>(hμ q).imp id And.right) (fun d hcr=>?_) a N w0 w X ρ h.m (fun y hy=>by rw [← he y hy];exact h.ev y) K Q (fun u w' ρ' m' hx t=>?_) ro nn
  ·obtain ⟨f1,f2,f3,f4⟩:=(fresh_iff (fresh_ne (hc d hcr).2.1)).1 (hc d hcr).2.1
   exact ⟨f2,f4,fun y hy=>by rw [← he y hy];exact noref_ev f3 y⟩
  ·refine hK _ _ ρ' (h.put m' hx t (fun q hq k=>?_) (fun h0=>?_) ?_)
   ·exact norefs_getN ((fresh_iff (fresh_ne (hc q hq).2.1)).1 (hc q hq).2.1).2.2.1 k
   ·have:=(hc 0 h0).2.1
    simp [St.fresh] at this
   ·exact hfx
end
section
open Go.RowKit
variable {P:Program} {T:Nat→Option TI} {G:Nat→CT→Prop} {D:List Nat} {all:Array Oper}
theorem nrD_get {d:Option Nat} {x:SV}:∀ {D:List Nat},nrD d x D=true→∀ q∈D,d≠some q→noref q x=true
 | [],_,q,h,_=>by simp at h
 | p::D,hn,q,hq,hd=>by
  simp only [nrD,Bool.and_eq_true,Bool.or_eq_true] at hn
  rcases List.mem_cons.1 hq with rfl | hq
  ·rcases hn.1 with h | h
   ·exact h
   ·cases d with
    | none=>simp at h
    | some p=>simp only at h;exact absurd (by rw [Nat.eq_of_beq_eq_true h]) hd
  ·exact nrD_get hn.2 q hq hd
theorem nbD_get {b:Blk}:∀ {D:List Nat},nbD b D=true→∀ q∈D,bNoref q b=true
 | [],_,q,h=>by simp at h
 | p::D,hn,q,hq=>by
  simp only [nbD,Bool.and_eq_true] at hn
  rcases List.mem_cons.1 hq with rfl | hq
  ·exact hn.1
  ·exact nbD_get hn.2 q hq
theorem nbU_get:∀ {U:List (Nat × Blk)},nbU D U=true→∀ q b,(q,b)∈U→∀ d∈D,bNoref d b=true
 | [],_,q,b,h,_,_=>by simp at h
 | (k,c)::U,hn,q,b,h,d,hd=>by
  simp only [nbU,Bool.and_eq_true] at hn
  rcases List.mem_cons.1 h with h | h
  ·injection h with h1 h2;subst h2;exact nbD_get hn.1 d hd
  ·exact nbU_get hn.2 q b h d hd
theorem ev_put {s:St} {dst:Option Nat} {x:SV} {m:Mem} {y:Operand} (h:∀ d,dst=some d→y≠.tmp d):(⟨(s.put dst x).slots,m⟩:St).ev y=s.ev y:=by
 cases dst with
 | none=>cases y <;> rfl
 | some d =>
  cases y with
  | tmp t =>
   simp only [St.ev,St.put]
   by_cases hd:d < s.slots.length
   ·rw [getN_setN _ _ _ _ _ hd,if_neg (fun e=>h d rfl (by rw [e]))]
   ·rw [setN_eq,List.set_eq_of_length_le (by omega)]
  | _=>rfl
theorem looks_op {o:Oper} {y:Operand} {d:Nat} (h:d ∉ o.looksAt all) (hy:y∈o.op.operands):y≠.tmp d:=by
 rintro rfl
 exact h (List.mem_append_left _ (List.mem_filterMap.2 ⟨.tmp d,by simpa using hy,rfl⟩))
theorem gd_put {s:St} {dst:Option Nat} {x:SV} {m:Mem} {o:Oper} (h:∀ d,dst=some d→d ∉ o.looksAt all):gd all o ⟨(s.put dst x).slots,m⟩=gd all o s:=by
 unfold gd
 cases hg:o.guard with
 | none=>rfl
 | some jw =>
  obtain ⟨j,want⟩:=jw
  simp only
  cases ht:(all[j]?).bind (·.dst) with
  | none=>rfl
  | some t =>
   simp only
   have:getN SV.any (s.put dst x).slots t=getN SV.any s.slots t:=by
    cases dst with
    | none=>rfl
    | some d =>
     have hne:t≠d:=fun e=>h d rfl (by subst e;simp [Oper.looksAt,hg,ht])
     simp only [St.put]
     by_cases hd:d < s.slots.length
     ·rw [getN_setN _ _ _ _ _ hd,if_neg hne]
     ·rw [setN_eq,List.set_eq_of_length_le (by omega)]
   rw [this]
theorem norefs_iff {d:Nat}:∀ {l:List SV},noref.norefs d l=true ↔ ∀ t,noref d (getN .any l t)=true
 | []=>by simp [noref.norefs,getN,noref]
 | x::l=>by
  constructor
  ·intro h t;exact norefs_getN h t
  ·intro h
   simp only [noref.norefs,Bool.and_eq_true]
   exact ⟨h 0,norefs_iff.2 fun t=>h (t+1)⟩
theorem put_len (s:St) (d:Option Nat) (x:SV):(s.put d x).slots.length=s.slots.length:=by
 cases d <;> simp [St.put,setN_length]
theorem getN_put (s:St) (d:Option Nat) (x:SV) (t:Nat):getN SV.any (s.put d x).slots t=getN SV.any s.slots t∨(d=some t∧getN SV.any (s.put d x).slots t=x):=by
 cases d with
 | none=>exact .inl rfl
 | some q =>
  simp only [St.put]
  by_cases hq:q < s.slots.length
  ·rw [getN_setN _ _ _ _ _ hq]
   by_cases ht:t=q
   ·subst ht;exact .inr ⟨rfl,by rw [if_pos rfl]⟩
   ·rw [if_neg ht];exact .inl rfl
  ·rw [setN_eq,List.set_eq_of_length_le (by omega)];exact .inl rfl
theorem appU_set {q:Nat} {b:Blk}:∀ {U:List (Nat × Blk)} {m:Mem},(∀ q' b',(q',b')∈U→q≠q')→appU U (setM b m q)=setM b (appU U m) q
 | [],_,_=>rfl
 | (q',b')::U,m,h=>by
  simp only [appU]
  rw [setM_comm b' b m q' q (Ne.symm (h q' b' (by simp))),appU_set (fun q'' b'' h'=>h q'' b'' (by simp [h']))]
theorem appU_comm:∀ {U V:List (Nat × Blk)} {m:Mem},(∀ q b q' b',(q,b)∈U→(q',b')∈V→q≠q')→appU U (appU V m)=appU V (appU U m)
 | [],_,_,_=>rfl
 | (q,b)::U,V,m,h=>by
  simp only [appU]
  rw [← appU_set (fun q' b' h'=>h q b q' b' (by simp) h'),appU_comm (fun q b q' b' h1 h2=>h q b q' b' (by simp [h1]) h2)]
theorem men_out {o:Oper} {e:Operand→SV} {s:St} {q:Nat} (hq:∃ y∈o.op.operands,noref q (e y)=false) (he:∀ y∈o.op.operands,s.ev y=e y) (h:noref.norefs q s.slots=true):False:=by
 obtain ⟨y,hy,hn⟩:=hq
 rw [← he y hy,noref_ev h] at hn
 cases hn
structure Port (P:Program) (T:Nat→Option TI) (all:Array Oper) (o:Oper) (s:St) (x:SV) (U:List (Nat × Blk)) (cr:Option Nat) (f:FP):Prop where
 crs:∀ d,cr=some d→o.dst=some d∧s.fresh d=true∧maker o=true
 upd:∀ q b,(q,b)∈U→cr=some q∨(q∈f.1∧q∈f.2)
 men:∀ q∈f.1,∃ y∈o.op.operands,noref q (s.ev y)=false
 go:∀ s0:St,(∀ y∈o.op.operands,s0.ev y=s.ev y)→gd all o s0=gd all o s→(∀ q∈f.1,getM s0.mem q=getM s.mem q)→(∀ d,cr=some d→s0.fresh d=true)→Stp P T all o s0 x U cr f
theorem port {o:Oper} {s:St} {x:SV} {U:List (Nat × Blk)} {cr:Option Nat} {f:FP} (h:Stp P T all o s x U cr f):Port P T all o s x U cr f:=by
 cases h with
 | skip hg=>exact ⟨(fun d h=>by cases h),(fun q b h=>by simp at h),(fun q h=>by simp at h),fun s0 _ hg0 _ _=>.skip s0 (by rw [hg0];exact hg)⟩
 | run _ _ _ _ e μ hg he hμ hR hU hc h =>
  refine ⟨hc,hU,fun q hq=>?_,fun s0 hev hg0 hm hf=>?_⟩
  ·obtain ⟨y,hy,hn⟩:=hR q hq
   exact ⟨y,hy,by rw [he y hy];exact hn⟩
  ·exact .run s0 x U cr f e μ (by rw [hg0];exact hg) (fun y hy=>by rw [hev y hy];exact he y hy) (fun q=>(hμ q).imp id fun ⟨h1,h2⟩=>⟨h1,by rw [hm q h1];exact h2⟩) hR hU (fun d hd=>⟨(hc d hd).1,hf d hd,(hc d hd).2.2⟩) h
theorem swap {oj oi:Oper} {s:St} {xj xi:SV} {Uj Ui:List (Nat × Blk)} {cj ci:Option Nat} {fj fi:FP} (h1:Stp P T all oj s xj Uj cj fj) (h2:Stp P T all oi (nxt oj s xj Uj) xi Ui ci fi) (hap:oj.apart all oi=true)
  (hW1:∀ q∈fj.2,q ∉ fi.1) (hW2:∀ q∈fi.2,q ∉ fj.1) (hM:∀ d,maker oi=true→oi.dst=some d→memNoref d s.mem=true) (nri:nrD oi.dst xi D=true) (nbi:nbU D Ui=true)
  (hDj:∀ d,maker oj=true→oj.dst=some d→d∈D) (hclean:∀ q d,maker oi=true→oi.dst=some q→oj.dst=some d→noref q (getN SV.any s.slots d)=true) :
  Stp P T all oi s xi Ui ci fi∧Stp P T all oj (nxt oi s xi Ui) xj Uj cj fj∧nxt oj (nxt oi s xi Ui) xj Uj=nxt oi (nxt oj s xj Uj) xi Ui:=by
 obtain ⟨a1,a2,a3⟩:=Oper.apart_spec hap
 have pj:=port h1
 have pi:=port h2
 have evi:∀ y∈oi.op.operands,(nxt oj s xj Uj).ev y=s.ev y:=fun y hy=>ev_put (fun d hd=>looks_op (a1 d hd) hy)
 have gdi:gd all oi (nxt oj s xj Uj)=gd all oi s:=gd_put a1
 have slots:∀ d,ci=some d→noref.norefs d s.slots=true:=by
  intro d hc
  obtain ⟨hd,hf,hmk⟩:=pi.crs d hc
  obtain ⟨f1,f3,f4,f5⟩:=(fresh_iff (fresh_ne hf)).1 hf
  refine norefs_iff.2 fun t=>?_
  rcases getN_put s oj.dst xj t with e | ⟨e,_⟩
  ·rw [← e];exact norefs_getN f4 t
  ·exact hclean d t hmk hd e
 have crne:∀ d,cj=some d→ci=some d→False:=fun d h h'=>a2 d (pj.crs d h).1 (pi.crs d h').1
 have mi:∀ q∈fi.1,∃ y∈oi.op.operands,noref q (s.ev y)=false:=fun q hq=>by
  obtain ⟨y,hy,hn⟩:=pi.men q hq
  exact ⟨y,hy,by rw [← evi y hy];exact hn⟩
 have freshj:∀ d,cj=some d→noref.norefs d s.slots=true:=fun d h=>((fresh_iff (fresh_ne (pj.crs d h).2.1)).1 (pj.crs d h).2.1).2.2.1
 have ne:∀ q b q' b',(q,b)∈Uj→(q',b')∈Ui→q≠q':=by
  rintro q b q' b' hq hq' rfl
  rcases pj.upd q b hq with h | ⟨g1,g2⟩ <;> rcases pi.upd q b' hq' with h' | ⟨g1',g2'⟩
  ·exact crne q h h'
  ·exact men_out (mi q g1') (fun _ _=>rfl) (freshj q h)
  ·exact men_out (pj.men q g1) (fun _ _=>rfl) (slots q h')
  ·exact hW1 q g2 g1'
 have ri:=pi.go s (fun y hy=>(evi y hy).symm) gdi.symm (fun q hq=>by
   show getM s.mem q=getM (appU Uj s.mem) q
   rw [appU_ne]
   rintro q' b hq' rfl
   rcases pj.upd _ b hq' with h | ⟨g1,g2⟩
   ·exact men_out (mi _ hq) (fun _ _=>rfl) (freshj _ h)
   ·exact hW1 _ g2 hq) (fun d hc=>by
  obtain ⟨hd,hf,hmk⟩:=pi.crs d hc
  obtain ⟨f1,f3,f4,f5⟩:=(fresh_iff (fresh_ne hf)).1 hf
  unfold nxt at f1 f3
  simp only [put_len] at f1
  simp only at f3
  rw [appU_ne] at f3
  ·exact (fresh_iff (fresh_ne hf)).2 ⟨f1,f3,slots d hc,hM d hmk hd⟩
  ·rintro q b hq rfl
   rcases pj.upd _ b hq with h | ⟨g,_⟩
   ·exact crne _ h hc
   ·exact men_out (pj.men _ g) (fun _ _=>rfl) (slots _ hc))
 have rj:=pj.go (nxt oi s xi Ui) (fun y hy=>ev_put (fun d hd=>looks_op (a3 d hd) hy)) (gd_put a3) (fun q hq=>by
   show getM (appU Ui s.mem) q=getM s.mem q
   rw [appU_ne]
   rintro q' b hq' rfl
   rcases pi.upd _ b hq' with h | ⟨g1,g2⟩
   ·exact men_out (pj.men _ hq) (fun _ _=>rfl) (slots _ h)
   ·exact hW2 _ g2 hq) (fun d hc=>by
   obtain ⟨hd,hf,hmk⟩:=pj.crs d hc
   obtain ⟨f1,f3,f4,f5⟩:=(fresh_iff (fresh_ne hf)).1 hf
   have hD:=hDj d hmk hd
   have hne:oi.dst≠some d:=a2 d hd
   refine (fresh_iff (fresh_ne hf)).2 ⟨by show d < (s.put oi.dst xi).slots.length;rw [put_len];exact f1,?_,norefs_iff.2 fun t=>?_,appU_noref f5 (fun q b hq=>nbU_get nbi q b hq d hD)⟩
   ·show getM (appU Ui s.mem) d=.no
    rw [appU_ne]
    ·exact f3
    ·rintro q b hq rfl
     rcases pi.upd _ b hq with h | ⟨g,_⟩
     ·exact crne _ hc h
     ·exact men_out (mi _ g) (fun _ _=>rfl) f4
   ·show noref d (getN SV.any (s.put oi.dst xi).slots t)=true
    rcases getN_put s oi.dst xi t with e | ⟨e,e2⟩
    ·rw [e];exact norefs_getN f4 t
    ·rw [e2];exact nrD_get nri d hD hne)
 refine ⟨ri,rj,?_⟩
 unfold nxt
 have e1:((⟨(s.put oi.dst xi).slots,appU Ui s.mem⟩:St).put oj.dst xj).slots=((⟨(s.put oj.dst xj).slots,appU Uj s.mem⟩:St).put oi.dst xi).slots:=by
  cases hj:oj.dst with
  | none=>cases oi.dst <;> rfl
  | some d =>
   cases hi:oi.dst with
   | none=>rfl
   | some d' =>
    have hne:d≠d':=fun e=>a2 d hj (by rw [hi,e])
    simp only [St.put,setN_eq]
    exact List.set_comm _ _ (Ne.symm hne)
 simp only
 rw [e1,appU_comm ne]
inductive ChainI (P:Program) (T:Nat→Option TI) (D:Nat→List Nat) (all:Array Oper) (F:Nat→FP):List Nat→St→St→Prop
 | nil (s:St):ChainI P T D all F [] s s
 | cons (i:Nat) (L:List Nat) (s s':St) (o:Oper) (x:SV) (U:List (Nat × Blk)) (cr:Option Nat) (f:FP) (ho:all[i]?=some o) (h:Stp P T all o s x U cr f) (hn:nrD o.dst x (D i)=true) (hb:nbU (D i) U=true)
   (hf:(∀ q∈f.1,q∈(F i).1)∧∀ q∈f.2,q∈(F i).2) (t:ChainI P T D all F L (nxt o s x U) s'):ChainI P T D all F (i::L) s s'
theorem chain_I {k:List FP→St→Prop} {DD:Nat→List Nat}:∀ (l:List Oper) (n:Nat) (Ds:List (List Nat)) (fs:List FP) (s:St),(∀ j,l[j]?=all[n+j]?)→(∀ j,j < l.length→DD (n+j)=Ds.getD j [])→Chain P T Ds all l fs s k →
  ∃ (sF:St) (gs:List FP),gs.length=l.length∧k (gs.reverse++fs) sF∧∀ F:Nat→FP,(∀ i g,gs[i]?=some g→F (n+i)=g)→ChainI P T DD all F (List.range' n l.length) s sF
 | [],n,Ds,fs,s,_,_,h=>⟨s,[],rfl,by unfold Chain at h;exact h,fun F _=>.nil s⟩
 | o::l,n,Ds,fs,s,hl,hD,h=>by
  unfold Chain at h
  obtain ⟨x,U,cr,f,h1,h2,h3,h4⟩:=h
  obtain ⟨sF,gs,g1,g2,g3⟩:=chain_I l (n+1) (tlL Ds) (f::fs) (nxt o s x U) (fun j=>by
   have:=hl (j+1)
   rw [List.getElem?_cons_succ] at this
   rw [this]
   congr 1
   omega) (fun j hj=>by
   rw [tlL_get,← hD (j+1) (by simp;omega)]
   congr 1
   omega) h4
  refine ⟨sF,f::gs,by simp [g1],by simpa using g2,fun F hF=>?_⟩
  simp only [List.length_cons,List.range'_succ]
  have hf:F n=f:=by simpa using hF 0 f rfl
  have hd:DD n=hdL Ds:=by rw [hdL_eq];exact hD 0 (by simp)
  exact .cons n _ s sF o x U cr f (by simpa using (hl 0).symm) h1 (by rw [hd];exact h2) (by rw [hd];exact h3) (by rw [hf];exact ⟨fun q h=>h,fun q h=>h⟩) (g3 F fun i g hg=>by
   have:=hF (i+1) g (by simpa using hg)
   rw [← this]
   congr 1
   omega)
def dstNe (x y:Oper):Bool:=match x.dst,y.dst with
 | some a,some b=>!(Nat.beq a b)
 | _,_=>true
def ancOf (acc:List Nat):List Edge→Nat
 | []=>0
 | e::l=>(if Region.binds .any e then (1 <<< e.on) ||| getN 0 acc e.on else 0) ||| ancOf acc l
def ancsGo:List Oper→List Nat→List Nat
 | [],acc=>acc
 | o::l,acc=>ancsGo l (acc++[ancOf acc o.after.toList])
def ancs (ops:Array Oper):List Nat:=ancsGo ops.toList []
def relB (anc:List Nat) (i j:Nat):Bool:=(getN 0 anc i).testBit j
def pairB (ops:Array Oper) (anc:List Nat) (oj oi:Oper) (j i:Nat):Bool:=dstNe oj oi && (relB anc i j || oj.apart ops oi)
def regOk (ops:Array Oper):Bool :=
 let anc:=ancs ops
 (List.range ops.size).all fun i=>match ops[i]? with
  | some oi=>(oi.after.all fun e=>!Region.binds .any e || Nat.blt e.on i) && Nat.beq (getN 0 anc i) (ancOf anc oi.after.toList) && (List.range i).all fun j=>match ops[j]? with
   | some oj=>pairB ops anc oj oi j i
   | none=>false
  | none=>false
def disjL (A B:List Nat):Bool:=match A with
 | []=>true
 | x::l=>!(memB x B) && disjL l B
theorem disjL_spec {A B:List Nat} (h:disjL A B=true) {q:Nat} (ha:q∈A) (hb:q∈B):False:=by
 induction A with
 | nil=>simp at ha
 | cons x l ih =>
  simp only [disjL,Bool.and_eq_true,Bool.not_eq_true'] at h
  rcases List.mem_cons.1 ha with rfl | ha
  ·rw [memB_iff.2 hb] at h;cases h.1
  ·exact ih h.2 ha
def dynOne (anc:List Nat) (i:Nat) (W:List Nat):Nat→List FP→Bool
 | _,[]=>true
 | j,f::l=>(Nat.beq i j || relB anc i j || relB anc j i || disjL W f.1) && dynOne anc i W (j+1) l
def dynGo (ops:Array Oper) (gs:List FP):Nat→List FP→Bool
 | _,[]=>true
 | i,f::l=>(match f.2 with | []=>true | W=>dynOne (ancs ops) i W 0 gs) && dynGo ops gs (i+1) l
def dynOk (ops:Array Oper) (gs:List FP):Bool:=dynGo ops gs 0 gs
theorem dynOne_get {anc:List Nat} {i:Nat} {W:List Nat}:∀ {l:List FP} {n:Nat},dynOne anc i W n l=true→∀ (j:Nat) (f:FP),l[j]?=some f→i=n+j∨relB anc i (n+j)=true∨relB anc (n+j) i=true∨disjL W f.1=true
 | [],n,_,j,f,hj=>by simp at hj
 | g::l,n,h,j,f,hj=>by
  simp only [dynOne,Bool.and_eq_true,Bool.or_eq_true] at h
  cases j with
  | zero =>
   simp at hj
   subst hj
   rcases h.1 with ((h1 | h1) | h1) | h1
   ·exact .inl (nbeq.1 h1)
   ·exact .inr (.inl h1)
   ·exact .inr (.inr (.inl h1))
   ·exact .inr (.inr (.inr h1))
  | succ j =>
   have:=dynOne_get h.2 j f (by simpa using hj)
   rw [show n+(j+1)=n+1+j by omega]
   exact this
theorem dynGo_get {ops:Array Oper} {gs:List FP}:∀ {l:List FP} {n:Nat},dynGo ops gs n l=true→∀ (i:Nat) (f:FP),l[i]?=some f→f.2=[]∨dynOne (ancs ops) (n+i) f.2 0 gs=true
 | [],n,_,i,f,hi=>by simp at hi
 | g::l,n,h,i,f,hi=>by
  simp only [dynGo,Bool.and_eq_true] at h
  cases i with
  | zero =>
   simp at hi
   subst hi
   have h1:=h.1
   cases hg:g.2 with
   | nil=>exact .inl rfl
   | cons a b=>rw [hg] at h1;exact .inr h1
  | succ i =>
   have:=dynGo_get h.2 i f (by simpa using hi)
   rw [show n+(i+1)=n+1+i by omega]
   exact this
theorem dyn_pair {ops:Array Oper} {gs:List FP} (h:dynOk ops gs=true) {i j:Nat} (hij:i≠j) (h1:relB (ancs ops) i j=false) (h2:relB (ancs ops) j i=false):∀ q∈((gs[i]?).getD ([],[])).2,q ∉ ((gs[j]?).getD ([],[])).1:=by
 intro q hq hq'
 cases hi:gs[i]? with
 | none=>rw [hi] at hq;simp at hq
 | some f =>
  cases hj:gs[j]? with
  | none=>rw [hj] at hq';simp at hq'
  | some g =>
   rw [hi] at hq
   rw [hj] at hq'
   simp only [Option.getD_some] at hq hq'
   rcases dynGo_get h i f hi with e | e
   ·rw [e] at hq;simp at hq
   ·rw [Nat.zero_add] at e
    rcases dynOne_get e j g hj with e | e | e | e
    ·rw [Nat.zero_add] at e;exact hij e
    ·rw [Nat.zero_add] at e;rw [e] at h1;cases h1
    ·rw [Nat.zero_add] at e;rw [e] at h2;cases h2
    ·exact disjL_spec e hq hq'
theorem regOk_at {ops:Array Oper} (h:regOk ops=true) {i:Nat} {oi:Oper} (hi:ops[i]?=some oi):(∀ e∈oi.after,Region.binds .any e=true→e.on < i)∧getN 0 (ancs ops) i=ancOf (ancs ops) oi.after.toList:=by
 have hlt:=(Array.getElem?_eq_some_iff.1 hi).1
 have:=List.all_eq_true.1 h i (List.mem_range.2 hlt)
 rw [hi] at this
 simp only [Bool.and_eq_true] at this
 refine ⟨fun e he hb=>?_,nbeq.1 this.1.2⟩
 have:=(Array.all_eq_true_iff_forall_mem.1 this.1.1) e he
 simp only [hb,Bool.not_true,Bool.false_or,Nat.blt_eq] at this
 exact this
theorem regOk_pair {ops:Array Oper} (h:regOk ops=true) {i j:Nat} {oi oj:Oper} (hi:ops[i]?=some oi) (hj:ops[j]?=some oj) (hlt:j < i):pairB ops (ancs ops) oj oi j i=true:=by
 have hl:=(Array.getElem?_eq_some_iff.1 hi).1
 have:=List.all_eq_true.1 h i (List.mem_range.2 hl)
 rw [hi] at this
 simp only [Bool.and_eq_true] at this
 have:=List.all_eq_true.1 this.2 j (List.mem_range.2 hlt)
 rw [hj] at this
 exact this
theorem ancOf_bit {acc:List Nat} {j:Nat}:∀ {l:List Edge},(ancOf acc l).testBit j=true→∃ e∈l,Region.binds .any e=true∧(j=e.on∨(getN 0 acc e.on).testBit j=true)
 | [],h=>by simp [ancOf] at h
 | e::l,h=>by
  simp only [ancOf,Nat.testBit_or,Bool.or_eq_true] at h
  rcases h with h | h
  ·split at h
   ·rename_i hb
    simp only [Nat.testBit_or,Bool.or_eq_true] at h
    refine ⟨e,by simp,hb,h.imp (fun h=>?_) id⟩
    rw [Nat.shiftLeft_eq,Nat.one_mul,Nat.testBit_two_pow] at h
    simpa using (of_decide_eq_true h).symm
   ·simp at h
  ·obtain ⟨e',he',h'⟩:=ancOf_bit h
   exact ⟨e',by simp [he'],h'⟩
theorem dstNe_comm (x y:Oper):dstNe x y=dstNe y x:=by
 unfold dstNe
 cases x.dst <;> cases y.dst <;> try rfl
 rename_i a b
 simp only
 congr 1
 rw [Bool.eq_iff_iff,Nat.beq_eq,Nat.beq_eq]
 exact eq_comm
theorem Stp.slots {o:Oper} {s:St} {x:SV} {U:List (Nat × Blk)} {t:Nat} (ht:o.dst≠some t):getN SV.any (nxt o s x U).slots t=getN SV.any s.slots t:=by
 unfold nxt
 rcases getN_put s o.dst x t with h | ⟨h,_⟩
 ·exact h
 ·exact absurd h ht
def Clean (D:List Nat) (ops:Array Oper) (L:List Nat) (s:St):Prop:=∀ i∈L,∀ o d,ops[i]?=some o→o.dst=some d→∀ q∈D,noref q (getN SV.any s.slots d)=true
theorem Clean.step {ops:Array Oper} {L:List Nat} {s:St} {o:Oper} {x:SV} {U:List (Nat × Blk)} (h:Clean D ops L s) (hd:∀ i∈L,∀ o',ops[i]?=some o'→dstNe o o'=true):Clean D ops L (nxt o s x U):=by
 intro i hi o' d ho hdd q hq
 rw [Stp.slots]
 ·exact h i hi o' d ho hdd q hq
 ·intro e
  have:=hd i hi o' ho
  simp [dstNe,e,hdd] at this
def MC (ops:Array Oper) (L:List Nat) (s:St):Prop:=∀ i∈L,∀ o d,ops[i]?=some o→maker o=true→o.dst=some d→memNoref d s.mem=true
theorem MC.step {ops:Array Oper} {L:List Nat} {o:Oper} {s:St} {x:SV} {U:List (Nat × Blk)} {D:List Nat} (h:MC ops L s) (hb:nbU D U=true) (hD:∀ i∈L,∀ o d,ops[i]?=some o→maker o=true→o.dst=some d→d∈D):MC ops L (nxt o s x U) :=
 fun i hi o' d ho hm hd=>appU_noref (h i hi o' d ho hm hd) (fun q b hq=>nbU_get hb q b hq d (hD i hi o' d ho hm hd))
theorem pull {F:Nat→FP} {DD:Nat→List Nat} {i:Nat} {oi:Oper} (hi:all[i]?=some oi) {L2:List Nat} {s':St} (hD:∀ (j:Nat) (o:Oper) (d:Nat),all[j]?=some o→maker o=true→o.dst=some d→d∈D)
  (hDD:∀ (a b:Nat) (o:Oper) (d:Nat),relB (ancs all) a b=false→all[b]?=some o→maker o=true→o.dst=some d→d∈DD a):∀ (L1:List Nat) (s:St),
  ChainI P T DD all F (L1++i::L2) s s'→(∀ j∈L1,relB (ancs all) i j=false∧relB (ancs all) j i=false)→(∀ j∈L1,∀ oj,all[j]?=some oj→oj.apart all oi=true∧(∀ q∈(F j).2,q ∉ (F i).1)∧∀ q∈(F i).2,q ∉ (F j).1) →
  L1.Pairwise (fun a b=>∀ oa ob,all[a]?=some oa→all[b]?=some ob→dstNe oa ob=true)→Clean D all L1 s→(∀ d,maker oi=true→oi.dst=some d→memNoref d s.mem=true)→ChainI P T DD all F (i::(L1++L2)) s s'
 | [],s,h,_,_,_,_,_=>h
 | j::L1,s,h,hr,hp,hd,hc,hm=>by
  cases h with
  | cons _ _ _ _ oj xj Uj cj fj hj r1 n1 b1 g1 h =>
   have hd':=List.pairwise_cons.1 hd
   have h:=pull hi hD hDD L1 _ h (fun q hq=>hr q (by simp [hq])) (fun q hq=>hp q (by simp [hq])) hd'.2 (Clean.step (fun q hq=>hc q (by simp [hq])) (fun q hq o' ho'=>hd'.1 q hq oj o' hj ho'))
    (fun d hmk hdd=>appU_noref (hm d hmk hdd) (fun q b hq=>nbU_get b1 q b hq d (hDD j i oi d (hr j (by simp)).2 hi hmk hdd)))
   cases h with
   | cons _ _ _ _ oi' xi Ui ci fi hi' r2 n2 b2 g2 h =>
    rw [hi] at hi'
    injection hi' with hi'
    subst hi'
    obtain ⟨p1,p2,p3⟩:=hp j (by simp) oj hj
    obtain ⟨q1,q2,q3⟩:=swap r1 r2 p1 (fun q hq hq'=>p2 q (g1.2 q hq) (g2.1 q hq')) (fun q hq hq'=>p3 q (g2.2 q hq) (g1.1 q hq')) hm n2 b2 (fun d hmk hdd=>hDD i j oj d (hr j (by simp)).1 hj hmk hdd) (fun q d hmk hdi hdj=>hc j (by simp) oj d hj hdj q (hD i oi q hi hmk hdi))
    exact .cons i _ s s' oi xi Ui ci fi hi q1 n2 b2 g2 (.cons j _ _ s' oj xj Uj cj fj hj q2 n1 b1 g1 (by rw [q3];exact h))
theorem drawn (ro:Option Nat) (nn:Nat) {ops:Array Oper} (hok:regOk ops=true) (hD:∀ (j:Nat) (o:Oper) (d:Nat),ops[j]?=some o→maker o=true→o.dst=some d→d∈D) {DD:Nat→List Nat}
  (hDD:∀ (a b:Nat) (o:Oper) (d:Nat),relB (ancs ops) a b=false→ops[b]?=some o→maker o=true→o.dst=some d→d∈DD a) {F:Nat→FP}
  (hF:∀ i j,i≠j→relB (ancs ops) i j=false→relB (ancs ops) j i=false→∀ q∈(F i).2,q ∉ (F j).1) {N:Nat→Prop} {w0:World} {X:Nat→Prop} {z:Anc} {sF:St} {Q:Exit→Act→World→Prop} (hQ:∀ a w ρ,Rep T N w0 X z sF a w ρ→Q .normal a w) (hfx:∀ (i:Nat) (o:Oper),ops[i]?=some o→∀ q,o.dst=some q→z.fx q=none) :
  ∀ (fuel:Nat) (L:List Nat) (listed:Array Bool) (s:St) (a:Act) (w:World) (ρ:Env),L.length=fuel→listed.size=ops.size→L.Pairwise (· < ·)→(∀ i,i∈L ↔ i < ops.size∧listed.getD i true=false) →
   (∀ i oi,ops[i]?=some oi→listed.getD i true=true→∀ j,relB (ancs ops) i j=true→listed.getD j true=true) →
   ChainI P T DD ops F L s sF→Clean D ops L s→MC ops L s→Rep T N w0 X z s a w ρ→wpAnyIn (FR ro) nn P .any ops Q fuel listed a w:=by
 have empty:∀ (L:List Nat) (listed:Array Bool),listed.size=ops.size→L.Pairwise (· < ·)→(∀ i,i∈L ↔ i < ops.size∧listed.getD i true=false)→Region.ready .any ops listed=[]→L=[]:=by
  intro L listed hsz hp hm hr
  cases L with
  | nil=>rfl
  | cons i L =>
   exfalso
   obtain ⟨h1,h2⟩:=(hm i).1 (by simp)
   have:i∈Region.ready .any ops listed:=by
    refine mem_ready.2 ⟨h2,ops[i],Array.getElem?_eq_getElem h1,fun e he hb=>?_⟩
    have hlt:=(regOk_at hok (Array.getElem?_eq_getElem h1)).1 e he hb
    have hnot:e.on ∉ i::L:=by
     intro hmem
     rcases List.mem_cons.1 hmem with h | h
     ·omega
     ·have:=(List.pairwise_cons.1 hp).1 _ h;omega
    have hx:¬ (listed.getD e.on true=false):=fun h=>hnot ((hm e.on).2 ⟨by omega,h⟩)
    have hlt':e.on < listed.size:=by omega
    simpa [hlt'] using hx
   rw [hr] at this
   simp at this
 intro fuel
 induction fuel with
 | zero =>
  intro L listed s a w ρ hl hsz hp hm hcl0 hch hcl hmc hr
  obtain rfl:L=[]:=List.eq_nil_of_length_eq_zero hl
  cases hch with
  | nil =>
   refine ⟨?_,hQ a w ρ hr⟩
   apply List.eq_nil_iff_forall_not_mem.2
   intro i hi
   obtain ⟨h1,o,ho,_⟩:=mem_ready.1 hi
   have:=(hm i).2 ⟨(Array.getElem?_eq_some_iff.1 ho).1,h1⟩
   simp at this
 | succ fuel ih =>
  intro L listed s a w ρ hl hsz hp hm hcl0 hch hcl hmc hr
  refine ⟨fun h0=>?_,fun i hi=>?_⟩
  ·have:=empty L listed hsz hp hm h0
   subst this
   simp at hl
  ·obtain ⟨h1,oi,hoi,hed⟩:=mem_ready.1 hi
   have hin:=(hm i).2 ⟨(Array.getElem?_eq_some_iff.1 hoi).1,h1⟩
   have hanc:∀ j,relB (ancs ops) i j=true→listed.getD j true=true:=by
    intro j hj
    unfold relB at hj
    rw [(regOk_at hok hoi).2] at hj
    obtain ⟨e,he,hb,hje⟩:=ancOf_bit hj
    have he':e∈oi.after:=by simpa using he
    have hls:=hed e he' hb
    have hlt:=(regOk_at hok hoi).1 e he' hb
    have hlen:e.on < ops.size:=by have:=(Array.getElem?_eq_some_iff.1 hoi).1;omega
    have hon:listed.getD e.on true=true:=by
     have:e.on < listed.size:=by omega
     simpa [this] using hls
    rcases hje with rfl | hje
    ·exact hon
    ·exact hcl0 e.on _ (Array.getElem?_eq_getElem hlen) hon j hje
   obtain ⟨L1,L2,rfl⟩:=List.append_of_mem hin
   have hpa:=List.pairwise_append.1 hp
   have hp2:=List.pairwise_cons.1 hpa.2.1
   have hlt1:∀ j∈L1,j < i:=fun j hj=>hpa.2.2 j hj i (by simp)
   have hnl:∀ j∈L1,listed.getD j true=false:=fun j hj=>((hm j).1 (by simp [hj])).2
   have hnanc:∀ j∈L1,relB (ancs ops) i j=false:=by
    intro j hj
    cases hb:relB (ancs ops) i j with
    | false=>rfl
    | true=>have:=hanc j hb;rw [hnl j hj] at this;cases this
   have key:∀ n j,j < n→∀ k,relB (ancs ops) j k=true→j < ops.size→k < j:=by
    intro n
    induction n with
    | zero=>intro j hj;omega
    | succ n ihn =>
     intro j hj k hk hjs
     unfold relB at hk
     rw [(regOk_at hok (Array.getElem?_eq_getElem hjs)).2] at hk
     obtain ⟨e,he,hbe,hje⟩:=ancOf_bit hk
     have hlt:=(regOk_at hok (Array.getElem?_eq_getElem hjs)).1 e (by simpa using he) hbe
     rcases hje with rfl | hje
     ·exact hlt
     ·have:=ihn e.on (by omega) k hje (by omega);omega
   have hnanc2:∀ j∈L1,relB (ancs ops) j i=false:=by
    intro j hj
    cases hb:relB (ancs ops) j i with
    | false=>rfl
    | true =>
     exfalso
     have h3:=hlt1 j hj
     have h4:=key (j+1) j (by omega) i hb (by have:=(Array.getElem?_eq_some_iff.1 hoi).1;omega)
     omega
   have hpull:=pull (P:=P) (T:=T) hoi hD hDD L1 s hch (fun j hj=>⟨hnanc j hj,hnanc2 j hj⟩) (fun j hj oj hoj=>by
    have hpb:=regOk_pair hok hoi hoj (hlt1 j hj)
    simp only [pairB,Bool.and_eq_true,Bool.or_eq_true] at hpb
    rcases hpb.2 with he | he
    ·rw [hnanc j hj] at he;cases he
    ·have hne:j≠i:=by have:=hlt1 j hj;omega
     exact ⟨he,hF j i hne (hnanc2 j hj) (hnanc j hj),hF i j (Ne.symm hne) (hnanc j hj) (hnanc2 j hj)⟩) (hpa.1.imp (fun {x y} hxy oa ob hoa hob=>by
      have:=regOk_pair hok hob hoa hxy
      simp only [pairB,Bool.and_eq_true] at this
      exact this.1)) (fun j hj=>hcl j (by simp [hj])) (fun d hmk hdd=>hmc i (by simp) oi d hoi hmk hdd)
   cases hpull with
   | cons _ _ _ _ oi' xi Ui ci fi hoi' hres hn hb hf hrest =>
    rw [hoi] at hoi'
    injection hoi' with hoi'
    subst hoi'
    unfold wpOpIn
    rw [hoi]
    refine hres.sound hr (K:=wpAnyIn (FR ro) nn P .any ops Q fuel (listed.setIfInBounds i true)) (Q:=Q) (fun a' w' ρ' hr'=>?_) (hfx i oi hoi) ro nn
    have hne:∀ j∈L1++L2,j≠i:=by
     intro j hj
     rcases List.mem_append.1 hj with h | h
     ·exact Nat.ne_of_lt (hlt1 j h)
     ·exact Nat.ne_of_gt (hp2.1 j h)
    refine ih (L1++L2) _ _ a' w' ρ' (by simp at hl ⊢;omega) (by simpa using hsz) (List.pairwise_append.2 ⟨hpa.1,hp2.2,fun x hx y hy=>hpa.2.2 x hx y (by simp [hy])⟩) (fun j=>?_) (fun k ok hok' hk j hj=>?_) hrest ?_ (MC.step (L:=L1++L2) (fun j hj=>hmc j (by rcases List.mem_append.1 hj with h | h <;> simp [h])) hb (fun j hj o d ho hmk hdd=>hDD i j o d ?_ ho hmk hdd)) hr'
    ·constructor
     ·intro hj
      have hj':j∈L1++i::L2:=by
       rcases List.mem_append.1 hj with h | h
       ·simp [h]
       ·simp [h]
      obtain ⟨g1,g2⟩:=(hm j).1 hj'
      refine ⟨g1,?_⟩
      rw [getD_set_ne true (Ne.symm (hne j hj))]
      exact g2
     ·rintro ⟨g1,g2⟩
      by_cases hji:j=i
      ·subst hji
       have:j < listed.size:=by rw [hsz];exact g1
       simp [this] at g2
      ·rw [getD_set_ne true (Ne.symm hji)] at g2
       have:=(hm j).2 ⟨g1,g2⟩
       rcases List.mem_append.1 this with h | h
       ·simp [h]
       ·rcases List.mem_cons.1 h with h | h
        ·exact absurd h hji
        ·simp [h]
    ·have lift:∀ j,listed.getD j true=true→(listed.setIfInBounds i true).getD j true=true:=by
      intro j hj
      by_cases hji:j=i
      ·subst hji
       have:j < listed.size:=by rw [hsz];exact (Array.getElem?_eq_some_iff.1 hoi).1
       simp [this]
      ·rw [getD_set_ne true (Ne.symm hji)];exact hj
     by_cases hki:k=i
     ·subst hki
      exact lift j (hanc j hj)
     ·rw [getD_set_ne true (Ne.symm hki)] at hk
      exact lift j (hcl0 k ok hok' hk j hj)
    ·refine Clean.step (fun j hj=>hcl j ?_) (fun j hj o' ho'=>?_)
     ·rcases List.mem_append.1 hj with h | h <;> simp [h]
     ·rcases List.mem_append.1 hj with h | h
      ·have:=regOk_pair hok hoi ho' (hlt1 j h)
       simp only [pairB,Bool.and_eq_true] at this
       rw [dstNe_comm]
       exact this.1
      ·have:=regOk_pair hok ho' hoi (hp2.1 j h)
       simp only [pairB,Bool.and_eq_true] at this
       exact this.1
    ·rcases List.mem_append.1 hj with h | h
     ·exact hnanc j h
     ·cases hb':relB (ancs ops) i j with
      | false=>rfl
      | true =>
       exfalso
       have h3:=hp2.1 j h
       have h4:=key (i+1) i (by omega) j hb' (by have:=(Array.getElem?_eq_some_iff.1 hoi).1;omega)
       omega
def makes:List Oper→List Nat
 | []=>[]
 | o::l=>(match maker o,o.dst with | true,some d=>d::makes l | _,_=>makes l)
theorem makes_mem:∀ {l:List Oper} {o:Oper} {d:Nat},o∈l→maker o=true→o.dst=some d→d∈makes l
 | [],o,d,h,_,_=>by simp at h
 | x::l,o,d,h,hc,hd=>by
  unfold makes
  rcases List.mem_cons.1 h with rfl | h
  ·rw [hc,hd];simp
  ·have:=makes_mem h hc hd
   split
   ·exact List.mem_cons_of_mem _ this
   ·exact this
def memNorefs:List Nat→Mem→Bool
 | [],_=>true
 | d::D,m=>memNoref d m && memNorefs D m
theorem memNorefs_get:∀ {D:List Nat} {m:Mem},memNorefs D m=true→∀ d∈D,memNoref d m=true
 | [],_,_,d,h=>by simp at h
 | x::D,m,h,d,hd=>by
  simp only [memNorefs,Bool.and_eq_true] at h
  rcases List.mem_cons.1 hd with rfl | hd
  ·exact h.1
  ·exact memNorefs_get h.2 d hd
def slotNorefs:List Nat→List SV→Bool
 | [],_=>true
 | d::D,l=>noref.norefs d l && slotNorefs D l
theorem slotNorefs_get:∀ {D:List Nat} {l:List SV},slotNorefs D l=true→∀ d∈D,noref.norefs d l=true
 | [],_,_,d,h=>by simp at h
 | x::D,m,h,d,hd=>by
  simp only [slotNorefs,Bool.and_eq_true] at h
  rcases List.mem_cons.1 hd with rfl | hd
  ·exact h.1
  ·exact slotNorefs_get h.2 d hd
def dsFor (anc:List Nat) (i:Nat):List Oper→Nat→List Nat
 | [],_=>[]
 | o::l,p=>(match maker o,o.dst with
  | true,some d=>if relB anc i p then dsFor anc i l (p+1) else d::dsFor anc i l (p+1)
  | _,_=>dsFor anc i l (p+1))
def dsGo (anc:List Nat) (all:List Oper):List Oper→Nat→List (List Nat)
 | [],_=>[]
 | _::l,i=>dsFor anc i all 0::dsGo anc all l (i+1)
theorem dsFor_mem {anc:List Nat} {i:Nat}:∀ {l:List Oper} {n p:Nat} {o:Oper} {d:Nat},l[p]?=some o→relB anc i (n+p)=false→maker o=true→o.dst=some d→d∈dsFor anc i l n
 | [],n,p,o,d,h,_,_,_=>by simp at h
 | x::l,n,0,o,d,h,hr,hm,hd=>by
  simp at h
  subst h
  unfold dsFor
  rw [hm,hd]
  simp only
  rw [if_neg (by rw [Nat.add_zero] at hr;rw [hr];decide)]
  simp
 | x::l,n,p+1,o,d,h,hr,hm,hd=>by
  have:=dsFor_mem (l:=l) (n:=n+1) (p:=p) (by simpa using h) (by rw [← hr];congr 1;omega) hm hd
  unfold dsFor
  split
  ·split
   ·exact this
   ·exact List.mem_cons_of_mem _ this
  ·exact this
theorem dsGo_get {anc:List Nat} {all:List Oper}:∀ {l:List Oper} {n j:Nat},j < l.length→(dsGo anc all l n).getD j []=dsFor anc (n+j) all 0
 | [],n,j,h=>by simp at h
 | x::l,n,0,h=>by simp [dsGo]
 | x::l,n,j+1,h=>by
  simp only [dsGo,List.getD_cons_succ]
  rw [dsGo_get (by simpa using h)]
  congr 1
  omega
def drawG (T:Nat→Option TI) (G:Nat→CT→Prop) (ops:Array Oper) (s:St) (k:St→Prop):Prop :=
 if memNorefs (makes ops.toList) s.mem && slotNorefs (makes ops.toList) s.slots then opsG T G (dsGo (ancs ops) ops.toList ops.toList 0) ops ops.toList [] s (fun fs s=>if dynOk ops fs.reverse then k s else False) else False
theorem reg_draw (tab:Tab P T) (hG:∀ f c,G f c→ACall P T f c) (hmix:P.follows .mixedOrders=true) {id:Nat} {ops:Array Oper} (hok:regOk ops=true) {N:Nat→Prop} {w0:World} {X:Nat→Prop} {z:Anc} {s:St} {k:St→Prop}
  {Q:Exit→Act→World→Prop} {a:Act} {w:World} {ρ:Env} (h:drawG T G ops s k) (hr:Rep T N w0 X z s a w ρ) (hQ:∀ s a w ρ,k s→Rep T N w0 X z s a w ρ→Q .normal a w) (hfx:∀ o∈ops.toList,∀ q,o.dst=some q→z.fx q=none) (ro:Option Nat) (nn:Nat):(Code.region id ops true).wpIn (FR ro) nn P Q a w:=by
 have hr1:Rep T N w0 X z s a { w with drawn:=w.drawn+1 } ρ:=by
  have hb:Below w.heap.size w { w with drawn:=w.drawn+1 }:=⟨rfl,rfl,rfl,Nat.le_refl _,fun _ _=>rfl⟩
  exact ⟨hr.m.grow hb,⟨hr.defers.h⟩,hr.size,fun t=>Den.mono (w:=w) (w':={ w with drawn:=w.drawn+1 }) (X:=Forb X s.mem ρ) (X':=Forb X s.mem ρ) hb.size (fun b _ h=>⟨h,rfl⟩) (hr.slot t),hr.anch,hr.fix,hr.len,hr.nod⟩
 unfold drawG at h
 split at h
 case isFalse=>exact h.elim
 rename_i hc
 simp only [Bool.and_eq_true] at hc
 refine wpIn_region_any hmix ?_
 obtain ⟨sF,gs,g1,g2,g3⟩:=chain_I (P:=P) (T:=T) (DD:=fun i=>dsFor (ancs ops) i ops.toList 0) (all:=ops) ops.toList 0 _ [] s (fun j=>by simp) (fun j hj=>(dsGo_get hj).symm) (opsG_chain tab hG _ _ _ _ _ h)
 rw [List.append_nil,List.reverse_reverse] at g2
 split at g2
 case isFalse=>exact g2.elim
 rename_i hdyn
 have hch:=g3 (fun i=>(gs[i]?).getD ([],[])) (fun i g hg=>by simp [hg])
 rw [Array.length_toList,← List.range_eq_range'] at hch
 refine drawn ro nn hok (fun j o d ho hmk hdd=>makes_mem (by simpa using Array.mem_of_getElem? ho) hmk hdd) (fun a b o d hr ho hmk hdd=>dsFor_mem (n:=0) (p:=b) (by simpa using ho) (by rw [Nat.zero_add];exact hr) hmk hdd) (fun i j hij h1 h2=>dyn_pair hdyn hij h1 h2) (fun a w ρ hr=>hQ sF a w ρ g2 hr) (fun i o ho=>hfx o (by simpa using Array.mem_of_getElem? ho)) ops.size (List.range ops.size) _ s a _ ρ (by simp) (by simp) List.pairwise_lt_range (fun i=>?_) (fun i oi hoi hl=>?_) hch
  (fun i _ o d _ _ q hq=>norefs_getN (slotNorefs_get hc.2 q hq) d) (fun i _ o d ho hmk hdd=>memNorefs_get hc.1 d (makes_mem (by simpa using Array.mem_of_getElem? ho) hmk hdd)) hr1
 ·constructor
  ·intro hi
   have hi:=List.mem_range.1 hi
   exact ⟨hi,by simp [hi]⟩
  ·intro hi
   exact List.mem_range.2 hi.1
 ·exfalso
  have:=(Array.getElem?_eq_some_iff.1 hoi).1
  simp [this] at hl
end
section
open Go.RowKit
variable {P:Program} {T:Nat→Option TI} {G:Nat→CT→Prop}
structure Sub (T:Nat→Option TI) (s s':St):Prop where
 h:∀ N w0 X z a w ρ,Rep T N w0 X z s a w ρ→∃ ρ',Rep T N w0 X z s' a w ρ'
theorem Sub.refl (s:St):Sub T s s:=⟨fun _ _ _ _ _ _ ρ h=>⟨ρ,h⟩⟩
theorem Sub.trans {s s' s'':St} (h:Sub T s s') (g:Sub T s' s''):Sub T s s'':=⟨fun N w0 X z a w ρ hr=>by
 obtain ⟨ρ',hr'⟩:=h.h N w0 X z a w ρ hr
 exact g.h N w0 X z a w ρ' hr'⟩
def sw (p q r:Nat):Nat:=if Nat.beq r p then q else if Nat.beq r q then p else r
theorem sw_sw (p q r:Nat):sw p q (sw p q r)=r:=by
 unfold sw
 simp only [nbeq]
 repeat' split
 all_goals simp_all
theorem sw_inj {p q a b:Nat} (h:sw p q a=sw p q b):a=b:=by rw [← sw_sw p q a,h,sw_sw]
def swV (p q:Nat):SV→SV
 | .ptr r o=>.ptr (sw p q r) o
 | .row r=>.row (sw p q r)
 | .rsl r sh a n c=>.rsl (sw p q r) sh a n c
 | .rptr r sh i o=>.rptr (sw p q r) sh i o
 | .obj r=>.obj (sw p q r)
 | .agg l=>.agg (swVs p q l)
 | .tup l=>.tup (swVs p q l)
 | .fcl f l=>.fcl f (swVs p q l)
 | .cel x=>.cel (swV p q x)
 | x=>x
where swVs (p q:Nat):List SV→List SV
 | []=>[]
 | x::l=>swV p q x::swVs p q l
theorem swVs_eq (p q:Nat):∀ l:List SV,swV.swVs p q l=l.map (swV p q)
 | []=>rfl
 | x::l=>by simp [swV.swVs,swVs_eq p q l]
theorem Den.sw {w:World} {X:Nat→Prop} {ρ:Env} {p q:Nat} {x:SV} {v:Value} (h:Den w X ρ x v):Den w X (fun r=>ρ (sw p q r)) (swV p q x) v:=by
 induction h with
 | any ρ v=>exact .any _ v
 | bool ρ b=>exact .bool _ b
 | int ρ k n=>exact .int _ k n
 | str ρ s=>exact .str _ s
 | agg ρ l cs hl h ih =>
  simp only [swV,swVs_eq]
  refine .agg _ _ cs (by simpa using hl) fun i h1 h2=>?_
  simp only [List.getElem_map]
  exact ih i _ h2
 | tup ρ l cs hl h ih =>
  simp only [swV,swVs_eq]
  refine .tup _ _ cs (by simpa using hl) fun i h1 h2=>?_
  simp only [List.getElem_map]
  exact ih i _ h2
 | lst0 ρ sh a cap=>exact .lst0 _ sh a cap
 | lst ρ sh l b off cap us hb hx hc hu hl h1 h ih=>exact .lst _ sh l b off cap us hb hx hc hu hl h1 h
 | nil ρ=>exact .nil _
 | ptr ρ r off b h=>exact .ptr _ _ off b fun k hk=>h k (by simpa [sw_sw] using hk)
 | row ρ r a n c h=>exact .row _ _ a n c fun k hk=>h k (by simpa [sw_sw] using hk)
 | rsl ρ r sh a n c x cc hc h=>exact .rsl _ _ sh a n c x cc hc fun k hk=>h k (by simpa [sw_sw] using hk)
 | rptr ρ r sh i off b o h=>exact .rptr _ _ sh i off b o fun k hk=>h k (by simpa [sw_sw] using hk)
 | eptr ρ sh x off b o us hb hx hu hl h ih=>exact .eptr _ sh x off b o us hb hx hu hl h
 | clo ρ f caps us hl h ih=>exact .clo _ f caps us hl h
 | obj ρ r v h1 h=>exact .obj _ _ v h1 fun k hk=>h k (by simpa [sw_sw] using hk)
 | val ρ v=>exact .val _ v
 | fcl ρ f l cs hl h ih =>
  simp only [swV,swVs_eq]
  refine .fcl _ f _ cs (by simpa using hl) fun i h1 h2=>?_
  simp only [List.getElem_map]
  exact ih i _ h2
 | cel ρ x b o u hb hx hu h ih=>exact .cel _ _ b o u hb hx hu ih
def swB (p q:Nat):Blk→Blk
 | .chunk t x=>.chunk t (swV p q x)
 | .rowx e l i x=>.rowx e l i (swV p q x)
 | b=>b
def swM (p q:Nat):Mem→Mem
 | []=>[]
 | (k,b)::m=>(sw p q k,swB p q b)::swM p q m
theorem getM_sw (p q:Nat):∀ (m:Mem) (r:Nat),getM (swM p q m) (sw p q r)=swB p q (getM m r)
 | [],r=>rfl
 | (k,b)::m,r=>by
  simp only [swM,getM,nbeq,getM_sw p q m r]
  by_cases h:k=r
  ·rw [if_pos (by rw [h]),if_pos h]
  ·rw [if_neg (fun e=>h (sw_inj e)),if_neg h]
def swS (p q:Nat) (s:St):St:=⟨swV.swVs p q s.slots,swM p q s.mem⟩
theorem swB_own (p q:Nat) (b:Blk):(swB p q b).own=b.own:=by cases b <;> rfl
theorem swS_sub (p q:Nat) (s:St) (hp:p≠0) (hq:q≠0):Sub T s (swS p q s):=⟨fun N w0 X z a w ρ hr=>by
 have hg:∀ r,getM (swM p q s.mem) r=swB p q (getM s.mem (sw p q r)):=fun r=>by rw [← getM_sw,sw_sw]
 have hf:Forb X (swM p q s.mem) (fun r=>ρ (sw p q r))=Forb X s.mem ρ:=by
  funext b
  simp only [Forb,owned,hg,swB_own]
  apply propext
  constructor
  ·rintro (h | ⟨r,v,h1,h2,h3⟩)
   ·exact .inl h
   ·exact .inr ⟨_,v,h1,h2,h3⟩
  ·rintro (h | ⟨r,v,h1,h2,h3⟩)
   ·exact .inl h
   ·exact .inr ⟨sw p q r,v,by rw [sw_sw];exact h1,by rw [sw_sw];exact h2,h3⟩
 refine ⟨fun r=>ρ (sw p q r),⟨⟨hr.m.low,hr.m.below,hr.m.szN,fun r=>?_,fun r r' v v' b h1 h2 h3 h4 h5 h6=>?_,fun g x hg=>⟨(hr.m.gl g x hg).1,(hr.m.gl g x hg).2.mono (Nat.le_refl _) fun b _ hn=>⟨fun hf'=>hn (by rw [← hf];exact hf'),rfl⟩⟩⟩,(by show DefOk N w (Forb X (swM p q s.mem) _) _;rw [hf];exact hr.defers),?_,fun t=>?_,?_,hr.fix,hr.len,hr.nod⟩⟩
 ·show BlkRep T N w (Forb X (swM p q s.mem) _) _ (getM (swM p q s.mem) r) _
  rw [hg,hf]
  have hb:=hr.m.blk (sw p q r)
  cases hB:getM s.mem (sw p q r) with
  | no=>rw [hB] at hb;exact hb
  | frz sh l=>rw [hB] at hb;exact hb
  | row sh e l=>rw [hB] at hb;exact hb
  | chunk t x =>
   rw [hB] at hb
   obtain ⟨i,b,us,ty,h1,h2,h3,h4,h5,h6,h7⟩:=hb
   exact ⟨i,b,us,ty,h1,h2,h3,h4,h5,h6,h7.sw⟩
  | rowx e l i x =>
   rw [hB] at hb
   obtain ⟨b,off,cap,cur,h2,h3,h4,h5,h6,h7,h0,h9,hi,h8,hx⟩:=hb
   exact ⟨b,off,cap,cur,h2,h3,h4,h5,h6,h7,h0,h9,hi,h8,hx.sw⟩
  | iter s p=>rw [hB] at hb;exact hb
  | gen _ _ _=>rw [hB] at hb;exact hb
 ·simp only [swS] at h1 h2
  rw [hg,swB_own] at h1 h2
  exact sw_inj (hr.m.inj _ _ v v' b h1 h2 h3 h4 h5 h6)
 ·rw [hr.size];simp [swS,swVs_eq]
 ·show Den w (Forb X (swM p q s.mem) _) _ (getN .any (swV.swVs p q s.slots) t) _
  rw [hf]
  have:=(hr.slot t).sw (p:=p) (q:=q)
  have e:getN SV.any (swV.swVs p q s.slots) t=swV p q (getN SV.any s.slots t):=by
   rw [swVs_eq,getN_eq,getN_eq,List.getElem?_map]
   cases s.slots[t]? <;> rfl
  rw [e]
  exact this
 ·intro v hz hn
  have e0:sw p q 0=0:=by unfold sw;simp only [nbeq];rw [if_neg (Ne.symm hp),if_neg (Ne.symm hq)]
  show ρ (sw p q 0)=some v
  rw [e0]
  refine hr.anch v hz fun h0=>hn ?_
  show getM (swM p q s.mem) 0=.no
  rw [hg,e0,h0]
  rfl⟩
def clV (m:Mem):SV→SV
 | .ptr r o=>if isNo (getM m r) then .any else .ptr r o
 | .row r=>if isNo (getM m r) then .any else .row r
 | .rsl r sh a n c=>if isNo (getM m r) then .any else .rsl r sh a n c
 | .rptr r sh i o=>if isNo (getM m r) then .any else .rptr r sh i o
 | .obj r=>if isNo (getM m r) then .any else .obj r
 | .agg l=>.agg (clVs m l)
 | .tup l=>.tup (clVs m l)
 | .fcl f l=>.fcl f (clVs m l)
 | .cel x=>.cel (clV m x)
 | x=>x
where clVs (m:Mem):List SV→List SV
 | []=>[]
 | x::l=>clV m x::clVs m l
theorem clVs_eq (m:Mem):∀ l:List SV,clV.clVs m l=l.map (clV m)
 | []=>rfl
 | x::l=>by simp [clV.clVs,clVs_eq m l]
theorem Den.cl {w:World} {X:Nat→Prop} {ρ:Env} {m:Mem} {x:SV} {v:Value} (h:Den w X ρ x v):Den w X ρ (clV m x) v:=by
 induction h with
 | any ρ v=>exact .any _ v
 | bool ρ b=>exact .bool _ b
 | int ρ k n=>exact .int _ k n
 | str ρ s=>exact .str _ s
 | agg ρ l cs hl h ih =>
  simp only [clV,clVs_eq]
  refine .agg _ _ cs (by simpa using hl) fun i h1 h2=>?_
  simp only [List.getElem_map]
  exact ih i _ h2
 | tup ρ l cs hl h ih =>
  simp only [clV,clVs_eq]
  refine .tup _ _ cs (by simpa using hl) fun i h1 h2=>?_
  simp only [List.getElem_map]
  exact ih i _ h2
 | lst0 ρ sh a cap=>exact .lst0 _ sh a cap
 | lst ρ sh l b off cap us hb hx hc hu hl h1 h ih=>exact .lst _ sh l b off cap us hb hx hc hu hl h1 h
 | nil ρ=>exact .nil _
 | ptr ρ r off b h=>simp only [clV];split <;> first | exact .any _ _ | exact .ptr _ _ off b h
 | row ρ r a n c h=>simp only [clV];split <;> first | exact .any _ _ | exact .row _ _ a n c h
 | rsl ρ r sh a n c x cc hc h=>simp only [clV];split <;> first | exact .any _ _ | exact .rsl _ _ sh a n c x cc hc h
 | rptr ρ r sh i off b o h=>simp only [clV];split <;> first | exact .any _ _ | exact .rptr _ _ sh i off b o h
 | eptr ρ sh x off b o us hb hx hu hl h ih=>exact .eptr _ sh x off b o us hb hx hu hl h
 | clo ρ f caps us hl h ih=>exact .clo _ f caps us hl h
 | obj ρ r v h1 h=>simp only [clV];split <;> first | exact .any _ _ | exact .obj _ r v h1 h
 | val ρ v=>exact .val _ v
 | fcl ρ f l cs hl h ih =>
  simp only [clV,clVs_eq]
  refine .fcl _ f _ cs (by simpa using hl) fun i h1 h2=>?_
  simp only [List.getElem_map]
  exact ih i _ h2
 | cel ρ x b o u hb hx hu h ih=>exact .cel _ _ b o u hb hx hu ih
def clB (m:Mem):Blk→Blk
 | .chunk t x=>.chunk t (clV m x)
 | .rowx e l i x=>.rowx e l i (clV m x)
 | b=>b
def clM (m:Mem):Mem→Mem
 | []=>[]
 | (k,b)::l=>(k,clB m b)::clM m l
theorem getM_cl (m:Mem):∀ (l:Mem) (r:Nat),getM (clM m l) r=clB m (getM l r)
 | [],r=>rfl
 | (k,b)::l,r=>by
  simp only [clM,getM,getM_cl m l r]
  split <;> rfl
def clean (s:St):St:=⟨clV.clVs s.mem s.slots,clM s.mem s.mem⟩
theorem clB_own (m:Mem) (b:Blk):(clB m b).own=b.own:=by cases b <;> rfl
theorem clean_sub (s:St):Sub T s (clean s):=⟨fun N w0 X z a w ρ hr=>by
 have hf:Forb X (clM s.mem s.mem) ρ=Forb X s.mem ρ:=by
  funext b
  simp only [Forb,owned,getM_cl,clB_own]
 refine ⟨ρ,⟨⟨hr.m.low,hr.m.below,hr.m.szN,fun r=>?_,fun r r' v v' b h1 h2 h3 h4 h5 h6=>?_,fun g x hg=>⟨(hr.m.gl g x hg).1,(hr.m.gl g x hg).2.mono (Nat.le_refl _) fun b _ hn=>⟨fun hf'=>hn (by rw [← hf];exact hf'),rfl⟩⟩⟩,(by show DefOk N w (Forb X (clM s.mem s.mem) ρ) _;rw [hf];exact hr.defers),?_,fun t=>?_,(fun v hz hn=>hr.anch v hz fun h0=>hn (by show getM (clM s.mem s.mem) 0=.no;rw [getM_cl,h0];rfl)),hr.fix,hr.len,hr.nod⟩⟩
 ·show BlkRep T N w (Forb X (clM s.mem s.mem) ρ) ρ (getM (clM s.mem s.mem) r) _
  rw [getM_cl,hf]
  have hb:=hr.m.blk r
  cases hB:getM s.mem r with
  | no=>rw [hB] at hb;exact hb
  | frz sh l=>rw [hB] at hb;exact hb
  | row sh e l=>rw [hB] at hb;exact hb
  | chunk t x =>
   rw [hB] at hb
   obtain ⟨i,b,us,ty,h1,h2,h3,h4,h5,h6,h7⟩:=hb
   exact ⟨i,b,us,ty,h1,h2,h3,h4,h5,h6,h7.cl⟩
  | rowx e l i x =>
   rw [hB] at hb
   obtain ⟨b,off,cap,cur,h2,h3,h4,h5,h6,h7,h0,h9,hi,h8,hx⟩:=hb
   exact ⟨b,off,cap,cur,h2,h3,h4,h5,h6,h7,h0,h9,hi,h8,hx.cl⟩
  | iter s p=>rw [hB] at hb;exact hb
  | gen _ _ _=>rw [hB] at hb;exact hb
 ·simp only [clean] at h1 h2
  rw [getM_cl,clB_own] at h1 h2
  exact hr.m.inj _ _ v v' b h1 h2 h3 h4 h5 h6
 ·rw [hr.size];simp [clean,clVs_eq]
 ·show Den w (Forb X (clM s.mem s.mem) ρ) ρ (getN .any (clV.clVs s.mem s.slots) t) _
  rw [hf]
  have e:getN SV.any (clV.clVs s.mem s.slots) t=clV s.mem (getN SV.any s.slots t):=by
   rw [clVs_eq,getN_eq,getN_eq,List.getElem?_map]
   cases s.slots[t]? <;> rfl
  rw [e]
  exact (hr.slot t).cl⟩
def newId:Mem→Nat
 | []=>1000
 | (k,_)::m=>(fun n=>if Nat.blt k n then n else k+1) (newId m)
def freeIds:List Nat→St→St
 | [],s=>s
 | d::l,s=>freeIds l (if isNo (getM s.mem d) || Nat.beq d 0 then s else swS d (newId s.mem) s)
def prep (D:List Nat) (s:St):St:=match D with
 | []=>s
 | D=>clean (freeIds D s)
theorem freeIds_sub:∀ (D:List Nat) (s:St),Sub T s (freeIds D s)
 | [],s=>.refl s
 | d::l,s=>by
  unfold freeIds
  split
  ·exact freeIds_sub l s
  ·rename_i h
   refine (swS_sub _ _ s (fun h0=>h (by simp [h0])) (fun h0=>?_)).trans (freeIds_sub l _)
   have:∀ m:Mem,1000≤newId m:=by
    intro m
    induction m with
    | nil=>exact Nat.le_refl _
    | cons p m ih =>
     obtain ⟨k,b⟩:=p
     simp only [newId,nblt]
     split <;> omega
   have:=this s.mem
   omega
theorem prep_sub (D:List Nat) (s:St):Sub T s (prep D s):=by
 unfold prep
 split
 ·exact .refl s
 ·exact (freeIds_sub _ s).trans (clean_sub _)
noncomputable def unXs (r:Nat) (s:St):St :=
 match getM s.mem r with
 | .rowx e l i (.row q)=>(match getM s.mem q with
  | .row sh _ k=>⟨s.slots,setM (.row none e (O.st l i (.lst sh k))) (setM (.frz sh k) s.mem q) r⟩
  | _=>s)
 | _=>s
theorem unXs_sub (r:Nat) (s:St):Sub T s (unXs r s):=⟨fun N w0 X z a w ρ hr=>by
 unfold unXs
 split
 case h_2=>exact ⟨ρ,hr⟩
 rename_i e l i q hm
 split
 case h_2=>exact ⟨ρ,hr⟩
 rename_i sh e2 k hq
 rw [O.st_eq]
 obtain ⟨m',t'⟩:=hr.m.unX hm hq
 exact ⟨ρ,⟨m',hr.defers.turn t',hr.size,fun t=>t'.den (fun _ h=>by cases h) (hr.slot t),anch_turn hr.m m' hr.anch (.inr rfl),hr.fix,hr.len,hr.nod⟩⟩⟩
def rowxIds:Mem→List Nat
 | []=>[]
 | (k,b)::m=>(match b with | .rowx _ _ _ _=>k::rowxIds m | _=>rowxIds m)
noncomputable def unAll:List Nat→St→St
 | [],s=>s
 | r::l,s=>unAll l (unXs r s)
theorem unAll_sub:∀ (l:List Nat) (s:St),Sub T s (unAll l s)
 | [],s=>.refl s
 | r::l,s=>(unXs_sub r s).trans (unAll_sub l _)
def hasVCall:List Oper→Bool
 | []=>false
 | o::l=>(match o.op with | .call c=>(match c.callee with | .value _=>true | _=>false) | _=>false) || hasVCall l
def hasSt:List Oper→Bool
 | []=>false
 | o::l=>(match o.op with | .store _ _ _=>true | _=>false) || hasSt l
def fpV (r:Nat) (g:Nat→SV):SV→SV
 | .ptr q o=>if Nat.beq q r then g o else .ptr q o
 | .agg l=>.agg (fpVs r g l)
 | .tup l=>.tup (fpVs r g l)
 | .fcl f l=>.fcl f (fpVs r g l)
 | .cel x=>.cel (fpV r g x)
 | x=>x
where fpVs (r:Nat) (g:Nat→SV):List SV→List SV
 | []=>[]
 | x::l=>fpV r g x::fpVs r g l
theorem fpVs_eq (r:Nat) (g:Nat→SV):∀ l:List SV,fpV.fpVs r g l=l.map (fpV r g)
 | []=>rfl
 | x::l=>by simp [fpV.fpVs,fpVs_eq r g l]
theorem Den.fp {w:World} {Y:Nat→Prop} {ρ ρ':Env} {r:Nat} {g:Nat→SV} {x:SV} {v:Value} {b:Nat} (h:Den w Y ρ x v) (hρ:ρ r=some (.pointer (some ⟨b,0,none⟩)))
  (hg:∀ o,Den w Y ρ' (g o) (.pointer (some ⟨b,o,none⟩))) (he:∀ q,ρ' q=none∨ρ' q=ρ q):Den w Y ρ' (fpV r g x) v:=by
 induction h with
 | agg ρ l cs hl' h ih =>
  simp only [fpV,fpVs_eq]
  refine .agg _ _ cs (by simpa using hl') fun i h1 h2=>?_
  simp only [List.getElem_map]
  exact ih i _ h2 hρ he
 | tup ρ l cs hl' h ih =>
  simp only [fpV,fpVs_eq]
  refine .tup _ _ cs (by simpa using hl') fun i h1 h2=>?_
  simp only [List.getElem_map]
  exact ih i _ h2 hρ he
 | ptr ρ q off b' h =>
  simp only [fpV]
  split
  ·rename_i hq
   have:=nbeq.1 hq
   subst this
   have:=h _ hρ
   simp only [Value.pointer.injEq,Option.some.injEq,Addr.mk.injEq,and_true] at this
   subst this
   exact hg off
  ·exact Den.env (.ptr ρ q off b' h) fun q=>(he q).imp id .inl
 | any ρ v=>exact .any _ v
 | bool ρ b=>exact .bool _ b
 | int ρ k n=>exact .int _ k n
 | str ρ s=>exact .str _ s
 | lst0 ρ sh a cap=>exact .lst0 _ sh a cap
 | lst ρ sh l b off cap us hb hx hc hu hl ho h ih=>exact .lst _ sh l b off cap us hb hx hc hu hl ho h
 | nil ρ=>exact .nil _
 | row ρ r a n c h=>exact Den.env (.row ρ r a n c h) fun q=>(he q).imp id .inl
 | rsl ρ r sh a n c x cc hc h=>exact Den.env (.rsl ρ r sh a n c x cc hc h) fun q=>(he q).imp id .inl
 | rptr ρ r sh i off b o h=>exact Den.env (.rptr ρ r sh i off b o h) fun q=>(he q).imp id .inl
 | eptr ρ sh x off b o us hb hx hu hl h ih=>exact .eptr _ sh x off b o us hb hx hu hl h
 | clo ρ f caps us hl h ih=>exact .clo _ f caps us hl h
 | obj ρ r v h1 h=>exact Den.env (.obj ρ r v h1 h) fun q=>(he q).imp id .inl
 | val ρ v=>exact .val _ v
 | fcl ρ f l cs hl' h ih =>
  simp only [fpV,fpVs_eq]
  refine .fcl _ f _ cs (by simpa using hl') fun i h1 h2=>?_
  simp only [List.getElem_map]
  exact ih i _ h2 hρ he
 | cel ρ x b o u hb hx hu h ih=>exact .cel _ _ b o u hb hx hu (ih hρ he)
def fpB (r:Nat) (g:Nat→SV):Blk→Blk
 | .chunk t x=>.chunk t (fpV r g x)
 | .rowx e l i x=>.rowx e l i (fpV r g x)
 | b=>b
def fpM (r:Nat) (g:Nat→SV):Mem→Mem
 | []=>[]
 | (k,b)::l=>(k,fpB r g b)::fpM r g l
theorem getM_fp (r:Nat) (g:Nat→SV):∀ (l:Mem) (q:Nat),getM (fpM r g l) q=fpB r g (getM l q)
 | [],r=>rfl
 | (k,b)::l,q=>by
  simp only [fpM,getM,getM_fp r g l q]
  split <;> rfl
theorem fpB_own (r:Nat) (g:Nat→SV) (b:Blk):(fpB r g b).own=b.own:=by cases b <;> rfl
def fpG (T:Nat→Option TI) (r t:Nat) (x:SV):Option (Nat→SV) :=
 match x with
 | .ptr q o=>(match T t with
  | some i=>if Nat.beq q r then none else (match i.shape with | none=>some fun k=>if Nat.beq k 0 then .cel (.ptr q o) else .ptr r k | some _=>none)
  | none=>none)
 | x=>(match T t with
  | some i=>if dataB x && Nat.beq i.size (wid i.shape) then some fun o=>.eptr i.shape x o else none
  | none=>none)
noncomputable def fpS (T:Nat→Option TI) (r:Nat) (s:St):St :=
 match getM s.mem r with
 | .chunk t x=>(match fpG T r t x with
  | some g=>⟨fpV.fpVs r g s.slots,setM .no (fpM r g s.mem) r⟩
  | none=>s)
 | _=>s
theorem fpS_sub (r:Nat) (s:St):Sub T s (fpS T r s):=⟨fun N w0 X z a w ρ hr=>by
 unfold fpS
 split
 case h_2=>exact ⟨ρ,hr⟩
 rename_i t x hm
 split
 case h_2=>exact ⟨ρ,hr⟩
 rename_i g hG
 have hbr:=hr.m.blk r
 rw [hm] at hbr
 obtain ⟨i,b,us,ty,h1,h2,h3,h4,h5,h6,h7⟩:=hbr
 let M':Mem:=setM .no (fpM r g s.mem) r
 let ρ':Env:=fun q=>if q=r then none else ρ q
 have hg:∀ q,getM M' q=if q=r then .no else fpB r g (getM s.mem q):=fun q=>by rw [getM_setM,getM_fp]
 have he:∀ q,ρ' q=none∨ρ' q=ρ q:=fun q=>by
  simp only [ρ']
  split
  ·exact .inl rfl
  ·exact .inr rfl
 have hown:∀ c,owned M' ρ' c→owned s.mem ρ c∧c≠b:=by
  rintro c ⟨q,v,g1,g2,g3⟩
  rw [hg] at g1
  by_cases hq:q=r
  ·rw [if_pos hq] at g1;cases g1
  ·rw [if_neg hq,fpB_own] at g1
   have g2':ρ q=some v:=by simpa only [ρ',if_neg hq] using g2
   refine ⟨⟨q,v,g1,g2',g3⟩,?_⟩
   rintro rfl
   exact hq (hr.m.inj q r v _ c g1 (by rw [hm];rfl) g2' h2 g3 rfl)
 have hF:∀ c,Forb X M' ρ' c→Forb X s.mem ρ c:=fun c h=>h.imp id fun h=>(hown c h).1
 have hnb:¬ Forb X M' ρ' b:=by
  rintro (h | h)
  ·exact (hr.m.low b h).2 h3
  ·exact (hown b h).2 rfl
 have hlt:b < w.heap.size:=heap_lt h4
 have hu:∀ (j:Nat) (u:Value),us.toList[j]?=some u→w.cell? ⟨b,0+j,none⟩=some u:=fun j u hj=>by
  rw [Nat.zero_add]
  exact cell_of_row w b j us ty (0,0) h4 |>.trans (by simpa using hj)
 have hgo:∀ o,Den w (Forb X M' ρ') ρ' (g o) (.pointer (some ⟨b,o,none⟩)):=by
  intro o
  have h7':=h7.mono (w':=w) (X':=Forb X M' ρ') (Nat.le_refl _) fun c _ hn=>⟨fun h=>hn (hF c h),rfl⟩
  have data:∀ {y:SV},(if dataB y && Nat.beq i.size (wid i.shape) then some fun o=>SV.eptr i.shape y o else none)=some g→Den w (Forb X M' ρ') ρ y (valAt i.shape us.toList 0)→Den w (Forb X M' ρ') ρ' (g o) (.pointer (some ⟨b,o,none⟩)):=by
   intro y hy hd
   split at hy
   case isFalse=>cases hy
   rename_i hc
   injection hy with hy
   subst hy
   simp only [Bool.and_eq_true] at hc
   have:=Den.eptr (X:=Forb X M' ρ') ρ' i.shape y o b 0 us.toList hlt hnb hu (by rw [Array.length_toList,h5,nbeq.1 hc.2]) hd.to_no
   simpa using this
  unfold fpG at hG
  split at hG
  ·rename_i q o'
   simp only [h1] at hG
   split at hG
   ·cases hG
   rename_i hqr
   split at hG
   case h_2=>cases hG
   rename_i hsh
   injection hG with hG
   subst hG
   simp only
   split
   ·rename_i ho
    have ho:=nbeq.1 ho
    subst ho
    rw [hsh] at h7'
    have hne:q≠r:=fun e=>hqr (nbeq.2 e)
    have hcell:w.cell? ⟨b,0,none⟩=some (valAt none us.toList 0):=by
     have:∃ u,us.toList[0]?=some u:=by
      cases hu0:us.toList[0]? with
      | some u=>exact ⟨u,rfl⟩
      | none =>
       exfalso
       simp only [valAt,hu0,Option.getD_none] at h7'
       cases h7'
     obtain ⟨u,hu0⟩:=this
     have:=hu 0 u hu0
     simp only [Nat.add_zero] at this
     rw [this]
     simp [valAt,hu0]
    exact .cel _ _ b 0 _ hlt hnb hcell (h7'.env fun k=>by
     by_cases hk:k=r
     ·subst hk;right;right;simp only [noref,Bool.not_eq_true'];cases hb:Nat.beq q k with | false=>rfl | true=>exact absurd (nbeq.1 hb) hne
     ·right;left;simp only [ρ',if_neg hk])
   ·exact .ptr _ _ _ _ fun q hq=>by simp only [ρ',if_true] at hq;cases hq
  ·simp only [h1] at hG
   exact data hG h7'
 have key:∀ {y:SV} {v:Value},Den w (Forb X s.mem ρ) ρ y v→Den w (Forb X M' ρ') ρ' (fpV r g y) v:=fun h =>
  (h.mono (Nat.le_refl _) fun c _ hn=>⟨fun h=>hn (hF c h),rfl⟩).fp h2 hgo he
 have keyN:∀ {y:SV} {v:Value},Den w (Forb X s.mem ρ) noEnv y v→Den w (Forb X M' ρ') noEnv y v:=fun h=>h.mono (Nat.le_refl _) fun c _ hn=>⟨fun h=>hn (hF c h),rfl⟩
 refine ⟨ρ',⟨⟨hr.m.low,hr.m.below,hr.m.szN,fun q=>?_,fun q q' v v' c g1 g2 g3 g4 g5 g6=>?_,gl_mono hr.m.gl (Nat.le_refl _) fun c _ hn=>⟨fun h=>hn (hF c h),rfl⟩⟩,hr.defers.sub hF,?_,fun k=>?_,fun v hz hn=>?_,hr.fix,hr.len,hr.nod⟩⟩
 ·show BlkRep T N w (Forb X M' ρ') ρ' (getM M' q) (ρ' q)
  rw [hg]
  by_cases hq:q=r
  ·rw [if_pos hq]
   show ρ' q=none
   simp only [ρ',if_pos hq]
  ·rw [if_neg hq]
   have e2:ρ' q=ρ q:=by simp only [ρ',if_neg hq]
   rw [e2]
   have hb:=hr.m.blk q
   cases hB:getM s.mem q with
   | no=>rw [hB] at hb;exact hb
   | frz sh l=>rw [hB] at hb;obtain ⟨v,g1,g2⟩:=hb;exact ⟨v,g1,keyN g2⟩
   | row sh e l =>
    rw [hB] at hb
    obtain ⟨v,g1,g2⟩:=hb
    refine ⟨v,g1,g2.imp id ?_⟩
    rintro ⟨b,off,cap,cur,k1,k2,k3,k4,k5,k6,k7,k8,k9⟩
    exact ⟨b,off,cap,cur,k1,k2,k3,k4,k5,k6,k7,k8,fun i h=>keyN (k9 i h)⟩
   | chunk t' x' =>
    rw [hB] at hb
    obtain ⟨i,b,us,ty,g1,g2,g3,g4,g5,g6,g7⟩:=hb
    exact ⟨i,b,us,ty,g1,g2,g3,g4,g5,g6,key g7⟩
   | rowx e l j x' =>
    rw [hB] at hb
    obtain ⟨b,off,cap,cur,g2,g3,g4,g5,g6,g7,g0,g9,gi,g8,gx⟩:=hb
    exact ⟨b,off,cap,cur,g2,g3,g4,g5,g6,g7,g0,g9,gi,fun j h hj=>keyN (g8 j h hj),key gx⟩
   | iter s p=>rw [hB] at hb;exact hb
   | gen _ _ _=>rw [hB] at hb;exact hb
 ·have k1:q≠r:=fun hq=>by have:(getM M' q).own=true:=g1;rw [hg,if_pos hq] at this;cases this
  have k2:q'≠r:=fun hq=>by have:(getM M' q').own=true:=g2;rw [hg,if_pos hq] at this;cases this
  have g1:(getM M' q).own=true:=g1
  have g2:(getM M' q').own=true:=g2
  rw [hg,if_neg k1,fpB_own] at g1
  rw [hg,if_neg k2,fpB_own] at g2
  simp only [ρ',if_neg k1] at g3
  simp only [ρ',if_neg k2] at g4
  exact hr.m.inj _ _ v v' c g1 g2 g3 g4 g5 g6
 ·rw [hr.size];simp [fpVs_eq]
 ·show Den w (Forb X M' ρ') ρ' (getN .any (fpV.fpVs r g s.slots) k) _
  have e:getN SV.any (fpV.fpVs r g s.slots) k=fpV r g (getN SV.any s.slots k):=by
   rw [fpVs_eq,getN_eq,getN_eq,List.getElem?_map]
   cases s.slots[k]? <;> rfl
  rw [e]
  exact key (hr.slot k)
 ·have hn:getM M' 0≠.no:=hn
  rw [hg] at hn
  by_cases h0:(0:Nat)=r
  ·rw [if_pos h0] at hn;exact absurd rfl hn
  ·rw [if_neg h0] at hn
   show ρ' 0=some v
   simp only [ρ',if_neg h0]
   exact hr.anch v hz fun h=>hn (by rw [h];rfl)⟩
def copied (k:Nat):List Oper→Bool
 | []=>false
 | o::l=>(match o.op with | .call c=>(match c.callee,c.args.toList with | .builtin .copy,.tmp d::_=>Nat.beq d k | _,_=>false) | _=>false) || copied k l
def defOf (k:Nat):List Oper→Option Op
 | []=>none
 | o::l=>(match o.dst with | some d=>if Nat.beq d k then some o.op else defOf k l | none=>defOf k l)
def rootOf (all:List Oper) (sl:List SV) (k:Nat):SV:=match defOf k all with
 | some (.fieldAddr _ (.tmp j) _)=>getN .any sl j
 | some _=>.any
 | none=>getN .any sl k
def sliced (T:Nat→Option TI) (all:List Oper) (sl:List SV):List Oper→List Nat
 | []=>[]
 | o::l=>(match o.op with
  | .slice t (.tmp k) _ _ _=>(match T t,rootOf all sl k,o.dst with
   | some i,.ptr r _,some d=>(match i.kind with | .array _ _=>if copied d all then sliced T all sl l else r::sliced T all sl l | _=>sliced T all sl l)
   | _,_,_=>sliced T all sl l)
  | _=>sliced T all sl l)
noncomputable def fpAll (T:Nat→Option TI):List Nat→St→St
 | [],s=>s
 | r::l,s=>fpAll T l (fpS T r s)
theorem fpAll_sub:∀ (l:List Nat) (s:St),Sub T s (fpAll T l s)
 | [],s=>.refl s
 | r::l,s=>(fpS_sub r s).trans (fpAll_sub l _)
def capIds1 (sl:List SV):List Operand→List Nat
 | []=>[]
 | .tmp k::l=>(match getN .any sl k with | .ptr r _=>r::capIds1 sl l | _=>capIds1 sl l)
 | _::l=>capIds1 sl l
def capIds (sl:List SV):List Oper→List Nat
 | []=>[]
 | o::l=>(match o.op with | .makeFunc _ _ caps=>capIds1 sl caps.toList++capIds sl l | _=>capIds sl l)
def hasMk:List Oper→Bool
 | []=>false
 | o::l=>(match o.op with | .makeFunc _ _ caps=>!caps.toList.isEmpty | _=>false) || hasMk l
def ptrIds (m:Mem):List Nat→List Nat
 | []=>[]
 | r::l=>(match getM m r with | .chunk _ (.ptr _ _)=>r::ptrIds m l | _=>ptrIds m l)
noncomputable def prepA (T:Nat→Option TI) (ops:List Oper) (s:St):St:=fpAll T (capIds s.slots ops) s
noncomputable def prepB (T:Nat→Option TI) (ops:List Oper) (s:St):St:=fpAll T (ptrIds s.mem (capIds s.slots ops)) s
theorem prepA_sub (ops:List Oper) (s:St):Sub T s (prepA T ops s):=fpAll_sub _ _
theorem prepB_sub (ops:List Oper) (s:St):Sub T s (prepB T ops s):=fpAll_sub _ _
theorem MRep.weakC1 {N:Nat→Prop} {w0 w:World} {X:Nat→Prop} {mem:Mem} {ρ:Env} (m:MRep T N w0 w X mem ρ) {k t:Nat} {x y:SV} (hk:getM mem k=.chunk t x) (hw:∀ u,Den w (Forb X mem ρ) ρ x u→Den w (Forb X mem ρ) ρ y u) :
  MRep T N w0 w X (setM (.chunk t y) mem k) ρ∧Forb X (setM (.chunk t y) mem k) ρ=Forb X mem ρ:=by
 have ho:∀ r,(getM (setM (.chunk t y) mem k) r).own=(getM mem r).own:=fun r=>by
  rw [getM_setM]
  by_cases h:r=k
  ·subst h;rw [if_pos rfl,hk];rfl
  ·rw [if_neg h]
 have hF:Forb X (setM (.chunk t y) mem k) ρ=Forb X mem ρ:=by
  funext b
  simp only [Forb,owned,ho]
 refine ⟨⟨m.low,m.below,m.szN,fun r=>?_,fun r r' v v' b g1 g2=>?_,?_⟩,hF⟩
 ·rw [hF,getM_setM]
  by_cases h:r=k
  ·subst h
   rw [if_pos rfl]
   have hb:=m.blk r
   rw [hk] at hb
   obtain ⟨i,b,us,ty,h1,h2,h3,h4,h5,h6,h7⟩:=hb
   exact ⟨i,b,us,ty,h1,h2,h3,h4,h5,h6,hw _ h7⟩
  ·rw [if_neg h];exact m.blk r
 ·rw [ho] at g1 g2
  exact m.inj r r' v v' b g1 g2
 ·rw [hF];exact m.gl
noncomputable def frzC (T:Nat→Option TI) (q:Nat) (s:St):St :=
 match getM s.mem q with
 | .chunk t x=>if dataB x then s else (match view T (getM s.mem) t x with
  | some y=>⟨s.slots,setM (.chunk t y) (appU (frzU (getM s.mem) (rids x)) s.mem) q⟩
  | none=>s)
 | _=>s
theorem frzC_sub (q:Nat) (s:St):Sub T s (frzC T q s):=⟨fun N w0 X z a w ρ hr=>by
 unfold frzC
 split
 case h_2=>exact ⟨ρ,hr⟩
 rename_i t x hm
 split
 ·exact ⟨ρ,hr⟩
 split
 case h_2=>exact ⟨ρ,hr⟩
 rename_i y hv
 have fz:=freeze_ids (T:=T) (sees_all s.mem) hr.m (rids x)
 generalize hM:appU (frzU (getM s.mem) (rids x)) s.mem=mem1 at fz
 have hq:getM mem1 q=.chunk t x:=by
  rcases fz.old q with g | ⟨_,sh,e,k,g,_⟩
  ·rw [g];exact hm
  ·rw [hm] at g;cases g
 have hb0:=hr.m.blk q
 rw [hm] at hb0
 obtain ⟨m',hF⟩:=fz.m.weakC1 (y:=y) hq fun u hu=>by
  obtain ⟨v1,v2⟩:=view_same (T:=T) (μ':=getM mem1) (fun k hk=>fz.at' k hk) hv
  exact (view_den (sees_all mem1) fz.m (Z:=Forb X mem1 ρ) (fun b _ h=>h) (fun h=>by rw [v2] at h;cases h) v1 hu).data (view_data hv)
 refine ⟨ρ,⟨m',by rw [hF];exact hr.defers.turn fz.t,hr.size,fun k=>by rw [hF];exact fz.t.den (fun _ h=>by cases h) (hr.slot k),fun v hz hn=>?_,hr.fix,hr.len,hr.nod⟩⟩
 refine hr.anch v hz fun h0=>hn ?_
 simp only
 rw [getM_setM]
 split
 ·rename_i h;subst h;rw [hm] at h0;cases h0
 ·exact fz.no (sees_all _) h0⟩
def capPtr:List SV→List Nat
 | []=>[]
 | .ptr q _::l=>q::capPtr l
 | _::l=>capPtr l
def fclIds (sl:List SV):List Oper→List Nat
 | []=>[]
 | o::l=>(match o.op with
  | .move (.tmp k)=>(match getN .any sl k with | .fcl _ caps=>capPtr caps++fclIds sl l | _=>fclIds sl l)
  | _=>fclIds sl l)
def argTmps:List Oper→List Nat
 | []=>[]
 | o::l=>(match o.op with
  | .call c=>(match c.callee with
   | .value (.func _)=>c.args.toList.filterMap fun a=>match a with | .tmp k=>some k | _=>none
   | _=>[])
  | _=>[])++argTmps l
def lendIds (sl:List SV) (az:List Nat):List Oper→List Nat
 | []=>[]
 | o::l=>(match o.op with
  | .move (.tmp k)=>(match getN .any sl k with | .ptr q _=>if (match o.dst with | some d=>az.contains d | none=>false) then q::lendIds sl az l else lendIds sl az l | _=>lendIds sl az l)
  | .call c=>(match c.callee with
   | .value (.func _)=>capPtr (c.args.toList.map fun a=>match a with | .tmp k=>getN .any sl k | _=>.any)++lendIds sl az l
   | _=>lendIds sl az l)
  | _=>lendIds sl az l)
noncomputable def frzCs (T:Nat→Option TI):List Nat→St→St
 | [],s=>s
 | q::l,s=>frzCs T l (frzC T q s)
theorem frzCs_sub:∀ (l:List Nat) (s:St),Sub T s (frzCs T l s)
 | [],s=>.refl s
 | q::l,s=>(frzC_sub q s).trans (frzCs_sub l _)
noncomputable def prepO (T:Nat→Option TI) (ops:List Oper) (s:St):St:=(fun s=>frzCs T (fclIds s.slots ops++lendIds s.slots (argTmps ops) ops) s) <| (fun s=>fpAll T (sliced T ops s.slots ops) s) (prep (makes ops) (if hasVCall ops && !(hasSt ops) then unAll (rowxIds s.mem) s else s))
theorem prepO_sub (ops:List Oper) (s:St):Sub T s (prepO T ops s):=by
 unfold prepO
 refine Sub.trans ?_ (frzCs_sub _ _)
 refine Sub.trans ?_ (fpAll_sub _ _)
 split
 ·exact (unAll_sub _ s).trans (prep_sub _ _)
 ·exact prep_sub _ s
noncomputable def asRsl (t:Nat) (s:St):St :=
 match getN .any s.slots t with
 | .row p=>(match getM s.mem p with
  | .row sh _ l=>if Nat.blt t s.slots.length then ⟨setN (.rsl p sh 0 (O.ln l) none) s.slots t,s.mem⟩ else s
  | _=>s)
 | _=>s
theorem asRsl_sub (t:Nat) (s:St):Sub T s (asRsl t s):=⟨fun N w0 X z a w ρ hr=>by
 unfold asRsl
 split
 case h_2=>exact ⟨ρ,hr⟩
 rename_i p ht
 split
 case h_2=>exact ⟨ρ,hr⟩
 rename_i sh e l hm
 split
 case isFalse=>exact ⟨ρ,hr⟩
 rename_i hc
 rw [Nat.blt_eq] at hc
 refine ⟨ρ,⟨hr.m,hr.defers,by rw [hr.size];simp [setN_length],fun k=>?_,hr.anch,hr.fix,hr.len,hr.nod⟩⟩
 simp only
 rw [getN_setN _ _ _ _ _ hc]
 by_cases hk:k=t
 ·subst hk
  rw [if_pos rfl]
  have hd:=hr.slot k
  rw [ht] at hd
  have hb:=hr.m.blk p
  rw [hm] at hb
  obtain ⟨v0,h1,h2⟩:=hb
  generalize a.tmps.getD k undef=v at hd
  cases hd with
  | row _ _ a' n' c' hrow =>
   have e1:=hrow _ h1
   rw [O.hln]
   rcases h2 with ⟨x,rfl,rfl⟩ | ⟨b,off,cap,cur,rfl,_,_,h5,_⟩
   ·simp only [Value.slice.injEq] at e1
    obtain ⟨rfl,rfl,rfl⟩:=e1
    refine .rsl _ p sh 0 0 none _ 0 (Nat.le_refl _) fun q hq=>.inl ⟨_,_,_,(by rw [h1] at hq;injection hq with hq;exact hq.symm),by omega,by omega,fun _=>rfl,(fun m hm=>by cases hm),.inl rfl⟩
   ·simp only [Value.slice.injEq] at e1
    obtain ⟨rfl,rfl,rfl⟩:=e1
    refine .rsl _ p sh 0 _ none _ _ h5 fun q hq=>.inl ⟨_,_,_,(by rw [h1] at hq;injection hq with hq;exact hq.symm),by omega,by omega,fun _=>rfl,(fun m hm=>by cases hm),.inr ⟨b,off,rfl,by simp⟩⟩
 ·rw [if_neg hk]
  exact hr.slot k⟩
theorem MRep.drop {N:Nat→Prop} {w0 w:World} {X:Nat→Prop} {mem mem':Mem} {ρ:Env} (m:MRep T N w0 w X mem ρ) (h:∀ r,getM mem' r=.no∨getM mem' r=getM mem r) :
  let ρ':Env:=fun r=>match getM mem' r with | .no=>none | _=>ρ r
  MRep T N w0 w X mem' ρ'∧(∀ r,ρ' r=none∨ρ' r=ρ r)∧∀ b,Forb X mem' ρ' b→Forb X mem ρ b:=by
 intro ρ'
 have env:∀ r,ρ' r=none∨ρ' r=ρ r:=by
  intro r
  simp only [ρ']
  cases getM mem' r <;> first | exact .inl rfl | exact .inr rfl
 have hown:∀ b,owned mem' ρ' b→owned mem ρ b:=by
  rintro b ⟨r,v,g1,g2,g3⟩
  rcases h r with e | e
  ·rw [e] at g1;cases g1
  ·refine ⟨r,v,by rw [← e];exact g1,?_,g3⟩
   rcases env r with e' | e'
   ·rw [e'] at g2;cases g2
   ·rw [e'] at g2;exact g2
 refine ⟨⟨m.low,m.below,m.szN,fun r=>?_,fun r r' v v' b g1 g2 g3 g4 g5 g6=>?_,gl_mono m.gl (Nat.le_refl _) fun b _ hn=>⟨fun hf=>hn (hf.imp id (hown b)),rfl⟩⟩,env,fun b hb=>hb.imp id (hown b)⟩
 ·rcases h r with e | e
  ·rw [e]
   show ρ' r=none
   simp only [ρ',e]
  ·have hb:=m.blk r
   cases hB:getM mem' r with
   | no=>show ρ' r=none;simp only [ρ',hB]
   | _ =>
    have e2:ρ' r=ρ r:=by simp only [ρ',hB]
    rw [← e,hB] at hb
    rw [e2]
    exact BlkRep.lift (w:=w) (Y:=Forb X mem ρ) (ρ:=ρ) (d:=none) ⟨fun q=>(env q).imp id .inl,Nat.le_refl _,fun b _ hf=>⟨fun hf'=>hf (hf'.imp id (hown b)),rfl⟩⟩ (fun _ h=>by cases h) (fun _ _ _ _ _=>rfl) hb
 ·have k1:getM mem' r=getM mem r:=(h r).resolve_left (fun e=>by rw [e] at g1;cases g1)
  have k2:getM mem' r'=getM mem r':=(h r').resolve_left (fun e=>by rw [e] at g2;cases g2)
  have k3:ρ' r=ρ r:=(env r).resolve_left (fun e=>by rw [e] at g3;cases g3)
  have k4:ρ' r'=ρ r':=(env r').resolve_left (fun e=>by rw [e] at g4;cases g4)
  rw [k1] at g1
  rw [k2] at g2
  rw [k3] at g3
  rw [k4] at g4
  exact m.inj r r' v v' b g1 g2 g3 g4 g5 g6
def WeakS:List SV→List SV→Prop
 | [],[]=>True
 | _::xs,.any::ys=>WeakS xs ys
 | x::xs,y::ys=>x=y∧WeakS xs ys
 | _,_=>False
def WeakM (m:Mem):Mem→Prop
 | []=>True
 | (_,.no)::l=>WeakM m l
 | (k,b)::l=>getM m k=b∧WeakM m l
def WeakSt (s s':St):Prop:=WeakS s.slots s'.slots∧WeakM s.mem s'.mem
theorem WeakS.get:∀ {l l':List SV},WeakS l l'→l.length=l'.length∧∀ t,getN SV.any l' t=.any∨getN SV.any l' t=getN SV.any l t
 | [],[],_=>⟨rfl,fun t=>.inl rfl⟩
 | [],y::ys,h=>by cases y <;> simp [WeakS] at h
 | x::xs,[],h=>by simp [WeakS] at h
 | x::xs,y::ys,h=>by
  have:(y=.any∨y=x)∧WeakS xs ys:=by
   cases y <;> first | exact ⟨.inl rfl,h⟩ | exact ⟨.inr h.1.symm,h.2⟩
  obtain ⟨h1,h2⟩:=this
  obtain ⟨h3,h4⟩:=WeakS.get h2
  refine ⟨by simp [h3],fun t=>?_⟩
  cases t with
  | zero=>simpa [getN] using h1
  | succ t=>simpa [getN] using h4 t
theorem WeakM.get {m:Mem}:∀ {l:Mem},WeakM m l→∀ r,getM l r=.no∨getM l r=getM m r
 | [],_,r=>.inl rfl
 | (k,b)::l,h,r=>by
  have:(b=.no∨getM m k=b)∧WeakM m l:=by
   cases b <;> first | exact ⟨.inl rfl,h⟩ | exact ⟨.inr h.1,h.2⟩
  simp only [getM,nbeq]
  by_cases hk:k=r
  ·subst hk
   rw [if_pos rfl]
   exact this.1.imp id Eq.symm
  ·rw [if_neg hk]
   exact WeakM.get this.2 r
theorem weak_sub {s s':St} (h:WeakSt s s'):Sub T s s':=⟨fun N w0 X z a w ρ hr=>by
 obtain ⟨h1,h2⟩:=WeakS.get h.1
 obtain ⟨m',env,hf⟩:=hr.m.drop (WeakM.get h.2)
 refine ⟨_,⟨m',hr.defers.sub hf,by rw [hr.size,h1],fun t=>?_,anch_turn hr.m m' hr.anch (env 0),hr.fix,hr.len,hr.nod⟩⟩
 rcases h2 t with e | e
 ·rw [e];exact .any _ _
 ·rw [e];exact ((hr.slot t).mono (Nat.le_refl _) (fun b _ hb=>⟨fun hf'=>hb (hf b hf'),rfl⟩)).env fun r=>(env r).imp id .inl⟩
def adopt (t q:Nat) (sh:Option Nat) (e:Nat) (s:St):St :=
 match getN .any s.slots t with
 | .nil=>if !(Nat.beq q 0) && isNo (getM s.mem q) && noref.norefs q s.slots && memNoref q s.mem && Nat.blt t s.slots.length then ⟨setN (.row q) s.slots t,setM (.row sh e []) s.mem q⟩ else s
 | _=>s
theorem adopt_sub (t q:Nat) (sh:Option Nat) (e:Nat) (s:St):Sub T s (adopt t q sh e s):=⟨fun N w0 X z a w ρ hr=>by
 unfold adopt
 split
 case h_2=>exact ⟨ρ,hr⟩
 rename_i ht
 split
 case isFalse=>exact ⟨ρ,hr⟩
 rename_i hc
 simp only [Bool.and_eq_true,Nat.blt_eq] at hc
 obtain ⟨⟨⟨⟨c0,c1⟩,c2⟩,c3⟩,c4⟩:=hc
 have hno:getM s.mem q=.no:=by cases h:getM s.mem q <;> simp_all [isNo]
 obtain ⟨m',t'⟩:=hr.m.create (w':=w) hno c3 (B:=.row sh e []) (v:=.slice none 0 0) (fun b hb=>by simp [vblock] at hb) (Below.refl _ _) (fun _=>⟨_,rfl,.inl ⟨none,rfl,rfl⟩⟩)
 refine ⟨_,⟨m',hr.defers.turn t',by rw [hr.size];simp [setN_length],fun k=>?_,anch_turn hr.m m' hr.anch (t'.env0 (fun e=>by injection e with e;subst e;simp at c0)),hr.fix,hr.len,hr.nod⟩⟩
 simp only
 rw [getN_setN _ _ _ _ _ c4]
 by_cases hk:k=t
 ·subst hk
  rw [if_pos rfl]
  have:=hr.slot k
  rw [ht] at this
  generalize a.tmps.getD k undef=v at this
  cases this
  exact .row _ q _ _ _ fun x hx=>by simp only [upd,if_true] at hx;injection hx with hx;exact hx.symm
 ·rw [if_neg hk]
  exact t'.den (fun r hr=>by injection hr with hr;subst hr;exact norefs_getN c2 k) (hr.slot k)⟩
end
section
open Go.RowKit
variable {P:Program} {T:Nat→Option TI} {G:Nat→CT→Prop}
structure Ks where
 n:St→Prop
 r:St→Prop
 e:Nat→St→Prop
def dstsL:List Oper→List Nat
 | []=>[]
 | o::l=>(match o.dst with | some d=>d::dstsL l | none=>dstsL l)
theorem dstsL_mem {q:Nat} {l:List Oper} {o:Oper} (h:o∈l) (hq:o.dst=some q):q∈dstsL l:=by
 induction l with
 | nil=>cases h
 | cons p l ih =>
  simp only [dstsL]
  rcases List.mem_cons.1 h with h | h
  ·rw [← h,hq];simp
  ·have:=ih h
   split
   ·exact List.mem_cons_of_mem _ this
   ·exact this
def assignedC:Code→List Nat
 | .region _ ops _=>dstsL ops.toList
 | .seq a b=>assignedC a++assignedC b
 | .cond _ a b=>assignedC a++assignedC b
 | .block _ c=>assignedC c
 | .scope c=>assignedC c
 | .loop c=>assignedC c
 | .rangeFunc _ ps a b=>ps.toList++(assignedC a++assignedC b)
 | _=>[]
def killN:List Nat→List SV→List SV
 | [],l=>l
 | d::ds,l=>killN ds (setN .any l d)
def kill (asg:List Nat) (s:St):St:=⟨killN asg s.slots,s.mem⟩
def putZ:List Nat→List SV→List SV→List SV
 | d::ds,x::xs,l=>putZ ds xs (setN x l d)
 | _,_,l=>l
def datas:List SV→Bool
 | []=>true
 | x::l=>dataB x && datas l
structure RangeQ (T:Nat→Option TI) (G:Nat→CT→Prop) (FA FB:St→Ks→Prop) (asg ps:List Nat) (f:Nat) (caps:List SV) (s:St) (K:Ks):Prop where
 h:∃ (xs:List (List SV)),G f (seqC caps xs)∧(∀ x∈xs,x.length=ps.length∧datas x=true)∧∃ (A:Type) (I:A→Prop) (pos:A→Nat) (g:A→St) (R:A→St→St→Prop),(∀ i s s',R i s s'→Sub T s s')∧(∃ i,I i∧pos i=0∧R i (kill asg s) (g i)) ∧
  (∀ i x,I i→xs[pos i]?=some x→FA ⟨putZ ps x (g i).slots,(g i).mem⟩ ⟨fun s1=>FB s1 ⟨fun s'=>∃ j,I j∧pos j=pos i+1∧R j (kill asg s') (g j),fun s'=>K.r (kill asg s'),fun id s'=>K.e id (kill asg s')⟩,fun _=>False,fun _ _=>False⟩) ∧
  (∀ i,I i→pos i=xs.length→K.n (g i))
theorem Den.monoC {w w':World} {X X':Nat→Prop} (hs:w.heap.size≤w'.heap.size) (hk:∀ b,b < w.heap.size→¬ X b→¬ X' b∧∀ o u,w.cell? ⟨b,o,none⟩=some u→w'.cell? ⟨b,o,none⟩=some u)
  {ρ:Env} {x:SV} {v:Value} (h:Den w X ρ x v):Den w' X' ρ x v:=by
 induction h with
 | any ρ v=>exact .any ρ v
 | bool ρ b=>exact .bool ρ b
 | int ρ k n=>exact .int ρ k n
 | str ρ s=>exact .str ρ s
 | agg ρ l cs hl h ih=>exact .agg ρ l cs hl ih
 | tup ρ l cs hl h ih=>exact .tup ρ l cs hl ih
 | lst0 ρ sh a cap=>exact .lst0 ρ sh a cap
 | lst ρ sh l b off cap us hb hx hc hu hl ho h ih =>
  exact .lst ρ sh l b off cap us (by omega) (hk b hb hx).1 hc (fun j u hj=>(hk b hb hx).2 _ _ (hu j u hj)) hl ho ih
 | nil ρ=>exact .nil ρ
 | ptr ρ r off b h=>exact .ptr ρ r off b h
 | row ρ r a n c h=>exact .row ρ r a n c h
 | rsl ρ r sh a n c x cc hc h=>exact .rsl ρ r sh a n c x cc hc h
 | rptr ρ r sh i off b o h=>exact .rptr ρ r sh i off b o h
 | eptr ρ sh x off b o us hb hx hu hl h ih =>
  exact .eptr ρ sh x off b o us (by omega) (hk b hb hx).1 (fun j u hj=>(hk b hb hx).2 _ _ (hu j u hj)) hl ih
 | clo ρ f caps us hl h ih=>exact .clo ρ f caps us hl ih
 | obj ρ r v h1 h=>exact .obj ρ r v h1 h
 | val ρ v=>exact .val ρ v
 | fcl ρ f caps us hl h ih=>exact .fcl ρ f caps us hl ih
 | cel ρ x b o u hb hx hu h ih=>exact .cel ρ x b o u (by omega) (hk b hb hx).1 ((hk b hb hx).2 _ _ hu) ih
theorem putObj_cell {w:World} {D:Nat} {o:Obj} (hD:w.heap[D]?=some o) (hc:o.isCells=false) (o':Obj) (b off:Nat) (u:Value) (h:w.cell? ⟨b,off,none⟩=some u):(w.putObj D o').cell? ⟨b,off,none⟩=some u:=by
 by_cases hb:b=D
 ·subst hb
  simp only [World.cell?,hD] at h
  cases o <;> simp_all [Obj.isCells]
 ·rw [World.cell?_of_block (w:=w) (by exact World.putObj_heap_other hb)]
  exact h
theorem MRep.chg {N N':Nat→Prop} {w0 w1 w w':World} {X:Nat→Prop} {mem:Mem} {ρ:Env} (m:MRep T N w0 w X mem ρ) (hN:∀ b,owned mem ρ b→N' b) (hX:∀ b,X b→¬ N' b) (hsz:∀ b,w'.heap.size≤b→N' b) (hbel:BelowW N' w1 w')
  (hsize:w.heap.size≤w'.heap.size) (hown:∀ b,owned mem ρ b→w'.heap[b]?=w.heap[b]?) (hcell:∀ b,b < w.heap.size→¬ Forb X mem ρ b→∀ o u,w.cell? ⟨b,o,none⟩=some u→w'.cell? ⟨b,o,none⟩=some u):MRep T N' w1 w' X mem ρ:=by
 have hk:∀ b,b < w.heap.size→¬ Forb X mem ρ b→¬ Forb X mem ρ b∧∀ o u,w.cell? ⟨b,o,none⟩=some u→w'.cell? ⟨b,o,none⟩=some u:=fun b h1 h2=>⟨h2,hcell b h1 h2⟩
 refine ⟨fun b h=>⟨Nat.lt_of_lt_of_le (m.low b h).1 hsize,hX b h⟩,hbel,hsz,fun r=>?_,m.inj,fun g x hg=>⟨(m.gl g x hg).1,(m.gl g x hg).2.monoC hsize hk⟩⟩
 have hr:=m.blk r
 cases hm:getM mem r with
 | no=>rw [hm] at hr;exact hr
 | frz sh l =>
  rw [hm] at hr
  obtain ⟨v,h1,h2⟩:=hr
  exact ⟨v,h1,h2.monoC hsize hk⟩
 | rowx e l i x =>
  rw [hm] at hr
  obtain ⟨b,off,cap,cur,h2,h3,h4,h5,h6,h7,h0,h9,hi,h8,hx⟩:=hr
  have ho:owned mem ρ b:=⟨r,_,by rw [hm];rfl,h2,by simp only [vblock];rw [if_neg (by omega)]⟩
  exact ⟨b,off,cap,cur,h2,hN b ho,by rw [hown b ho];exact h4,h5,h6,h7,h0,h9,hi,fun j h hj=>(h8 j h hj).monoC hsize hk,hx.monoC hsize hk⟩
 | iter s p =>
  rw [hm] at hr
  obtain ⟨b,h1,h2,h3⟩:=hr
  have ho:owned mem ρ b:=⟨r,_,by rw [hm];rfl,h1,rfl⟩
  exact ⟨b,h1,hN b ho,by rw [hown b ho];exact h3⟩
 | gen tag k l =>
  rw [hm] at hr
  obtain ⟨v,b,ob,h1,h2,h3,h4,h5⟩:=hr
  have ho:owned mem ρ b:=⟨r,_,by rw [hm];rfl,h1,h2⟩
  exact ⟨v,b,ob,h1,h2,hN b ho,by rw [hown b ho];exact h4,h5⟩
 | chunk t x =>
  rw [hm] at hr
  obtain ⟨i,b,us,ty,h1,h2,h3,h4,h5,h7,h6⟩:=hr
  have ho:owned mem ρ b:=⟨r,_,by rw [hm];rfl,h2,rfl⟩
  exact ⟨i,b,us,ty,h1,h2,hN b ho,by rw [hown b ho];exact h4,h5,h7,h6.monoC hsize hk⟩
 | row sh e l =>
  rw [hm] at hr
  obtain ⟨v,h1,h2⟩:=hr
  refine ⟨v,h1,?_⟩
  rcases h2 with h2 | ⟨b,off,cap,cur,h2,h3,h4,h5,h6,h7,h0,h9,h8⟩
  ·exact .inl h2
  ·have ho:owned mem ρ b:=⟨r,_,by rw [hm];rfl,h1,by rw [h2];simp only [vblock];rw [if_neg (by omega)]⟩
   exact .inr ⟨b,off,cap,cur,h2,hN b ho,by rw [hown b ho];exact h4,h5,h6,h7,h0,h9,fun i h=>(h8 i h).monoC hsize hk⟩
theorem MRep.chN {N N':Nat→Prop} {w0 w1 w:World} {X:Nat→Prop} {mem:Mem} {ρ:Env} (m:MRep T N w0 w X mem ρ) (hN:∀ b,owned mem ρ b→N' b) (hX:∀ b,X b→¬ N' b) (hsz:∀ b,w.heap.size≤b→N' b) (hbel:BelowW N' w1 w):MRep T N' w1 w X mem ρ :=
 m.chg hN hX hsz hbel (Nat.le_refl _) (fun _ _=>rfl) (fun _ _ _ _ _ h=>h)
def Nw (mem:Mem) (ρ:Env) (w:World):Nat→Prop:=fun b=>owned mem ρ b∨w.heap.size≤b
theorem MRep.base {N:Nat→Prop} {w0 w:World} {X:Nat→Prop} {mem:Mem} {ρ:Env} (m:MRep T N w0 w X mem ρ):MRep T (Nw mem ρ w) w w X mem ρ :=
 m.chN (fun b h=>.inl h) (fun b h hn=>by
  rcases hn with hn | hn
  ·exact (m.low b h).2 (m.owned_lt hn).1
  ·have:=(m.low b h).1;omega) (fun b h=>.inr h) (.refl _ _)
theorem Nw.sub {N:Nat→Prop} {w0 w:World} {X:Nat→Prop} {mem:Mem} {ρ:Env} (m:MRep T N w0 w X mem ρ) {b:Nat} (h:Nw mem ρ w b):N b:=h.elim (fun h=>(m.owned_lt h).1) (m.szN b)
theorem BelowW.weak {N N':Nat→Prop} {w w':World} (h:BelowW N w w') (hN:∀ b,N b→N' b):BelowW N' w w':=⟨h.os,h.tape,h.output,h.size,fun k h1 h2=>h.block k h1 (fun h=>h2 (hN k h))⟩
theorem MRep.unbase {N:Nat→Prop} {w0 w w':World} {X:Nat→Prop} {mem mem':Mem} {ρ ρ':Env} (m:MRep T N w0 w X mem ρ) (m':MRep T (Nw mem ρ w) w w' X mem' ρ'):MRep T N w0 w' X mem' ρ' :=
 m'.chN (fun b h=>Nw.sub m (m'.owned_lt h).1) (fun b h=>(m.low b h).2) (fun b h=>m.szN b (Nat.le_trans m'.below.size h)) (m.below.trans (m'.below.weak fun b h=>Nw.sub m h))
theorem MRep.putObj {N:Nat→Prop} {w0 w:World} {X:Nat→Prop} {mem:Mem} {ρ:Env} (m:MRep T N w0 w X mem ρ) {D:Nat} {o:Obj} (hD:w.heap[D]?=some o) (hc:o.isCells=false) (hN:N D) (hY:¬ Forb X mem ρ D) (o':Obj) :
  MRep T N w0 (w.putObj D o') X mem ρ :=
 m.chg (fun b h=>(m.owned_lt h).1) (fun b h=>(m.low b h).2) (fun b h=>m.szN b (by simpa using h)) (m.below.trans ⟨rfl,rfl,rfl,by simp,fun k _ hk=>World.putObj_heap_other (fun e=>hk (by rw [e];exact hN))⟩) (by simp)
  (fun b h=>World.putObj_heap_other (fun e=>hY (.inr (by rw [← e];exact h)))) (fun b _ _ off u h=>putObj_cell hD hc o' b off u h)
theorem Rep.putObj {N:Nat→Prop} {w0 w:World} {X:Nat→Prop} {z:Anc} {s:St} {a:Act} {ρ:Env} (h:Rep T N w0 X z s a w ρ) {D:Nat} {o:Obj} (hD:w.heap[D]?=some o) (hc:o.isCells=false) (hN:N D) (hY:¬ Forb X s.mem ρ D) (o':Obj)
  {ds:List Deferred} (hds:DefOk N (w.putObj D o') (Forb X s.mem ρ) ds) (hnd:z.nd=true→ds=[]):Rep T N w0 X z s { a with defers:=ds } (w.putObj D o') ρ :=
 ⟨h.m.putObj hD hc hN hY o',hds,h.size,fun t=>(h.slot t).monoC (by simp) fun b _ hb=>⟨hb,fun off u hu=>putObj_cell hD hc o' b off u hu⟩,h.anch,h.fix,h.len,hnd⟩
theorem DefOk.grow {N:Nat→Prop} {w w':World} {Y:Nat→Prop} {ds:List Deferred} (h:DefOk N w Y ds) (hb:Below w.heap.size w w'):DefOk N w' Y ds:=by
 obtain ⟨Ds,h1,h2,h3⟩:=h.h
 exact ⟨Ds,h1,h2,fun D hD=>by obtain ⟨g1,g2,g3⟩:=h3 D hD;exact ⟨g1,g2,(hb.block D (heap_lt g3)).trans g3⟩⟩
theorem Rep.grow {N:Nat→Prop} {w0 w w':World} {X:Nat→Prop} {z:Anc} {s:St} {a:Act} {ρ:Env} (h:Rep T N w0 X z s a w ρ) (hb:Below w.heap.size w w'):Rep T N w0 X z s a w' ρ :=
 ⟨h.m.grow hb,h.defers.grow hb,h.size,fun t=>(h.slot t).mono hb.size fun b h1 h2=>⟨h2,hb.block b h1⟩,h.anch,h.fix,h.len,h.nod⟩
theorem Sub.own {s s':St} (hs:Sub T s s') {N:Nat→Prop} {w0 w:World} {X:Nat→Prop} {z:Anc} {a:Act} {ρ:Env} (h:Rep T N w0 X z s a w ρ):∃ ρ',Rep T N w0 X z s' a w ρ'∧∀ b,owned s'.mem ρ' b→owned s.mem ρ b:=by
 have h1:Rep T (Nw s.mem ρ w) w X z s { a with defers:=[] } w ρ:=⟨h.m.base,.nil _ _ _,h.size,h.slot,h.anch,h.fix,h.len,fun _=>rfl⟩
 obtain ⟨ρ',h2⟩:=hs.h _ _ _ _ _ _ _ h1
 have ho:∀ b,owned s'.mem ρ' b→owned s.mem ρ b:=fun b hb=>by
  obtain ⟨g1,g2⟩:=h2.m.owned_lt hb
  exact g1.resolve_right (by omega)
 have hf:∀ b,Forb X s'.mem ρ' b→Forb X s.mem ρ b:=fun b hb=>hb.imp id (ho b)
 exact ⟨ρ',⟨h.m.unbase h2.m,h.defers.sub hf,h2.size,h2.slot,h2.anch,h2.fix,h2.len,h.nod⟩,ho⟩
theorem killN_len:∀ (ds:List Nat) (l:List SV),(killN ds l).length=l.length
 | [],_=>rfl
 | d::ds,l=>by rw [killN,killN_len ds,setN_length]
theorem killN_get:∀ (ds:List Nat) (l:List SV) (t:Nat),getN SV.any (killN ds l) t=.any∨(t ∉ ds∧getN SV.any (killN ds l) t=getN SV.any l t)∨(t∈ds∧l.length≤t)
 | [],l,t=>.inr (.inl ⟨by simp,rfl⟩)
 | d::ds,l,t=>by
  rw [killN]
  rcases killN_get ds (setN .any l d) t with h | ⟨h1,h2⟩ | ⟨h1,h2⟩
  ·exact .inl h
  ·by_cases htd:t=d
   ·subst htd
    by_cases hl:t < l.length
    ·left;rw [h2,getN_setN _ _ _ _ _ hl,if_pos rfl]
    ·exact .inr (.inr ⟨by simp,by omega⟩)
   ·refine .inr (.inl ⟨by simp [htd,h1],?_⟩)
    rw [h2]
    by_cases hl:d < l.length
    ·rw [getN_setN _ _ _ _ _ hl,if_neg htd]
    ·rw [setN_eq,List.set_eq_of_length_le (by omega)]
  ·rw [setN_length] at h2
   exact .inr (.inr ⟨by simp [h1],h2⟩)
theorem getN_out {l:List SV} {t:Nat} (h:l.length≤t):getN SV.any l t=.any:=by rw [getN_eq,List.getElem?_eq_none h];rfl
theorem Rep.kill {N:Nat→Prop} {w0 w:World} {X:Nat→Prop} {z z':Anc} {s:St} {a a':Act} {ρ:Env} (h:Rep T N w0 X z s a w ρ) {asg:List Nat} (ht:∀ t,t ∉ asg→a'.tmps.getD t undef=a.tmps.getD t undef) (hsz:a'.tmps.size=a.tmps.size)
  {ds:List Deferred} (hds:DefOk N w (Forb X s.mem ρ) ds) (hd:a'.defers=ds) (hz:z'.z=z.z) (hfix:∀ t v,z'.fx t=some v→a'.tmps.getD t undef=v) (hlen:∀ k,z'.len=some k→a'.tmps.size=k) (hnd:z'.nd=true→a'.defers=[]):Rep T N w0 X z' (kill asg s) a' w ρ:=by
 refine ⟨h.m,by rw [hd];exact hds,by rw [hsz,h.size];simp [Go.Proofs.YtgfpjhddojhfpaaGreat.kill,killN_len],fun t=>?_,fun v hv=>h.anch v (by rw [← hz];exact hv),hfix,hlen,hnd⟩
 show Den w (Forb X s.mem ρ) ρ (getN .any (killN asg s.slots) t) _
 rcases killN_get asg s.slots t with e | ⟨e1,e2⟩ | ⟨e1,e2⟩
 ·rw [e];exact .any _ _
 ·rw [e2,ht t e1];exact h.slot t
 ·rw [getN_out (by rw [killN_len];exact e2)];exact .any _ _
structure Held (N:Nat→Prop) (X:Nat→Prop) (mem:Mem) (ρ:Env) (L D:Nat) (ol:Loop) (ds:List Deferred) (W:World):Prop where
 l:W.heap[L]?=some (.loop ol)
 d:W.heap[D]?=some (.deferred (some []))
 nl:¬ Forb X mem ρ L
 nd:¬ Forb X mem ρ D
 df:DefOk N W (Forb X mem ρ) ds
theorem Held.sub {N:Nat→Prop} {X:Nat→Prop} {mem mem':Mem} {ρ ρ':Env} {L D:Nat} {ol:Loop} {ds:List Deferred} {W:World} (h:Held N X mem ρ L D ol ds W) (ho:∀ b,owned mem' ρ' b→owned mem ρ b):Held N X mem' ρ' L D ol ds W :=
 ⟨h.l,h.d,fun e=>h.nl (e.imp id (ho L)),fun e=>h.nd (e.imp id (ho D)),h.df.sub fun b e=>e.imp id (ho b)⟩
theorem Held.grow {N:Nat→Prop} {X:Nat→Prop} {mem:Mem} {ρ:Env} {L D:Nat} {ol:Loop} {ds:List Deferred} {W W':World} (h:Held N X mem ρ L D ol ds W) (hb:Below W.heap.size W W'):Held N X mem ρ L D ol ds W' :=
 ⟨(hb.block L (heap_lt h.l)).trans h.l,(hb.block D (heap_lt h.d)).trans h.d,h.nl,h.nd,h.df.grow hb⟩
theorem Held.walk {N:Nat→Prop} {X:Nat→Prop} {mem mem':Mem} {ρ ρ':Env} {L D:Nat} {ol:Loop} {ds:List Deferred} {W W':World} (h:Held N X mem ρ L D ol ds W) (m':MRep T (Nw mem ρ W) W W' X mem' ρ'):Held N X mem' ρ' L D ol ds W':=by
 have no:∀ b,b < W.heap.size→¬ Forb X mem ρ b→¬ Nw mem ρ W b:=fun b hb hf hn=>hn.elim (fun h=>hf (.inr h)) (fun h=>by omega)
 have nf:∀ b,b < W.heap.size→¬ Forb X mem ρ b→¬ Forb X mem' ρ' b:=fun b hb hf hn=>hn.elim (fun h=>hf (.inl h)) (fun h=>no b hb hf (m'.owned_lt h).1)
 have kp:∀ b,b < W.heap.size→¬ Forb X mem ρ b→W'.heap[b]?=W.heap[b]?:=fun b hb hf=>m'.below.block b hb (no b hb hf)
 refine ⟨(kp L (heap_lt h.l) h.nl).trans h.l,(kp D (heap_lt h.d) h.nd).trans h.d,nf L (heap_lt h.l) h.nl,nf D (heap_lt h.d) h.nd,?_⟩
 obtain ⟨Ds,h1,h2,h3⟩:=h.df.h
 exact ⟨Ds,h1,h2,fun k hk=>by obtain ⟨g1,g2,g3⟩:=h3 k hk;exact ⟨g1,nf k (heap_lt g3) g2,(kp k (heap_lt g3) g2).trans g3⟩⟩
theorem Held.put {N:Nat→Prop} {X:Nat→Prop} {mem:Mem} {ρ:Env} {L D:Nat} {ol:Loop} {ds:List Deferred} {W:World} (h:Held N X mem ρ L D ol ds W) (ol':Loop):Held N X mem ρ L D ol' ds (W.putObj L (.loop ol')):=by
 have hne:∀ k,W.heap[k]?=some (.deferred (some []))→k≠L:=by rintro k hk rfl;rw [h.l] at hk;cases hk
 refine ⟨World.putObj_heap_same (heap_lt h.l),(World.putObj_heap_other (hne D h.d)).trans h.d,h.nl,h.nd,?_⟩
 obtain ⟨Ds,h1,h2,h3⟩:=h.df.h
 exact ⟨Ds,h1,h2,fun k hk=>by obtain ⟨g1,g2,g3⟩:=h3 k hk;exact ⟨g1,g2,(World.putObj_heap_other (hne k g3)).trans g3⟩⟩
theorem zip_fold:∀ (ds:List Nat) (vs:List Value) (t:Array Value),ds.length=vs.length→((ds.zip vs).foldl (fun (t:Array Value) (p:Nat × Value)=>t.setIfInBounds p.1 p.2) t).size=t.size ∧
  ∀ k,k ∉ ds→((ds.zip vs).foldl (fun (t:Array Value) (p:Nat × Value)=>t.setIfInBounds p.1 p.2) t).getD k undef=t.getD k undef
 | [],vs,t,_=>⟨by simp,fun k _=>by simp⟩
 | d::ds,[],t,h=>by simp at h
 | d::ds,v::vs,t,h=>by
  obtain ⟨h1,h2⟩:=zip_fold ds vs (t.setIfInBounds d v) (by simpa using h)
  refine ⟨by simp only [List.zip_cons_cons,List.foldl_cons];rw [h1];simp,fun k hk=>?_⟩
  simp only [List.zip_cons_cons,List.foldl_cons]
  rw [h2 k (fun h=>hk (by simp [h]))]
  have:d≠k:=fun e=>hk (by simp [e])
  simp [Array.getElem?_setIfInBounds_ne this]
theorem datas_get:∀ {l:List SV},datas l=true→∀ (i:Nat) (x:SV),l[i]?=some x→dataB x=true
 | [],_,i,x,h=>by simp at h
 | y::l,hl,0,x,h=>by simp [datas] at hl h;subst h;exact hl.1
 | y::l,hl,i+1,x,h=>by simp [datas] at hl;exact datas_get hl.2 i x (by simpa using h)
theorem putZ_den {w:World} {Y:Nat→Prop} {ρ:Env}:∀ (ds:List Nat) (xs:List SV) (vs:List Value) (l:List SV) (t:Array Value),ds.length=xs.length→xs.length=vs.length→(∀ (i:Nat) (x:SV) (u:Value),xs[i]?=some x→vs[i]?=some u→Den w Y ρ x u)→t.size=l.length→(∀ k,Den w Y ρ (getN .any l k) (t.getD k undef)) →
  (putZ ds xs l).length=l.length∧∀ k,Den w Y ρ (getN .any (putZ ds xs l) k) (((ds.zip vs).foldl (fun (t:Array Value) (p:Nat × Value)=>t.setIfInBounds p.1 p.2) t).getD k undef)
 | [],xs,vs,l,t,_,_,_,_,h=>⟨by cases xs <;> rfl,fun k=>by cases xs <;> simpa [putZ] using h k⟩
 | d::ds,[],vs,l,t,h,_,_,_,_=>by simp at h
 | d::ds,x::xs,[],l,t,_,h,_,_,_=>by simp at h
 | d::ds,x::xs,v::vs,l,t,h1,h2,hx,hs,h=>by
  have ih:=putZ_den ds xs vs (setN x l d) (t.setIfInBounds d v) (by simpa using h1) (by simpa using h2) (fun i y u hy hu=>hx (i+1) y u (by simpa using hy) (by simpa using hu)) (by simp [setN_length,hs]) (fun k=>?_)
  ·refine ⟨by rw [putZ,ih.1,setN_length],fun k=>?_⟩
   simp only [putZ,List.zip_cons_cons,List.foldl_cons]
   exact ih.2 k
  ·by_cases hd:d < l.length
   ·rw [getN_setN _ _ _ _ _ hd]
    by_cases hk:k=d
    ·subst hk
     rw [if_pos rfl]
     have:(t.setIfInBounds k v).getD k undef=v:=by simp [hs,hd]
     rw [this]
     exact hx 0 x v rfl rfl
    ·rw [if_neg hk]
     have:(t.setIfInBounds d v).getD k undef=t.getD k undef:=by simp [Array.getElem?_setIfInBounds_ne (Ne.symm hk)]
     rw [this]
     exact h k
   ·rw [setN_eq,List.set_eq_of_length_le (by omega),Array.setIfInBounds_eq_of_size_le (by omega)]
    exact h k
theorem range_sound (hG:∀ f c,G f c→ACall P T f c) {FA FB:St→Ks→Prop} {x y:Code} {ps:Array Tmp} {gop:Operand} {N:Nat→Prop} {w0:World} {X:Nat→Prop} {z:Anc} {s:St} {K:Ks} {Q:Exit→Act→World→Prop} {a:Act} {w:World} {ρ:Env} {gf:Nat} {caps:List SV}
  (hr:Rep T N w0 X z s a w ρ) (hev:s.ev gop=.clo gf caps) (h:RangeQ T G FA FB (ps.toList++(assignedC x++assignedC y)) ps.toList gf caps s K)
  (ihx:∀ (N:Nat→Prop) (w0:World) (z:Anc) (s:St) (K:Ks) (Q:Exit→Act→World→Prop) (a:Act) (w:World) (ρ:Env),FA s K→Rep T N w0 X z s a w ρ→(∀ s a w ρ,K.n s→Rep T N w0 X z s a w ρ→Q .normal a w)→(∀ s a w ρ,K.r s→Rep T N w0 X z s a w ρ→Q .ret a w) →
    (∀ i s a w ρ,K.e i s→Rep T N w0 X z s a w ρ→Q (.exit i) a w)→(∀ q∈assignedC x,z.fx q=none)→∀ l nn,x.wpIn (FR (some l)) nn P Q a w)
  (ihy:∀ (N:Nat→Prop) (w0:World) (z:Anc) (s:St) (K:Ks) (Q:Exit→Act→World→Prop) (a:Act) (w:World) (ρ:Env),FB s K→Rep T N w0 X z s a w ρ→(∀ s a w ρ,K.n s→Rep T N w0 X z s a w ρ→Q .normal a w)→(∀ s a w ρ,K.r s→Rep T N w0 X z s a w ρ→Q .ret a w) →
    (∀ i s a w ρ,K.e i s→Rep T N w0 X z s a w ρ→Q (.exit i) a w)→(∀ q∈assignedC y,z.fx q=none)→∀ l nn,y.wpIn (FR (some l)) nn P Q a w)
  (hn:∀ s a w ρ,K.n s→Rep T N w0 X z s a w ρ→Q .normal a w) (hret:∀ s a w ρ,K.r s→Rep T N w0 X z s a w ρ→Q .ret a w) (he:∀ i s a w ρ,K.e i s→Rep T N w0 X z s a w ρ→Q (.exit i) a w) (nn:Nat) (hznd:z.nd=false) :
  (Code.rangeFunc gop ps x y).wpIn (FR none) nn P Q a w:=by
 obtain ⟨xs,hgs,hxs,A,I,pos,g,R,hR,⟨i0,hI0,hp0,hs0⟩,hround,hdone⟩:=h.h
 have ac:=hG _ _ hgs
 obtain ⟨fn,hf,hb,hnm⟩:=ac.fn
 have aq:ASeq P gf caps xs:=by have:=ac.q rfl;rw [seqC_L] at this;exact this
 have hv:=hr.ev gop
 rw [hev] at hv
 obtain ⟨us,hq,hcaps⟩:∃ us:List Value,a.eval gop=.func (.func gf) #[] ⟨us⟩∧DenL w (Forb X s.mem ρ) noEnv caps us:=by
  generalize a.eval gop=v at hv
  cases hv with
  | clo _ _ _ us hl hcl=>exact ⟨us,rfl,hl,fun i x u hx hu=>by
    obtain ⟨h1,rfl⟩:=List.getElem?_eq_some_iff.1 hx
    obtain ⟨h2,rfl⟩:=List.getElem?_eq_some_iff.1 hu
    exact hcl i h1 h2⟩
 obtain ⟨asg,hasg⟩:∃ asg,asg=ps.toList++(assignedC x++assignedC y):=⟨_,rfl⟩
 rw [← hasg] at hs0 hround
 obtain ⟨a1,ha1⟩:∃ a1:Act,a1={ a with defers:=[] }:=⟨_,rfl⟩
 have rb:Rep T (Nw s.mem ρ w) w X z s a1 w ρ:=by rw [ha1];exact ⟨hr.m.base,.nil _ _ _,hr.size,hr.slot,hr.anch,hr.fix,hr.len,fun _=>rfl⟩
 have rk:Rep T (Nw s.mem ρ w) w X z (kill asg s) a1 w ρ:=rb.kill (fun _ _=>rfl) rfl (.nil _ _ _) (by rw [ha1]) rfl rb.fix rb.len rb.nod
 obtain ⟨ρ0,r0,ho0⟩:=(hR _ _ _ hs0).own rk
 refine wpIn_rangeFunc ?_
 intro fnid hfn
 obtain ⟨rec,hrec⟩:∃ rec:LoopState→Option Code→Loop,rec=fun st pe=>{ state:=st,pending:=pe,fn:=fnid,tmps:=a.tmps,params:=ps,assign:=x,body:=y,defers:=w.heap.size }:=⟨_,rfl⟩
 obtain ⟨W1,hW1⟩:∃ W1,(w.alloc (.deferred (some []))).alloc (.loop (rec .ready none))=W1:=⟨_,rfl⟩
 have hL1:W1.heap[w.heap.size+1]?=some (.loop (rec .ready none)):=by
  rw [← hW1];have:=World.alloc_heap_new (w.alloc (.deferred (some []))) (.loop (rec .ready none));rwa [World.size_alloc] at this
 have hK1:W1.heap[w.heap.size]?=some (.deferred (some [])):=by
  rw [← hW1];exact (Below.heap_alloc _ _ _ (by simp)).trans (World.alloc_heap_new w _)
 have hb1:Below w.heap.size w W1:=by
  rw [← hW1];exact ((Below.refl _ w).alloc (Nat.le_refl _) _).alloc (by simp) _
 have nfw:∀ b,w.heap.size≤b→¬ Forb X (g i0).mem ρ0 b:=fun b hb h=>by have:=r0.m.forb_lt h;omega
 have hd0:Held N X (g i0).mem ρ0 (w.heap.size+1) w.heap.size (rec .ready none) a.defers W1 :=
  ⟨hL1,hK1,nfw _ (by omega),nfw _ (Nat.le_refl _),(hr.defers.sub (fun b h=>h.imp id (fun h=>ho0 b h))).grow hb1⟩
 have back:∀ (s':St) (ρ':Env) (W:World) (ol:Loop),Rep T (Nw s.mem ρ w) w X z s' a1 W ρ'→Held N X s'.mem ρ' (w.heap.size+1) w.heap.size ol a.defers W →
   ∀ ol',Rep T N w0 X z s' { a with defers:={ target:=.collected w.heap.size,args:=#[] }::a.defers } (W.putObj (w.heap.size+1) (.loop ol')) ρ':=by
  intro s' ρ' W ol rp hd ol'
  have hd':=hd.put ol'
  have r1:Rep T N w0 X z s' { a1 with defers:=[] } W ρ':=⟨hr.m.unbase rp.m,.nil _ _ _,rp.size,rp.slot,rp.anch,rp.fix,rp.len,fun _=>rfl⟩
  have r2:=r1.putObj hd.l rfl (hr.m.szN _ (by omega)) hd.nl (.loop ol') (ds:={ target:=.collected w.heap.size,args:=#[] }::a.defers) (by
   obtain ⟨Ds,h1,h2,h3⟩:=hd'.df.h
   obtain ⟨Ds0,g1,g2,g3⟩:=hr.defers.h
   refine ⟨w.heap.size::Ds,by rw [h1];rfl,List.nodup_cons.2 ⟨fun hm=>?_,h2⟩,fun D hD=>?_⟩
   ·have e:Ds=Ds0:=by
     have:=h1.symm.trans g1
     exact List.map_inj_right (fun p q hpq=>by simpa using hpq) |>.1 this
    rw [e] at hm
    have:=heap_lt (g3 _ hm).2.2
    omega
   ·rcases List.mem_cons.1 hD with rfl | hD
    ·exact ⟨hr.m.szN _ (Nat.le_refl _),hd'.nd,hd'.d⟩
    ·exact h3 D hD) (fun h=>by rw [hznd] at h;cases h)
  rw [ha1] at r2
  exact r2
 refine ⟨w.heap.size+1,[{ target:=.collected w.heap.size,args:=#[] }],W1,{ target:=.fn (.func gf) ⟨us⟩,args:=#[.func (.yield (w.heap.size+1)) #[] #[]] },W1,gf,
  #[.func (.yield (w.heap.size+1)) #[] #[]]++⟨us⟩,W1,?_,?_,fun _ _=>trivial,?_,fun h=>by simp [FR,Fence.wide] at h,?_⟩
 ·rw [← hW1,hrec];exact run_enterLoop_outer _ _ _ _ _
 ·simp only [resolve,hq]
  simp [go_sem]
 ·simp only [invoke]
  simp [go_sem,run_callFunc hf hb hnm]
 refine CallsIn.mono (aq.h w (Forb X s.mem ρ) us hcaps (w.heap.size+1)
  (fun k W=>∃ i ρ',I i∧pos i=k∧Rep T (Nw s.mem ρ w) w X z (g i) a1 W ρ'∧Held N X (g i).mem ρ' (w.heap.size+1) w.heap.size (rec .ready none) a.defers W)
  (fun W=>∃ s' ρ' c,Rep T (Nw s.mem ρ w) w X z s' a1 W ρ'∧Held N X s'.mem ρ' (w.heap.size+1) w.heap.size (rec .done (some c)) a.defers W∧((c=.ret∧K.r s')∨∃ id,c=.exit id∧K.e id s')) W1
  (fun k A B hJ hb=>by obtain ⟨i,ρ',h1,h2,h3,h4⟩:=hJ;exact ⟨i,ρ',h1,h2,h3.grow hb,h4.grow hb⟩)
  (fun A B hJ hb=>by obtain ⟨s',ρ',c,h1,h2,h3⟩:=hJ;exact ⟨s',ρ',c,h1.grow hb,h2.grow hb,h3⟩)
  (fun k A hJ=>by
    obtain ⟨i,ρ',_,_,h3,_⟩:=hJ
    exact ⟨h3.m.below.size,fun b hb hf=>h3.m.below.block b hb (fun hn=>hn.elim (fun h=>hf (.inr h)) (fun h=>by omega))⟩)
  ?_ ⟨i0,ρ0,hI0,hp0,r0.grow hb1,hd0⟩ _) ?_
 ·
  rintro k xx vs Wr ⟨i,ρi,hIi,hpi,ri,hdi⟩ hxx hden m
  obtain ⟨hxl,hxd⟩:=hxs xx (List.mem_of_getElem? hxx)
  have hvl:vs.length=ps.size:=by rw [← hden.1,hxl,Array.length_toList]
  have hy:=run_yield (P:=P) (args:=⟨vs⟩) hdi.l (by rw [hrec];simpa using hvl)
  obtain ⟨ar,har⟩:∃ ar:Act,ar={ tmps:=(ps.zip ⟨vs⟩).foldl (fun tmps (t,a)=>tmps.setIfInBounds t a) a.tmps,defers:=[] }:=⟨_,rfl⟩
  have hart:ar.tmps=((ps.toList.zip vs).foldl (fun (t:Array Value) (p:Nat × Value)=>t.setIfInBounds p.1 p.2) a1.tmps):=by
   rw [har,ha1]
   simp only [← Array.foldl_toList,Array.toList_zip]
  obtain ⟨zr,hzr⟩:∃ zr:Anc,zr=⟨z.z,fun t=>if t∈asg then none else some (a1.tmps.getD t undef),some a1.tmps.size,true⟩:=⟨_,rfl⟩
  have hzf:=zip_fold ps.toList vs a1.tmps (by rw [Array.length_toList];exact hvl.symm)
  have hdx:∀ (j:Nat) (q:SV) (u:Value),xx[j]?=some q→vs[j]?=some u→Den Wr (Forb X (g i).mem ρi) ρi q u:=fun j q u hq hu=>by
   refine ((hden.2 j q u hq hu).mono ri.m.below.size fun b h1 h2=>⟨fun hf=>h2 ?_,ri.m.below.block b h1 fun hn=>h2 (hn.elim (fun h=>.inr h) (fun h=>by omega))⟩).env fun r=>.inr (.inr (data_noref (datas_get hxd j q hq) r))
   rcases hf with hf | hf
   ·exact .inl hf
   ·exact (ri.m.owned_lt hf).1.elim (fun h=>.inr h) (fun h=>by omega)
  have hpz:=putZ_den (ρ:=ρi) ps.toList xx vs (g i).slots a1.tmps hxl.symm hden.1 hdx ri.size ri.slot
  have rr:Rep T (Nw (g i).mem ρi Wr) Wr X zr ⟨putZ ps.toList xx (g i).slots,(g i).mem⟩ ar Wr ρi:=by
   refine ⟨ri.m.base,by rw [har];exact .nil _ _ _,by rw [hart,hzf.1,ri.size];exact hpz.1.symm,fun t=>by rw [hart];exact hpz.2 t,by rw [hzr];exact ri.anch,fun t v hv=>?_,fun q hq=>?_,fun _=>by rw [har]⟩
   ·rw [hzr] at hv
    simp only at hv
    split at hv
    ·cases hv
    ·rename_i ht
     injection hv with hv
     rw [hart,hzf.2 t (fun h=>ht (by rw [hasg];simp [h])),hv]
   ·rw [hzr] at hq
    injection hq with hq
    rw [hart,hzf.1,hq]
  have hfx:∀ q∈asg,zr.fx q=none:=fun q hq=>by rw [hzr];simp [hq]
  have home:∀ (s1 s':St) (a':Act) (ρ1 ρ'':Env) (w1 W':World),Rep T (Nw (g i).mem ρi Wr) Wr X zr s1 a' w1 ρ1∨True→MRep T (Nw (g i).mem ρi Wr) Wr w1 X s1.mem ρ1 →
    Rep T (Nw s1.mem ρ1 (w1.putObj (w.heap.size+1) (.loop { rec .ready none with state:=.busy }))) (w1.putObj (w.heap.size+1) (.loop { rec .ready none with state:=.busy })) X zr s' a' W' ρ'' →
    Held N X s'.mem ρ'' (w.heap.size+1) w.heap.size { rec .ready none with state:=.busy } a.defers W'→∀ ol',Rep T (Nw s.mem ρ w) w X z (kill asg s') a1 (W'.putObj (w.heap.size+1) (.loop ol')) ρ'':=by
   intro s1 s' a' ρ1 ρ'' w1 W' _ m1 r' hd' ol'
   have hsub1:∀ b,Nw (g i).mem ρi Wr b→Nw s.mem ρ w b:=fun b hb=>Nw.sub ri.m hb
   have hb2:BelowW (Nw s.mem ρ w) w (w1.putObj (w.heap.size+1) (.loop { rec .ready none with state:=.busy })) :=
    (ri.m.below.trans (m1.below.weak hsub1)).trans ⟨rfl,rfl,rfl,by simp,fun k _ hk=>World.putObj_heap_other (fun e=>hk (by rw [e];exact .inr (by omega)))⟩
   have hsub2:∀ b,Nw s1.mem ρ1 (w1.putObj (w.heap.size+1) (.loop { rec .ready none with state:=.busy })) b→Nw s.mem ρ w b:=fun b hb=>hb.elim (fun h=>hsub1 b (m1.owned_lt h).1) (fun h=>.inr (Nat.le_trans hb2.size h))
   have m2:MRep T (Nw s.mem ρ w) w W' X s'.mem ρ'':=r'.m.chN (fun b h=>hsub2 b (r'.m.owned_lt h).1) (fun b h=>(rb.m.low b h).2) (fun b h=>.inr (Nat.le_trans (hb2.trans (r'.m.below.weak hsub2)).size h)) (hb2.trans (r'.m.below.weak hsub2))
   have hlen:=r'.len a1.tmps.size (by rw [hzr])
   have r3:Rep T (Nw s.mem ρ w) w X z (kill asg s') a1 W' ρ'':=by
    have r4:Rep T (Nw s.mem ρ w) w X zr s' { a' with defers:=[] } W' ρ'':=⟨m2,.nil _ _ _,r'.size,r'.slot,r'.anch,r'.fix,r'.len,fun _=>rfl⟩
    refine r4.kill (fun t ht=>?_) hlen.symm (.nil _ _ _) (by rw [ha1]) (by rw [hzr]) rb.fix rb.len rb.nod
    exact (r'.fix t (a1.tmps.getD t undef) (by rw [hzr];simp [ht])).symm
   have r5:=r3.putObj hd'.l rfl (.inr (by omega)) hd'.nl (.loop ol') (ds:=[]) (.nil _ _ _) (fun _=>rfl)
   have e:({ a1 with defers:=[] }:Act)=a1:=by rw [ha1]
   rw [e] at r5
   exact r5
  refine ⟨fnid,ar.tmps,x,y,?_,roundIn_of_wpIn (F:=Fence.wide) trivial ?_⟩
  ·rw [hy,hrec,har]
  have er:({ tmps:=ar.tmps,defers:=[] }:Act)=ar:=by rw [har]
  rw [er]
  refine ihx _ _ zr _ _ _ ar Wr ρi (hround i xx hIi (by rw [hpi];exact hxx)) rr ?_ (fun _ _ _ _ h=>h.elim) (fun _ _ _ _ _ h=>h.elim) (fun q hq=>hfx q (by rw [hasg];simp [hq])) _ _
  intro s1 a2 w1 ρ1 hFB r1
  have hd1:=hdi.walk r1.m
  have hd2:=hd1.put { rec .ready none with state:=.busy }
  refine ⟨_,run_beginRound hd1.l (by rw [hrec]),?_⟩
  have m2:MRep T (Nw s1.mem ρ1 (w1.putObj (w.heap.size+1) (.loop { rec .ready none with state:=.busy }))) (w1.putObj (w.heap.size+1) (.loop { rec .ready none with state:=.busy })) (w1.putObj (w.heap.size+1) (.loop { rec .ready none with state:=.busy })) X s1.mem ρ1:=by
   refine r1.m.chg (fun b h=>.inl h) (fun b h hn=>?_) (fun b h=>.inr h) (.refl _ _) (by simp) (fun b h=>World.putObj_heap_other (fun e=>hd1.nl (.inr (by rw [← e];exact h)))) (fun b _ _ off u h=>putObj_cell hd1.l rfl _ b off u h)
   rcases hn with hn | hn
   ·exact (r1.m.low b h).2 (r1.m.owned_lt hn).1
   ·have:=(r1.m.low b h).1
    simp at hn
    omega
  have hdf:a2.defers=[]:=r1.nod (by rw [hzr])
  have r2:Rep T (Nw s1.mem ρ1 (w1.putObj (w.heap.size+1) (.loop { rec .ready none with state:=.busy }))) (w1.putObj (w.heap.size+1) (.loop { rec .ready none with state:=.busy })) X zr s1 a2 (w1.putObj (w.heap.size+1) (.loop { rec .ready none with state:=.busy })) ρ1 :=
   ⟨m2,by rw [hdf];exact .nil _ _ _,r1.size,fun t=>(r1.slot t).monoC (by simp) fun b _ hb=>⟨hb,fun off u hu=>putObj_cell hd1.l rfl _ b off u hu⟩,r1.anch,r1.fix,r1.len,r1.nod⟩
  have fin:∀ (s':St) (a':Act) (W':World) (ρ'':Env) (jump:Option Code),Rep T (Nw s1.mem ρ1 (w1.putObj (w.heap.size+1) (.loop { rec .ready none with state:=.busy }))) (w1.putObj (w.heap.size+1) (.loop { rec .ready none with state:=.busy })) X zr s' a' W' ρ'' →
    ∃ W4,(Instr.endRound (w.heap.size+1) jump).run P W'=.ok (.bool jump.isNone) W4∧Rep T (Nw s.mem ρ w) w X z (kill asg s') a1 W4 ρ''∧Held N X s'.mem ρ'' (w.heap.size+1) w.heap.size (rec (if jump.isNone then .ready else .done) jump) a.defers W4:=by
   intro s' a' W' ρ'' jump r'
   have hd3:=hd2.walk r'.m
   refine ⟨_,run_endRound jump hd3.l,home s1 s' a' ρ1 ρ'' w1 W' (.inr trivial) r1.m r' hd3 _,?_⟩
   have:=hd3.put { rec .ready none with state:=if jump.isNone then .ready else .done,pending:=jump }
   rw [hrec] at this ⊢
   exact this
  refine ihy _ _ zr _ _ _ a2 _ ρ1 hFB r2 ?_ ?_ ?_ (fun q hq=>hfx q (by rw [hasg];simp [hq])) _ _
  ·rintro s' a' W' ρ'' ⟨j,hj,hpj,hRj⟩ r'
   obtain ⟨W4,h1,h2,h3⟩:=fin s' a' W' ρ'' none r'
   obtain ⟨ρj,r3,hoj⟩:=(hR _ _ _ hRj).own h2
   exact ⟨_,W4,h1,.inl ⟨rfl,j,ρj,hj,by rw [hpj,hpi],r3,h3.sub hoj⟩⟩
  ·rintro s' a' W' ρ'' hk r'
   obtain ⟨W4,h1,h2,h3⟩:=fin s' a' W' ρ'' (some .ret) r'
   exact ⟨_,W4,h1,.inr ⟨rfl,_,ρ'',.ret,h2,h3,.inl ⟨rfl,hk⟩⟩⟩
  ·rintro id s' a' W' ρ'' hk r'
   obtain ⟨W4,h1,h2,h3⟩:=fin s' a' W' ρ'' (some (.exit id)) r'
   exact ⟨_,W4,h1,.inr ⟨rfl,_,ρ'',.exit id,h2,h3,.inr ⟨id,rfl,hk⟩⟩⟩
 ·
  rintro e W2 ⟨⟨v,rfl⟩,(⟨i,ρ',hIi,hpi,ri,hdi⟩ | ⟨s',ρ',c,ri,hdi,hc⟩)⟩
  ·refine ⟨none,_,by have:=run_endLoop (P:=P) hdi.l (by rw [hrec];simp);rw [hrec] at this;exact this,?_⟩
   exact hn _ _ _ _ (hdone i hIi hpi) (back _ _ _ _ ri hdi _)
  ·refine ⟨some c,_,by have:=run_endLoop (P:=P) hdi.l (by rw [hrec];simp);rw [hrec] at this;exact this,?_⟩
   rcases hc with ⟨rfl,hk⟩ | ⟨id,rfl,hk⟩
   ·exact wpIn_ret (hret _ _ _ _ hk (back _ _ _ _ ri hdi _))
   ·exact wpIn_exit (he _ _ _ _ _ hk (back _ _ _ _ ri hdi _))
end
section
open Go.RowKit
variable {P:Program} {T:Nat→Option TI} {G:Nat→CT→Prop}
def unrollQ (F:St→Ks→Prop):Nat→St→Ks→Prop
 | 0,_,_=>False
 | n+1,s,K=>F s ⟨fun s'=>unrollQ F n s' K,K.r,K.e⟩
structure LoopQ (T:Nat→Option TI) (F:St→Ks→Prop) (s:St) (K:Ks):Prop where
 h:(∃ n,unrollQ F n s K)∨∃ (A:Type) (I:A→Prop) (μ:A→Nat) (f:A→St) (R:A→St→St→Prop),(∀ i s s',R i s s'→Sub T s s')∧(∃ i,I i∧R i s (f i))∧∀ i,I i→F (f i) ⟨fun s'=>∃ j,I j∧μ j < μ i∧R j s' (f j),K.r,K.e⟩
def zOp (ops:List Oper):Option Oper:=match ops with
 | [o]=>(match o.dst,o.guard,o.op with
  | some 0,none,.alloc _=>some o
  | _,_,_=>none)
 | _=>none
noncomputable def zst (T:Nat→Option TI) (o:Oper) (s:St) (k:St→Prop):Prop :=
 mval T (newId s.mem) o.op s.ev (fun _=>.no) (fun x U=>if isNo (getM s.mem (newId s.mem)) && noref.norefs (newId s.mem) s.slots && memNoref (newId s.mem) s.mem then k (nxt o s x U) else False)
theorem newId_ge:∀ m:Mem,1000≤newId m
 | []=>Nat.le_refl _
 | (k,b)::m=>by
  have:=newId_ge m
  simp only [newId,nblt]
  split <;> omega
theorem zst_sound (tab:Tab P T) {id:Nat} {ops:Array Oper} {o:Oper} (ho:zOp ops.toList=some o) {N:Nat→Prop} {w0:World} {X:Nat→Prop} {z:Anc} {s:St} {k:St→Prop} {Q:Exit→Act→World→Prop} {a:Act} {w:World} {ρ:Env}
  (h:zst T o s k) (hr:Rep T N w0 X z s a w ρ) (hQ:∀ s a w ρ,k s→Rep T N w0 X z s a w ρ→Q .normal a w) (hfx:∀ o∈ops.toList,∀ q,o.dst=some q→z.fx q=none) (ro:Option Nat) (nn:Nat):(Code.region id ops false).wpIn (FR ro) nn P Q a w:=by
 have hops:ops.toList=[o]∧o.guard=none:=by
  unfold zOp at ho
  split at ho
  ·rename_i o' he
   split at ho
   ·rename_i h1 h2 h3
    injection ho with ho
    subst ho
    exact ⟨he,h2⟩
   ·cases ho
  ·cases ho
 refine wpIn_region_list ?_
 rw [hops.1]
 unfold wpListIn
 have hg:gd ops o s=some true:=by unfold gd;rw [hops.2]
 rw [wanted_gd hr hg,if_pos rfl]
 obtain ⟨x,U,hx,hU,he⟩:=mval_ok (P:=P) tab.tys tab.sz tab.z h
 split at hx
 case isFalse=>exact hx.elim
 rename_i hc
 simp only [Bool.and_eq_true] at hc
 have f2:getM s.mem (newId s.mem)=.no:=by
  have:=hc.1.1
  cases hm:getM s.mem (newId s.mem) <;> simp_all [isNo]
 have n0:=newId_ge s.mem
 refine he.h s.mem (fun q=>.inl rfl) (fun d hd=>?_) a N w0 w X ρ hr.m (fun y hy=>hr.ev y) _ Q (fun u w' ρ' m' hx' t=>?_) ro nn
 ·injection hd with hd
  subst hd
  exact ⟨f2,hc.2,fun y hy=>noref_ev hc.1.2 y⟩
 ·unfold wpListIn
  refine hQ _ _ _ _ hx (hr.put m' hx' t (fun q hq k=>?_) (fun h0=>?_) (hfx o (by rw [hops.1];simp)))
  ·injection hq with hq
   subst hq
   exact norefs_getN hc.1.2 k
  ·injection h0 with h0
   omega
def atomsE (e:Operand→SV):Nat→List (Nat × Operand)→Option (List SV)
 | _,[]=>some []
 | k,(i,x)::ps=>if Nat.beq i k && atomB (e x) then (match atomsE e (k+1) ps with | some l=>some (e x::l) | none=>none) else none
theorem atomsE_some {e:Operand→SV}:∀ (ps:List (Nat × Operand)) (k:Nat) (l:List SV),atomsE e k ps=some l →
  l.length=ps.length∧ps=((ps.map (·.2)).zipIdx k).map (fun p=>(p.2,p.1))∧∀ (q:Nat) (p:Nat × Operand),ps[q]?=some p→l[q]?=some (e p.2)∧atomB (e p.2)=true
 | [],k,l,h=>by
  simp only [atomsE] at h
  injection h with h;subst h
  exact ⟨rfl,rfl,fun q p h=>by simp at h⟩
 | (i,x)::ps,k,l,h=>by
  simp only [atomsE] at h
  split at h <;> try (cases h;done)
  rename_i hc
  simp only [Bool.and_eq_true] at hc
  have hi:i=k:=Nat.eq_of_beq_eq_true hc.1
  subst hi
  cases h1:atomsE e (i+1) ps with
  | none=>rw [h1] at h;cases h
  | some l' =>
   rw [h1] at h
   injection h with h;subst h
   obtain ⟨a1,a2,a3⟩:=atomsE_some ps (i+1) l' h1
   refine ⟨by simp [a1],?_,fun q p hq=>?_⟩
   ·simp only [List.map_cons,List.zipIdx_cons,List.cons.injEq,true_and]
    exact a2
   ·cases q with
    | zero=>simp at hq;subst hq;exact ⟨rfl,hc.2⟩
    | succ q=>exact a3 q p (by simpa using hq)
theorem lit_chunk (tys:Types P T) (sz:Sizes T) {o:Oper} {t n tt:Nat} {ps:Array (Nat × Operand)} (ho:o.op=.buildSlice t n ps) {i j it:TI} {el:Nat} (ht:T t=some i) (hk:i.kind=.slice el) (he:T el=some j) (hj:none=j.shape) (hit:T tt=some it) (h1:it.size=n) (h2:it.shape=some n)
  (hn:n≤1000) (c1:ps.toList.length=n) {e:Operand→SV} {μ:Nat→Blk} {l:List SV} {d:Nat} (hl:atomsE e 0 ps.toList=some l):Eff P T o e μ (.rsl d none 0 n (some n)) [(d,.chunk tt (.agg l))] (some d):=by
 obtain ⟨l1,l2,l3⟩:=atomsE_some ps.toList 0 l hl
 have tok:=tys.ok t i ht
 have tj:=tys.ok el j he
 have hjs:j.size=1:=by rw [TI.wid_size (sz.one _ _ he),← hj];rfl
 refine .of_run fun mem hμ hcr a N w0 w X ρ m hd=>?_
 obtain ⟨hno,hnr,hnop⟩:=hcr d rfl
 have hmem:∀ p∈ps.toList,p.2∈o.op.operands:=by
  intro p hp
  rw [ho]
  simp only [Op.operands]
  exact List.mem_toArray.2 (List.mem_map.2 ⟨p,hp,rfl⟩)
 obtain ⟨z,hz,_,hzs,hz1,_⟩:=tj.zero_run
 have hone:∀ p∈ps.toList,(a.eval p.2).oneCell'=true:=by
  intro p hp
  obtain ⟨q,hq⟩:=List.mem_iff_getElem?.1 hp
  exact (hd p.2 (hmem p hp)).one (l3 q p hq).2
 have hvs:∀ v∈ps.toList.map (fun p=>a.eval p.2),v.cells.size=j.size∧∀ u∈v.cells.toList,u.oneCell'=true:=by
  intro v hv
  obtain ⟨p,hp,rfl⟩:=List.mem_map.1 hv
  rw [one_cells (hone p hp),hjs]
  exact ⟨rfl,fun u hu=>by simp at hu;subst hu;exact hone p hp⟩
 have hsz0:((Array.range (n * j.size)).map (z.cells[· % z.cells.size]!)).size=n * j.size:=by simp
 obtain ⟨R,r1,r2,_,r4,r5⟩:=fill_seq j.size (ps.toList.map fun p=>a.eval p.2) 0 ((Array.range (n * j.size)).map (z.cells[· % z.cells.size]!)) (fun v hv=>(hvs v hv).1) (by rw [hsz0,List.length_map,c1,Nat.zero_add];exact Nat.le_refl _)
  (made_one hz1 (by omega) _) (fun v hv=>(hvs v hv).2)
 have hparts:(ps.map fun (x:Nat × Operand)=>(x.1,a.eval x.2)).toList=((ps.toList.map fun p=>a.eval p.2).zipIdx 0).map (fun p=>(p.2,p.1)):=by
  rw [Array.toList_map]
  conv=>lhs;rw [l2]
  simp only [List.map_map,List.zipIdx_map]
  rfl
 have hlen:l.length=n:=by rw [l1,c1]
 have hRs:R.size=n:=by rw [r2,hsz0,hjs,Nat.mul_one]
 have hcell:∀ (q:Nat) (p:Nat × Operand),ps.toList[q]?=some p→R[q]?=some (a.eval p.2):=by
  intro q p hp
  have hg:=r4 q (a.eval p.2) (by rw [List.getElem?_map,hp];rfl) 0 (by omega)
  rw [hjs,one_cells (hone p (List.mem_of_getElem? hp))] at hg
  simpa using hg
 have hbel:Below w.heap.size w (w.alloc (.cells R el)):=(Below.refl _ _).alloc (Nat.le_refl _) _
 obtain ⟨m',t'⟩:=m.create (w':=w.alloc (.cells R el)) hno hnr (B:=.chunk tt (.agg l)) (v:=.pointer (some ⟨w.heap.size,0,none⟩)) (fun b hb=>by simp only [vblock] at hb;injection hb with hb;subst hb;exact ⟨Nat.le_refl _,by show _ < (w.heap.push _).size;simp⟩) hbel
  (fun ht'=>⟨it,w.heap.size,R,el,hit,rfl,m.szN _ (Nat.le_refl _),heap_alloc_new w _,by rw [hRs,h1],r5,by
    rw [h2,valAt_some_full (by rw [Array.length_toList];omega)]
    refine Den.agg_iff.2 ⟨R.toList,rfl,by rw [hlen,Array.length_toList,hRs],fun q x u hx hu=>?_⟩
    have hq:q < ps.toList.length:=by
     obtain ⟨hq,_⟩:=List.getElem?_eq_some_iff.1 hx
     omega
    obtain ⟨g1,g2⟩:=l3 q _ (List.getElem?_eq_getElem hq)
    rw [hx] at g1
    injection g1 with g1
    subst g1
    have g3:=hcell q _ (List.getElem?_eq_getElem hq)
    rw [Array.getElem?_toList,g3] at hu
    injection hu with hu
    subst hu
    exact ht'.den (fun r hr=>by injection hr with hr;subst hr;exact hnop _ (hmem _ (List.getElem_mem hq))) (hd _ (hmem _ (List.getElem_mem hq)))⟩)
 refine ⟨.value (.slice (some ⟨w.heap.size,0,none⟩) n n),.slice (some ⟨w.heap.size,0,none⟩) n n,_,_,?_,.inl rfl,m',?_,t'⟩
 rotate_left
 ·refine Den.rsl _ d none 0 n (some n) (some ⟨w.heap.size,0,none⟩) n (Nat.le_refl _) fun q hq=>.inr ⟨w.heap.size,?_,rfl,.inr rfl,fun m hm=>by injection hm⟩
  simp only [upd,if_true] at hq
  injection hq with hq
  exact hq.symm
 ·rw [← hparts] at r1
  have hn0:¬ n * j.size > 2 ^ 24:=by rw [hjs];omega
  simp only [execOp,ho,Instr.buildSlice,Sem.run_bind,run_underlying (tok.und_slice hk),Result.andThen_ok,tj.sizeOf,if_neg hn0]
  by_cases h0:n * j.size=0
  ·have e3:∀ (f g:Nat→Value),(Array.range (n * j.size)).map f=(Array.range (n * j.size)).map g:=fun f g=>by rw [h0];simp
   rw [e3 _ ((#[]:Array Value)[· % (#[]:Array Value).size]!)] at r1
   simp only [if_pos h0,Sem.run_bind,Sem.run_pure,Result.andThen_ok,r1,newRow,run_newObj]
   rfl
  ·simp only [if_neg h0,Sem.run_bind,Sem.run_pure,Result.andThen_ok,hz,r1,newRow,run_newObj]
   rfl
noncomputable def litB (T:Nat→Option TI) (tt:Nat):List Oper→St→(St→Prop)→Prop
 | [],s,k=>k s
 | o::os,s,k=>match o.guard,o.dst,o.op with
  | none,some _,.assign x=>litB T tt os (nxt o s (s.ev x) []) k
  | none,some d,.buildSlice t n ps=>(match T t with
   | some i=>(match i.kind with
    | .slice el=>(match T el,T tt,atomsE s.ev 0 ps.toList with
     | some j,some it,some l=>if (shEq none j.shape && (Nat.beq it.size n && shEq it.shape (some n))) && ((Nat.ble n 1000 && Nat.beq ps.toList.length n) && (!(Nat.beq d 0) && (isNo (getM s.mem d) && (noref.norefs d s.slots && memNoref d s.mem)))) then litB T tt os (nxt o s (.rsl d none 0 n (some n)) [(d,.chunk tt (.agg l))]) k else False
     | _,_,_=>False)
    | _=>False)
   | none=>False)
  | _,_,_=>False
def litA (T:Nat→Option TI):List Oper→Bool
 | []=>true
 | o::os=>(match o.guard,o.op with
  | none,.assign _=>true
  | none,.buildSlice _ _ _=>true
  | _,_=>false) && litA T os
def litS (T:Nat→Option TI):List Oper→Bool
 | []=>false
 | o::os=>(match o.op with
  | .buildSlice t _ _=>(match T t with
   | some i=>(match i.kind with
    | .slice el=>(match T el with
     | some j=>(match j.kind with | .slice _=>true | _=>false)
     | none=>false)
    | _=>false)
   | none=>false)
  | _=>false) || litS T os
structure LitQ (k:Nat→Prop):Prop where
 h:∃ tt,k tt
theorem litB_sound (tab:Tab P T) {tt:Nat} {all:Array Oper} {N:Nat→Prop} {w0:World} {X:Nat→Prop} {z:Anc} {k:St→Prop} {Q:Exit→Act→World→Prop} (hQ:∀ s a w ρ,k s→Rep T N w0 X z s a w ρ→Q .normal a w) (ro:Option Nat) (nn:Nat) :
  ∀ (l:List Oper) (s:St) (a:Act) (w:World) (ρ:Env),litB T tt l s k→Rep T N w0 X z s a w ρ→(∀ o∈l,∀ q,o.dst=some q→z.fx q=none)→wpListIn (FR ro) nn P all Q l a w
 | [],s,a,w,ρ,h,hr,_=>hQ s a w ρ h hr
 | o::l,s,a,w,ρ,h,hr,hfx=>by
  have hg:o.guard=none→gd all o s=some true:=fun h=>by unfold gd;rw [h]
  unfold litB at h
  split at h <;> try exact h.elim
  ·rename_i d x hgd hdst hop
   unfold wpListIn
   rw [wanted_gd hr (hg hgd),if_pos rfl]
   have he:Eff P T o s.ev (fun _=>.no) (s.ev x) [] none:=.of_run fun mem hμ hcr a N w0 w X ρ m hd=>⟨.value (a.eval x),a.eval x,w,ρ,by simp [execOp,hop],.inl rfl,m,hd x (by rw [hop];simp [Op.operands]),Turn.refl _ _ _ _⟩
   refine he.h s.mem (fun q=>.inl rfl) (fun d hd=>by cases hd) a N w0 w X ρ hr.m (fun y hy=>hr.ev y) _ Q (fun u w' ρ' m' hx' t=>?_) ro nn
   exact litB_sound tab hQ ro nn l _ _ _ _ h (hr.put m' hx' t (fun q hq=>by cases hq) (fun h0=>by cases h0) (hfx o (by simp))) fun p hp=>hfx p (by simp [hp])
  ·rename_i d t n ps hgd hdst hop
   split at h <;> try exact h.elim
   rename_i i ht
   split at h <;> try exact h.elim
   rename_i el hk
   split at h <;> try exact h.elim
   rename_i j it as' hel hit hat
   split at h <;> try exact h.elim
   rename_i hc
   simp only [Bool.and_eq_true,Bool.not_eq_true'] at hc
   obtain ⟨⟨c1,c2,c3⟩,⟨c4,c5⟩,c6,c7,c8,c9⟩:=hc
   have f2:getM s.mem d=.no:=by cases hm:getM s.mem d <;> simp_all [isNo]
   have f6:d≠0:=by intro h0;subst h0;simp at c6
   unfold wpListIn
   rw [wanted_gd hr (hg hgd),if_pos rfl]
   have he:=lit_chunk (P:=P) tab.tys tab.sz hop ht hk hel (shEq_eq c1) hit (Nat.eq_of_beq_eq_true c2) (shEq_eq c3) (Nat.le_of_ble_eq_true c4) (Nat.eq_of_beq_eq_true c5) (μ:=fun _=>.no) (d:=d) hat
   refine he.h s.mem (fun q=>.inl rfl) (fun d' hd=>?_) a N w0 w X ρ hr.m (fun y hy=>hr.ev y) _ Q (fun u w' ρ' m' hx' t=>?_) ro nn
   ·injection hd with hd
    subst hd
    exact ⟨f2,c9,fun y hy=>noref_ev c8 y⟩
   ·exact litB_sound tab hQ ro nn l _ _ _ _ h (hr.put m' hx' t (fun q hq k=>by injection hq with hq;subst hq;exact norefs_getN c8 k) (fun h0=>by injection h0 with h0;exact f6 h0) (hfx o (by simp))) fun p hp=>hfx p (by simp [hp])
def isMat (o:Oper) (s:St):Bool :=
 match o.guard,o.op with
 | none,.call c=>(match c.callee,c.args.toList with
  | .value _,x::_=>(match s.ev x with | .rsl q none 0 _ _=>isChk (getM s.mem q) | _=>false)
  | _,_=>false)
 | _,_=>false
noncomputable def matOp (T:Nat→Option TI) (G:Nat→CT→Prop) (o:Oper) (s:St) (κ:St→Prop):Prop :=
 match o.op with
 | .call c=>(match calleeOf s.ev c.callee with
  | some (f,caps)=>altK T G f c.argTypes.toList (c.args.toList.map s.ev) caps (getM s.mem) (fun x U _=>κ (nxt o s x U))
  | none=>False)
 | _=>False
noncomputable def opsW (T:Nat→Option TI) (G:Nat→CT→Prop) (all:Array Oper):List Oper→St→(St→Prop)→Prop
 | [],s,k=>k s
 | o::l,s,k=>if isMat o s then matOp T G o s (fun s=>opsW T G all l s k) else opG T G [] all o s (fun _ s=>opsW T G all l s k)
theorem opsW_sound (tab:Tab P T) (hG:∀ f c,G f c→ACall P T f c) {all:Array Oper} {N:Nat→Prop} {w0:World} {X:Nat→Prop} {z:Anc} {k:St→Prop} {Q:Exit→Act→World→Prop}
  (ro:Option Nat) (nn:Nat) (hQ:∀ s a w ρ,k s→Rep T N w0 X z s a w ρ→Q .normal a w):∀ (l:List Oper) (s:St) (a:Act) (w:World) (ρ:Env),opsW T G all l s k→Rep T N w0 X z s a w ρ→(∀ o∈l,∀ q,o.dst=some q→z.fx q=none)→wpListIn (FR ro) nn P all Q l a w
 | [],s,a,w,ρ,h,hr,_=>hQ s a w ρ h hr
 | o::l,s,a,w,ρ,h,hr,hfx=>by
  unfold opsW at h
  split at h
  ·rename_i hm
   have hgd:o.guard=none:=by
    unfold isMat at hm
    split at hm
    ·rename_i h1 _;exact h1
    ·cases hm
   have hg:gd all o s=some true:=by unfold gd;rw [hgd]
   unfold matOp at h
   split at h <;> try exact h.elim
   rename_i c hop
   obtain ⟨cal,args,ats⟩:=c
   split at h <;> try exact h.elim
   rename_i f caps hcal
   obtain ⟨x,U,cr,hk,_,hcr,he⟩:=altK_ok hG hop (d:=none) hcal h
   have hcr:cr=none:=by
    cases hc:cr with
    | none=>rfl
    | some k=>have:=hcr k hc;cases this
   subst hcr
   unfold wpListIn
   rw [wanted_gd hr hg,if_pos rfl]
   refine he.h s.mem (sees_all _) (fun d hd=>by cases hd) a N w0 w X ρ hr.m (fun y hy=>hr.ev y) _ Q (fun u w' ρ' m' hx' t=>?_) ro nn
   exact opsW_sound tab hG ro nn hQ l _ _ _ _ hk (hr.put m' hx' t (fun q hq=>by cases hq) (fun h0=>by cases h0) (hfx o (by simp))) fun p hp=>hfx p (by simp [hp])
  ·obtain ⟨x,U,cr,f,h1,_,_,h2⟩:=opG_res tab hG h
   have:=h1.sound hr (K:=wpListIn (FR ro) nn P all Q l) (Q:=Q) (fun a' w' ρ' hr'=>opsW_sound tab hG ro nn hQ l _ a' w' ρ' h2 hr' (fun p hp=>hfx p (by simp [hp]))) (hfx o (by simp)) ro nn
   unfold Step1 at this
   unfold wpListIn
   exact this
noncomputable def regW (T:Nat→Option TI) (G:Nat→CT→Prop) (ops:Array Oper) (d:Bool) (s:St) (k:St→Prop):Prop :=
 if d then drawG T G ops (prepO T ops.toList s) k else (match zOp ops.toList with
  | some o=>zst T o s k
  | none=>opsW T G ops ops.toList (prepO T ops.toList s) k)
noncomputable def swp (T:Nat→Option TI) (G:Nat→CT→Prop):Code→St→Ks→Prop
 | .skip,s,K=>K.n s
 | .ret,s,K=>K.r s
 | .region _ ops d,s,K=>if hasMk ops.toList then Chp (fun _=>regW T G ops d (prepA T ops.toList s) K.n) (fun _=>regW T G ops d (prepB T ops.toList s) K.n) else if !d && (litS T ops.toList && litA T ops.toList) then Chp (fun _=>regW T G ops d s K.n) (fun _=>LitQ (fun tt=>litB T tt ops.toList s K.n)) else regW T G ops d s K.n
 | .seq a b,s,K=>swp T G a s ⟨fun s=>swp T G b s K,K.r,K.e⟩
 | .cond c a b,s,K=>(match s.ev c with
  | .bool t=>br t (fun _=>swp T G a s K) (fun _=>swp T G b s K)
  | _=>False)
 | .block id c,s,K=>swp T G c s ⟨K.n,K.r,fun i s=>if Nat.beq i id then K.n s else K.e i s⟩
 | .exit id,s,K=>K.e id s
 | .label _,s,K=>K.n s
 | .scope c,s,K=>swp T G c s K
 | .loop c,s,K=>LoopQ T (fun s K=>swp T G c s K) s K
 | .rangeFunc f ps a b,s,K=>(match s.ev f with
  | .clo f caps=>RangeQ T G (fun s K=>swp T G a s K) (fun s K=>swp T G b s K) (ps.toList++(assignedC a++assignedC b)) ps.toList f caps s K
  | _=>False)
 | _,_,_=>False
def noRange:Code→Bool
 | .seq a b=>noRange a && noRange b
 | .cond _ a b=>noRange a && noRange b
 | .block _ c=>noRange c
 | .scope c=>noRange c
 | .loop c=>noRange c
 | .rangeFunc _ _ _ _=>false
 | _=>true
def codeOk:Code→Bool
 | .region _ ops true=>regOk ops
 | .seq a b=>codeOk a && codeOk b
 | .cond _ a b=>codeOk a && codeOk b
 | .block _ c=>codeOk c
 | .scope c=>codeOk c
 | .loop c=>codeOk c
 | .rangeFunc _ _ a b=>codeOk a && codeOk b && noRange a && noRange b
 | _=>true
theorem wp_loop_ix {F:Fence} {n:Nat} {c:Code} {A:Type} {Q:Exit→Act→World→Prop} (I:A→Act→World→Prop) (μ:A→Nat)
  (round:∀ i a w,I i a w→c.wpIn F n P (Exit.then (fun a' w'=>∃ j,I j a' w'∧μ j < μ i) Q) a w):∀ i a w,I i a w→(Code.loop c).wpIn F n P Q a w:=by
 intro i a w hI b k cs hro hb hr
 have key:∀ n i a w,μ i=n→I i a w→∃ e a' w',Q e a' w'∧ArrivesIn (Machine.fenced P F) P (lone (b.atR a (.code c::.inLoop c::k)) cs w) b k cs e a' w':=by
  intro m
  induction m using Nat.strongRecOn with
  | _ m ih =>
   intro i a w hn hI
   obtain ⟨e,a₁,w₁,hq,harr⟩:=round i a w hI b (.inLoop c::k) cs hro hb hr
   cases e with
   | normal =>
    obtain ⟨j,hI₁,hlt⟩:=hq
    obtain ⟨e₂,a₂,w₂,hq₂,harr₂⟩:=ih (μ j) (hn ▸ hlt) j a₁ w₁ rfl hI₁
    exact ⟨e₂,a₂,w₂,hq₂,.of_steps (StepsIn.trans harr (.one (fenced_calm hb hr rfl) stepR_inLoop)) harr₂⟩
   | exit id=>exact ⟨_,a₁,w₁,hq,.pass (x:=.inLoop c) rfl (fun _ _=>.inl (by simp)) harr⟩
   | goto l=>exact ⟨_,a₁,w₁,hq,.pass (x:=.inLoop c) rfl (fun _ _=>.inl (by simp)) harr⟩
   | ret=>exact ⟨_,a₁,w₁,hq,.pass (x:=.inLoop c) rfl (fun _ _=>.inl (by simp)) harr⟩
   | panic ch=>exact ⟨_,a₁,w₁,hq,.pass (x:=.inLoop c) rfl (fun _ _=>.inl (by simp)) harr⟩
   | outgrown=>exact ⟨_,a₁,w₁,hq,.pass (x:=.inLoop c) rfl (fun _ _=>.inl (by simp)) harr⟩
 obtain ⟨e,a',w',hq,harr⟩:=key _ i a w rfl hI
 exact ⟨e,a',w',hq,.of_steps (.one (fenced_calm hb hr rfl) stepR_loop) harr⟩
theorem stepR_scope {b:Frame} {a:Act} {k:List Item} {cs:List Frame} {w:World} {c:Code}:step P (lone (b.atR a (.code (.scope c)::k)) cs w)=.next (lone (b.atR a (.code c::.inScope c::k)) cs w) :=
 step_lone_go (by simp [stepG,stepG.exec,Frame.atR])
theorem stepR_inScope {b:Frame} {a:Act} {k:List Item} {cs:List Frame} {w:World} {c:Code}:step P (lone (b.atR a (.inScope c::k)) cs w)=.next (lone (b.atR a k) cs w) :=
 step_lone_go (by simp [stepG,stepG.exec,Frame.atR])
theorem wpIn_scope_straight {F:Fence} {n:Nat} {Q:Exit→Act→World→Prop} {a:Act} {w:World} {c:Code} (h:c.wpIn F n P (Exit.noGoto Q) a w):(Code.scope c).wpIn F n P Q a w:=by
 intro b k cs hro hb hr
 have h0:(lone (b.atR a (.code (.scope c)::k)) cs w).fenced P F:=fenced_calm hb hr rfl
 obtain ⟨e,a₁,w₁,hq,harr⟩:=h b (.inScope c::k) cs hro hb hr
 cases e with
 | normal=>exact ⟨.normal,a₁,w₁,hq,.head h0 stepR_scope (StepsIn.trans harr (.one (fenced_calm hb hr rfl) stepR_inScope))⟩
 | exit id =>
  have hx:exitTo id (.inScope c::k)=exitTo id k:=by simp [exitTo]
  exact ⟨.exit id,a₁,w₁,hq,fun k' hk=>.head h0 stepR_scope (harr.1 k' (by rw [hx];exact hk)),
   fun hr' hk=>let ⟨k₁,h1,h2⟩:=harr.2 hr' (by rw [hx];exact hk);⟨k₁,h1,.head h0 stepR_scope h2⟩⟩
 | goto l=>exact hq.elim
 | ret=>exact ⟨_,a₁,w₁,hq,.of_steps (.one h0 stepR_scope) harr⟩
 | panic ch=>exact ⟨_,a₁,w₁,hq,.of_steps (.one h0 stepR_scope) harr⟩
 | outgrown=>exact ⟨_,a₁,w₁,hq,.of_steps (.one h0 stepR_scope) harr⟩
theorem swp_sound (tab:Tab P T) (hG:∀ f c,G f c→ACall P T f c) (hmix:P.follows .mixedOrders=true):∀ (c:Code) (N:Nat→Prop) (w0:World) (X:Nat→Prop) (z:Anc) (s:St) (K:Ks) (Q:Exit→Act→World→Prop) (a:Act) (w:World) (ρ:Env),
  codeOk c=true→swp T G c s K→Rep T N w0 X z s a w ρ→(∀ s a w ρ,K.n s→Rep T N w0 X z s a w ρ→Q .normal a w)→(∀ s a w ρ,K.r s→Rep T N w0 X z s a w ρ→Q .ret a w) →
  (∀ i s a w ρ,K.e i s→Rep T N w0 X z s a w ρ→Q (.exit i) a w)→(∀ q∈assignedC c,z.fx q=none)→∀ (ro:Option Nat) (nn:Nat),((ro=none∧z.nd=false)∨noRange c=true)→c.wpIn (FR ro) nn P Q a w:=by
 intro c
 induction c with
 | skip=>intro N w0 X z s K Q a w ρ _ h hr hn _ _ _ ro nn _;exact wpIn_skip (hn s a w ρ h hr)
 | ret=>intro N w0 X z s K Q a w ρ _ h hr _ hret _ _ ro nn _;exact wpIn_ret (hret s a w ρ h hr)
 | region id ops draw =>
  intro N w0 X z s K Q a w ρ hok h hr hn _ _ hfx ro nn _
  have hfx':∀ o∈ops.toList,∀ q,o.dst=some q→z.fx q=none:=fun o ho q hq=>hfx q (dstsL_mem ho hq)
  have go:∀ {s:St} {ρ:Env},regW T G ops draw s K.n→Rep T N w0 X z s a w ρ→(Code.region id ops draw).wpIn (FR ro) nn P Q a w:=by
   intro s ρ h hr
   obtain ⟨ρ1,hr1⟩:=(prepO_sub (T:=T) ops.toList s).h _ _ _ _ _ _ _ hr
   unfold regW at h
   cases draw
   ·simp only [Bool.false_eq_true,if_false] at h
    split at h
    ·rename_i o ho;exact zst_sound tab ho h hr hn hfx' ro nn
    ·exact wpIn_region_list (opsW_sound tab hG ro nn hn _ _ _ _ _ h hr1 hfx')
   ·simp only [if_true] at h
    exact reg_draw tab hG hmix hok h hr1 hn hfx' ro nn
  simp only [swp] at h
  split at h
  ·rcases h.h with h | h
   ·obtain ⟨ρ2,hr2⟩:=(prepA_sub (T:=T) ops.toList s).h _ _ _ _ _ _ _ hr
    exact go h hr2
   ·obtain ⟨ρ2,hr2⟩:=(prepB_sub (T:=T) ops.toList s).h _ _ _ _ _ _ _ hr
    exact go h hr2
  ·split at h
   ·rename_i hcl
    simp only [Bool.and_eq_true,Bool.not_eq_true'] at hcl
    rcases h.h with h | h
    ·exact go h hr
    ·obtain ⟨tt,h⟩:=h.h
     rw [hcl.1]
     exact wpIn_region_list (litB_sound tab hn ro nn _ _ _ _ _ h hr hfx')
   ·exact go h hr
 | seq x y ihx ihy =>
  intro N w0 X z s K Q a w ρ hok h hr hn hret he hfx ro nn hro
  simp only [codeOk,Bool.and_eq_true] at hok
  have h1:(ro=none∧z.nd=false)∨noRange x=true:=hro.imp id fun h=>by simp only [noRange,Bool.and_eq_true] at h;exact h.1
  have h2:(ro=none∧z.nd=false)∨noRange y=true:=hro.imp id fun h=>by simp only [noRange,Bool.and_eq_true] at h;exact h.2
  exact wpIn_seq (ihx N w0 X z s _ (Exit.then (y.wpIn (FR ro) nn P Q) Q) a w ρ hok.1 h hr (fun s a w ρ h hr=>ihy N w0 X z s K Q a w ρ hok.2 h hr hn hret he (fun q hq=>hfx q (by simp [assignedC,hq])) ro nn h2) hret he (fun q hq=>hfx q (by simp [assignedC,hq])) ro nn h1)
 | cond c x y ihx ihy =>
  intro N w0 X z s K Q a w ρ hok h hr hn hret he hfx ro nn hro
  simp only [codeOk,Bool.and_eq_true] at hok
  have h1:(ro=none∧z.nd=false)∨noRange x=true:=hro.imp id fun h=>by simp only [noRange,Bool.and_eq_true] at h;exact h.1
  have h2:(ro=none∧z.nd=false)∨noRange y=true:=hro.imp id fun h=>by simp only [noRange,Bool.and_eq_true] at h;exact h.2
  simp only [swp] at h
  have hev:=hr.ev c
  split at h
  ·rename_i t ht
   rw [ht,Den.bool_iff] at hev
   cases t
   ·exact wpIn_cond hev (ihy N w0 X z s K Q a w ρ hok.2 h hr hn hret he (fun q hq=>hfx q (by simp [assignedC,hq])) ro nn h2)
   ·exact wpIn_cond hev (ihx N w0 X z s K Q a w ρ hok.1 h hr hn hret he (fun q hq=>hfx q (by simp [assignedC,hq])) ro nn h1)
  ·exact h.elim
 | block id c ih =>
  intro N w0 X z s K Q a w ρ hok h hr hn hret he hfx ro nn hro
  refine wpIn_block (ih N w0 X z s _ (Exit.inBlock id Q) a w ρ hok h hr hn hret (fun i s a w ρ h hr=>?_) hfx ro nn hro)
  simp only [Exit.inBlock]
  by_cases hi:i=id
  ·subst hi
   rw [if_pos rfl]
   simp at h
   exact hn s a w ρ h hr
  ·rw [if_neg hi]
   have hb:Nat.beq i id=false:=by
    cases hb:Nat.beq i id
    ·rfl
    ·exact absurd (Nat.eq_of_beq_eq_true hb) hi
   have h':(if Nat.beq i id=true then K.n s else K.e i s):=h
   rw [hb] at h'
   exact he i s a w ρ h' hr
 | exit id=>intro N w0 X z s K Q a w ρ _ h hr _ _ he _ ro nn _;exact wpIn_exit (he id s a w ρ h hr)
 | loop c ih =>
  intro N w0 X z s K Q a w ρ hok h hr hn hret he hfx ro nn hro
  rcases h.h with ⟨n,hu⟩ | ⟨A,I,μ,f,R,hR,⟨i,hI,hs⟩,hround⟩
  ·refine wp_loop_ix (fun (i:Nat) a w=>∃ s ρ,unrollQ (fun s K=>swp T G c s K) i s K∧Rep T N w0 X z s a w ρ) id (fun i a w ⟨s,ρ,hu,hr⟩=>?_) n a w ⟨s,ρ,hu,hr⟩
   cases i with
   | zero=>exact hu.elim
   | succ m=>exact ih N w0 X z s _ (Exit.then (fun a' w'=>∃ j,(∃ s ρ,unrollQ (fun s K=>swp T G c s K) j s K∧Rep T N w0 X z s a' w' ρ)∧id j < id (m+1)) Q) a w ρ hok hu hr (fun s a w ρ h hr=>⟨m,⟨s,ρ,h,hr⟩,Nat.lt_succ_self m⟩) hret he hfx ro nn hro
  obtain ⟨ρ',hr'⟩:=(hR _ _ _ hs).h _ _ _ _ _ _ _ hr
  refine wp_loop_ix (fun i a w=>I i∧∃ ρ,Rep T N w0 X z (f i) a w ρ) μ (fun i a w ⟨hI,ρ,hr⟩=>?_) i a w ⟨hI,ρ',hr'⟩
  refine ih N w0 X z (f i) _ (Exit.then (fun a' w'=>∃ j,(I j∧∃ ρ,Rep T N w0 X z (f j) a' w' ρ)∧μ j < μ i) Q) a w ρ hok (hround i hI) hr (fun s a w ρ h hr=>?_) hret he hfx ro nn hro
  obtain ⟨j,hj,hlt,hsub⟩:=h
  obtain ⟨ρ'',hr''⟩:=(hR _ _ _ hsub).h _ _ _ _ _ _ _ hr
  exact ⟨j,⟨hj,ρ'',hr''⟩,hlt⟩
 | rangeFunc f ps x y ihx ihy =>
  intro N w0 X z s K Q a w ρ hok h hr hn hret he hfx ro nn hro
  obtain ⟨rfl,hznd⟩:=hro.resolve_right (by simp [noRange])
  simp only [codeOk,Bool.and_eq_true] at hok
  simp only [swp] at h
  split at h
  ·rename_i gf caps hev
   exact range_sound hG hr hev h (fun N w0 z s K Q a w ρ h hr hn hret he hfx l nn=>ihx N w0 X z s K Q a w ρ hok.1.1.1 h hr hn hret he hfx (some l) nn (.inr hok.1.2))
    (fun N w0 z s K Q a w ρ h hr hn hret he hfx l nn=>ihy N w0 X z s K Q a w ρ hok.1.1.2 h hr hn hret he hfx (some l) nn (.inr hok.2)) hn hret he nn hznd
  ·exact h.elim
 | scope c ih =>
  intro N w0 X z s K Q a w ρ hok h hr hn hret he hfx ro nn hro
  exact wpIn_scope_straight (ih N w0 X z s K (Exit.noGoto Q) a w ρ hok h hr hn hret he hfx ro nn hro)
 | label l=>intro N w0 X z s K Q a w ρ _ h hr hn _ _ _ ro nn _;exact wpIn_label (hn s a w ρ h hr)
 | goto l=>intro N w0 X z s K Q a w ρ _ h;exact h.elim
 | refuse y=>intro N w0 X z s K Q a w ρ _ h;exact h.elim
def resOne (T:Nat→Option TI) (s:St):ResultVar→Option SV
 | .tmp k=>some (getN .any s.slots k)
 | .cell k ty=>(match getN .any s.slots k with
  | .ptr r o=>(match getM s.mem r with
   | .chunk t' y=>if Nat.beq o 0 && Nat.beq t' ty then some y else none
   | _=>none)
  | _=>none)
def resL (T:Nat→Option TI) (s:St):List ResultVar→Option (List SV)
 | v::vs=>(match resOne T s v,resL T s vs with
  | some x,some xs=>some (x::xs)
  | _,_=>none)
 | []=>some []
def expE:SV→List SV
 | .tup l=>l
 | x=>[x]
def pickE:SV→SV→Option Nat
 | .row 1,.row q=>some q
 | .ptr 1 _,.ptr q _=>some q
 | .agg es,.agg xs=>pickEs es xs
 | _,_=>none
where pickEs:List SV→List SV→Option Nat
 | e::es,x::xs=>(match pickE e x with | some q=>some q | none=>pickEs es xs)
 | _,_=>none
def orId (a b:Option Nat):Option Nat:=match a with | some q=>some q | none=>b
def likeB (b c:Blk):Bool:=match b,c with
 | .row sh e _,.row sh' e' _=>shEq sh sh' && Nat.beq e e'
 | .chunk t _,.chunk t' _=>Nat.beq t t'
 | _,_=>false
def firstId (b:Blk) (m:Mem):List Nat→Option Nat
 | []=>none
 | q::l=>if Nat.beq q 0 then firstId b m l else if likeB b (getM m q) then some q else firstId b m l
noncomputable def fin1 (nw:Bool) (m:Mem):SV→Option SV
 | .row r=>if nw && Nat.beq r 1 then some (.row 1) else viewC (getM m) (.row r)
 | .rsl r sh a n c=>if nw && Nat.beq r 1 then none else viewC (getM m) (.rsl r sh a n c)
 | .ptr r o=>if nw && Nat.beq r 1 && Nat.beq o 0 then some (.ptr 1 0) else none
 | x=>viewC (getM m) x
noncomputable def fin1s (nw:Bool) (m:Mem):List SV→Option (List SV)
 | []=>some []
 | x::l=>(match fin1 nw m x,fin1s nw m l with
  | some y,some ys=>some (y::ys)
  | _,_=>none)
def normE (T:Nat→Option TI) (t:Nat) (e y:SV):SV:=match e with
 | .nil=>y
 | _=>normNil T t y
theorem normE_den {w:World} {X:Nat→Prop} {ρ:Env} {t:Nat} {e x:SV} {v:Value} (h:Den w X ρ x v):Den w X ρ (normE T t e x) v:=by
 unfold normE
 split
 ·exact h
 ·exact normNil_den h
noncomputable def finV (T:Nat→Option TI) (nw:Bool) (m:Mem) (t:Nat) (e:SV):SV→Option SV
 | .agg l=>(match fin1s nw m l with | some l=>some (.agg l) | none=>none)
 | x=>(match fin1 nw m x with | some y=>some (normE T t e y) | none=>none)
def hdE:List SV→SV
 | []=>.any
 | x::_=>x
def tlE:List SV→List SV
 | []=>[]
 | _::l=>l
noncomputable def finL (T:Nat→Option TI) (nw:Bool) (m:Mem):List Nat→List SV→List SV→Option (List SV)
 | t::ts,es,x::xs=>(match finV T nw m t (hdE es) x,finL T nw m ts (tlE es) xs with
  | some y,some ys=>some (y::ys)
  | _,_=>none)
 | [],_,[]=>some []
 | _,_,_=>none
def packR:List SV→SV
 | [x]=>x
 | l=>.tup l
structure Fin (x r:SV) (b n:Blk) (l l':Blk):Prop where
 r:x=r
 n:b=n
 l:l=l'
def finS (s:St):Option Nat→St
 | some q=>if Nat.beq q 0 then s else swS 1 q s
 | none=>s
def endS (T:Nat→Option TI) (vs:List ResultVar) (r:SV) (b:Blk) (s:St):St :=
 if isNew b then (match resL T s vs with | some xs=>finS s (orId (pickE.pickEs (expE r) xs) (firstId b s.mem (idsV.idsVs xs))) | none=>s) else s
def lentE (l:Option (Nat × SV)) (m:Mem):Blk:=match l with | some _=>getM m 0 | none=>.no
def retQ' (T:Nat→Option TI) (ts:List Nat) (vs:List ResultVar) (c:CT) (nw:Bool) (s:St):Prop :=
 match resL T s vs with
 | some xs=>(match finL T nw s.mem ts (expE c.r) xs with
  | some ys=>Fin (packR ys) c.r (if nw then getM s.mem 1 else .no) c.new (lentE c.lent s.mem) (lentB' c.lent c.lent')
  | none=>False)
 | none=>False
noncomputable def lendS (T:Nat→Option TI) (l:Option (Nat × SV)) (s:St):St:=match l with | some _=>frzC T 0 s | none=>s
theorem lendS_sub (l:Option (Nat × SV)) (s:St):Sub T s (lendS T l s):=by
 unfold lendS
 split
 ·exact frzC_sub 0 s
 ·exact .refl s
def retQ (T:Nat→Option TI) (ts:List Nat) (vs:List ResultVar) (s:St) (c:CT):Prop:=retQ' T ts vs c (isNew c.new) (lendS T c.lent (endS T vs c.r c.new s))
def resSem (a:Act) (v:ResultVar):Sem Value:=match v with
 | .tmp t=>pure (a.tmps.getD t undef)
 | .cell k ty=>do loadVar ty (← asAddr (a.tmps.getD k undef))
theorem resOne_ok (tab:Tab P T) {N:Nat→Prop} {w0:World} {X:Nat→Prop} {z:Anc} {s:St} {a:Act} {w:World} {ρ:Env} (h:Rep T N w0 X z s a w ρ) {v:ResultVar} {x:SV} (hx:resOne T s v=some x) :
  ∃ u,(resSem a v).run P w=.ok u w∧Den w (Forb X s.mem ρ) ρ x u:=by
 cases v with
 | tmp k=>simp only [resOne] at hx;injection hx with hx;subst hx;exact ⟨_,rfl,h.slot k⟩
 | cell k ty =>
  simp only [resOne] at hx
  cases hs:getN SV.any s.slots k with
  | ptr r o =>
   simp only [hs] at hx
   cases hm:getM s.mem r with
   | chunk t' y =>
    simp only [hm] at hx
    split at hx
    ·rename_i hc
     simp only [Bool.and_eq_true] at hc
     have h0:o=0:=Nat.eq_of_beq_eq_true hc.1
     have h1:t'=ty:=Nat.eq_of_beq_eq_true hc.2
     subst h0;subst h1
     injection hx with hx;subst hx
     have hb:=h.m.blk r
     rw [hm] at hb
     obtain ⟨i',b,us,tt,e1,e2,e3,e4,e5,e6,e7⟩:=hb
     have hd:=h.slot k
     rw [hs] at hd
     simp only [resSem]
     generalize a.tmps.getD k undef=q at hd
     cases hd with
     | ptr _ _ _ b' hb' =>
      have:=hb' _ e2
      simp only [Value.pointer.injEq,Option.some.injEq,Addr.mk.injEq,and_true] at this
      subst this
      refine ⟨_,?_,e7⟩
      have:=run_load_at (P:=P) (tab.tys.ok t' i' e1) (tab.sz.one t' i' e1) w b 0 us.toList (by rw [Array.length_toList,e5];exact Nat.le_refl _) (fun j u hu=>by rw [Nat.zero_add,cell_of_row w b j us tt (0,0) e4];simpa using hu)
      simpa [Instr.loadAt,Instr.sureAddr,asAddr] using this
    ·cases hx
   | _=>simp only [hm] at hx;cases hx
  | _=>simp only [hs] at hx;cases hx
theorem resL_ok (tab:Tab P T) {N:Nat→Prop} {w0:World} {X:Nat→Prop} {z:Anc} {s:St} {a:Act} {w:World} {ρ:Env} (h:Rep T N w0 X z s a w ρ):∀ (vs:List ResultVar) (xs:List SV),resL T s vs=some xs →
  ∃ us:List Value,(vs.mapM (resSem a)).run P w=Result.ok us w∧DenL w (Forb X s.mem ρ) ρ xs us
 | [],xs,hx=>by
  simp only [resL] at hx
  injection hx with hx;subst hx
  exact ⟨[],rfl,rfl,fun i x u h=>by simp at h⟩
 | v::vs,xs,hx=>by
  simp only [resL] at hx
  cases h1:resOne T s v with
  | none=>rw [h1] at hx;cases hx
  | some x =>
   cases h2:resL T s vs with
   | none=>rw [h1,h2] at hx;cases hx
   | some ys =>
    rw [h1,h2] at hx
    injection hx with hx;subst hx
    obtain ⟨u,r1,d1⟩:=resOne_ok tab h h1
    obtain ⟨us,r2,d2⟩:=resL_ok tab h vs ys h2
    refine ⟨u::us,?_,by simp [d2.1],fun i x' u' hx' hu'=>?_⟩
    ·rw [List.mapM_cons,Sem.run_bind,r1,Result.andThen_ok,Sem.run_bind,r2,Result.andThen_ok]
     rfl
    ·cases i with
     | zero=>simp at hx' hu';subst hx';subst hu';exact d1
     | succ i=>exact d2.2 i x' u' (by simpa using hx') (by simpa using hu')
theorem endS_sub (vs:List ResultVar) (r:SV) (b:Blk) (s:St):Sub T s (endS T vs r b s):=by
 unfold endS
 split
 ·split
  ·unfold finS
   split
   ·split
    ·exact .refl s
    ·rename_i h;exact swS_sub 1 _ s (by simp) (fun h0=>h (by simp [h0]))
   ·exact .refl s
  ·exact .refl s
 ·exact .refl s
def idsF (nw:Bool):List Nat→List Nat
 | []=>[]
 | q::l=>if nw && Nat.beq q 1 then idsF nw l else q::idsF nw l
theorem idsF_mem {nw:Bool}:∀ {l:List Nat} {q:Nat},q∈idsF nw l ↔ q∈l∧¬ (nw=true∧q=1)
 | [],q=>by simp [idsF]
 | k::l,q=>by
  simp only [idsF]
  split
  ·rename_i h
   simp only [Bool.and_eq_true,nbeq] at h
   rw [idsF_mem]
   constructor
   ·rintro ⟨h1,h2⟩;exact ⟨by simp [h1],h2⟩
   ·rintro ⟨h1,h2⟩
    rcases List.mem_cons.1 h1 with rfl | h1
    ·exact absurd h h2
    ·exact ⟨h1,h2⟩
  ·rename_i h
   simp only [Bool.and_eq_true,nbeq] at h
   rw [List.mem_cons,idsF_mem,List.mem_cons]
   constructor
   ·rintro (rfl | ⟨h1,h2⟩)
    ·exact ⟨.inl rfl,h⟩
    ·exact ⟨.inr h1,h2⟩
   ·rintro ⟨rfl | h1,h2⟩
    ·exact .inl rfl
    ·exact .inr ⟨h1,h2⟩
theorem ret_ok (tab:Tab P T) {N:Nat→Prop} {w0:World} {X:Nat→Prop} {z:Anc} {s:St} {a:Act} {w:World} {ρ:Env} (h:Rep T N w0 X z s a w ρ) {fn:Func} {c:CT} {nw:Bool} (hnw:nw=isNew c.new) (hq:retQ' T fn.resultTypes.toList fn.results.toList c nw s) :
  ∃ v ρ',(results fn a.tmps).run P w=.ok v w∧MRep T N w0 w X (outM c) ρ'∧Den w (Forb X (outM c) ρ') ρ' c.r v∧(∀ u,z.z=some u→c.lent.isSome=true→ρ' 0=some u)∧(c.lent=none→ρ' 0=none):=by
 unfold retQ' at hq
 cases hx:resL T s fn.results.toList with
 | none=>rw [hx] at hq;exact hq.elim
 | some xs =>
  rw [hx] at hq
  simp only at hq
  cases hy:finL T nw s.mem fn.resultTypes.toList (expE c.r) xs with
  | none=>rw [hy] at hq;exact hq.elim
  | some ys =>
   rw [hy] at hq
   simp only at hq
   obtain ⟨q1,q2,q3⟩:=hq
   obtain ⟨us,hr,hd⟩:=resL_ok tab h _ _ hx
   have fz:=freeze_ids (T:=T) (sees_all s.mem) h.m (idsF nw (rids.ridsL xs))
   have hout:∀ r,getM (outM c) r=.no∨getM (outM c) r=getM (appU (frzU (getM s.mem) (idsF nw (rids.ridsL xs))) s.mem) r:=by
    intro r
    rw [getM_out]
    have keep:∀ r,(∀ sh e k,getM s.mem r≠.row sh e k)∨r ∉ idsF nw (rids.ridsL xs)→getM (appU (frzU (getM s.mem) (idsF nw (rids.ridsL xs))) s.mem) r=getM s.mem r:=by
     intro r hr
     rcases fz.old r with g | ⟨g1,sh,e,k,g2,_⟩
     ·exact g
     ·rcases hr with hr | hr
      ·exact absurd g2 (hr _ _ _)
      ·exact absurd g1 hr
    by_cases h0:r=0
    ·subst h0
     rw [if_pos rfl]
     cases hl:c.lent with
     | none=>exact .inl rfl
     | some p =>
      obtain ⟨t,x⟩:=p
      right
      rw [hl] at q3
      simp only [lentE,lentB'] at q3 ⊢
      rw [keep 0 (.inl fun sh e k hk=>by rw [hk] at q3;cases q3)]
      exact q3.symm
    ·rw [if_neg h0]
     by_cases h1:r=1
     ·subst h1
      rw [if_pos rfl]
      cases hn:nw with
      | false =>
       rw [hn] at q2
       simp only [Bool.false_eq_true,if_false] at q2
       exact .inl q2.symm
      | true =>
       rw [hn] at q2 keep
       simp only [if_true] at q2
       right
       rw [← hn] at keep ⊢
       rw [keep 1 (.inr fun hm=>(idsF_mem.1 hm).2 ⟨hn,rfl⟩)]
       exact q2.symm
     ·rw [if_neg h1];exact .inl rfl
   obtain ⟨m',env,hf⟩:=fz.m.drop hout
   generalize hρ:(fun r=>match getM (outM c) r with | .no=>none | _=>ρ r:Env)=ρ' at m' env hf
   have lift:∀ {ρ0:Env} {x:SV} {v:Value},Den w (Forb X s.mem ρ) ρ0 x v→Den w (Forb X (outM c) ρ') ρ0 x v:=fun hd=>(hd.mono fz.t.size fz.t.keep).mono (Nat.le_refl _) fun b _ hb=>⟨fun hb'=>hb (hf b hb'),rfl⟩
   have view1:∀ {x y:SV} {v:Value},(∀ r∈rids x,r∈idsF nw (rids.ridsL xs))→viewC (getM s.mem) x=some y→Den w (Forb X s.mem ρ) ρ x v→Den w (Forb X (outM c) ρ') ρ' y v:=by
    intro x y v hr hv hd
    obtain ⟨a1,a2⟩:=viewC_same (μ':=getM (appU (frzU (getM s.mem) (idsF nw (rids.ridsL xs))) s.mem)) (fun r hr'=>fz.at' r (hr r hr')) hv
    have:=viewC_den (sees_all _) fz.m (Z:=Forb X (outM c) ρ') (fun b _ hb hb'=>hb (hf b hb')) (fun hl=>by rw [a2] at hl;cases hl) a1 (fz.t.den (fun _ h=>by cases h) hd)
    exact this.env fun r=>.inr (.inr (by
     have hp:plainB y=true:=by
      have:=view_data (T:=T) (μ:=getM s.mem) (t:=0) (x:=.agg [x]) (y:=.agg [y]) (by simp [view,viewCs,hv])
      simpa [dataB,allPlain] using this
     exact plain_noref hp r))
   have part:∀ {x y:SV} {v:Value},(∀ r∈rids x,r∈rids.ridsL xs)→fin1 nw s.mem x=some y→Den w (Forb X s.mem ρ) ρ x v→Den w (Forb X (outM c) ρ') ρ' y v:=by
    intro x y v hr hv hd
    cases x with
    | row r =>
     simp only [fin1] at hv
     split at hv
     ·rename_i hc
      simp only [Bool.and_eq_true,nbeq] at hc
      injection hv with hv;subst hv
      obtain ⟨_,rfl⟩:=hc
      exact (lift hd).env fun r=>(env r).imp id .inl
     ·rename_i hc
      simp only [Bool.and_eq_true,nbeq] at hc
      exact view1 (fun k hk=>idsF_mem.2 ⟨hr k hk,by simp [rids] at hk;subst hk;exact hc⟩) hv hd
    | rsl r sh a n c =>
     simp only [fin1] at hv
     split at hv
     ·cases hv
     ·rename_i hc
      simp only [Bool.and_eq_true,nbeq] at hc
      exact view1 (fun k hk=>idsF_mem.2 ⟨hr k hk,by simp [rids] at hk;subst hk;exact hc⟩) hv hd
    | ptr r o =>
     simp only [fin1] at hv
     split at hv
     ·rename_i hc
      simp only [Bool.and_eq_true,nbeq] at hc
      injection hv with hv;subst hv
      obtain ⟨⟨_,rfl⟩,rfl⟩:=hc
      exact (lift hd).env fun r=>(env r).imp id .inl
     ·cases hv
    | agg l=>simp [fin1,viewC,plainB] at hv
    | tup l=>simp [fin1,viewC,plainB] at hv
    | _=>exact view1 (fun k hk=>by simp [rids] at hk) (by simpa only [fin1] using hv) hd
   have parts:∀ {l l':List SV} {vs:List Value},(∀ r∈rids.ridsL l,r∈rids.ridsL xs)→fin1s nw s.mem l=some l'→DenL w (Forb X s.mem ρ) ρ l vs→DenL w (Forb X (outM c) ρ') ρ' l' vs:=by
    intro l
    induction l with
    | nil=>intro l' vs _ hv hd;simp only [fin1s] at hv;injection hv with hv;subst hv;exact ⟨hd.1,fun i x u h=>by simp at h⟩
    | cons x l ih =>
     intro l' vs hr hv hd
     simp only [fin1s] at hv
     cases h1:fin1 nw s.mem x with
     | none=>rw [h1] at hv;cases hv
     | some y =>
      cases h2:fin1s nw s.mem l with
      | none=>rw [h1,h2] at hv;cases hv
      | some ys' =>
       rw [h1,h2] at hv
       injection hv with hv;subst hv
       cases vs with
       | nil=>have:=hd.1;simp at this
       | cons v vs =>
        have ih:=ih (fun r hr'=>hr r (by simp [rids.ridsL,hr'])) h2 ⟨by have:=hd.1;simpa using this,fun i x u hx hu=>hd.2 (i+1) x u hx hu⟩
        refine ⟨by simp [ih.1],fun i x' u hx' hu'=>?_⟩
        cases i with
        | zero=>simp at hx' hu';subst hx';subst hu';exact part (fun r hr'=>hr r (by simp [rids.ridsL,hr'])) h1 (hd.2 0 _ _ rfl rfl)
        | succ i=>exact ih.2 i x' u (by simpa using hx') (by simpa using hu')
   have whole:∀ {t:Nat} {e x y:SV} {v:Value},(∀ r∈rids x,r∈rids.ridsL xs)→finV T nw s.mem t e x=some y→Den w (Forb X s.mem ρ) ρ x v→Den w (Forb X (outM c) ρ') ρ' y v:=by
    intro t e x y v hr hv hd
    cases x with
    | agg l =>
     simp only [finV] at hv
     cases h1:fin1s nw s.mem l with
     | none=>rw [h1] at hv;cases hv
     | some l' =>
      rw [h1] at hv
      injection hv with hv;subst hv
      obtain ⟨cs,rfl,hd2⟩:=Den.agg_iff.1 hd
      exact Den.agg_iff.2 ⟨cs,rfl,parts hr h1 hd2⟩
    | _ =>
     simp only [finV] at hv
     split at hv
     ·rename_i y' h1
      injection hv with hv;subst hv
      exact normE_den (part hr h1 hd)
     ·cases hv
   have all:∀ {ts:List Nat} {es l l':List SV} {vs:List Value},(∀ r∈rids.ridsL l,r∈rids.ridsL xs)→finL T nw s.mem ts es l=some l'→DenL w (Forb X s.mem ρ) ρ l vs→DenL w (Forb X (outM c) ρ') ρ' l' vs:=by
    intro ts
    induction ts with
    | nil =>
     intro es l l' vs _ hv hd
     cases l with
     | nil=>simp only [finL] at hv;injection hv with hv;subst hv;exact ⟨hd.1,fun i x u h=>by simp at h⟩
     | cons=>simp [finL] at hv
    | cons t ts ih =>
     intro es l l' vs hr hv hd
     cases l with
     | nil=>simp [finL] at hv
     | cons x l =>
      simp only [finL] at hv
      cases h1:finV T nw s.mem t (hdE es) x with
      | none=>rw [h1] at hv;cases hv
      | some y =>
       cases h2:finL T nw s.mem ts (tlE es) l with
       | none=>rw [h1,h2] at hv;cases hv
       | some ys' =>
        rw [h1,h2] at hv
        injection hv with hv;subst hv
        cases vs with
        | nil=>have:=hd.1;simp at this
        | cons v vs =>
         have ih:=ih (fun r hr'=>hr r (by simp [rids.ridsL,hr'])) h2 ⟨by have:=hd.1;simpa using this,fun i x u hx hu=>hd.2 (i+1) x u hx hu⟩
         refine ⟨by simp [ih.1],fun i x' u hx' hu'=>?_⟩
         cases i with
         | zero=>simp at hx' hu';subst hx';subst hu';exact whole (fun r hr'=>hr r (by simp [rids.ridsL,hr'])) h1 (hd.2 0 _ _ rfl rfl)
         | succ i=>exact ih.2 i x' u (by simpa using hx') (by simpa using hu')
   have hdy:=all (fun r hr=>hr) hy hd
   have hm:(fn.results.mapM (resSem a)).run P w=.ok us.toArray w:=by
    rw [Array.mapM_eq_mapM_toList,Sem.run_map,hr]
    rfl
   have hres:(results fn a.tmps).run P w=.ok (if h:us.toArray.size=1 then us.toArray[0] else .tuple us.toArray) w:=by
    unfold results
    rw [Sem.run_bind]
    refine (congrArg (fun r=>Result.andThen r _) hm).trans ?_
    rfl
   refine ⟨_,ρ',hres,m',?_,fun u hz hl=>?_,fun hl=>?_⟩
   ·rw [← q1]
    by_cases h1:us.length=1
    ·obtain ⟨u,rfl⟩:=List.length_eq_one_iff.1 h1
     have hxl:ys.length=1:=by rw [hdy.1];rfl
     obtain ⟨x,rfl⟩:=List.length_eq_one_iff.1 hxl
     simp only [packR]
     have:=hdy.2 0 x u rfl rfl
     simpa using this
    ·have hp:packR ys=.tup ys:=by
      have:ys.length≠1:=by rw [hdy.1];exact h1
      match ys,this with
      | [],_=>rfl
      | [x],h=>exact absurd rfl h
      | x::y::l,_=>rfl
     rw [hp,dif_neg (by simpa using h1)]
     exact Den.tup_iff.2 ⟨us,rfl,hdy⟩
   ·cases hl':c.lent with
    | none=>rw [hl'] at hl;cases hl
    | some p =>
     obtain ⟨t,x⟩:=p
     rw [hl'] at q3
     simp only [lentE,lentB'] at q3
     have h0:ρ 0=some u:=h.anch u hz (by rw [q3];simp)
     rw [← hρ]
     simp only [getM_out,if_true,hl',lentB']
     exact h0
   ·rw [← hρ]
    simp only [getM_out,if_true,hl,lentB']
def start (n:Nat) (c:CT):St:=⟨c.args++List.replicate (n - c.args.length) .any,inM c⟩
theorem contract (tab:Tab P T) (hG:∀ f c,G f c→ACall P T f c) (hmix:P.follows .mixedOrders=true) {f:FuncId} {fn:Func} {c:Code} {ct:CT} (hf:P.funcs[f]?=some fn) (hb:fn.body=some c)
  (hn:(fn.name == "runtime.NumGoroutine")=false) (hok:codeOk c=true) (hni:isSeq ct=false) (hnl:isLR ct=false) (hng:isG ct=false)
  (h:swp T G c (start fn.ntmps ct) ⟨fun s=>retQ T fn.resultTypes.toList fn.results.toList s ct,fun s=>retQ T fn.resultTypes.toList fn.results.toList s ct,fun _ _=>False⟩):ACall P T f ct:=by
 refine ⟨⟨fn,hf,by rw [hb];rfl,hn⟩,(fun hs=>by rw [hni] at hs;cases hs),(fun sh e l az k hc=>by rw [hc] at hnl;cases hnl),(fun az L r b hc=>by rw [hc] at hng;cases hng),fun _ _ _ N w X ρ vs m hd=>?_⟩
 refine (callsIn_wide (n:=1)).1 (callsIn_of_wp_marks hf hb trivial ?_)
 have hrep:Rep T N w X ⟨ρ 0,fun _=>none,none,false⟩ (start fn.ntmps ct) { tmps:=⟨vs⟩++Array.replicate (fn.ntmps - (⟨vs⟩:Array Value).size) undef,defers:=[] } w ρ:=by
  refine ⟨m,.nil _ _ _,?_,fun t=>?_,fun v hv _=>hv,(fun _ _ h=>by cases h),(fun _ h=>by cases h),(fun h=>by cases h)⟩
  ·simp only [start,Array.size_append,List.size_toArray,Array.size_replicate,List.length_append,List.length_replicate,hd.1]
  ·simp only [start]
   rw [getN_eq]
   by_cases ht:t < ct.args.length
   ·have ht':t < vs.length:=by rw [← hd.1];exact ht
    rw [List.getElem?_append_left ht,List.getElem?_eq_getElem ht]
    have:((⟨vs⟩:Array Value)++Array.replicate (fn.ntmps - (⟨vs⟩:Array Value).size) undef).getD t undef=vs[t]:=by
     simp [Array.getElem?_append,ht']
    rw [this]
    exact hd.2 t _ _ (List.getElem?_eq_getElem ht) (List.getElem?_eq_getElem ht')
   ·rw [List.getElem?_append_right (by omega),List.getElem?_replicate]
    split <;> exact .any _ _
 have fin0:∀ (s:St) (a:Act) (w':World) (ρ1:Env),retQ T fn.resultTypes.toList fn.results.toList s ct→Rep T N w X ⟨ρ 0,fun _=>none,none,false⟩ s a w' ρ1 →
   ∃ v,(results fn a.tmps).run P w'=.ok v w'∧∃ v' ρ',Ending.returned v=.returned v'∧MRep T N w w' X (outM ct) ρ'∧ρ' 0=ρ 0∧Den w' (Forb X (outM ct) ρ') ρ' ct.r v':=by
  intro s a w' ρ1 hq hr
  obtain ⟨ρ2,hr2⟩:=((endS_sub (T:=T) fn.results.toList ct.r ct.new s).trans (lendS_sub ct.lent _)).h _ _ _ _ _ _ _ hr
  obtain ⟨v,ρ',h1,h2,h3,h4,h5⟩:=ret_ok tab hr2 rfl hq
  refine ⟨v,h1,v,ρ',rfl,h2,?_,h3⟩
  have hm0:=m.some0 0
  rw [getM_in,if_pos rfl] at hm0
  cases hl:ct.lent with
  | none =>
   rw [h5 hl,hm0.1 (by rw [hl];rfl)]
  | some p =>
   cases h0:ρ 0 with
   | none=>have:=hm0.2 h0;rw [hl] at this;cases this
   | some u=>exact h4 u h0 (by rw [hl];rfl)
 have fin1:∀ (Ds:List Nat) (s:St) (a:Act) (w':World) (ρ1:Env),retQ T fn.resultTypes.toList fn.results.toList s ct→Rep T N w X ⟨ρ 0,fun _=>none,none,false⟩ s a w' ρ1→a.defers=Ds.map (fun D=>{ target:=.collected D,args:=#[] })→Ds.Nodup →
   (∀ D∈Ds,N D∧¬ Forb X s.mem ρ1 D∧w'.heap[D]?=some (.deferred (some []))) →
   LeavesInM Fence.wide 1 P fn a.tmps (fun e w'=>∃ v' ρ',e=.returned v'∧MRep T N w w' X (outM ct) ρ'∧ρ' 0=ρ 0∧Den w' (Forb X (outM ct) ρ') ρ' ct.r v') a.defers .returning w':=by
  intro Ds
  induction Ds with
  | nil =>
   intro s a w' ρ1 hq hr hd _ _
   rw [hd]
   exact fin0 s a w' ρ1 hq hr
  | cons D Ds ih =>
   intro s a w' ρ1 hq hr hd hnd hk
   rw [hd]
   obtain ⟨k1,k2,k3⟩:=hk D (by simp)
   have hne:∀ q∈Ds,q≠D:=by rintro q hq rfl;exact (List.nodup_cons.1 hnd).1 hq
   have hk2:∀ q∈Ds,N q∧¬ Forb X s.mem ρ1 q∧(w'.putObj D (.deferred none)).heap[q]?=some (.deferred (some [])):=fun q hq=>by
    obtain ⟨g1,g2,g3⟩:=hk q (by simp [hq])
    exact ⟨g1,g2,(World.putObj_heap_other (hne q hq)).trans g3⟩
   have hr2:=hr.putObj k3 rfl k1 k2 (.deferred none) (ds:=Ds.map (fun D=>{ target:=.collected D,args:=#[] })) ⟨Ds,rfl,(List.nodup_cons.1 hnd).2,hk2⟩ (fun h=>by cases h)
   exact ⟨by simp,.inl ⟨D,_,rfl,run_takeDeferred k3,ih s _ _ ρ1 hq hr2 rfl (List.nodup_cons.1 hnd).2 hk2⟩⟩
 have fin:∀ (s:St) (a:Act) (w':World) (ρ1:Env),retQ T fn.resultTypes.toList fn.results.toList s ct→Rep T N w X ⟨ρ 0,fun _=>none,none,false⟩ s a w' ρ1 →
   LeavesInM Fence.wide 1 P fn a.tmps (fun e w'=>∃ v' ρ',e=.returned v'∧MRep T N w w' X (outM ct) ρ'∧ρ' 0=ρ 0∧Den w' (Forb X (outM ct) ρ') ρ' ct.r v') a.defers .returning w':=by
  intro s a w' ρ1 hq hr
  obtain ⟨Ds,h1,h2,h3⟩:=hr.defers.h
  exact fin1 Ds s a w' ρ1 hq hr h1 h2 h3
 exact swp_sound tab hG hmix c N w X _ _ _ _ _ w ρ hok h hrep (fun s a w' ρ1 hq hr=>fin s a w' ρ1 hq hr) (fun s a w' ρ1 hq hr=>fin s a w' ρ1 hq hr) (fun i s a w' ρ hq=>hq.elim) (fun _ _=>rfl) none 1 (.inl ⟨rfl,rfl⟩)
structure FinL (sh:Option Nat) (e n:Nat) (l' k:List SV):Prop where
 n:n=k.length
 l:l'.take k.length=k
def startG (n:Nat) (az:List SV) (L:List Ln):St:=⟨az++List.replicate (n - az.length) .any,inL L⟩
def isPtrAt (k:Nat):SV→Bool
 | .ptr q o=>Nat.beq q k && Nat.beq o 0
 | _=>false
def lentAt (l:List SV) (k:Nat):Bool:=Nat.ble 900 k && isPtrAt k (getN .any l (k - 900))
def posOk (az:List SV) (asg:List Nat):List Ln→Bool
 | []=>true
 | p::l=>(Nat.beq p.1 0 || (!(memB (p.1 - 900) asg) && lentAt az p.1)) && posOk az asg l
def slotsOk (sl:List SV):List Ln→Bool
 | []=>true
 | p::l=>(Nat.beq p.1 0 || lentAt sl p.1) && slotsOk sl l
theorem lentAt_iff {l:List SV} {k:Nat} (h:lentAt l k=true):900≤k∧getN .any l (k - 900)=.ptr k 0:=by
 simp only [lentAt,Bool.and_eq_true] at h
 refine ⟨Nat.le_of_ble_eq_true h.1,?_⟩
 have h2:=h.2
 unfold isPtrAt at h2
 split at h2
 ·rename_i a b he
  simp only [Bool.and_eq_true] at h2
  rw [he,nbeq.1 h2.1,nbeq.1 h2.2]
 ·cases h2
theorem posOk_mem {az:List SV} {asg:List Nat}:∀ {L:List Ln},posOk az asg L=true→∀ p∈L,p.1=0∨(900≤p.1∧p.1 - 900 ∉ asg∧getN .any az (p.1 - 900)=.ptr p.1 0)
 | p::l,h,q,hq=>by
  simp only [posOk,Bool.and_eq_true,Bool.or_eq_true,Bool.not_eq_true'] at h
  rcases List.mem_cons.1 hq with rfl | hq
  ·rcases h.1 with h | ⟨h1,h2⟩
   ·exact .inl (nbeq.1 h)
   ·right
    obtain ⟨g1,g2⟩:=lentAt_iff h2
    exact ⟨g1,(fun hm=>by rw [memB_iff.2 hm] at h1;cases h1),g2⟩
  ·exact posOk_mem h.2 q hq
theorem slotsOk_mem {sl:List SV}:∀ {L:List Ln},slotsOk sl L=true→∀ p∈L,p.1=0∨getN .any sl (p.1 - 900)=.ptr p.1 0
 | p::l,h,q,hq=>by
  simp only [slotsOk,Bool.and_eq_true,Bool.or_eq_true] at h
  rcases List.mem_cons.1 hq with rfl | hq
  ·rcases h.1 with h | h2
   ·exact .inl (nbeq.1 h)
   ·exact .inr (lentAt_iff h2).2
  ·exact slotsOk_mem h.2 q hq
noncomputable def outV (T:Nat→Option TI) (nw:Bool) (m:Mem) (k t:Nat):Option SV :=
 match getM m k with
 | .chunk t' x=>if Nat.beq t' t then finV T nw m t .any x else none
 | _=>none
noncomputable def outVs (T:Nat→Option TI) (nw:Bool) (m:Mem):List Ln→Option (List SV)
 | []=>some []
 | p::l=>(match outV T nw m p.1 p.2.1,outVs T nw m l with
  | some y,some ys=>some (y::ys)
  | _,_=>none)
def outIds (m:Mem):List Ln→List Nat
 | []=>[]
 | p::l=>(match getM m p.1 with | .chunk _ x=>rids x++outIds m l | _=>outIds m l)
def lentIds (m:Mem):List Ln→List Nat
 | []=>[]
 | p::l=>(match getM m p.1 with | .chunk _ x=>idsV x++lentIds m l | _=>lentIds m l)
def isLn (q:Nat):List Ln→Bool
 | []=>false
 | p::l=>Nat.beq p.1 q || isLn q l
def dropLn (L:List Ln):List Nat→List Nat
 | []=>[]
 | q::l=>if isLn q L then dropLn L l else q::dropLn L l
def endG (T:Nat→Option TI) (vs:List ResultVar) (b:Blk) (L:List Ln) (s:St):St :=
 if isNew b then (match resL T s vs with | some xs=>finS s (firstId b s.mem (dropLn L (lentIds s.mem L++idsV.idsVs xs))) | none=>s) else s
theorem endG_sub (vs:List ResultVar) (b:Blk) (L:List Ln) (s:St):Sub T s (endG T vs b L s):=by
 unfold endG
 split
 ·split
  ·unfold finS
   split
   ·split
    ·exact .refl s
    ·rename_i h;exact swS_sub 1 _ s (by simp) (fun h0=>h (by simp [h0]))
   ·exact .refl s
  ·exact .refl s
 ·exact .refl s
structure FinG (x r:SV) (ys zs:List SV) (b n:Blk):Prop where
 r:x=r
 l:ys=zs
 n:b=n
noncomputable def retG' (T:Nat→Option TI) (ts:List Nat) (vs:List ResultVar) (L:List Ln) (r:SV) (b:Blk) (s:St):Prop :=
 match resL T s vs with
 | some xs=>(match finL T (isNew b) s.mem ts (expE r) xs,outVs T (isNew b) s.mem L with
  | some ys,some zs=>if slotsOk s.slots L then FinG (packR ys) r zs (L.map fun p=>p.2.2.2) (if isNew b then getM s.mem 1 else .no) b else False
  | _,_=>False)
 | none=>False
noncomputable def retG (T:Nat→Option TI) (ts:List Nat) (vs:List ResultVar) (L:List Ln) (r:SV) (b:Blk) (s:St):Prop:=retG' T ts vs L r b (endG T vs b L s)
theorem outVs_mem {nw:Bool} {m:Mem}:∀ {L:List Ln} {zs:List SV},outVs T nw m L=some zs→zs=L.map (fun p=>p.2.2.2)→∀ p∈L,∃ x,getM m p.1=.chunk p.2.1 x∧finV T nw m p.2.1 .any x=some p.2.2.2∧∀ q∈rids x,q∈outIds m L
 | [],zs,_,_,p,hp=>by simp at hp
 | q::L,zs,h,he,p,hp=>by
  simp only [outVs] at h
  split at h
  ·rename_i y ys h1 h2
   injection h with h;subst h
   simp only [List.map_cons,List.cons.injEq] at he
   unfold outV at h1
   split at h1
   ·rename_i t' x hm
    split at h1
    ·rename_i ht
     have ht:=nbeq.1 ht
     subst ht
     rcases List.mem_cons.1 hp with rfl | hp
     ·exact ⟨x,hm,by rw [h1,he.1],fun k hk=>by simp only [outIds,hm];exact List.mem_append_left _ hk⟩
     ·obtain ⟨x',g1,g2,g3⟩:=outVs_mem h2 he.2 p hp
      exact ⟨x',g1,g2,fun k hk=>by simp only [outIds,hm];exact List.mem_append_right _ (g3 k hk)⟩
    ·cases h1
   ·cases h1
  ·cases h
theorem retG_ok (tab:Tab P T) {N:Nat→Prop} {w0:World} {X:Nat→Prop} {z:Anc} {s:St} {a:Act} {w:World} {ρ:Env} (h:Rep T N w0 X z s a w ρ) {fn:Func} {L:List Ln} {r:SV} {b:Blk} (h1L:∀ p∈L,p.1≠1) (hlr:(∀ sh l,b≠.frz sh l)) (hq:retG' T fn.resultTypes.toList fn.results.toList L r b s) :
  ∃ v ρ',(results fn a.tmps).run P w=.ok v w∧MRep T N w0 w X (outL b L) ρ'∧Den w (Forb X (outL b L) ρ') ρ' r v∧(∀ p∈L,ρ' p.1=ρ p.1∧getM s.mem p.1≠.no)∧slotsOk s.slots L=true:=by
 unfold retG' at hq
 split at hq <;> try exact hq.elim
 rename_i xs hx
 split at hq <;> try exact hq.elim
 rename_i ys zs hy hz
 split at hq <;> try exact hq.elim
 rename_i hsl
 obtain ⟨q1,q2,q3⟩:=hq
 obtain ⟨us,hr,hd⟩:=resL_ok tab h _ _ hx
 have hout:=outVs_mem hz q2
 generalize hnw:isNew b=nw at hy hz hout q3
 have fz:=freeze_ids (T:=T) (sees_all s.mem) h.m (idsF nw (rids.ridsL xs++outIds s.mem L))
 have frc:∀ q,(∀ sh e k,getM s.mem q≠.row sh e k)∨q ∉ idsF nw (rids.ridsL xs++outIds s.mem L)→getM (appU (frzU (getM s.mem) (idsF nw (rids.ridsL xs++outIds s.mem L))) s.mem) q=getM s.mem q:=by
  intro q hr
  rcases fz.old q with g | ⟨g1,sh,e,k,g2,_⟩
  ·exact g
  ·rcases hr with hr | hr
   ·exact absurd g2 (hr _ _ _)
   ·exact absurd g1 hr
 generalize hM:appU (frzU (getM s.mem) (idsF nw (rids.ridsL xs++outIds s.mem L))) s.mem=mem1 at fz frc
 let ρ':Env:=fun k=>match getM (outL b L) k with | .no=>none | _=>ρ k
 have hch:∀ p∈L,∃ x,getM mem1 p.1=.chunk p.2.1 x∧finV T nw s.mem p.2.1 .any x=some p.2.2.2∧∀ q∈rids x,q∈rids.ridsL xs++outIds s.mem L:=by
  intro p hp
  obtain ⟨x,g1,g2,g3⟩:=hout p hp
  exact ⟨x,by rw [frc p.1 (.inl fun sh e k hk=>by rw [g1] at hk;cases hk)];exact g1,g2,fun q hq=>List.mem_append_right _ (g3 q hq)⟩
 have h1m:b≠.no→getM mem1 1=b∧nw=true:=by
  intro hb
  have hn:nw=true:=by
   rw [← hnw]
   cases b <;> first | rfl | exact absurd rfl hb | exact absurd rfl (hlr _ _)
  rw [hn] at q3
  simp only [if_true] at q3
  exact ⟨by rw [frc 1 (.inr fun hm=>(idsF_mem.1 hm).2 ⟨hn,rfl⟩)];exact q3,hn⟩
 have hρ:∀ p∈L,ρ' p.1=ρ p.1:=fun p hp=>by
  rcases getM_outL0 b L p.1 with ⟨q,hq,h1,h2⟩ | ⟨h1,_⟩
  ·simp only [ρ',h2]
  ·exact absurd rfl (h1 p hp)
 have hcase:∀ k,(∃ p∈L,p.1=k∧getM (outL b L) k=.chunk p.2.1 p.2.2.2)∨(k=1∧b≠.no∧getM (outL b L) k=b∧ρ' k=ρ k)∨(getM (outL b L) k=.no∧ρ' k=none):=by
  intro k
  rcases getM_outL0 b L k with h1 | ⟨h1,h2⟩
  ·exact .inl h1
  ·by_cases hk:k=1
   ·by_cases hb:b=.no
    ·right;right
     have:getM (outL b L) k=.no:=by rw [h2,hb];split <;> rfl
     exact ⟨this,by simp only [ρ',this]⟩
    ·right;left
     have h3:getM (outL b L) k=b:=by rw [h2,if_pos hk]
     refine ⟨hk,hb,h3,?_⟩
     show (match getM (outL b L) k with | .no=>none | _=>ρ k)=ρ k
     rw [h3]
     cases b <;> first | rfl | exact absurd rfl hb
   ·right;right
    have:getM (outL b L) k=.no:=by rw [h2,if_neg hk]
    exact ⟨this,by simp only [ρ',this]⟩
 have env:∀ k,ρ' k=none∨ρ' k=ρ k:=by
  intro k
  simp only [ρ']
  split
  ·exact .inl rfl
  ·exact .inr rfl
 have ownk:∀ k v,(getM (outL b L) k).own=true→ρ' k=some v→(getM mem1 k).own=true∧ρ k=some v:=by
  intro k v g1 e1
  rcases hcase k with ⟨p,hp,h1,h2⟩ | ⟨h1,hb,h2,h3⟩ | ⟨h1,_⟩
  ·subst h1
   obtain ⟨x,g,_⟩:=hch p hp
   exact ⟨by rw [g];rfl,by rw [← hρ p hp];exact e1⟩
  ·rw [h2] at g1
   rw [h3] at e1
   subst h1
   exact ⟨by rw [(h1m hb).1];exact g1,e1⟩
  ·rw [h1] at g1;simp [Blk.own] at g1
 have hF:∀ c,Forb X (outL b L) ρ' c→Forb X mem1 ρ c:=by
  rintro c (hb | ⟨k,v,k1,k2,k3⟩)
  ·exact .inl hb
  ·obtain ⟨a1,a2⟩:=ownk k v k1 k2
   exact .inr ⟨k,v,a1,a2,k3⟩
 have lift:∀ {ρ0:Env} {x:SV} {v:Value},Den w (Forb X mem1 ρ) ρ0 x v→Den w (Forb X (outL b L) ρ') ρ0 x v:=fun hd=>hd.mono (Nat.le_refl _) fun b _ hb=>⟨fun hb'=>hb (hF b hb'),rfl⟩
 have lift0:∀ {ρ0:Env} {x:SV} {v:Value},Den w (Forb X s.mem ρ) ρ0 x v→Den w (Forb X (outL b L) ρ') ρ0 x v:=fun hd=>lift (hd.mono fz.t.size fz.t.keep)
 have view1:∀ {x y:SV} {v:Value},(∀ k∈rids x,k∈idsF nw (rids.ridsL xs++outIds s.mem L))→viewC (getM s.mem) x=some y→Den w (Forb X mem1 ρ) ρ x v→Den w (Forb X (outL b L) ρ') ρ' y v:=by
  intro x y v hr hv hd
  obtain ⟨a1,a2⟩:=viewC_same (μ':=getM mem1) (fun k hk=>fz.at' k (hr k hk)) hv
  have:=viewC_den (sees_all _) fz.m (Z:=Forb X (outL b L) ρ') (fun b _ hb hb'=>hb (hF b hb')) (fun hl=>by rw [a2] at hl;cases hl) a1 hd
  exact this.env fun r=>.inr (.inr (by
   have hp:plainB y=true:=by
    have:=view_data (T:=T) (μ:=getM s.mem) (t:=0) (x:=.agg [x]) (y:=.agg [y]) (by simp [view,viewCs,hv])
    simpa [dataB,allPlain] using this
   exact plain_noref hp r))
 have part:∀ {x y:SV} {v:Value},(∀ k∈rids x,k∈rids.ridsL xs++outIds s.mem L)→fin1 nw s.mem x=some y→Den w (Forb X mem1 ρ) ρ x v→Den w (Forb X (outL b L) ρ') ρ' y v:=by
  intro x y v hr hv hd
  cases x with
  | row q =>
   simp only [fin1] at hv
   split at hv
   ·rename_i hc
    simp only [Bool.and_eq_true,nbeq] at hc
    injection hv with hv;subst hv
    obtain ⟨_,rfl⟩:=hc
    exact (lift hd).env fun r=>(env r).imp id .inl
   ·rename_i hc
    simp only [Bool.and_eq_true,nbeq] at hc
    exact view1 (fun k hk=>idsF_mem.2 ⟨hr k hk,by simp [rids] at hk;subst hk;exact hc⟩) hv hd
  | rsl q sh a n c =>
   simp only [fin1] at hv
   split at hv
   ·cases hv
   ·rename_i hc
    simp only [Bool.and_eq_true,nbeq] at hc
    exact view1 (fun k hk=>idsF_mem.2 ⟨hr k hk,by simp [rids] at hk;subst hk;exact hc⟩) hv hd
  | ptr q o =>
   simp only [fin1] at hv
   split at hv
   ·rename_i hc
    simp only [Bool.and_eq_true,nbeq] at hc
    injection hv with hv;subst hv
    obtain ⟨⟨_,rfl⟩,rfl⟩:=hc
    exact (lift hd).env fun r=>(env r).imp id .inl
   ·cases hv
  | agg l=>simp [fin1,viewC,plainB] at hv
  | tup l=>simp [fin1,viewC,plainB] at hv
  | _=>exact view1 (fun k hk=>by simp [rids] at hk) (by simpa only [fin1] using hv) hd
 have parts:∀ {l l':List SV} {vs:List Value},(∀ k∈rids.ridsL l,k∈rids.ridsL xs++outIds s.mem L)→fin1s nw s.mem l=some l'→DenL w (Forb X mem1 ρ) ρ l vs→DenL w (Forb X (outL b L) ρ') ρ' l' vs:=by
  intro l
  induction l with
  | nil=>intro l' vs _ hv hd;simp only [fin1s] at hv;injection hv with hv;subst hv;exact ⟨hd.1,fun i x u h=>by simp at h⟩
  | cons x l ih =>
   intro l' vs hr hv hd
   simp only [fin1s] at hv
   cases h1:fin1 nw s.mem x with
   | none=>rw [h1] at hv;cases hv
   | some y =>
    cases h2:fin1s nw s.mem l with
    | none=>rw [h1,h2] at hv;cases hv
    | some ys' =>
     rw [h1,h2] at hv
     injection hv with hv;subst hv
     cases vs with
     | nil=>have:=hd.1;simp at this
     | cons v vs =>
      have ih:=ih (fun k hk=>hr k (by simp [rids.ridsL,hk])) h2 ⟨by have:=hd.1;simpa using this,fun i x u hx hu=>hd.2 (i+1) x u hx hu⟩
      refine ⟨by simp [ih.1],fun i x' u hx' hu'=>?_⟩
      cases i with
      | zero=>simp at hx' hu';subst hx';subst hu';exact part (fun k hk=>hr k (by simp [rids.ridsL,hk])) h1 (hd.2 0 _ _ rfl rfl)
      | succ i=>exact ih.2 i x' u (by simpa using hx') (by simpa using hu')
 have whole:∀ {t:Nat} {e x y:SV} {v:Value},(∀ k∈rids x,k∈rids.ridsL xs++outIds s.mem L)→finV T nw s.mem t e x=some y→Den w (Forb X mem1 ρ) ρ x v→Den w (Forb X (outL b L) ρ') ρ' y v:=by
  intro t e x y v hr hv hd
  cases x with
  | agg l =>
   simp only [finV] at hv
   cases h1:fin1s nw s.mem l with
   | none=>rw [h1] at hv;cases hv
   | some l' =>
    rw [h1] at hv
    injection hv with hv;subst hv
    obtain ⟨cs,rfl,hd2⟩:=Den.agg_iff.1 hd
    exact Den.agg_iff.2 ⟨cs,rfl,parts hr h1 hd2⟩
  | _ =>
   simp only [finV] at hv
   split at hv
   ·rename_i y' h1
    injection hv with hv;subst hv
    exact normE_den (part hr h1 hd)
   ·cases hv
 have m':MRep T N w0 w X (outL b L) ρ':=by
  refine ⟨fz.m.low,fz.m.below,fz.m.szN,fun k=>?_,fun k k' v v' c g1 g2 e1 e2 e3 e4=>?_,gl_mono fz.m.gl (Nat.le_refl _) fun b _ hb=>⟨fun hb'=>hb (hF b hb'),rfl⟩⟩
  ·rcases hcase k with ⟨p,hp,h1,h2⟩ | ⟨h1,hb,h2,h3⟩ | ⟨h1,h2⟩
   ·subst h1
    rw [h2,hρ p hp]
    obtain ⟨x,g1,g2,g3⟩:=hch p hp
    have hb:=fz.m.blk p.1
    rw [g1] at hb
    obtain ⟨i,b,us',ty,k1,k2,k3,k4,k5,k6,k7⟩:=hb
    exact ⟨i,b,us',ty,k1,k2,k3,k4,k5,k6,whole g3 g2 k7⟩
   ·rw [h2,h3]
    subst h1
    have hb1:=fz.m.blk 1
    rw [(h1m hb).1] at hb1
    cases b with
    | no=>exact absurd rfl hb
    | frz sh l=>exact absurd rfl (hlr _ _)
    | chunk t x =>
     obtain ⟨i,c,us',ty,k1,k2,k3,k4,k5,k6,k7⟩:=hb1
     exact ⟨i,c,us',ty,k1,k2,k3,k4,k5,k6,(lift k7).env fun r=>(env r).imp id .inl⟩
    | row sh e l =>
     obtain ⟨v,k1,k2⟩:=hb1
     refine ⟨v,k1,k2.imp id ?_⟩
     rintro ⟨c,off,cap,cur,j1,j2,j3,j4,j5,j6,j7,j8,j9⟩
     exact ⟨c,off,cap,cur,j1,j2,j3,j4,j5,j6,j7,j8,fun i h=>lift (j9 i h)⟩
    | rowx e l i x =>
     obtain ⟨c,off,cap,cur,j1,j2,j3,j4,j5,j6,j7,j8,j9,j10,j11⟩:=hb1
     exact ⟨c,off,cap,cur,j1,j2,j3,j4,j5,j6,j7,j8,j9,fun j h hj=>lift (j10 j h hj),(lift j11).env fun r=>(env r).imp id .inl⟩
    | iter s p=>exact hb1
    | gen _ _ _=>exact hb1
   ·rw [h1];exact h2
  ·obtain ⟨a1,a2⟩:=ownk k v g1 e1
   obtain ⟨b1,b2⟩:=ownk k' v' g2 e2
   exact fz.m.inj k k' v v' c a1 b1 a2 b2 e3 e4
 have hd1:DenL w (Forb X mem1 ρ) ρ xs us:=⟨hd.1,fun i x u hx hu=>fz.t.den (fun _ h=>by cases h) (hd.2 i x u hx hu)⟩
 have all:∀ {ts:List Nat} {es l l':List SV} {vs:List Value},(∀ r∈rids.ridsL l,r∈rids.ridsL xs)→finL T nw s.mem ts es l=some l'→DenL w (Forb X mem1 ρ) ρ l vs→DenL w (Forb X (outL b L) ρ') ρ' l' vs:=by
  intro ts
  induction ts with
  | nil =>
   intro es l l' vs _ hv hd
   cases l with
   | nil=>simp only [finL] at hv;injection hv with hv;subst hv;exact ⟨hd.1,fun i x u h=>by simp at h⟩
   | cons=>simp [finL] at hv
  | cons t ts ih =>
   intro es l l' vs hr hv hd
   cases l with
   | nil=>simp [finL] at hv
   | cons x l =>
    simp only [finL] at hv
    cases h1:finV T nw s.mem t (hdE es) x with
    | none=>rw [h1] at hv;cases hv
    | some y =>
     cases h2:finL T nw s.mem ts (tlE es) l with
     | none=>rw [h1,h2] at hv;cases hv
     | some ys' =>
      rw [h1,h2] at hv
      injection hv with hv;subst hv
      cases vs with
      | nil=>have:=hd.1;simp at this
      | cons v vs =>
       have ih:=ih (fun r hr'=>hr r (by simp [rids.ridsL,hr'])) h2 ⟨by have:=hd.1;simpa using this,fun i x u hx hu=>hd.2 (i+1) x u hx hu⟩
       refine ⟨by simp [ih.1],fun i x' u hx' hu'=>?_⟩
       cases i with
       | zero=>simp at hx' hu';subst hx';subst hu';exact whole (fun r hr'=>List.mem_append_left _ (hr r (by simp [rids.ridsL,hr']))) h1 (hd.2 0 _ _ rfl rfl)
       | succ i=>exact ih.2 i x' u (by simpa using hx') (by simpa using hu')
 have hdy:=all (fun r hr=>hr) hy hd1
 have hm:(fn.results.mapM (resSem a)).run P w=.ok us.toArray w:=by
  rw [Array.mapM_eq_mapM_toList,Sem.run_map,hr]
  rfl
 have hres:(results fn a.tmps).run P w=.ok (if h:us.toArray.size=1 then us.toArray[0] else .tuple us.toArray) w:=by
  unfold results
  rw [Sem.run_bind]
  refine (congrArg (fun r=>Result.andThen r _) hm).trans ?_
  rfl
 refine ⟨_,ρ',hres,m',?_,fun p hp=>⟨hρ p hp,?_⟩,hsl⟩
 ·rw [← q1]
  by_cases h1:us.length=1
  ·obtain ⟨u,rfl⟩:=List.length_eq_one_iff.1 h1
   have hxl:ys.length=1:=by rw [hdy.1];rfl
   obtain ⟨x,rfl⟩:=List.length_eq_one_iff.1 hxl
   simp only [packR]
   have:=hdy.2 0 x u rfl rfl
   simpa using this
  ·have hp:packR ys=.tup ys:=by
    have:ys.length≠1:=by rw [hdy.1];exact h1
    match ys,this with
    | [],_=>rfl
    | [x],h=>exact absurd rfl h
    | x::y::l,_=>rfl
   rw [hp,dif_neg (by simpa using h1)]
   exact Den.tup_iff.2 ⟨us,rfl,hdy⟩
 ·obtain ⟨x,g1,_⟩:=hout p hp
  rw [g1]
  simp
theorem contractG (tab:Tab P T) (hG:∀ f c,G f c→ACall P T f c) (hmix:P.follows .mixedOrders=true) {f:FuncId} {fn:Func} {c:Code} {az:List SV} {L:List Ln} {r:SV} {nb:Blk} (hf:P.funcs[f]?=some fn) (hb:fn.body=some c)
  (hn:(fn.name == "runtime.NumGoroutine")=false) (hok:codeOk c=true) (hpos:posOk az (assignedC c) L=true)
  (h:swp T G c (startG fn.ntmps az L) ⟨fun s=>retG T fn.resultTypes.toList fn.results.toList L r nb s,fun s=>retG T fn.resultTypes.toList fn.results.toList L r nb s,fun _ _=>False⟩) (hsq:isSeq (gC az L r nb)=false) (hlr:isLR (gC az L r nb)=false):ACall P T f (gC az L r nb):=by
 refine ⟨⟨fn,hf,by rw [hb];rfl,hn⟩,(fun hs=>absurd hs (by rw [hsq];simp)),(fun sh e l az k hc=>?_),(fun az' L' r' nb' hc _ _ hnd=>?_),(fun _ _ hs=>by cases hs)⟩
 ·have:=congrArg CT.lent hc
  simp only [gC,lrC,Option.some.injEq,Prod.mk.injEq] at this
  cases this.2
 obtain ⟨rfl,rfl,rfl,rfl⟩:=gC_inj hc
 have h1L:∀ p∈L,p.1≠1:=fun p hp=>by rcases posOk_mem hpos p hp with e | ⟨e,_⟩ <;> omega
 have hnf:∀ sh l,nb≠.frz sh l:=fun sh l e=>by rw [e] at hlr;cases hlr
 intro N w X ρ vs m hd
 refine (callsIn_wide (n:=1)).1 (callsIn_of_wp_marks hf hb trivial ?_)
 let fx:Nat→Option Value:=fun q=>if q∈assignedC c then none else if q < vs.length then some (vs.getD q undef) else none
 have hz:∀ q v,fx q=some v→vs.getD q undef=v∧q < vs.length:=fun q v hq=>by
  simp only [fx] at hq
  split at hq
  ·cases hq
  ·split at hq
   ·rename_i h;injection hq with hq;exact ⟨hq,h⟩
   ·cases hq
 have hget:∀ t,t < vs.length→((⟨vs⟩:Array Value)++Array.replicate (fn.ntmps - (⟨vs⟩:Array Value).size) undef).getD t undef=vs.getD t undef:=by
  intro t ht
  simp [Array.getElem?_append,ht]
 have hrep:Rep T N w X ⟨ρ 0,fx,none,false⟩ (startG fn.ntmps az L) { tmps:=⟨vs⟩++Array.replicate (fn.ntmps - (⟨vs⟩:Array Value).size) undef,defers:=[] } w ρ:=by
  refine ⟨m,.nil _ _ _,?_,fun t=>?_,fun v hv _=>hv,(fun t v hv=>?_),(fun _ h=>by cases h),(fun h=>by cases h)⟩
  ·simp only [startG,Array.size_append,List.size_toArray,Array.size_replicate,List.length_append,List.length_replicate,hd.1]
  ·simp only [startG]
   rw [getN_eq]
   by_cases ht:t < az.length
   ·have ht':t < vs.length:=by rw [← hd.1];exact ht
    rw [List.getElem?_append_left ht,List.getElem?_eq_getElem ht,hget t ht']
    have:vs.getD t undef=vs[t]:=by simp [List.getD,ht']
    rw [this]
    exact hd.2 t _ _ (List.getElem?_eq_getElem ht) (List.getElem?_eq_getElem ht')
   ·rw [List.getElem?_append_right (by omega),List.getElem?_replicate]
    split <;> exact .any _ _
  ·obtain ⟨h1,h2⟩:=hz t v hv
   rw [hget t h2]
   exact h1
 have fin0:∀ (s:St) (a:Act) (w':World) (ρ1:Env),retG T fn.resultTypes.toList fn.results.toList L r nb s→Rep T N w X ⟨ρ 0,fx,none,false⟩ s a w' ρ1 →
   ∃ v,(results fn a.tmps).run P w'=.ok v w'∧∃ v' ρ',Ending.returned v=.returned v'∧MRep T N w w' X (outL nb L) ρ'∧(∀ p∈L,ρ' p.1=ρ p.1)∧Den w' (Forb X (outL nb L) ρ') ρ' r v':=by
  intro s a w' ρ1 hq hr
  obtain ⟨ρ2,hr2⟩:=(endG_sub (T:=T) fn.results.toList nb L s).h _ _ _ _ _ _ _ hr
  clear hr
  clear ρ1
  have hr:=hr2
  clear hr2
  obtain ⟨ρ1,rfl⟩:∃ q,q=ρ2:=⟨_,rfl⟩
  obtain ⟨v,ρ',h1,h2,h3,h4,h5⟩:=retG_ok tab hr h1L hnf hq
  generalize endG T fn.results.toList nb L s=s at hr h4 h5
  refine ⟨v,h1,v,ρ',rfl,h2,fun p hp=>?_,h3⟩
  obtain ⟨k1,k2⟩:=h4 p hp
  rw [k1]
  have hsome:∃ u,ρ p.1=some u:=by
   cases hu:ρ p.1 with
   | some u=>exact ⟨u,rfl⟩
   | none =>
    exfalso
    have:=(m.some0 p.1).2 hu
    have hin:∀ (L':List Ln),p∈L'→getM (inL L') p.1≠.no:=by
     intro L'
     induction L' with
     | nil=>intro h;simp at h
     | cons q L' ih =>
      intro h hno
      simp only [inL,List.map_cons,getM,nbeq] at hno
      by_cases e:q.1=p.1
      ·rw [if_pos e] at hno;cases hno
      ·rw [if_neg e] at hno
       rcases List.mem_cons.1 h with rfl | h
       ·exact e rfl
       ·exact ih h hno
    exact hin L hp this
  obtain ⟨u,hu⟩:=hsome
  have hsome1:∃ u1,ρ1 p.1=some u1:=by
   cases hu1:ρ1 p.1 with
   | some u=>exact ⟨u,rfl⟩
   | none=>exact absurd ((hr.m.some0 p.1).2 hu1) k2
  obtain ⟨u1,hu1⟩:=hsome1
  rcases posOk_mem hpos p hp with e | ⟨e1,e2⟩
  ·rw [hu]
   rw [e] at hu k2 ⊢
   exact hr.anch u hu k2
  ·by_cases e0:p.1=0
   ·rw [hu]
    rw [e0] at hu k2 ⊢
    exact hr.anch u hu k2
   obtain ⟨e2,e3⟩:=e2
   generalize hpos:p.1 - 900=pos at e2 e3
   have hlt:pos < az.length:=by
    by_cases hl:pos < az.length
    ·exact hl
    ·rw [getN_eq,List.getElem?_eq_none (by omega)] at e3
     cases e3
   have hlt':pos < vs.length:=by rw [← hd.1];exact hlt
   have hsl:=(slotsOk_mem h5 p hp).resolve_left e0
   rw [hpos] at hsl
   have d1:=hr.slot pos
   rw [hsl,hr.fix pos (vs.getD pos undef) (by simp only [fx];rw [if_neg e2,if_pos hlt'])] at d1
   have d0:=hd.2 pos (.ptr p.1 0) (vs.getD pos undef) (by rw [getN_eq] at e3;rw [List.getElem?_eq_getElem hlt] at e3 ⊢;simpa using e3) (by simp [List.getD,hlt'])
   generalize hv0:vs.getD pos undef=v0 at d0 d1
   cases d0 with
   | ptr _ _ _ b hb =>
    have e3:=hb u hu
    cases d1 with
    | ptr _ _ _ _ hb1 =>
     have e4:=hb1 u1 hu1
     rw [hu,hu1,e3,e4]
 have fin1:∀ (Ds:List Nat) (s:St) (a:Act) (w':World) (ρ1:Env),retG T fn.resultTypes.toList fn.results.toList L r nb s→Rep T N w X ⟨ρ 0,fx,none,false⟩ s a w' ρ1→a.defers=Ds.map (fun D=>{ target:=.collected D,args:=#[] })→Ds.Nodup →
   (∀ D∈Ds,N D∧¬ Forb X s.mem ρ1 D∧w'.heap[D]?=some (.deferred (some []))) →
   LeavesInM Fence.wide 1 P fn a.tmps (fun e w'=>∃ v' ρ',e=.returned v'∧MRep T N w w' X (outL nb L) ρ'∧(∀ p∈L,ρ' p.1=ρ p.1)∧Den w' (Forb X (outL nb L) ρ') ρ' r v') a.defers .returning w':=by
  intro Ds
  induction Ds with
  | nil =>
   intro s a w' ρ1 hq hr hd _ _
   rw [hd]
   exact fin0 s a w' ρ1 hq hr
  | cons D Ds ih =>
   intro s a w' ρ1 hq hr hd hnd hk
   rw [hd]
   obtain ⟨k1,k2,k3⟩:=hk D (by simp)
   have hne:∀ q∈Ds,q≠D:=by rintro q hq rfl;exact (List.nodup_cons.1 hnd).1 hq
   have hk2:∀ q∈Ds,N q∧¬ Forb X s.mem ρ1 q∧(w'.putObj D (.deferred none)).heap[q]?=some (.deferred (some [])):=fun q hq=>by
    obtain ⟨g1,g2,g3⟩:=hk q (by simp [hq])
    exact ⟨g1,g2,(World.putObj_heap_other (hne q hq)).trans g3⟩
   have hr2:=hr.putObj k3 rfl k1 k2 (.deferred none) (ds:=Ds.map (fun D=>{ target:=.collected D,args:=#[] })) ⟨Ds,rfl,(List.nodup_cons.1 hnd).2,hk2⟩ (fun h=>by cases h)
   exact ⟨by simp,.inl ⟨D,_,rfl,run_takeDeferred k3,ih s _ _ ρ1 hq hr2 rfl (List.nodup_cons.1 hnd).2 hk2⟩⟩
 have fin:∀ (s:St) (a:Act) (w':World) (ρ1:Env),retG T fn.resultTypes.toList fn.results.toList L r nb s→Rep T N w X ⟨ρ 0,fx,none,false⟩ s a w' ρ1 →
   LeavesInM Fence.wide 1 P fn a.tmps (fun e w'=>∃ v' ρ',e=.returned v'∧MRep T N w w' X (outL nb L) ρ'∧(∀ p∈L,ρ' p.1=ρ p.1)∧Den w' (Forb X (outL nb L) ρ') ρ' r v') a.defers .returning w':=by
  intro s a w' ρ1 hq hr
  obtain ⟨Ds,h1,h2,h3⟩:=hr.defers.h
  exact fin1 Ds s a w' ρ1 hq hr h1 h2 h3
 exact swp_sound tab hG hmix c N w X _ _ _ _ _ w ρ hok h hrep (fun s a w' ρ1 hq hr=>fin s a w' ρ1 hq hr) (fun s a w' ρ1 hq hr=>fin s a w' ρ1 hq hr) (fun i s a w' ρ hq=>hq.elim) (fun q hq=>by simp only [fx];rw [if_pos hq]) none 1 (.inl ⟨rfl,rfl⟩)
def putNs:List (Nat × SV)→List SV→List SV
 | [],l=>l
 | (d,x)::ds,l=>putNs ds (setN x l d)
def killM (D:List Nat):Mem→Mem
 | []=>[]
 | (k,b)::m=>(match b with
  | .no=>killM D m
  | b=>if memB k D then killM D m else (k,b)::killM D m)
def putMs:List (Nat × Blk)→Mem→Mem
 | [],m=>m
 | (d,x)::ds,m=>putMs ds (setM x m d)
def loopSt (c:Code) (s:St) (u:List (Nat × SV)) (v:List (Nat × Blk)):St :=
 ⟨putNs u (killN (assignedC c) s.slots),putMs v (killM (assignedC c) s.mem)⟩
def nilL:List SV→List SV→List SV
 | .lst sh _::ys,.nil::xs=>.lst sh []::nilL ys xs
 | _::ys,x::xs=>x::nilL ys xs
 | _,xs=>xs
def nilH:List SV→List SV→Bool
 | .lst _ _::_,.nil::_=>true
 | _::ys,_::xs=>nilH ys xs
 | _,_=>false
def fitN (k:Nat) (b:Blk) (s:St):St :=
 match b,getM s.mem k with
 | .chunk _ (.agg ys),.chunk t (.agg xs)=>if nilH ys xs then ⟨s.slots,setM (.chunk t (.agg (nilL ys xs))) s.mem k⟩ else s
 | _,_=>s
theorem nilL_den {w:World} {Y:Nat→Prop} {ρ:Env}:∀ (ys xs:List SV) (us:List Value),DenL w Y ρ xs us→DenL w Y ρ (nilL ys xs) us
 | [],xs,us,h=>by unfold nilL;exact h
 | y::ys,[],us,h=>by cases y <;> exact h
 | y::ys,x::xs,[],h=>by have:=h.1;simp at this
 | y::ys,x::xs,u::us,h=>by
  have ih:=nilL_den ys xs us ⟨by have:=h.1;simpa using this,fun i x u hx hu=>h.2 (i+1) x u hx hu⟩
  have cons:∀ x',Den w Y ρ x' u→DenL w Y ρ (x'::nilL ys xs) (u::us):=fun x' hx'=>⟨by simp [ih.1],fun i z v hz hv=>by
   cases i with
   | zero=>simp at hz hv;subst hz;subst hv;exact hx'
   | succ i=>exact ih.2 i z v (by simpa using hz) (by simpa using hv)⟩
  have h0:=h.2 0 x u rfl rfl
  have keep:DenL w Y ρ (x::nilL ys xs) (u::us):=cons x h0
  cases y with
  | lst sh l =>
   cases x with
   | nil =>
    refine cons _ ?_
    generalize u=v at h0
    cases h0
    exact .lst0 _ _ _ _
   | _=>exact keep
  | _=>exact keep
theorem MRep.weakC {N:Nat→Prop} {w0 w:World} {X:Nat→Prop} {mem:Mem} {ρ:Env} (m:MRep T N w0 w X mem ρ) {k t:Nat} {xs xs':List SV} (hk:getM mem k=.chunk t (.agg xs)) (hw:∀ (us:List Value),DenL w (Forb X mem ρ) ρ xs us→DenL w (Forb X mem ρ) ρ xs' us) :
  MRep T N w0 w X (setM (.chunk t (.agg xs')) mem k) ρ∧Forb X (setM (.chunk t (.agg xs')) mem k) ρ=Forb X mem ρ:=by
 have ho:∀ r,(getM (setM (.chunk t (.agg xs')) mem k) r).own=(getM mem r).own:=fun r=>by
  rw [getM_setM]
  by_cases h:r=k
  ·subst h;rw [if_pos rfl,hk];rfl
  ·rw [if_neg h]
 have hF:Forb X (setM (.chunk t (.agg xs')) mem k) ρ=Forb X mem ρ:=by
  funext b
  simp only [Forb,owned,ho]
 refine ⟨⟨m.low,m.below,m.szN,fun r=>?_,fun r r' v v' b g1 g2=>?_,?_⟩,hF⟩
 ·rw [hF,getM_setM]
  by_cases h:r=k
  ·subst h
   rw [if_pos rfl]
   have hb:=m.blk r
   rw [hk] at hb
   obtain ⟨i,b,us,ty,h1,h2,h3,h4,h5,h6,h7⟩:=hb
   refine ⟨i,b,us,ty,h1,h2,h3,h4,h5,h6,?_⟩
   obtain ⟨cs,hv,hc⟩:=Den.agg_iff.1 h7
   exact Den.agg_iff.2 ⟨cs,hv,hw _ hc⟩
  ·rw [if_neg h];exact m.blk r
 ·rw [ho] at g1 g2
  exact m.inj r r' v v' b g1 g2
 ·rw [hF];exact m.gl
theorem fitN_sub (k:Nat) (b:Blk) (s:St):Sub T s (fitN k b s):=⟨fun N w0 X z a w ρ hr=>by
 unfold fitN
 split
 case h_2=>exact ⟨ρ,hr⟩
 rename_i ys t xs hk
 split
 case isFalse=>exact ⟨ρ,hr⟩
 obtain ⟨m',hF⟩:=hr.m.weakC hk (xs':=nilL ys xs) (fun us=>nilL_den ys xs us)
 refine ⟨ρ,⟨m',by rw [hF];exact hr.defers,hr.size,fun t=>by rw [hF];exact hr.slot t,anch_turn hr.m m' hr.anch (.inr rfl),hr.fix,hr.len,hr.nod⟩⟩⟩
def nilT (t:Nat) (sh:Option Nat) (s:St):St :=
 match getN .any s.slots t with
 | .nil=>if Nat.blt t s.slots.length then ⟨setN (.lst sh []) s.slots t,s.mem⟩ else s
 | _=>s
theorem nilT_sub (t:Nat) (sh:Option Nat) (s:St):Sub T s (nilT t sh s):=⟨fun N w0 X z a w ρ hr=>by
 unfold nilT
 split
 case h_2=>exact ⟨ρ,hr⟩
 rename_i ht
 split
 case isFalse=>exact ⟨ρ,hr⟩
 rename_i hc
 simp only [Nat.blt_eq] at hc
 refine ⟨ρ,⟨hr.m,hr.defers,by rw [hr.size];simp [setN_length],fun k=>?_,hr.anch,hr.fix,hr.len,hr.nod⟩⟩
 simp only
 rw [getN_setN _ _ _ _ _ hc]
 by_cases hk:k=t
 ·subst hk
  rw [if_pos rfl]
  have:=hr.slot k
  rw [ht] at this
  generalize a.tmps.getD k undef=v at this
  cases this
  exact .lst0 _ _ _ _
 ·rw [if_neg hk]
  exact hr.slot k⟩
noncomputable def fit1 (v:List (Nat × Blk)) (t:Nat) (y:SV) (s:St):St :=
 match y,getN .any s.slots t with
 | .row q,.row p=>if Nat.beq p q || Nat.beq p 0 || Nat.beq q 0 then s else swS p q s
 | .ptr q _,.ptr p _=>if Nat.beq p q || Nat.beq p 0 || Nat.beq q 0 then s else swS p q s
 | .row q,.nil=>(match getM v q with | .row sh e _=>adopt t q sh e s | _=>s)
 | .rsl q _ _ _ _,.row p=>asRsl t (if Nat.beq p q || Nat.beq p 0 || Nat.beq q 0 then s else swS p q s)
 | .rsl q _ _ _ _,.rsl p _ _ _ _=>if Nat.beq p q || Nat.beq p 0 || Nat.beq q 0 then s else swS p q s
 | .lst sh _,.nil=>nilT t sh s
 | _,_=>s
noncomputable def fitU (v:List (Nat × Blk)):List (Nat × SV)→St→St
 | [],s=>s
 | (t,y)::u,s=>fitU v u (fit1 v t y s)
def sw1 (y x:SV) (s:St):St :=
 match y,x with
 | .row q,.row p=>if Nat.beq p q || Nat.beq p 0 || Nat.beq q 0 then s else swS p q s
 | _,_=>s
def fit2:List SV→List SV→St→St
 | y::ys,x::xs,s=>fit2 ys xs (sw1 y x s)
 | [],_,s=>s
 | _::_,[],s=>s
noncomputable def fitB (k:Nat) (b:Blk) (s:St):St :=
 match b,getM s.mem k with
 | .chunk _ (.agg ys),.chunk _ (.agg xs)=>fit2 ys xs s
 | .row _ _ _,.rowx _ _ _ _=>unXs k s
 | .rowx _ _ _ y,.rowx _ _ _ x=>sw1 y x s
 | _,_=>s
noncomputable def fitM:List (Nat × Blk)→St→St
 | [],s=>s
 | (k,b)::v,s=>fitM v (fitN k b (fitB k b s))
noncomputable def fitS (u:List (Nat × SV)) (v:List (Nat × Blk)) (s:St):St:=fitM v (fitU v u s)
theorem swS_sub' (p q:Nat) (s:St):Sub T s (if Nat.beq p q || Nat.beq p 0 || Nat.beq q 0 then s else swS p q s):=by
 split
 ·exact .refl s
 ·rename_i h
  simp only [Bool.or_eq_true,nbeq,not_or] at h
  exact swS_sub p q s h.1.2 h.2
theorem fit1_sub (v:List (Nat × Blk)) (t:Nat) (y:SV) (s:St):Sub T s (fit1 v t y s):=by
 unfold fit1
 split
 ·exact swS_sub' _ _ s
 ·exact swS_sub' _ _ s
 ·split
  ·exact adopt_sub _ _ _ _ s
  ·exact .refl s
 ·exact (swS_sub' _ _ s).trans (asRsl_sub _ _)
 ·exact swS_sub' _ _ s
 ·exact nilT_sub _ _ s
 ·exact .refl s
theorem fitU_sub (v:List (Nat × Blk)):∀ (u:List (Nat × SV)) (s:St),Sub T s (fitU v u s)
 | [],s=>.refl s
 | (t,y)::u,s=>(fit1_sub v t y s).trans (fitU_sub v u _)
theorem sw1_sub (y x:SV) (s:St):Sub T s (sw1 y x s):=by
 unfold sw1
 split
 ·exact swS_sub' _ _ s
 ·exact .refl s
theorem fit2_sub:∀ (ys xs:List SV) (s:St),Sub T s (fit2 ys xs s)
 | [],xs,s=>by simp only [fit2];exact .refl s
 | y::ys,[],s=>by simp only [fit2];exact .refl s
 | y::ys,x::xs,s=>by
  simp only [fit2]
  exact (sw1_sub y x s).trans (fit2_sub ys xs _)
theorem fitB_sub (k:Nat) (b:Blk) (s:St):Sub T s (fitB k b s):=by
 unfold fitB
 split
 ·exact fit2_sub _ _ s
 ·exact unXs_sub k s
 ·exact sw1_sub _ _ s
 ·exact .refl s
theorem fitM_sub:∀ (v:List (Nat × Blk)) (s:St),Sub T s (fitM v s)
 | [],s=>.refl s
 | (k,b)::v,s=>((fitB_sub k b s).trans (fitN_sub k b _)).trans (fitM_sub v _)
theorem fitS_sub (u:List (Nat × SV)) (v:List (Nat × Blk)) (s:St):Sub T s (fitS u v s):=(fitU_sub v u s).trans (fitM_sub v _)
theorem loopQ {c:Code} {s:St} {K:Ks} {A:Type} (I:A→Prop) (μ:A→Nat) (u:A→List (Nat × SV)) (v:A→List (Nat × Blk)) (i0:A) (h0:I i0)
  (hs:WeakSt (fitS (u i0) (v i0) s) (loopSt c (fitS (u i0) (v i0) s) (u i0) (v i0)))
  (hr:∀ i,I i→swp T G c (loopSt c (fitS (u i0) (v i0) s) (u i) (v i)) ⟨fun s'=>∃ j,I j∧μ j < μ i∧WeakSt (fitS (u j) (v j) s') (loopSt c (fitS (u i0) (v i0) s) (u j) (v j)),K.r,K.e⟩):LoopQ T (fun s K=>swp T G c s K) s K:=by
 exact ⟨.inr ⟨A,I,μ,fun i=>loopSt c (fitS (u i0) (v i0) s) (u i) (v i),fun i s s'=>WeakSt (fitS (u i) (v i) s) s',fun i s s' h=>(fitS_sub (u i) (v i) s).trans (weak_sub h),⟨i0,h0,hs⟩,hr⟩⟩
theorem unrollq {F:St→Ks→Prop} {s:St} {K:Ks} (n:Nat) (h:unrollQ F n s K):LoopQ T F s K:=⟨.inl ⟨n,h⟩⟩
def rangeSt (asg:List Nat) (s:St) (u:List (Nat × SV)) (v:List (Nat × Blk)):St:=⟨putNs u (killN asg s.slots),putMs v (killM asg s.mem)⟩
theorem rangeQ {FA FB:St→Ks→Prop} {asg ps:List Nat} {f:Nat} {caps:List SV} {s:St} {K:Ks} (xs:List (List SV)) (hg:G f (seqC caps xs)) (hx:∀ x∈xs,x.length=ps.length∧datas x=true) {A:Type} (I:A→Prop) (pos:A→Nat) (u:A→List (Nat × SV)) (v:A→List (Nat × Blk)) (i0:A) (h0:I i0∧pos i0=0)
  (hs:WeakSt (fitS (u i0) (v i0) (kill asg s)) (rangeSt asg (fitS (u i0) (v i0) (kill asg s)) (u i0) (v i0)))
  (hr:∀ i x,I i→xs[pos i]?=some x→FA ⟨putZ ps x (rangeSt asg (fitS (u i0) (v i0) (kill asg s)) (u i) (v i)).slots,(rangeSt asg (fitS (u i0) (v i0) (kill asg s)) (u i) (v i)).mem⟩
    ⟨fun s1=>FB s1 ⟨fun s'=>∃ j,I j∧pos j=pos i+1∧WeakSt (fitS (u j) (v j) (kill asg s')) (rangeSt asg (fitS (u i0) (v i0) (kill asg s)) (u j) (v j)),fun s'=>K.r (kill asg s'),fun id s'=>K.e id (kill asg s')⟩,fun _=>False,fun _ _=>False⟩)
  (hd:∀ i,I i→pos i=xs.length→K.n (rangeSt asg (fitS (u i0) (v i0) (kill asg s)) (u i) (v i))):RangeQ T G FA FB asg ps f caps s K :=
 ⟨⟨xs,hg,hx,A,I,pos,fun i=>rangeSt asg (fitS (u i0) (v i0) (kill asg s)) (u i) (v i),fun i s s'=>WeakSt (fitS (u i) (v i) s) s',fun i s s' h=>(fitS_sub (u i) (v i) s).trans (weak_sub h),⟨i0,h0.1,h0.2,hs⟩,hr,hd⟩⟩
end
section
theorem map_ok:∀ t m,mapT t=some m→MapOk Tryz.prog t m:=fun t m h=>by cases h
end
end Go.Proofs.YtgfpjhddojhfpaaGreat

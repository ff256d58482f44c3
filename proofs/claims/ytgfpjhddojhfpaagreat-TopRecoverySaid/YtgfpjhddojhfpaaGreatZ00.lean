/- Texts put together: Sv Op Ev Pv Pw Gl Mem Rv Rw Wv We Wf Wg. -/
import Derived.WalkKit
import Derived.WalkLawsBesides
import Derived.WalkSpells
import Derived.Below
import Derived.Laws.OwnMore
import Derived.IntWalk
import Derived.Laws.BitsLemmas
import Derived.Laws.Bits64
import Derived.Laws.BitsAllLaws
import Derived.Laws.StructEq
import Derived.ChangeKeysEq
import Derived.Laws.Concat
import Derived.Conc.EntryLaws
import Derived.Laws.CopyOwn
import Derived.Laws.MakeOwn
import Derived.TacticsIn
import Derived.OrdersIn
import Derived.RangeFuncIn
import Derived.RangeFuncLeaves
import Derived.RangeFuncRecord
import Derived.RangeFuncSeq
import Derived.RangeFuncOwn
namespace Go.Proofs.YtgfpjhddojhfpaaGreat
set_option linter.unusedVariables false
set_option linter.unusedSimpArgs false
section
open Go.RowKit
def getN {A:Type} (d:A):List A→Nat→A
 | [],_=>d
 | a::_,0=>a
 | _::l,n+1=>getN d l n
def setN {A:Type} (v:A):List A→Nat→List A
 | [],_=>[]
 | _::l,0=>v::l
 | a::l,n+1=>a::setN v l n
theorem getN_eq {A:Type} (d:A):∀ (l:List A) (i:Nat),getN d l i=(l[i]?).getD d
 | [],_=>by simp [getN]
 | a::l,0=>by simp [getN]
 | a::l,n+1=>by simp [getN,getN_eq d l n]
theorem setN_eq {A:Type} (v:A):∀ (l:List A) (i:Nat),setN v l i=l.set i v
 | [],_=>by simp [setN]
 | a::l,0=>by simp [setN]
 | a::l,n+1=>by simp [setN,setN_eq v l n]
inductive SV where
 | any
 | bool (b:Bool)
 | int (k:IntKind) (n:Int)
 | str (s:ByteArray)
 | agg (l:List SV)
 | tup (l:List SV)
 | lst (sh:Option Nat) (l:List SV)
 | nil
 | ptr (r off:Nat)
 | row (r:Nat)
 | rsl (r:Nat) (sh:Option Nat) (a n:Nat) (c:Option Nat)
 | rptr (r:Nat) (sh:Option Nat) (i off:Nat)
 | eptr (sh:Option Nat) (x:SV) (off:Nat)
 | clo (f:Nat) (caps:List SV)
 | val (v:Value)
 | obj (r:Nat)
 | fcl (f:Nat) (caps:List SV)
 | cel (x:SV)
instance:Inhabited SV:=⟨.any⟩
structure LO where
 tk:Int→List SV→List SV
 dr:Int→List SV→List SV
 ap:List SV→List SV→List SV
 st:List SV→Nat→SV→List SV
 rp:Int→SV→List SV
 ln:List SV→Nat
 by':ByteArray→List SV
 sa:ByteArray→ByteArray→ByteArray
 cp:List SV→Nat→Nat→List SV→List SV
 sg:List SV→Nat→Nat→List SV
 tn:Int→Nat
 ad:Nat→Int→Nat
 sb:Nat→Int→Nat
 si:Int→Int→Nat
 htk:∀ n l,tk n l=l.take n.toNat
 hdr:∀ n l,dr n l=l.drop n.toNat
 hap:∀ l k,ap l k=l++k
 hst:∀ l i x,st l i x=l.set i x
 hrp:∀ n x,rp n x=List.replicate n.toNat x
 hln:∀ l,ln l=l.length
 hby:∀ s,by' s=s.data.toList.map fun b=>.int .u8 b.toNat
 hsa:∀ a b,sa a b=a++b
 hcp:∀ l a n ys,cp l a n ys=l.take a++ys.take n++l.drop (a+min ys.length n)
 hsg:∀ l a n,sg l a n=(l.drop a).take n
 htn:∀ n,tn n=n.toNat
 had:∀ a n,ad a n=a+n.toNat
 hsb:∀ a n,sb a n=a - n.toNat
 hsi:∀ a n,si a n=a.toNat - n.toNat
theorem lo_ex:Nonempty LO:=⟨⟨fun n l=>l.take n.toNat,fun n l=>l.drop n.toNat,fun l k=>l++k,fun l i x=>l.set i x,fun n x=>List.replicate n.toNat x,fun l=>l.length,fun s=>s.data.toList.map fun b=>.int .u8 b.toNat,fun a b=>a++b,
 fun l a n ys=>l.take a++ys.take n++l.drop (a+min ys.length n),fun l a n=>(l.drop a).take n,fun n=>n.toNat,fun a n=>a+n.toNat,fun a n=>a - n.toNat,fun a n=>a.toNat - n.toNat,
 fun _ _=>rfl,fun _ _=>rfl,fun _ _=>rfl,fun _ _ _=>rfl,fun _ _=>rfl,fun _=>rfl,fun _=>rfl,fun _ _=>rfl,fun _ _ _ _=>rfl,fun _ _ _=>rfl,fun _=>rfl,fun _ _=>rfl,fun _ _=>rfl,fun _ _=>rfl⟩⟩
noncomputable def O:LO:=Classical.choice lo_ex
inductive Blk where
 | no
 | chunk (t:Nat) (x:SV)
 | row (sh:Option Nat) (e:Nat) (l:List SV)
 | frz (sh:Option Nat) (l:List SV)
 | rowx (e:Nat) (l:List SV) (i:Nat) (x:SV)
 | iter (s:ByteArray) (p:Nat)
 | gen (tag k:Nat) (l:List SV)
instance:Inhabited Blk:=⟨.no⟩
abbrev Mem:=List (Nat × Blk)
def getM:Mem→Nat→Blk
 | [],_=>.no
 | (k,b)::m,r=>if Nat.beq k r then b else getM m r
def setM (b:Blk):Mem→Nat→Mem
 | [],r=>[(r,b)]
 | (k,c)::m,r=>if Nat.blt k r then (k,c)::setM b m r else if Nat.beq k r then (k,b)::m else (r,b)::(k,c)::m
theorem nbeq {a b:Nat}:(Nat.beq a b=true) ↔ a=b:=by rw [Nat.beq_eq]
theorem nblt {a b:Nat}:(Nat.blt a b=true) ↔ a < b:=by simp [Nat.blt_eq]
theorem getM_setM (b:Blk):∀ (m:Mem) (r q:Nat),getM (setM b m r) q=if q=r then b else getM m q
 | [],r,q=>by
  simp only [setM,getM,nbeq]
  by_cases h:q=r
  ·subst h;simp
  ·rw [if_neg (Ne.symm h),if_neg h]
 | (k,c)::m,r,q=>by
  simp only [setM,nblt,nbeq]
  by_cases h1:k < r
  ·rw [if_pos h1]
   simp only [getM,nbeq,getM_setM b m r q]
   by_cases h2:k=q
   ·rw [if_pos h2,if_neg (by omega),if_pos h2]
   ·rw [if_neg h2,if_neg h2]
  ·rw [if_neg h1]
   by_cases h2:k=r
   ·rw [if_pos h2]
    simp only [getM,nbeq]
    by_cases h3:k=q
    ·rw [if_pos h3,if_pos (by omega)]
    ·rw [if_neg h3,if_neg (by omega),if_neg h3]
   ·rw [if_neg h2]
    simp only [getM,nbeq]
    by_cases h3:q=r
    ·rw [if_pos h3,if_pos h3.symm]
    ·rw [if_neg h3,if_neg (Ne.symm h3)]
theorem setM_comm (b c:Blk):∀ (m:Mem) (q r:Nat),q≠r→setM b (setM c m r) q=setM c (setM b m q) r
 | [],q,r,h=>by
  simp only [setM,nblt,nbeq]
  rcases Nat.lt_or_gt_of_ne h with h | h
  ·rw [if_neg (by omega),if_neg (by omega),if_pos h]
  ·rw [if_pos h,if_neg (by omega),if_neg (by omega)]
 | (k,d)::m,q,r,h=>by
  have ih:=setM_comm b c m q r h
  by_cases k1:k < q <;> by_cases k2:k < r
  ·simp only [setM,nblt,nbeq,if_pos k1,if_pos k2,ih]
  ·by_cases k3:k=r
   ·simp only [setM,nblt,nbeq,if_pos k1,if_neg k2,if_pos k3]
   ·have:r < q:=by omega
    simp only [setM,nblt,nbeq,if_pos k1,if_neg k2,if_neg k3,if_pos this]
  ·by_cases k3:k=q
   ·simp only [setM,nblt,nbeq,if_neg k1,if_pos k2,if_pos k3]
   ·have:q < r:=by omega
    simp only [setM,nblt,nbeq,if_neg k1,if_neg k3,if_pos k2,if_pos this]
  ·by_cases k3:k=q
   ·have:r < q:=by omega
    simp only [setM,nblt,nbeq,if_neg k1,if_neg k2,if_neg (show ¬ k=r by omega),if_pos k3,if_pos this]
   ·by_cases k4:k=r
    ·have:q < r:=by omega
     have:¬ r < q:=by omega
     subst k4
     simp only [setM,nblt,nbeq,if_neg k1,if_neg k2,if_neg k3,if_true,if_pos (show q < k by omega),if_neg (show ¬ k < q by omega),if_neg (show ¬ k < k by omega),if_neg (show ¬ k=q by omega)]
    ·simp only [setM,nblt,nbeq,if_neg k1,if_neg k2,if_neg k3,if_neg k4]
     rcases Nat.lt_or_gt_of_ne h with h' | h'
     ·rw [if_neg (by omega),if_neg (by omega),if_pos h']
     ·rw [if_pos h',if_neg (by omega),if_neg (by omega)]
def wid:Option Nat→Nat
 | none=>1
 | some n=>n
def valAt (sh:Option Nat) (us:List Value) (i:Nat):Value :=
 match sh with
 | none=>(us[i]?).getD undef
 | some n=>.agg ⟨(us.drop (i * n)).take n⟩
abbrev Env:=Nat→Option Value
def noEnv:Env:=fun _=>none
inductive Den (w:World) (X:Nat→Prop):Env→SV→Value→Prop
 | any (ρ:Env) (v:Value):Den w X ρ .any v
 | bool (ρ:Env) (b:Bool):Den w X ρ (.bool b) (.bool b)
 | int (ρ:Env) (k:IntKind) (n:Int):Den w X ρ (.int k n) (.int k n)
 | str (ρ:Env) (s:ByteArray):Den w X ρ (.str s) (.string s)
 | agg (ρ:Env) (l:List SV) (cs:List Value) (hl:l.length=cs.length) (h:∀ i (h1:i < l.length) (h2:i < cs.length),Den w X ρ l[i] cs[i]):Den w X ρ (.agg l) (.agg ⟨cs⟩)
 | tup (ρ:Env) (l:List SV) (cs:List Value) (hl:l.length=cs.length) (h:∀ i (h1:i < l.length) (h2:i < cs.length),Den w X ρ l[i] cs[i]):Den w X ρ (.tup l) (.tuple ⟨cs⟩)
 | lst0 (ρ:Env) (sh:Option Nat) (a:Option Addr) (cap:Nat):Den w X ρ (.lst sh []) (.slice a 0 cap)
 | lst (ρ:Env) (sh:Option Nat) (l:List SV) (b off cap:Nat) (us:List Value) (hb:b < w.heap.size) (hx:¬ X b)
   (hc:l.length≤cap) (hu:∀ j u,us[j]?=some u→w.cell? ⟨b,off+j,none⟩=some u) (hl:us.length=l.length * wid sh) (ho:∀ u∈us,u.oneCell'=true)
   (h:∀ i (h1:i < l.length),Den w X noEnv l[i] (valAt sh us i)):Den w X ρ (.lst sh l) (.slice (some ⟨b,off,none⟩) l.length cap)
 | nil (ρ:Env):Den w X ρ .nil (.slice none 0 0)
 | ptr (ρ:Env) (r off b:Nat) (h:∀ q,ρ r=some q→q=.pointer (some ⟨b,0,none⟩)):Den w X ρ (.ptr r off) (.pointer (some ⟨b,off,none⟩))
 | row (ρ:Env) (r:Nat) (a:Option Addr) (n c:Nat) (h:∀ q,ρ r=some q→q=.slice a n c):Den w X ρ (.row r) (.slice a n c)
 | rsl (ρ:Env) (r:Nat) (sh:Option Nat) (a n:Nat) (c:Option Nat) (x:Option Addr) (cc:Nat) (hc:n≤cc)
   (h:∀ q,ρ r=some q→(∃ x0 len cap,q=.slice x0 len cap∧a+n≤len∧a+cc≤cap∧(c=none→cc=cap - a)∧(∀ m,c=some m→cc=m) ∧
     (cc=0∨∃ b off,x0=some ⟨b,off,none⟩∧x=some ⟨b,off+a * wid sh,none⟩)) ∨
     ∃ b,q=.pointer (some ⟨b,0,none⟩)∧sh=none∧(cc=0∨x=some ⟨b,a,none⟩)∧∀ m,c=some m→cc=m):Den w X ρ (.rsl r sh a n c) (.slice x n cc)
 | rptr (ρ:Env) (r:Nat) (sh:Option Nat) (i off b o:Nat) (h:∀ q,ρ r=some q→∃ len cap,q=.slice (some ⟨b,o,none⟩) len cap):Den w X ρ (.rptr r sh i off) (.pointer (some ⟨b,o+i * wid sh+off,none⟩))
 | eptr (ρ:Env) (sh:Option Nat) (x:SV) (off b o:Nat) (us:List Value) (hb:b < w.heap.size) (hx:¬ X b)
   (hu:∀ j u,us[j]?=some u→w.cell? ⟨b,o+j,none⟩=some u) (hl:us.length=wid sh) (h:Den w X noEnv x (valAt sh us 0)):Den w X ρ (.eptr sh x off) (.pointer (some ⟨b,o+off,none⟩))
 | clo (ρ:Env) (f:Nat) (caps:List SV) (us:List Value) (hl:caps.length=us.length) (h:∀ i (h1:i < caps.length) (h2:i < us.length),Den w X noEnv caps[i] us[i]):Den w X ρ (.clo f caps) (.func (.func f) #[] ⟨us⟩)
 | val (ρ:Env) (v:Value):Den w X ρ (.val v) v
 | obj (ρ:Env) (r:Nat) (v:Value) (h1:v.oneCell'=true) (h:∀ q,ρ r=some q→q=v):Den w X ρ (.obj r) v
 | fcl (ρ:Env) (f:Nat) (caps:List SV) (us:List Value) (hl:caps.length=us.length) (h:∀ i (h1:i < caps.length) (h2:i < us.length),Den w X ρ caps[i] us[i]):Den w X ρ (.fcl f caps) (.func (.func f) #[] ⟨us⟩)
 | cel (ρ:Env) (x:SV) (b o:Nat) (u:Value) (hb:b < w.heap.size) (hx:¬ X b) (hu:w.cell? ⟨b,o,none⟩=some u) (h:Den w X ρ x u):Den w X ρ (.cel x) (.pointer (some ⟨b,o,none⟩))
theorem cell_keep {w w':World} {X X':Nat→Prop} (hk:∀ b,b < w.heap.size→¬ X b→¬ X' b∧w'.heap[b]?=w.heap[b]?) {b:Nat} (hb:b < w.heap.size) (hx:¬ X b) (o:Nat) :
  w'.cell? ⟨b,o,none⟩=w.cell? ⟨b,o,none⟩:=World.cell?_of_block (w:=w) (hk b hb hx).2
theorem Den.mono {w w':World} {X X':Nat→Prop} (hs:w.heap.size≤w'.heap.size) (hk:∀ b,b < w.heap.size→¬ X b→¬ X' b∧w'.heap[b]?=w.heap[b]?)
  {ρ:Env} {x:SV} {v:Value} (h:Den w X ρ x v):Den w' X' ρ x v:=by
 induction h with
 | any ρ v=>exact .any ρ v
 | bool ρ b=>exact .bool ρ b
 | int ρ k n=>exact .int ρ k n
 | str ρ s=>exact .str ρ s
 | agg ρ l cs hl h ih=>exact .agg ρ l cs hl ih
 | tup ρ l cs hl h ih=>exact .tup ρ l cs hl ih
 | lst0 ρ sh a cap=>exact .lst0 ρ sh a cap
 | lst ρ sh l b off cap us hb hx hc hu hl ho h ih =>
  exact .lst ρ sh l b off cap us (by omega) (hk b hb hx).1 hc (fun j u hj=>by rw [cell_keep hk hb hx];exact hu j u hj) hl ho ih
 | nil ρ=>exact .nil ρ
 | ptr ρ r off b h=>exact .ptr ρ r off b h
 | row ρ r a n c h=>exact .row ρ r a n c h
 | rsl ρ r sh a n c x cc hc h=>exact .rsl ρ r sh a n c x cc hc h
 | rptr ρ r sh i off b o h=>exact .rptr ρ r sh i off b o h
 | eptr ρ sh x off b o us hb hx hu hl h ih =>
  exact .eptr ρ sh x off b o us (by omega) (hk b hb hx).1 (fun j u hj=>by rw [cell_keep hk hb hx];exact hu j u hj) hl ih
 | clo ρ f caps us hl h ih=>exact .clo ρ f caps us hl ih
 | val ρ v=>exact .val ρ v
 | obj ρ r v h1 h=>exact .obj ρ r v h1 h
 | fcl ρ f caps us hl h ih=>exact .fcl ρ f caps us hl ih
 | cel ρ x b o u hb hx hu h ih=>exact .cel ρ x b o u (by omega) (hk b hb hx).1 (by rw [cell_keep hk hb hx];exact hu) ih
def noref (r:Nat):SV→Bool
 | .ptr q _ | .row q | .rsl q _ _ _ _ | .rptr q _ _ _ | .obj q=>!(Nat.beq q r)
 | .agg l | .tup l | .fcl _ l=>norefs r l
 | .cel x=>noref r x
 | _=>true
where norefs (r:Nat):List SV→Bool
 | []=>true
 | x::l=>noref r x && norefs r l
theorem norefs_get {r:Nat}:∀ {l:List SV},noref.norefs r l=true→∀ i (h:i < l.length),noref r l[i]=true
 | [],_,i,h=>by simp at h
 | x::l,hn,0,_=>by simp [noref.norefs] at hn;exact hn.1
 | x::l,hn,i+1,h=>by
  simp [noref.norefs] at hn
  exact norefs_get hn.2 i (by simpa using h)
theorem Den.env {w:World} {X:Nat→Prop} {ρ ρ':Env} {x:SV} {v:Value} (h:Den w X ρ x v)
  (he:∀ r,ρ' r=none∨ρ' r=ρ r∨noref r x=true):Den w X ρ' x v:=by
 induction h generalizing ρ' with
 | any ρ v=>exact .any _ v
 | bool ρ b=>exact .bool _ b
 | int ρ k n=>exact .int _ k n
 | str ρ s=>exact .str _ s
 | agg ρ l cs hl h ih =>
  refine .agg _ l cs hl fun i h1 h2=>ih i h1 h2 fun r=>?_
  rcases he r with e | e | e
  ·exact .inl e
  ·exact .inr (.inl e)
  ·exact .inr (.inr (norefs_get (by simpa [noref] using e) i h1))
 | tup ρ l cs hl h ih =>
  refine .tup _ l cs hl fun i h1 h2=>ih i h1 h2 fun r=>?_
  rcases he r with e | e | e
  ·exact .inl e
  ·exact .inr (.inl e)
  ·exact .inr (.inr (norefs_get (by simpa [noref] using e) i h1))
 | lst0 ρ sh a cap=>exact .lst0 _ sh a cap
 | lst ρ sh l b off cap us hb hx hc hu hl ho h ih=>exact .lst _ sh l b off cap us hb hx hc hu hl ho h
 | nil ρ=>exact .nil _
 | ptr ρ r off b h =>
  refine .ptr _ r off b fun q hq=>?_
  rcases he r with e | e | e
  ·rw [e] at hq;cases hq
  ·exact h q (e ▸ hq)
  ·simp [noref] at e
 | row ρ r a n c h =>
  refine .row _ r a n c fun q hq=>?_
  rcases he r with e | e | e
  ·rw [e] at hq;cases hq
  ·exact h q (e ▸ hq)
  ·simp [noref] at e
 | rsl ρ r sh a n c x cc hc h =>
  refine .rsl _ r sh a n c x cc hc fun q hq=>?_
  rcases he r with e | e | e
  ·rw [e] at hq;cases hq
  ·exact h q (e ▸ hq)
  ·simp [noref] at e
 | rptr ρ r sh i off b o h =>
  refine .rptr _ r sh i off b o fun q hq=>?_
  rcases he r with e | e | e
  ·rw [e] at hq;cases hq
  ·exact h q (e ▸ hq)
  ·simp [noref] at e
 | eptr ρ sh x off b o us hb hx hu hl h ih=>exact .eptr _ sh x off b o us hb hx hu hl h
 | clo ρ f caps us hl h ih=>exact .clo _ f caps us hl h
 | val ρ v=>exact .val _ v
 | obj ρ r v h1 h =>
  refine .obj _ r v h1 fun q hq=>?_
  rcases he r with e | e | e
  ·rw [e] at hq;cases hq
  ·exact h q (e ▸ hq)
  ·simp [noref] at e
 | fcl ρ f l cs hl h ih =>
  refine .fcl _ f l cs hl fun i h1 h2=>ih i h1 h2 fun r=>?_
  rcases he r with e | e | e
  ·exact .inl e
  ·exact .inr (.inl e)
  ·exact .inr (.inr (norefs_get (by simpa [noref] using e) i h1))
 | cel ρ x b o u hb hx hu h ih=>exact .cel _ x b o u hb hx hu (ih fun r=>by simpa only [noref] using he r)
theorem Den.to_no {w:World} {X:Nat→Prop} {ρ:Env} {x:SV} {v:Value} (h:Den w X ρ x v):Den w X noEnv x v:=h.env fun _=>.inl rfl
end
section
open Go.RowKit
inductive TK where
 | bool | int (k:IntKind) | string
 | struct (fs:List (Nat × Nat)) | array (n e:Nat) | slice (e:Nat) | other
def TK.of:TypeDesc→TK
 | .bool=>.bool
 | .int k=>.int k
 | .string=>.string
 | .struct fs=>.struct (fs.toList.map fun f=>(f.offset,f.type))
 | .array n e=>.array n e
 | .slice e=>.slice e
 | _=>.other
structure TI where
 kind:TK
 size:Nat
 bytes:Nat
 zero:SV
def TK.aggB:TK→Bool
 | .struct _ | .array _ _=>true
 | _=>false
def TI.shape (i:TI):Option Nat:=if i.kind.aggB then some i.size else none
def ofAtom:Value→SV
 | .bool b=>.bool b
 | .int k n=>.int k n
 | .string s=>.str s
 | .slice none 0 0=>.nil
 | v=>.val v
def ofValue:Value→SV
 | .agg cs=>.agg (cs.toList.map ofAtom)
 | v=>ofAtom v
theorem ofAtom_den (w:World) (X:Nat→Prop) (ρ:Env) (v:Value):Den w X ρ (ofAtom v) v:=by
 unfold ofAtom
 split <;> first | exact .bool _ _ | exact .int _ _ _ | exact .str _ _ | exact .nil _ | exact .val _ _
theorem ofValue_den (w:World) (X:Nat→Prop) (ρ:Env) (v:Value):Den w X ρ (ofValue v) v:=by
 unfold ofValue
 split
 ·rename_i cs
  have:(Value.agg cs)=.agg ⟨cs.toList⟩:=by simp
  rw [this]
  refine .agg ρ _ _ (by simp) fun i h1 h2=>?_
  simp only [List.getElem_map]
  exact ofAtom_den w X ρ _
 ·exact ofAtom_den w X ρ _
structure TOk (P:Program) (t:Nat) (i:TI):Prop where
 kind:(P.underlying t).map TK.of=some i.kind
 info:(P.info? t).map (fun x=>(x.size,x.bytes))=some (i.size,i.bytes)
 zero:∃ z,(P.info? t).map (·.zero)=some (some z)∧i.zero=ofValue z∧z.cells.size=i.size∧(z.cells.all (·.oneCell'))=true∧((∃ cs,z=.agg cs) ↔ i.kind.aggB=true)
structure Q1 (req:Unit→Prop) (p:Int→Prop) (k:Int→Prop):Prop where
 h:req ()∧∀ z,p z→k z
structure Rq (p:Unit→Prop) (k:Unit→Prop):Prop where
 p:p ()
 k:k ()
theorem rq {p:Unit→Prop} {A:Prop} (h:p ()) (g:A):Rq p (fun _=>A):=⟨h,g⟩
structure QC (p:Unit→Prop) (k:Bool→Prop):Prop where
 t:p ()→k true
 f:¬ p ()→k false
theorem QC.tt {p:Unit→Prop} {k:Bool→Prop} (h:p ()) (g:k true):QC p k:=⟨fun _=>g,fun n=>absurd h n⟩
theorem QC.ff {p:Unit→Prop} {k:Bool→Prop} (h:¬ p ()) (g:k false):QC p k:=⟨fun n=>absurd n h,fun _=>g⟩
theorem QC.get {p:Unit→Prop} {k:Bool→Prop} (h:QC p k) (b:Bool) (hb:b=true ↔ p ()):k b:=by
 cases b
 ·exact h.f (fun e=>by simpa using hb.2 e)
 ·exact h.t (hb.1 rfl)
structure QV {A:Type} (p:A→Prop) (k:A→Prop):Prop where
 h:∃ z,p z∧k z
theorem q1 {req:Unit→Prop} {p k:Int→Prop} (h:req ()) (g:∀ z,p z→k z):Q1 req p k:=⟨⟨h,g⟩⟩
theorem mul9 {a b:Int} (h:0≤a∧a≤1000000000) (g:0≤b∧b≤1000000000):-9223372036854775808≤a * b∧a * b≤9223372036854775807:=by
 have h1:0≤a * b:=Int.mul_nonneg h.1 g.1
 have h2:a * b≤1000000000 * 1000000000:=Int.mul_le_mul h.2 g.2 g.1 (by omega)
 omega
theorem pow62 (e:Int) (h:e≤62):-9223372036854775808≤1 * (2:Int) ^ e.toNat∧1 * (2:Int) ^ e.toNat≤9223372036854775807:=by
 have h1:(2:Int) ^ e.toNat≤2 ^ 62:=by
  have:(2:Nat) ^ e.toNat≤2 ^ 62:=Nat.pow_le_pow_right (by omega) (by omega)
  exact_mod_cast this
 have h2:(0:Int)≤2 ^ e.toNat:=Int.pow_nonneg (by omega)
 omega
def br (b:Bool) (t e:Unit→Prop):Prop:=match b with | true=>t () | false=>e ()
theorem br_mk {b:Bool} {t e:Unit→Prop} (h:b=true→t ()) (g:b=false→e ()):br b t e:=by
 cases b
 ·exact g rfl
 ·exact h rfl
theorem br_mk2 {b:Bool} {A B:Prop} (h:b=true→A) (g:b=false→B):br b (fun _=>A) (fun _=>B):=br_mk h g
def arith (k:IntKind) (e:Unit→Int) (r:Int→Prop):Prop :=
 match k with
 | .i8=>Q1 (fun _=>-128≤e ()∧e ()≤127) (fun z=>z=e ()) r
 | .i16=>Q1 (fun _=>-32768≤e ()∧e ()≤32767) (fun z=>z=e ()) r
 | .i32=>Q1 (fun _=>-2147483648≤e ()∧e ()≤2147483647) (fun z=>z=e ()) r
 | .i64=>Q1 (fun _=>-9223372036854775808≤e ()∧e ()≤9223372036854775807) (fun z=>z=e ()) r
 | .u8=>Q1 (fun _=>True) (fun z=>z=e () % 256) r
 | .u16=>Q1 (fun _=>True) (fun z=>z=e () % 65536) r
 | .u32=>Q1 (fun _=>True) (fun z=>z=e () % 4294967296) r
 | .u64=>Q1 (fun _=>True) (fun z=>z=e () % 18446744073709551616) r
theorem arith_ok {k:IntKind} {e:Unit→Int} {r:Int→Prop} (h:arith k e r):r (k.wrap (e ())):=by
 cases k <;> simp only [arith] at h <;> obtain ⟨h1,h2⟩:=h.h
 ·exact h2 _ (IntWalk.i8_in _ h1)
 ·exact h2 _ (IntWalk.i16_in _ h1)
 ·exact h2 _ (IntWalk.i32_in _ h1)
 ·exact h2 _ (IntWalk.i64_in _ h1)
 ·exact h2 _ (IntKind.wrap_u8 _)
 ·exact h2 _ (IntKind.wrap_u16 _)
 ·exact h2 _ (IntKind.wrap_u32 _)
 ·exact h2 _ (IntKind.wrap_u64 _)
def hi:IntKind→Int
 | .i8=>127 | .i16=>32767 | .i32=>2147483647 | .i64=>9223372036854775807
 | .u8=>255 | .u16=>65535 | .u32=>4294967295 | .u64=>18446744073709551615
def lo:IntKind→Int
 | .i8=>-128 | .i16=>-32768 | .i32=>-2147483648 | .i64=>-9223372036854775808
 | .u8=>0 | .u16=>0 | .u32=>0 | .u64=>0
theorem wrap_in {k:IntKind} {n:Int} (h0:lo k≤n) (h1:n≤hi k):k.wrap n=n:=by
 cases k <;> simp only [hi] at h1 <;> simp only [lo] at h0
 ·exact IntWalk.i8_in _ (by omega)
 ·exact IntWalk.i16_in _ (by omega)
 ·exact IntWalk.i32_in _ (by omega)
 ·exact IntWalk.i64_in _ (by omega)
 ·rw [IntKind.wrap_u8];omega
 ·rw [IntKind.wrap_u16];omega
 ·rw [IntKind.wrap_u32];omega
 ·rw [IntKind.wrap_u64];omega
theorem lo_hi (k:IntKind):lo k≤0∧(lo k < 0→lo k=- hi k - 1)∧0≤hi k:=by cases k <;> simp [lo,hi]
theorem wrap_nn {k:IntKind} {n:Int} (h0:0≤n) (h1:n≤hi k):k.wrap n=n:=by
 cases k <;> simp only [hi] at h1
 ·exact IntWalk.i8_in _ (by omega)
 ·exact IntWalk.i16_in _ (by omega)
 ·exact IntWalk.i32_in _ (by omega)
 ·exact IntWalk.i64_in _ (by omega)
 ·rw [IntKind.wrap_u8];omega
 ·rw [IntKind.wrap_u16];omega
 ·rw [IntKind.wrap_u32];omega
 ·rw [IntKind.wrap_u64];omega
def binH (op:BinOp) (k:IntKind) (L H:Int) (a b:Int) (κ:SV→Prop):Prop :=
 match op with
 | .add=>arith k (fun _=>a+b) (fun z=>κ (.int k z))
 | .sub=>arith k (fun _=>a - b) (fun z=>κ (.int k z))
 | .mul=>arith k (fun _=>a * b) (fun z=>κ (.int k z))
 | .quo=>Q1 (fun _=>0 < b∧L≤a∧a≤H) (fun z=>(0≤a→z=a / b)∧(a < 0→z=-(-a / b))) (fun z=>κ (.int k z))
 | .rem=>Q1 (fun _=>0 < b) (fun z=>z=a.tmod b∧(0≤a→z=a % b)) (fun z=>κ (.int k z))
 | .and=>Q1 (fun _=>0≤a∧a≤H∧0≤b∧b≤H) (fun z=>z=((a.toNat &&& b.toNat:Nat):Int)) (fun z=>κ (.int k z))
 | .or=>Q1 (fun _=>0≤a∧a≤H∧0≤b∧b≤H) (fun z=>z=((a.toNat ||| b.toNat:Nat):Int)) (fun z=>κ (.int k z))
 | .xor=>Q1 (fun _=>0≤a∧a≤H∧0≤b∧b≤H) (fun z=>z=((a.toNat ^^^ b.toNat:Nat):Int)) (fun z=>κ (.int k z))
 | .andNot=>Q1 (fun _=>0≤a∧a≤H∧0≤b∧b≤H) (fun z=>z=((a.toNat ^^^ (a.toNat &&& b.toNat):Nat):Int)) (fun z=>κ (.int k z))
 | .lss=>QC (fun _=>a < b) (fun z=>κ (.bool z))
 | .leq=>QC (fun _=>a≤b) (fun z=>κ (.bool z))
 | .gtr=>QC (fun _=>b < a) (fun z=>κ (.bool z))
 | .geq=>QC (fun _=>b≤a) (fun z=>κ (.bool z))
 | .eql=>QC (fun _=>a=b) (fun z=>κ (.bool z))
 | .neq=>QC (fun _=>a≠b) (fun z=>κ (.bool z))
 | _=>False
def binI (op:BinOp) (k:IntKind) (a b:Int) (κ:SV→Prop):Prop:=binH op k (lo k) (hi k) a b κ
theorem bits_hi (k:IntKind) {n:Int} (h0:0≤n) (h1:n≤hi k):n.toNat < 2 ^ k.bits:=by
 cases k <;> simp only [hi] at h1 <;> simp only [IntKind.bits] <;> omega
theorem nn_hi (k:IntKind) {n:Int} {m:Nat} (h1:n≤hi k) (hm:m≤n.toNat) (h0:0≤n):(m:Int)≤hi k:=by omega
theorem or_hi (k:IntKind) {a b:Int} (h0:0≤a) (h1:a≤hi k) (h2:0≤b) (h3:b≤hi k) (f:Nat→Nat→Nat) (hf:∀ n x y,x < 2 ^ n→y < 2 ^ n→f x y < 2 ^ n):((f a.toNat b.toNat:Nat):Int)≤hi k:=by
 have hk:∃ n,hi k=(2:Int) ^ n - 1:=by
  cases k
  ·exact ⟨7,by decide⟩
  ·exact ⟨15,by decide⟩
  ·exact ⟨31,by decide⟩
  ·exact ⟨63,by decide⟩
  ·exact ⟨8,by decide⟩
  ·exact ⟨16,by decide⟩
  ·exact ⟨32,by decide⟩
  ·exact ⟨64,by decide⟩
 obtain ⟨n,hn⟩:=hk
 rw [hn] at h1 h3 ⊢
 have e:((2 ^ n:Nat):Int)=(2:Int) ^ n:=by simp
 have:=hf n a.toNat b.toNat (by omega) (by omega)
 omega
theorem ofInt_toNat (k:IntKind) {n:Int} (h0:0≤n) (h1:n≤hi k):(BitVec.ofInt k.bits n).toNat=n.toNat:=by
 have:=bits_hi k h0 h1
 rw [BitVec.toNat_ofInt]
 have e:((2 ^ k.bits:Nat):Int)=((2 ^ k.bits:Nat):Int):=rfl
 rw [Int.emod_eq_of_lt h0 (by omega)]
variable {P:Program}
theorem andNot_nat (w:Nat) (x y:BitVec w):(x &&& ~~~y).toNat=x.toNat ^^^ (x.toNat &&& y.toNat):=by
 have e:x &&& ~~~y=x ^^^ (x &&& y):=by
  apply BitVec.eq_of_getElem_eq
  intro i hi
  simp
  cases x[i] <;> cases y[i] <;> rfl
 rw [e]
 simp
theorem binI_ok {op:BinOp} {k:IntKind} {a b:Int} {κ:SV→Prop} (h:binI op k a b κ) (t:TypeId) (hop:op≠.shl∧op≠.shr) :
  ∃ x u,κ x∧(∀ w,(binOp op t (.int k a) (.int k b)).run P w=.ok u w)∧∀ w X ρ,Den w X ρ x u:=by
 unfold binI at h
 cases op <;> simp only [binH] at h <;> (try exact h.elim)
 case add=>exact ⟨_,_,arith_ok h,fun w=>by simp [binOp,Op.intArith],fun w X ρ=>.int _ _ _⟩
 case sub=>exact ⟨_,_,arith_ok h,fun w=>by simp [binOp,Op.intArith],fun w X ρ=>.int _ _ _⟩
 case mul=>exact ⟨_,_,arith_ok h,fun w=>by simp [binOp,Op.intArith],fun w X ρ=>.int _ _ _⟩
 case quo =>
  obtain ⟨⟨h1,h2,h3⟩,h4⟩:=h.h
  have hd:(0≤a→a.tdiv b=a / b)∧(a < 0→a.tdiv b=-(-a / b)):=⟨fun h=>Int.tdiv_eq_ediv_of_nonneg h,fun h=>by
   have e:a=- (-a):=by omega
   conv=>lhs;rw [e,Int.neg_tdiv,Int.tdiv_eq_ediv_of_nonneg (by omega)]⟩
  refine ⟨_,_,h4 _ hd,fun w=>?_,fun w X ρ=>.int _ _ _⟩
  have hr:lo k≤a.tdiv b∧a.tdiv b≤hi k:=by
   have:=lo_hi k
   rcases Int.lt_or_le a 0 with g | g
   ·rw [hd.2 g]
    have g1:(-a) / b≤-a:=Int.ediv_le_self _ (by omega)
    have g2:0≤(-a) / b:=Int.ediv_nonneg (by omega) (by omega)
    omega
   ·rw [hd.1 g]
    have g1:a / b≤a:=Int.ediv_le_self _ g
    have g2:0≤a / b:=Int.ediv_nonneg g (by omega)
    omega
  simp [binOp,Op.intDiv,show b≠0 by omega,wrap_in hr.1 hr.2]
 case rem =>
  obtain ⟨h1,h4⟩:=h.h
  refine ⟨_,_,h4 _ ⟨rfl,fun h0=>Int.tmod_eq_emod_of_nonneg h0⟩,fun w=>?_,fun w X ρ=>.int _ _ _⟩
  simp [binOp,Op.intDiv,show b≠0 by omega]
 case and =>
  obtain ⟨⟨h1,h2,h3,h5⟩,h4⟩:=h.h
  refine ⟨_,_,h4 _ rfl,fun w=>?_,fun w X ρ=>.int _ _ _⟩
  have hb:=nn_hi k h2 (Nat.and_le_left (n:=a.toNat) (m:=b.toNat)) h1
  simp [binOp,Op.intBits,ofInt_toNat k h1 h2,ofInt_toNat k h3 h5,wrap_nn (Int.natCast_nonneg _) hb]
 case or =>
  obtain ⟨⟨h1,h2,h3,h5⟩,h4⟩:=h.h
  refine ⟨_,_,h4 _ rfl,fun w=>?_,fun w X ρ=>.int _ _ _⟩
  have hb:=or_hi k h1 h2 h3 h5 (fun x y=>x ||| y) (fun n x y hx hy=>Nat.or_lt_two_pow hx hy)
  simp [binOp,Op.intBits,ofInt_toNat k h1 h2,ofInt_toNat k h3 h5,wrap_nn (Int.natCast_nonneg _) hb]
 case xor =>
  obtain ⟨⟨h1,h2,h3,h5⟩,h4⟩:=h.h
  refine ⟨_,_,h4 _ rfl,fun w=>?_,fun w X ρ=>.int _ _ _⟩
  have hb:=or_hi k h1 h2 h3 h5 (fun x y=>x ^^^ y) (fun n x y hx hy=>Nat.xor_lt_two_pow hx hy)
  simp [binOp,Op.intBits,ofInt_toNat k h1 h2,ofInt_toNat k h3 h5,wrap_nn (Int.natCast_nonneg _) hb]
 case andNot =>
  obtain ⟨⟨h1,h2,h3,h5⟩,h4⟩:=h.h
  refine ⟨_,_,h4 _ rfl,fun w=>?_,fun w X ρ=>.int _ _ _⟩
  have hb:=or_hi k h1 h2 h3 h5 (fun x y=>x ^^^ (x &&& y)) (fun n x y hx hy=>Nat.xor_lt_two_pow hx (Nat.and_lt_two_pow _ hy))
  have hx:=andNot_nat k.bits (BitVec.ofInt k.bits a) (BitVec.ofInt k.bits b)
  rw [ofInt_toNat k h1 h2,ofInt_toNat k h3 h5] at hx
  simp only [binOp,Op.intBits,Sem.run_pure,if_neg (show ¬ k≠k by simp),hx,wrap_nn (Int.natCast_nonneg _) hb]
 case lss=>exact ⟨.bool (decide (a < b)),_,h.get _ (by simp),fun w=>by simp [binOp,Op.intCmp],fun w X ρ=>.bool _ _⟩
 case leq=>exact ⟨.bool (decide (a≤b)),_,h.get _ (by simp),fun w=>by simp [binOp,Op.intCmp],fun w X ρ=>.bool _ _⟩
 case gtr=>exact ⟨.bool (decide (b < a)),_,h.get _ (by simp),fun w=>by simp [binOp,Op.intCmp],fun w X ρ=>.bool _ _⟩
 case geq=>exact ⟨.bool (decide (b≤a)),_,h.get _ (by simp),fun w=>by simp [binOp,Op.intCmp],fun w X ρ=>.bool _ _⟩
 case eql=>exact ⟨.bool (a == b),.bool (a == b),h.get _ (by simp),fun w=>by simp [binOp,Op.intCmp],fun w X ρ=>.bool _ _⟩
 case neq=>exact ⟨.bool (a != b),.bool (a != b),h.get _ (by simp),fun w=>by simp [binOp,Op.intCmp],fun w X ρ=>.bool _ _⟩
def nb:IntKind→Int
 | .i8 | .u8=>8 | .i16 | .u16=>16 | .i32 | .u32=>32 | .i64 | .u64=>64
theorem nb_eq (k:IntKind):nb k=k.bits:=by cases k <;> rfl
def shH (op:BinOp) (k:IntKind) (H:Int) (a b:Int) (κ:SV→Prop):Prop :=
 match op with
 | .shl=>Rq (fun _=>0≤b∧b≤H) (fun _=>arith k (fun _=>a * 2 ^ b.toNat) (fun z=>κ (.int k z)))
 | .shr=>Q1 (fun _=>0≤b∧b≤H) (fun z=>z=a / 2 ^ b.toNat) (fun z=>κ (.int k z))
 | _=>False
def nbl:IntKind→Int
 | .u8 | .u16 | .u32 | .u64=>18446744073709551615
 | k=>nb k
theorem shl_pm (a:Int) (n m:Nat) (h:m≤n):a * (2:Int) ^ n % 2 ^ m=0:=by
 obtain ⟨d,rfl⟩:=Nat.exists_eq_add_of_le h
 have:a * (2:Int) ^ (m+d)=(a * 2 ^ d) * 2 ^ m:=by rw [Int.pow_add];ac_rfl
 rw [this]
 exact Int.mul_emod_left _ _
theorem shl_min (k:IntKind) (a b:Int) (hb:0≤b∧b≤nbl k):k.wrap (a * 2 ^ (min b.toNat k.bits))=k.wrap (a * 2 ^ b.toNat):=by
 rcases Nat.le_total b.toNat k.bits with h | h
 ·rw [Nat.min_eq_left h]
 ·rw [Nat.min_eq_right h]
  obtain ⟨m,hm⟩:∃ m,m=IntKind.bits k:=⟨_,rfl⟩
  rw [← hm] at h ⊢
  have e1:=shl_pm a _ _ h
  have e2:=shl_pm a _ _ (Nat.le_refl m)
  have hs:(nbl k=nb k)∨(k=.u8∨k=.u16∨k=.u32∨k=.u64):=by cases k <;> simp [nbl]
  rcases hs with hs | hs
  ·have h2:b≤nb k:=by rw [← hs];exact hb.2
   rw [nb_eq,← hm] at h2
   have:b.toNat=m:=by omega
   rw [this]
  ·rcases hs with rfl | rfl | rfl | rfl <;> (change m=_ at hm;subst hm;simp only [IntKind.wrap_u8,IntKind.wrap_u16,IntKind.wrap_u32,IntKind.wrap_u64];exact e2.trans e1.symm)
def shI (op:BinOp) (k:IntKind) (a b:Int) (κ:SV→Prop):Prop:=shH op k (match op with | .shl=>nbl k | _=>nb k) a b κ
theorem shI_ok {op:BinOp} {k j:IntKind} {a b:Int} {κ:SV→Prop} (h:shI op k a b κ) (t:TypeId) :
  ∃ x u,κ x∧(∀ w,(binOp op t (.int k a) (.int j b)).run P w=.ok u w)∧∀ w X ρ,Den w X ρ x u:=by
 unfold shI at h
 cases op <;> simp only [shH] at h <;> (try exact h.elim)
 case shl =>
  obtain ⟨⟨h1,h2⟩,h4⟩:=h
  refine ⟨_,_,arith_ok h4,fun w=>?_,fun w X ρ=>.int _ _ _⟩
  have:=shl_min k a b ⟨h1,h2⟩
  simp [binOp,Op.shift,show ¬ b < 0 by omega,this]
 case shr =>
  rw [nb_eq] at h
  obtain ⟨⟨h1,h2⟩,h4⟩:=h.h
  refine ⟨_,_,h4 _ rfl,fun w=>?_,fun w X ρ=>.int _ _ _⟩
  have:min b.toNat k.bits=b.toNat:=by omega
  have hp:(0:Int)≤2 ^ b.toNat:=Int.pow_nonneg (by omega)
  simp [binOp,Op.shift,show ¬ b < 0 by omega,this,Int.fdiv_eq_ediv_of_nonneg _ hp]
end
section
open Go.RowKit
def atomB:SV→Bool
 | .any | .agg _ | .tup _=>false
 | .val v=>v.oneCell'
 | _=>true
def allAtom:List SV→Bool
 | []=>true
 | x::l=>atomB x && allAtom l
def cellsA:SV→Option (List SV)
 | .agg l=>if allAtom l then some l else none
 | x=>if atomB x then some [x] else none
def DenL (w:World) (X:Nat→Prop) (ρ:Env) (xs:List SV) (us:List Value):Prop :=
 xs.length=us.length∧∀ (i:Nat) (x:SV) (u:Value),xs[i]?=some x→us[i]?=some u→Den w X ρ x u
theorem Den.agg_iff {w:World} {X:Nat→Prop} {ρ:Env} {l:List SV} {v:Value}:Den w X ρ (.agg l) v ↔ ∃ cs,v=.agg ⟨cs⟩∧DenL w X ρ l cs:=by
 constructor
 ·intro h
  cases h with
  | agg _ l cs hl h=>exact ⟨cs,rfl,hl,fun i x u hx hu=>by
    obtain ⟨h1,rfl⟩:=List.getElem?_eq_some_iff.1 hx
    obtain ⟨h2,rfl⟩:=List.getElem?_eq_some_iff.1 hu
    exact h i h1 h2⟩
 ·rintro ⟨cs,rfl,hl,h⟩
  exact .agg ρ l cs hl fun i h1 h2=>h i _ _ (List.getElem?_eq_getElem h1) (List.getElem?_eq_getElem h2)
theorem Den.tup_iff {w:World} {X:Nat→Prop} {ρ:Env} {l:List SV} {v:Value}:Den w X ρ (.tup l) v ↔ ∃ cs,v=.tuple ⟨cs⟩∧DenL w X ρ l cs:=by
 constructor
 ·intro h
  cases h with
  | tup _ l cs hl h=>exact ⟨cs,rfl,hl,fun i x u hx hu=>by
    obtain ⟨h1,rfl⟩:=List.getElem?_eq_some_iff.1 hx
    obtain ⟨h2,rfl⟩:=List.getElem?_eq_some_iff.1 hu
    exact h i h1 h2⟩
 ·rintro ⟨cs,rfl,hl,h⟩
  exact .tup ρ l cs hl fun i h1 h2=>h i _ _ (List.getElem?_eq_getElem h1) (List.getElem?_eq_getElem h2)
theorem Den.bool_iff {w:World} {X:Nat→Prop} {ρ:Env} {b:Bool} {v:Value}:Den w X ρ (.bool b) v ↔ v=.bool b :=
 ⟨fun h=>by cases h;rfl,fun h=>by subst h;exact .bool _ _⟩
theorem Den.int_iff {w:World} {X:Nat→Prop} {ρ:Env} {k:IntKind} {n:Int} {v:Value}:Den w X ρ (.int k n) v ↔ v=.int k n :=
 ⟨fun h=>by cases h;rfl,fun h=>by subst h;exact .int _ _ _⟩
theorem Den.str_iff {w:World} {X:Nat→Prop} {ρ:Env} {s:ByteArray} {v:Value}:Den w X ρ (.str s) v ↔ v=.string s :=
 ⟨fun h=>by cases h;rfl,fun h=>by subst h;exact .str _ _⟩
theorem Den.one {w:World} {X:Nat→Prop} {ρ:Env} {x:SV} {v:Value} (h:Den w X ρ x v) (ha:atomB x=true):v.oneCell'=true:=by
 cases h <;> first | rfl | (simp [atomB] at ha;done) | exact ha | assumption
theorem one_cells {v:Value} (h:v.oneCell'=true):v.cells=#[v]:=by
 cases v <;> first | rfl | (simp [Value.oneCell'] at h)
def plainB:SV→Bool
 | .bool _ | .int _ _ | .str _ | .lst _ _ | .nil | .eptr _ _ _ | .clo _ _=>true
 | .val v=>v.oneCell'
 | _=>false
def leafEq:TK→SV→SV→Option (Unit→Bool)
 | .bool,.bool a,.bool b=>some fun _=>decide (a=b)
 | .int _,.int k a,.int j b=>if k=j then some fun _=>decide (a=b) else none
 | .string,.str a,.str b=>some fun _=>a == b
 | _,_,_=>none
def leaf1 (k:TK):List SV→List SV→Option (Unit→Bool)
 | [x],[y]=>leafEq k x y
 | _,_=>none
def andO (a b:Option (Unit→Bool)):Option (Unit→Bool) :=
 match a,b with
 | some f,some g=>some fun _=>f () && g ()
 | _,_=>none
def takeN {A:Type}:List A→Nat→List A
 | _,0=>[]
 | [],_=>[]
 | a::l,n+1=>a::takeN l n
def dropN {A:Type}:List A→Nat→List A
 | l,0=>l
 | [],_=>[]
 | _::l,n+1=>dropN l n
theorem takeN_eq {A:Type}:∀ (l:List A) (n:Nat),takeN l n=l.take n
 | l,0=>by cases l <;> simp [takeN]
 | [],n+1=>by simp [takeN]
 | a::l,n+1=>by simp [takeN,takeN_eq l n]
theorem dropN_eq {A:Type}:∀ (l:List A) (n:Nat),dropN l n=l.drop n
 | l,0=>by cases l <;> simp [dropN]
 | [],n+1=>by simp [dropN]
 | a::l,n+1=>by simp [dropN,dropN_eq l n]
def eqT (T:Nat→Option TI):Nat→Nat→List SV→List SV→Option (Unit→Bool)
 | 0,_,_,_=>none
 | m+1,t,xs,ys =>
  match T t with
  | none=>none
  | some i =>
   match i.kind with
   | .struct fs=>eqFs T m xs ys fs
   | .array n el=>(match T el with
    | none=>none
    | some j=>eqIs T m el j.size xs ys (List.range n))
   | k=>leaf1 k xs ys
where
 eqFs (T:Nat→Option TI) (m:Nat) (xs ys:List SV):List (Nat × Nat)→Option (Unit→Bool)
  | []=>some fun _=>true
  | (off,t)::fs =>
   match T t with
   | none=>none
   | some i=>andO (eqT T m t (takeN (dropN xs off) i.size) (takeN (dropN ys off) i.size)) (eqFs T m xs ys fs)
 eqIs (T:Nat→Option TI) (m el c:Nat) (xs ys:List SV):List Nat→Option (Unit→Bool)
  | []=>some fun _=>true
  | k::ks=>if k * c+c≤xs.length∧k * c+c≤ys.length then andO (eqT T m el (takeN (dropN xs (k * c)) c) (takeN (dropN ys (k * c)) c)) (eqIs T m el c xs ys ks) else none
structure CmpOk (P:Program) (t:Nat):Prop where
 held:P.stoodInHeld t=false
 guard:P.eqGuardType P.depth t=false
 names:∀ fs,P.underlying t=some (.struct fs)→(fs.toList.all fun f=>f.name != "_")=true
structure Types (P:Program) (T:Nat→Option TI):Prop where
 ok:∀ t i,T t=some i→TOk P t i
 cmp:∀ t i,T t=some i→i.kind.aggB=true→P.stoodInHeld t=false∧P.eqGuardType P.depth t=false∧∀ fs,P.underlying t=some (.struct fs)→(fs.toList.all fun f=>f.name != "_")=true
variable {P:Program} {T:Nat→Option TI}
theorem TOk.desc {t:Nat} {i:TI} (h:TOk P t i):∃ d,P.underlying t=some d∧TK.of d=i.kind:=by
 have:=h.kind
 cases hu:P.underlying t with
 | none=>simp [hu] at this
 | some d=>exact ⟨d,rfl,by simpa [hu] using this⟩
theorem TOk.und_int {t:Nat} {i:TI} {k:IntKind} (h:TOk P t i) (hk:i.kind=.int k):P.underlying t=some (.int k):=by
 obtain ⟨d,hd,e⟩:=h.desc
 rw [hk] at e
 cases d <;> simp [TK.of] at e
 subst e;exact hd
theorem TOk.und_bool {t:Nat} {i:TI} (h:TOk P t i) (hk:i.kind=.bool):P.underlying t=some .bool:=by
 obtain ⟨d,hd,e⟩:=h.desc
 rw [hk] at e
 cases d <;> simp [TK.of] at e
 exact hd
theorem TOk.und_string {t:Nat} {i:TI} (h:TOk P t i) (hk:i.kind=.string):P.underlying t=some .string:=by
 obtain ⟨d,hd,e⟩:=h.desc
 rw [hk] at e
 cases d <;> simp [TK.of] at e
 exact hd
theorem TOk.und_slice {t:Nat} {i:TI} {el:Nat} (h:TOk P t i) (hk:i.kind=.slice el):P.underlying t=some (.slice el):=by
 obtain ⟨d,hd,e⟩:=h.desc
 rw [hk] at e
 cases d <;> simp [TK.of] at e
 subst e;exact hd
theorem TOk.und_array {t:Nat} {i:TI} {n el:Nat} (h:TOk P t i) (hk:i.kind=.array n el):P.underlying t=some (.array n el):=by
 obtain ⟨d,hd,e⟩:=h.desc
 rw [hk] at e
 cases d <;> simp [TK.of] at e
 obtain ⟨rfl,rfl⟩:=e;exact hd
theorem TOk.und_struct {t:Nat} {i:TI} {fs:List (Nat × Nat)} (h:TOk P t i) (hk:i.kind=.struct fs):∃ gs,P.underlying t=some (.struct gs)∧gs.toList.map (fun f=>(f.offset,f.type))=fs:=by
 obtain ⟨d,hd,e⟩:=h.desc
 rw [hk] at e
 cases d <;> simp [TK.of] at e
 exact ⟨_,hd,e⟩
theorem TOk.inf {t:Nat} {i:TI} (h:TOk P t i):∃ j,P.info? t=some j∧j.size=i.size∧j.bytes=i.bytes:=by
 have:=h.info
 cases hu:P.info? t with
 | none=>simp [hu] at this
 | some d=>simp [hu] at this;exact ⟨d,rfl,this.1,this.2⟩
theorem TOk.sizeOf {t:Nat} {i:TI} (h:TOk P t i) (w:World):(sizeOf t).run P w=.ok i.size w:=by
 obtain ⟨j,h1,h2,_⟩:=h.inf
 simp [Go.sizeOf,typeInfo,h1,h2]
theorem TOk.isAgg {t:Nat} {i:TI} (h:TOk P t i) (w:World):(isAgg t).run P w=.ok i.kind.aggB w:=by
 obtain ⟨d,hd,e⟩:=h.desc
 simp only [Go.isAgg,Sem.run_bind,run_underlying hd,Result.andThen_ok]
 rw [← e]
 cases d <;> simp [TK.of,TK.aggB]
theorem TOk.zero_run {t:Nat} {i:TI} (h:TOk P t i):∃ z,(∀ w,(zeroValue t).run P w=.ok z w)∧i.zero=ofValue z∧z.cells.size=i.size∧(z.cells.all (·.oneCell'))=true∧((∃ cs,z=.agg cs) ↔ i.kind.aggB=true):=by
 obtain ⟨z,hz,h1⟩:=h.zero
 refine ⟨z,fun w=>?_,h1⟩
 cases hu:P.info? t with
 | none=>simp [hu] at hz
 | some d=>simp [hu] at hz;simp [zeroValue,typeInfo,hu,hz]
theorem run_part {t:Nat} {i:TI} (h:TOk P t i) (cs:List Value) (off:Nat) (hl:off+i.size≤cs.length) (h1:i.kind.aggB=false→i.size=1) (w:World) :
  (part t ⟨cs⟩ off).run P w=.ok (valAt i.shape (cs.drop off) 0) w:=by
 simp only [part,Sem.run_bind,h.isAgg,Result.andThen_ok,TI.shape]
 cases hb:i.kind.aggB
 ·simp only [Bool.false_eq_true,if_false,valAt]
  have:off < cs.length:=by have:=h1 hb;omega
  simp [this]
 ·simp only [if_true,Sem.run_bind,h.sizeOf,Result.andThen_ok,Sem.run_pure,valAt]
  simp [List.take_drop]
theorem DenL.sub {w:World} {X:Nat→Prop} {ρ:Env} {xs:List SV} {us:List Value} (h:DenL w X ρ xs us) (off n:Nat):DenL w X ρ ((xs.drop off).take n) ((us.drop off).take n):=by
 refine ⟨by simp [h.1],fun i x u hx hu=>h.2 (off+i) x u ?_ ?_⟩
 ·rw [List.getElem?_take] at hx
  split at hx
  ·simpa using hx
  ·cases hx
 ·rw [List.getElem?_take] at hu
  split at hu
  ·simpa using hu
  ·cases hu
theorem DenL.val {w:World} {X:Nat→Prop} {ρ:Env} {xs:List SV} {us:List Value} (h:DenL w X ρ xs us) (n:Nat) (hn:xs.length=n):Den w X ρ (.agg xs) (valAt (some n) us 0):=by
 have:us.take n=us:=List.take_of_length_le (by rw [← h.1,hn];exact Nat.le_refl _)
 simp only [valAt,Nat.zero_mul,List.drop_zero,this]
 exact Den.agg_iff.2 ⟨us,rfl,h⟩
theorem leaf_sound (tys:Types P T) {w:World} {X:Nat→Prop} {ρ:Env} {t:Nat} {i:TI} (ht:T t=some i) {x y:SV} {u v:Value} {f:Unit→Bool} (h:leafEq i.kind x y=some f) (dx:Den w X ρ x u) (dy:Den w X ρ y v) (d:Nat) :
  (Op.equalIn (d+1) t u v).run P w=.ok (f ()) w:=by
 have tok:=tys.ok t i ht
 cases hk:i.kind with
 | bool =>
  rw [hk] at h
  cases x <;> cases y <;> simp only [leafEq] at h <;> first | (cases h;done) | skip
  injection h with h;subst h
  rw [Den.bool_iff.1 dx,Den.bool_iff.1 dy]
  exact run_equalIn_bool w _ _ _ _ (tok.und_bool hk)
 | int k =>
  rw [hk] at h
  cases x <;> cases y <;> simp only [leafEq] at h <;> first | (cases h;done) | skip
  split at h
  ·rename_i e
   injection h with h;subst h;subst e
   rw [Den.int_iff.1 dx,Den.int_iff.1 dy]
   exact run_equalIn_int w _ _ _ _ _ _ (tok.und_int hk)
  ·cases h
 | string =>
  rw [hk] at h
  cases x <;> cases y <;> simp only [leafEq] at h <;> first | (cases h;done) | skip
  injection h with h;subst h
  rw [Den.str_iff.1 dx,Den.str_iff.1 dy,run_equalIn_string w _ _ _ _ (tok.und_string hk),beq_toListBytes]
 | struct fs=>rw [hk] at h;cases x <;> cases y <;> simp only [leafEq] at h <;> cases h
 | array n e=>rw [hk] at h;cases x <;> cases y <;> simp only [leafEq] at h <;> cases h
 | slice e=>rw [hk] at h;cases x <;> cases y <;> simp only [leafEq] at h <;> cases h
 | other=>rw [hk] at h;cases x <;> cases y <;> simp only [leafEq] at h <;> cases h
theorem andO_some {a b:Option (Unit→Bool)} {f:Unit→Bool} (h:andO a b=some f):∃ p q,a=some p∧b=some q∧f ()=(p () && q ()):=by
 cases a <;> cases b <;> simp only [andO] at h <;> first | (cases h;done) | skip
 injection h with h;subst h
 exact ⟨_,_,rfl,rfl,rfl⟩
structure Sizes (T:Nat→Option TI):Prop where
 one:∀ t i,T t=some i→i.kind.aggB=false→i.size=1
 fit:∀ t i fs,T t=some i→i.kind=.struct fs→∀ off ft j,(off,ft)∈fs→T ft=some j→off+j.size≤i.size
theorem valAt_drop (sh:Option Nat) (us:List Value) (off n:Nat) (hn:n=wid sh) (h:off+n≤us.length):valAt sh (us.drop off) 0=valAt sh ((us.drop off).take n) 0:=by
 cases sh with
 | none=>simp only [wid] at hn;subst hn;simp [valAt]
 | some m=>simp only [wid] at hn;subst hn;simp [valAt,List.take_take]
theorem TI.wid_size {i:TI} (h:i.kind.aggB=false→i.size=1):i.size=wid i.shape:=by
 unfold TI.shape
 cases hb:i.kind.aggB
 ·simp [wid,h hb]
 ·simp [wid]
theorem eqT_sound (tys:Types P T) (sz:Sizes T) {w:World} {X:Nat→Prop} {ρ:Env} (m:Nat):∀ (t:Nat) (i:TI) (xs ys:List SV) (us vs:List Value) (f:Unit→Bool) (d:Nat),
  T t=some i→eqT T m t xs ys=some f→DenL w X ρ xs us→DenL w X ρ ys vs→xs.length=i.size→ys.length=i.size →
  (Op.equalIn (d+m) t (valAt i.shape us 0) (valAt i.shape vs 0)).run P w=.ok (f ()) w:=by
 induction m with
 | zero=>intro t i xs ys us vs f d _ h;simp [eqT] at h
 | succ m ih =>
  intro t i xs ys us vs f d ht h hx hy hxl hyl
  have tok:=tys.ok t i ht
  have leaf:i.kind.aggB=false→leaf1 i.kind xs ys=some f→(Op.equalIn (d+(m+1)) t (valAt i.shape us 0) (valAt i.shape vs 0)).run P w=.ok (f ()) w:=by
   intro hb h
   unfold leaf1 at h
   split at h
   ·rename_i x y
    have hu:us.length=1:=by rw [← hx.1];rfl
    have hv:vs.length=1:=by rw [← hy.1];rfl
    obtain ⟨u,rfl⟩:∃ u,us=[u]:=List.length_eq_one_iff.1 hu
    obtain ⟨v,rfl⟩:∃ v,vs=[v]:=List.length_eq_one_iff.1 hv
    simp only [TI.shape,hb,Bool.false_eq_true,if_false,valAt]
    exact leaf_sound tys ht h (hx.2 0 _ _ rfl rfl) (hy.2 0 _ _ rfl rfl) (d+m)
   ·cases h
  cases hk:i.kind with
  | struct fs =>
   have hh:eqT.eqFs T m xs ys fs=some f:=by simpa only [eqT,ht,hk] using h
   clear h
   have h:=hh
   clear hh
   obtain ⟨gs,hg,hgs⟩:=tok.und_struct hk
   obtain ⟨h1,h2,h3⟩:=tys.cmp t i ht (by rw [hk];rfl)
   have hf:P.fieldsOf t=gs:=by simp [Program.fieldsOf,hg]
   have e1:valAt i.shape us 0=.agg ⟨us⟩:=by
    simp only [TI.shape,hk,TK.aggB,if_true,valAt,Nat.zero_mul,List.drop_zero]
    rw [List.take_of_length_le (by rw [← hx.1,hxl];exact Nat.le_refl _)]
   have e2:valAt i.shape vs 0=.agg ⟨vs⟩:=by
    simp only [TI.shape,hk,TK.aggB,if_true,valAt,Nat.zero_mul,List.drop_zero]
    rw [List.take_of_length_le (by rw [← hy.1,hyl];exact Nat.le_refl _)]
   rw [e1,e2,show d+(m+1)=d+m+1 from rfl,run_equalIn_struct w (d+m) t _ _ (by rw [hf];exact hg) h1,hf]
   have hn:=h3 gs hg
   have hin:∀ q∈fs,∀ j,T q.2=some j→q.1+j.size≤i.size:=fun q hq j hj=>sz.fit t i fs ht hk q.1 q.2 j hq hj
   clear hg hf h2 h3 e1 e2 leaf hk
   generalize gs.toList=gl at hgs hn
   subst hgs
   induction gl generalizing f with
   | nil=>simp only [List.map_nil,eqT.eqFs] at h;injection h with h;subst h;simp [Op.eqFields]
   | cons g gl ihg =>
    simp only [List.map_cons,eqT.eqFs] at h
    cases hj:T g.type with
    | none=>simp [hj] at h
    | some j =>
     simp only [hj] at h
     obtain ⟨p,q,hp,hq,hfe⟩:=andO_some h
     simp only [List.all_cons,Bool.and_eq_true] at hn
     have hfit:=hin (g.offset,g.type) (by simp) j hj
     simp only at hfit
     have tj:=tys.ok _ j hj
     have hpx:=run_part tj us g.offset (by rw [← hx.1,hxl];exact hfit) (sz.one _ _ hj) w
     have hpy:=run_part tj vs g.offset (by rw [← hy.1,hyl];exact hfit) (sz.one _ _ hj) w
     rw [takeN_eq,dropN_eq,takeN_eq,dropN_eq] at hp
     have hr:=ih g.type j _ _ _ _ p d hj hp (hx.sub g.offset j.size) (hy.sub g.offset j.size) (by simp;omega) (by simp;omega)
     have w1:=TI.wid_size (sz.one _ _ hj)
     rw [← valAt_drop j.shape us g.offset j.size w1 (by rw [← hx.1,hxl];exact hfit),← valAt_drop j.shape vs g.offset j.size w1 (by rw [← hy.1,hyl];exact hfit)] at hr
     have hne:g.name≠ "_":=by simpa using hn.1
     simp only [Op.eqFields,hne,ne_eq,not_false_eq_true,if_true,Sem.run_bind,hpx,hpy,hr,Result.andThen_ok,hfe]
     cases hpv:p ()
     ·simp
     ·simp only [Bool.not_true,Bool.false_eq_true,if_false,Bool.true_and]
      have hin':∀ q∈List.map (fun f=>(f.offset,f.type)) gl,∀ (j:TI),T q.2=some j→q.1+j.size≤i.size:=fun r hr=>hin r (List.mem_cons_of_mem _ hr)
      first | exact ihg q hn.2 hq hin' | exact ihg q hn.2 hin' hq
  | bool=>simp only [eqT,ht,hk] at h;exact leaf (by rw [hk];rfl) (by rw [hk];exact h)
  | int k=>simp only [eqT,ht,hk] at h;exact leaf (by rw [hk];rfl) (by rw [hk];exact h)
  | string=>simp only [eqT,ht,hk] at h;exact leaf (by rw [hk];rfl) (by rw [hk];exact h)
  | slice e=>simp only [eqT,ht,hk] at h;exact leaf (by rw [hk];rfl) (by rw [hk];exact h)
  | other=>simp only [eqT,ht,hk] at h;exact leaf (by rw [hk];rfl) (by rw [hk];exact h)
  | array n e =>
   have hh:(match T e with | none=>none | some j=>eqT.eqIs T m e j.size xs ys (List.range n))=some f:=by simpa only [eqT,ht,hk] using h
   clear h
   have h:=hh
   clear hh
   cases hj:T e with
   | none=>simp [hj] at h
   | some j =>
    simp only [hj] at h
    have tj:=tys.ok _ j hj
    obtain ⟨ti,hti,hsz,_⟩:=tj.inf
    have e1:valAt i.shape us 0=.agg ⟨us⟩:=by
     simp only [TI.shape,hk,TK.aggB,if_true,valAt,Nat.zero_mul,List.drop_zero]
     rw [List.take_of_length_le (by rw [← hx.1,hxl];exact Nat.le_refl _)]
    have e2:valAt i.shape vs 0=.agg ⟨vs⟩:=by
     simp only [TI.shape,hk,TK.aggB,if_true,valAt,Nat.zero_mul,List.drop_zero]
     rw [List.take_of_length_le (by rw [← hy.1,hyl];exact Nat.le_refl _)]
    have hc:P.cellsOf e=j.size:=by simp [Program.cellsOf,hti,hsz]
    rw [e1,e2,show d+(m+1)=d+m+1 from rfl,run_equalIn_array w (d+m) _ _ (tok.und_array hk) hti,hc]
    have w1:=TI.wid_size (sz.one _ _ hj)
    clear e1 e2 leaf hk
    generalize List.range n=is at h
    induction is generalizing f with
    | nil=>simp only [eqT.eqIs] at h;injection h with h;subst h;simp [Op.eqItems]
    | cons k ks ihg =>
     simp only [eqT.eqIs] at h
     split at h
     ·rename_i hfit
      obtain ⟨p,q,hp,hq,hfe⟩:=andO_some h
      have hpx:=run_part tj us (k * j.size) (by rw [← hx.1];exact hfit.1) (sz.one _ _ hj) w
      have hpy:=run_part tj vs (k * j.size) (by rw [← hy.1];exact hfit.2) (sz.one _ _ hj) w
      rw [takeN_eq,dropN_eq,takeN_eq,dropN_eq] at hp
      have hr:=ih e j _ _ _ _ p d hj hp (hx.sub (k * j.size) j.size) (hy.sub (k * j.size) j.size) (by simp;omega) (by simp;omega)
      rw [← valAt_drop j.shape us (k * j.size) j.size w1 (by rw [← hx.1];exact hfit.1),← valAt_drop j.shape vs (k * j.size) j.size w1 (by rw [← hy.1];exact hfit.2)] at hr
      simp only [Op.eqItems,Sem.run_bind,hpx,hpy,hr,Result.andThen_ok,hfe]
      cases hpv:p ()
      ·simp
      ·simp only [Bool.not_true,Bool.false_eq_true,if_false,Bool.true_and]
       exact ihg q hq
     ·cases h
end
section
open Go.RowKit
def cvI (j k:IntKind) (n:Int) (κ:SV→Prop):Prop :=
 match k with
 | .i64=>(match j with
  | .u64=>Rq (fun _=>n≤9223372036854775807∧0≤n) (fun _=>κ (.int .i64 n))
  | .i64=>Rq (fun _=>-9223372036854775808≤n∧n≤9223372036854775807) (fun _=>κ (.int .i64 n))
  | _=>Rq (fun _=>n≤4294967295∧-2147483648≤n) (fun _=>κ (.int .i64 n)))
 | .u8=>Q1 (fun _=>True) (fun z=>z=n % 256) (fun z=>κ (.int .u8 z))
 | .u16=>Q1 (fun _=>True) (fun z=>z=n % 65536) (fun z=>κ (.int .u16 z))
 | .u32=>Q1 (fun _=>True) (fun z=>z=n % 4294967296) (fun z=>κ (.int .u32 z))
 | .u64=>Q1 (fun _=>True) (fun z=>z=n % 18446744073709551616) (fun z=>κ (.int .u64 z))
 | .i8=>Q1 (fun _=>True) (fun z=>z=(n+128) % 256 - 128) (fun z=>κ (.int .i8 z))
 | .i16=>Q1 (fun _=>True) (fun z=>z=(n+32768) % 65536 - 32768) (fun z=>κ (.int .i16 z))
 | .i32=>Q1 (fun _=>True) (fun z=>z=(n+2147483648) % 4294967296 - 2147483648) (fun z=>κ (.int .i32 z))
theorem wrap_i8' (n:Int):IntKind.i8.wrap n=(n+128) % 256 - 128:=by
 simp [IntKind.wrap,IntKind.bits,IntKind.signed];omega
theorem wrap_i16' (n:Int):IntKind.i16.wrap n=(n+32768) % 65536 - 32768:=by
 simp [IntKind.wrap,IntKind.bits,IntKind.signed];omega
theorem cvI_ok {j k:IntKind} {n:Int} {κ:SV→Prop} (h:cvI j k n κ):κ (.int k (k.wrap n)):=by
 cases k <;> simp only [cvI] at h
 ·exact h.h.2 _ (wrap_i8' n)
 ·exact h.h.2 _ (wrap_i16' n)
 ·exact h.h.2 _ (IntKind.wrap_i32 n)
 ·cases j <;> simp only at h
  all_goals (rw [IntWalk.i64_in n (by have:=h.p;omega)];exact h.k)
 ·exact h.h.2 _ (IntKind.wrap_u8 n)
 ·exact h.h.2 _ (IntKind.wrap_u16 n)
 ·exact h.h.2 _ (IntKind.wrap_u32 n)
 ·exact h.h.2 _ (IntKind.wrap_u64 n)
def putCells:List SV→Nat→List SV→List SV
 | l,_,[]=>l
 | [],_,_=>[]
 | _::l,0,x::xs=>x::putCells l 0 xs
 | a::l,n+1,x::xs=>a::putCells l n (x::xs)
theorem putCells_get:∀ (l:List SV) (off:Nat) (xs:List SV) (i:Nat),off+xs.length≤l.length →
  (putCells l off xs)[i]?=if off≤i∧i < off+xs.length then xs[i - off]? else l[i]?
 | l,off,[],i,_=>by
  unfold putCells
  rw [if_neg (by intro h;simp at h;omega)]
 | [],off,x::xs,i,h=>by simp at h
 | a::l,0,x::xs,i,h=>by
  unfold putCells
  cases i with
  | zero=>simp
  | succ i =>
   have:=putCells_get l 0 xs i (by simp at h ⊢;omega)
   simp only [List.getElem?_cons_succ,this]
   simp only [List.length_cons]
   by_cases hi:i < xs.length
   ·rw [if_pos (by omega),if_pos (by omega)];simp
   ·rw [if_neg (by omega),if_neg (by omega)]
 | a::l,n+1,x::xs,i,h=>by
  unfold putCells
  cases i with
  | zero=>rw [if_neg (by omega)];simp
  | succ i =>
   have:=putCells_get l n (x::xs) i (by simp at h ⊢;omega)
   simp only [List.getElem?_cons_succ,this]
   by_cases hi:n≤i∧i < n+(x::xs).length
   ·rw [if_pos hi,if_pos (by omega),show i+1 - (n+1)=i - n by omega]
   ·rw [if_neg hi,if_neg (by omega)]
theorem putCells_length:∀ (l:List SV) (off:Nat) (xs:List SV),(putCells l off xs).length=l.length
 | l,off,[]=>by unfold putCells;rfl
 | [],off,x::xs=>by unfold putCells;rfl
 | a::l,0,x::xs=>by unfold putCells;simp [putCells_length l 0 xs]
 | a::l,n+1,x::xs=>by unfold putCells;simp [putCells_length l n (x::xs)]
def fillS (T:Nat→Option TI) (fs:List (Nat × Nat)):List SV→List (Nat × SV)→Option (List SV)
 | cs,[]=>some cs
 | cs,(i,x)::ps =>
  match fs[i]?,cellsA x with
  | some (off,t),some xs=>(match T t with
   | some j=>if xs.length=j.size∧off+j.size≤cs.length then fillS T fs (putCells cs off xs) ps else none
   | none=>none)
  | _,_=>none
def partS (i:TI) (l:List SV) (off:Nat):SV:=match i.shape with
 | none=>getN .any l off
 | some n=>.agg (takeN (dropN l off) n)
def isPtr:SV→Bool
 | .ptr _ _ | .eptr _ _ _ | .rptr _ _ _ _=>true
 | _=>false
def pval (T:Nat→Option TI) (op:Op) (e:Operand→SV) (κ:SV→Prop):Prop :=
 match op with
 | .move x | .assign x=>κ (e x)
 | .pick c a b=>(match e c with
  | .bool c=>br c (fun _=>κ (e a)) (fun _=>κ (e b))
  | _=>False)
 | .binOp op t x y _=>(match e x,e y with
  | .int k a,.int j b=>(match op with
   | .shl=>shI .shl k a b κ
   | .shr=>shI .shr k a b κ
   | op=>if k=j then binI op k a b κ else False)
  | .bool a,.bool b=>(match T t with
   | some i=>(match i.kind,op with
    | .bool,.eql=>br a (fun _=>br b (fun _=>κ (.bool true)) (fun _=>κ (.bool false))) (fun _=>br b (fun _=>κ (.bool false)) (fun _=>κ (.bool true)))
    | .bool,.neq=>br a (fun _=>br b (fun _=>κ (.bool false)) (fun _=>κ (.bool true))) (fun _=>br b (fun _=>κ (.bool true)) (fun _=>κ (.bool false)))
    | _,_=>False)
   | none=>False)
  | .str a,.str b=>(match T t with
   | some i=>(match i.kind,op with
    | .string,.eql=>QC (fun _=>a=b) (fun z=>κ (.bool z))
    | .string,.neq=>QC (fun _=>a≠b) (fun z=>κ (.bool z))
    | .string,.add=>QV (fun z=>a.size+b.size≤9223372036854775807∧z=O.sa a b) (fun z=>κ (.str z))
    | _,_=>False)
   | none=>False)
  | .agg a,.agg b=>(match T t with
   | some i=>(match i.kind,op with
    | .struct _,.eql=>if a.length=i.size∧b.length=i.size then (match eqT T 8 t a b with | some f=>QC (fun _=>f ()=true) (fun z=>κ (.bool z)) | none=>False) else False
    | .struct _,.neq=>if a.length=i.size∧b.length=i.size then (match eqT T 8 t a b with | some f=>QC (fun _=>f ()=false) (fun z=>κ (.bool z)) | none=>False) else False
    | .array _ _,.eql=>if a.length=i.size∧b.length=i.size then (match eqT T 8 t a b with | some f=>QC (fun _=>f ()=true) (fun z=>κ (.bool z)) | none=>False) else False
    | .array _ _,.neq=>if a.length=i.size∧b.length=i.size then (match eqT T 8 t a b with | some f=>QC (fun _=>f ()=false) (fun z=>κ (.bool z)) | none=>False) else False
    | _,_=>False)
   | none=>False)
  | _,_=>False)
 | .unOp op _ x=>(match op,e x with
  | .not,.bool b=>br b (fun _=>κ (.bool false)) (fun _=>κ (.bool true))
  | .neg,.int k n=>arith k (fun _=>0 - n) (fun z=>κ (.int k z))
  | _,_=>False)
 | .convert s d x=>(match T s,T d,e x with
  | some _,some i,.int j n=>(match i.kind with
   | .int k=>cvI j k n κ
   | _=>False)
  | _,_,_=>False)
 | .fieldAddr s x f=>(match T s with
  | some i=>(match i.kind with
   | .struct fs=>(match fs[f]? with
    | some (off,t)=>(match T t with
     | some j=>if j.size=0 then False else (match e x with
      | .ptr r o=>κ (.ptr r (o+off))
      | .eptr s y o=>κ (.eptr s y (o+off))
      | .rptr r s i o=>κ (.rptr r s i (o+off))
      | _=>False)
     | none=>False)
    | none=>False)
   | _=>False)
  | none=>False)
 | .field s x f=>(match T s,e x with
  | some i,.agg l=>(match i.kind with
   | .struct fs=>(match fs[f]? with
    | some (off,t)=>(match T t with
     | some j=>if off+j.size≤l.length then κ (partS j l off) else False
     | none=>False)
    | none=>False)
   | _=>False)
  | _,_=>False)
 | .extract x i=>(match e x with
  | .tup l=>(match l[i]? with | some x=>κ x | none=>False)
  | _=>False)
 | .build t ps=>(match T t with
  | some i=>(match i.kind,i.zero with
   | .struct fs,.agg z=>(match fillS T fs z (ps.toList.map fun p=>(p.1,e p.2)) with
    | some l=>κ (.agg l)
    | none=>False)
   | .array n el,.agg z=>(match T el with
    | some j=>(match fillS T ((List.range n).map fun k=>(k * j.size,el)) z (ps.toList.map fun p=>(p.1,e p.2)) with
     | some l=>κ (.agg l)
     | none=>False)
    | none=>False)
   | _,_=>False)
  | none=>False)
 | .nilCheck x=>if isPtr (e x) then κ (e x) else False
 | .call c=>(match c.callee,c.args.toList with
  | .builtin .min,[x,y]=>(match e x,e y with | .int k a,.int _ b=>Q1 (fun _=>True) (fun z=>z=min a b) (fun z=>κ (.int k z)) | _,_=>False)
  | .builtin .max,[x,y]=>(match e x,e y with | .int k a,.int _ b=>Q1 (fun _=>True) (fun z=>z=max a b) (fun z=>κ (.int k z)) | _,_=>False)
  | _,_=>False)
 | _=>False
variable {P:Program} {T:Nat→Option TI}
structure POk (P:Program) (op:Op) (e:Operand→SV) (x:SV):Prop where
 h:∀ (o:Oper) (a:Act) (w:World) (X:Nat→Prop) (ρ:Env),o.op=op→(∀ y∈op.operands,Den w X ρ (e y) (a.eval y)) →
  ∃ u,(execOp a.eval o).run P w=.ok (.value u) w∧Den w X ρ x u
theorem cellsA_den {x:SV} {xs:List SV} (h:cellsA x=some xs) {w:World} {X:Nat→Prop} {ρ:Env} {v:Value} (d:Den w X ρ x v):DenL w X ρ xs v.cells.toList∧∀ u∈v.cells.toList,u.oneCell'=true:=by
 have atom:atomB x=true→xs=[x]→DenL w X ρ xs v.cells.toList∧∀ u∈v.cells.toList,u.oneCell'=true:=by
  intro ha e
  have h1:=d.one ha
  rw [one_cells h1,e]
  refine ⟨⟨rfl,fun i y u hy hu=>?_⟩,fun u hu=>by simp at hu;subst hu;exact h1⟩
  cases i with
  | zero=>simp at hy hu;subst hy;subst hu;exact d
  | succ i=>simp at hy
 cases x with
 | agg l =>
  simp only [cellsA] at h
  split at h
  ·rename_i hl
   injection h with h;subst h
   obtain ⟨cs,rfl,hd⟩:=Den.agg_iff.1 d
   refine ⟨by simpa [Value.cells] using hd,fun u hu=>?_⟩
   simp [Value.cells] at hu
   obtain ⟨i,hi,rfl⟩:=List.mem_iff_getElem.1 hu
   have hil:i < l.length:=by rw [hd.1];exact hi
   have hall:∀ (l:List SV),allAtom l=true→∀ (i:Nat) (hi:i < l.length),atomB l[i]=true:=by
    intro l
    induction l with
    | nil=>intro _ i hi;simp at hi
    | cons y l ih =>
     intro hl i hi
     simp [allAtom] at hl
     cases i with
     | zero=>exact hl.1
     | succ i=>exact ih hl.2 i (by simpa using hi)
   exact (hd.2 i _ _ (List.getElem?_eq_getElem hil) (List.getElem?_eq_getElem hi)).one (hall l hl i hil)
  ·cases h
 | any=>simp [cellsA,atomB] at h
 | tup l=>simp [cellsA,atomB] at h
 | val v=>simp only [cellsA] at h;split at h <;> first | (rename_i ha;injection h with h;exact atom ha h.symm) | cases h
 | _=>simp only [cellsA,atomB,if_true] at h;injection h with h;exact atom rfl h.symm
theorem fold_set:∀ (vs:List Value) (k off:Nat) (A:Array Value),off+k+vs.length≤A.size →
  ((vs.zipIdx k).foldl (fun (cs:Array Value) (p:Value × Nat)=>cs.setIfInBounds (off+p.2) p.1) A).size=A.size ∧
  ∀ i:Nat,((vs.zipIdx k).foldl (fun (cs:Array Value) (p:Value × Nat)=>cs.setIfInBounds (off+p.2) p.1) A)[i]?=if off+k≤i∧i < off+k+vs.length then vs[i - (off+k)]? else A[i]?
 | [],k,off,A,_=>by
  refine ⟨rfl,fun i=>?_⟩
  rw [if_neg (by intro h;simp at h;omega)]
  rfl
 | v::vs,k,off,A,h=>by
  simp only [List.length_cons] at h
  obtain ⟨h1,h2⟩:=fold_set vs (k+1) off (A.setIfInBounds (off+k) v) (by simp;omega)
  simp only [List.zipIdx_cons,List.foldl_cons]
  refine ⟨by rw [h1];simp,fun i=>?_⟩
  rw [h2 i]
  by_cases e:i=off+k
  ·subst e
   rw [if_neg (by omega),if_pos (by simp)]
   rw [Array.getElem?_setIfInBounds_self_of_lt (by omega)]
   simp
  ·by_cases hi:off+(k+1)≤i∧i < off+(k+1)+vs.length
   ·rw [if_pos hi,if_pos (by simp only [List.length_cons];omega),show i - (off+k)=(i - (off+(k+1)))+1 by omega]
    simp
   ·rw [if_neg hi,if_neg (by simp only [List.length_cons];omega),Array.getElem?_setIfInBounds_ne (by omega)]
theorem run_put {w:World} {X:Nat→Prop} {ρ:Env} {cs xs:List SV} {us:List Value} {v:Value} (hd:DenL w X ρ cs us) (hx:DenL w X ρ xs v.cells.toList) (off:Nat) (h:off+xs.length≤cs.length) :
  ∃ us',v.cells.zipIdx.foldl (fun (cs:Array Value) (p:Value × Nat)=>cs.setIfInBounds (off+p.2) p.1) ⟨us⟩=⟨us'⟩∧DenL w X ρ (putCells cs off xs) us':=by
 have hl:off+0+v.cells.toList.length≤(⟨us⟩:Array Value).size:=by
  have h1:=hd.1
  have h2:=hx.1
  simp only [List.size_toArray]
  omega
 obtain ⟨h1,h2⟩:=fold_set v.cells.toList 0 off ⟨us⟩ hl
 have e:v.cells.zipIdx.foldl (fun (cs:Array Value) (p:Value × Nat)=>cs.setIfInBounds (off+p.2) p.1) ⟨us⟩=(v.cells.toList.zipIdx 0).foldl (fun (cs:Array Value) (p:Value × Nat)=>cs.setIfInBounds (off+p.2) p.1) ⟨us⟩:=by
  rw [← Array.foldl_toList,Array.toList_zipIdx]
 rw [e]
 generalize (v.cells.toList.zipIdx 0).foldl (fun (cs:Array Value) (p:Value × Nat)=>cs.setIfInBounds (off+p.2) p.1) ⟨us⟩=R at *
 refine ⟨R.toList,by simp,?_,fun i x u hx' hu=>?_⟩
 ·rw [putCells_length,hd.1,← List.size_toArray,← h1,Array.length_toList]
 ·rw [putCells_get _ _ _ _ h] at hx'
  have hu':R[i]?=some u:=by simpa using hu
  rw [h2 i] at hu'
  have h3:=hx.1
  by_cases hi:off≤i∧i < off+xs.length
  ·rw [if_pos hi] at hx'
   rw [if_pos (by omega)] at hu'
   exact hx.2 _ _ _ hx' hu'
  ·rw [if_neg hi] at hx'
   rw [if_neg (by omega)] at hu'
   exact hd.2 i _ _ hx' (by simpa using hu')
theorem run_fill (fs:List (Nat × Nat)) (_tys:Types P T) {w:World} {X:Nat→Prop} {ρ:Env} (places:Array (Nat × Nat)) (hp:∀ (i off t:Nat) (j:TI),fs[i]?=some (off,t)→T t=some j→places[i]?=some (off,j.size)) :
  ∀ (ps:List (Nat × SV)) (vs:List (Nat × Value)) (cs l:List SV) (us:List Value),fillS T fs cs ps=some l→DenL w X ρ cs us →
   ps.length=vs.length→(∀ (i:Nat) (p:Nat × SV) (q:Nat × Value),ps[i]?=some p→vs[i]?=some q→p.1=q.1∧Den w X ρ p.2 q.2) →
   ∃ us',Instr.fill (places[·]?) ⟨us⟩ vs=some ⟨us'⟩∧DenL w X ρ l us':=by
 intro ps
 induction ps with
 | nil =>
  intro vs cs l us h hd hl _
  cases vs with
  | nil=>simp only [fillS] at h;injection h with h;subst h;exact ⟨us,by simp [Instr.fill],hd⟩
  | cons=>simp at hl
 | cons p ps ih =>
  intro vs cs l us h hd hl hall
  cases vs with
  | nil=>simp at hl
  | cons q vs =>
   obtain ⟨i,x⟩:=p
   obtain ⟨i',v⟩:=q
   obtain ⟨e,dx⟩:=hall 0 _ _ rfl rfl
   simp only at e dx
   subst e
   simp only [fillS] at h
   cases hf:fs[i]? with
   | none=>simp [hf] at h
   | some ft =>
    obtain ⟨off,t⟩:=ft
    cases hx:cellsA x with
    | none=>simp [hf,hx] at h
    | some xs =>
     simp only [hf,hx] at h
     cases hj:T t with
     | none=>simp [hj] at h
     | some j =>
      simp only [hj] at h
      split at h
      ·rename_i hsz
       have hpl:=hp i off t j hf hj
       obtain ⟨hc1,hc2⟩:=cellsA_den hx dx
       have hvs:v.cells.size=j.size:=by rw [← Array.length_toList,← hc1.1];exact hsz.1
       have hul:us.length=cs.length:=hd.1.symm
       obtain ⟨us2,hu2,hd2⟩:=run_put hd hc1 off (by omega)
       obtain ⟨us',hr,hd'⟩:=ih vs _ l us2 h hd2 (by simpa using hl) (fun n p q h1 h2=>hall (n+1) p q h1 h2)
       refine ⟨us',?_,hd'⟩
       simp only [Instr.fill,hpl,hvs]
       rw [if_neg (by simp;omega),hu2]
       exact hr
      ·cases h
theorem ofValue_cells {w:World} {X:Nat→Prop} {ρ:Env} {z:List SV} {v:Value} (h:ofValue v=.agg z):DenL w X ρ z v.cells.toList:=by
 have d:=ofValue_den w X ρ v
 rw [h] at d
 obtain ⟨cs,rfl,hd⟩:=Den.agg_iff.1 d
 simpa [Value.cells] using hd
theorem places_eq:∀ (gs:List Field),(∀ g∈gs,∃ j,P.info? g.type=some j) →
  gs.mapM (fun (f:Field)=>(P.info? f.type).map fun i=>(f.offset,i.size))=some (gs.map fun g=>(g.offset,P.cellsOf g.type))
 | [],_=>rfl
 | g::gs,h=>by
  obtain ⟨j,hj⟩:=h g (by simp)
  have ih:=places_eq gs (fun g hg=>h g (by simp [hg]))
  simp [List.mapM_cons,hj,ih,Program.cellsOf]
structure Closed (T:Nat→Option TI):Prop where
 fld:∀ t i fs,T t=some i→i.kind=.struct fs→∀ q∈fs,∃ j,T q.2=some j
theorem run_build_ (tys:Types P T) (cl:Closed T) {w:World} {X:Nat→Prop} {ρ:Env} {t:Nat} {i:TI} {fs:List (Nat × Nat)} {z l:List SV} (ht:T t=some i) (hk:i.kind=.struct fs) (hz:i.zero=.agg z)
  (ps:List (Nat × SV)) (vs:List (Nat × Value)) (h:fillS T fs z ps=some l) (hl:ps.length=vs.length)
  (hall:∀ (i:Nat) (p:Nat × SV) (q:Nat × Value),ps[i]?=some p→vs[i]?=some q→p.1=q.1∧Den w X ρ p.2 q.2) :
  ∃ cs,(Instr.build t vs.toArray).run P w=.ok (.agg ⟨cs⟩) w∧DenL w X ρ l cs:=by
 have tok:=tys.ok t i ht
 obtain ⟨zv,h1,h2,h3,h4,h5⟩:=tok.zero
 obtain ⟨gs,hg,hgs⟩:=tok.und_struct hk
 obtain ⟨it,hit,_,_⟩:=tok.inf
 have hzz:it.zero=some zv:=by simpa [hit] using h1
 have hdz:DenL w X ρ z zv.cells.toList:=ofValue_cells (v:=zv) (by rw [← h2,hz])
 have hfl:∀ g∈gs.toList,∃ j,P.info? g.type=some j:=by
  intro g hg'
  obtain ⟨j,hj⟩:=cl.fld t i fs ht hk (g.offset,g.type) (by rw [← hgs];exact List.mem_map.2 ⟨g,hg',rfl⟩)
  obtain ⟨k,hk,_⟩:=(tys.ok _ j hj).inf
  exact ⟨k,hk⟩
 obtain ⟨us',hr,hd⟩:=run_fill fs tys ((gs.toList.map fun g=>(g.offset,P.cellsOf g.type)).toArray) (fun n off ft j hn hj=>by
  rw [← hgs] at hn
  simp only [List.getElem?_map,Option.map_eq_some_iff] at hn
  obtain ⟨g,hg1,hg2⟩:=hn
  simp only [Prod.mk.injEq] at hg2
  obtain ⟨rfl,rfl⟩:=hg2
  obtain ⟨k,hk1,hk2,_⟩:=(tys.ok _ j hj).inf
  simp [hg1,Program.cellsOf,hk1,hk2]) ps vs z l zv.cells.toList h hdz hl hall
 refine ⟨us',run_build w t _ _ ?_,hd⟩
 simp only [Program.built,hit,hg,hzz,places_eq gs.toList hfl]
 simpa using hr
theorem fill_mono {f g:Nat→Option (Nat × Nat)} (h:∀ i p,f i=some p→g i=some p):∀ (l:List (Nat × Value)) (A B:Array Value),Instr.fill f A l=some B→Instr.fill g A l=some B
 | [],A,B,hf=>by simpa [Instr.fill] using hf
 | (i,v)::l,A,B,hf=>by
  simp only [Instr.fill] at hf ⊢
  cases hi:f i with
  | none=>rw [hi] at hf;cases hf
  | some p =>
   obtain ⟨off,size⟩:=p
   rw [hi] at hf
   rw [h i _ hi]
   simp only at hf ⊢
   split at hf
   ·cases hf
   ·rename_i hc
    rw [if_neg hc]
    exact fill_mono h l _ B hf
theorem run_build_arr (tys:Types P T) {w:World} {X:Nat→Prop} {ρ:Env} {t n el:Nat} {i j:TI} {z l:List SV} (ht:T t=some i) (hk:i.kind=.array n el) (hj:T el=some j) (hz:i.zero=.agg z)
  (ps:List (Nat × SV)) (vs:List (Nat × Value)) (h:fillS T ((List.range n).map fun k=>(k * j.size,el)) z ps=some l) (hl:ps.length=vs.length)
  (hall:∀ (i:Nat) (p:Nat × SV) (q:Nat × Value),ps[i]?=some p→vs[i]?=some q→p.1=q.1∧Den w X ρ p.2 q.2) :
  ∃ cs,(Instr.build t vs.toArray).run P w=.ok (.agg ⟨cs⟩) w∧DenL w X ρ l cs:=by
 have tok:=tys.ok t i ht
 obtain ⟨zv,h1,h2,h3,h4,h5⟩:=tok.zero_run
 have hdz:DenL w X ρ z zv.cells.toList:=ofValue_cells (v:=zv) (by rw [← h2,hz])
 obtain ⟨us',hr,hd⟩:=run_fill ((List.range n).map fun k=>(k * j.size,el)) tys (((List.range n).map fun k=>(k * j.size,j.size)).toArray) (fun m off ft j' hn hj'=>by
  simp only [List.getElem?_map,Option.map_eq_some_iff] at hn
  obtain ⟨k,hk1,hk2⟩:=hn
  simp only [Prod.mk.injEq] at hk2
  obtain ⟨rfl,rfl⟩:=hk2
  rw [hj] at hj'
  injection hj' with hj'
  subst hj'
  simp [hk1]) ps vs z l zv.cells.toList h hdz hl hall
 have hr2:=fill_mono (g:=fun i=>some (i * j.size,j.size)) (fun k p hp=>by
  simp only [List.getElem?_toArray,List.getElem?_map,Option.map_eq_some_iff] at hp
  obtain ⟨q,hq,rfl⟩:=hp
  have:=List.getElem?_range (n:=n) (i:=k)
  by_cases hkn:k < n
  ·rw [List.getElem?_range hkn] at hq;injection hq with hq;rw [hq]
  ·rw [List.getElem?_eq_none (by simpa using hkn)] at hq;cases hq) vs _ _ hr
 refine ⟨us',?_,hd⟩
 simp only [Instr.build,Sem.run_bind,h1,Result.andThen_ok,run_underlying (tok.und_array hk),(tys.ok el j hj).sizeOf]
 have e:zv.cells=(⟨zv.cells.toList⟩:Array Value):=by simp
 rw [e,hr2]
 rfl
theorem partS_den {w:World} {X:Nat→Prop} {ρ:Env} {i:TI} {l:List SV} {us:List Value} {off:Nat} (hd:DenL w X ρ l us) (h:off+i.size≤l.length) (h1:i.kind.aggB=false→i.size=1) :
  Den w X ρ (partS i l off) (valAt i.shape (us.drop off) 0):=by
 have hw:=TI.wid_size h1
 unfold partS
 cases hs:i.shape with
 | none =>
  rw [hs] at hw
  simp only [wid] at hw
  simp only [valAt,getN_eq]
  have h2:off < l.length:=by omega
  have h3:off < us.length:=by rw [← hd.1];exact h2
  have:=hd.2 off _ _ (List.getElem?_eq_getElem h2) (List.getElem?_eq_getElem h3)
  simpa [h2,h3] using this
 | some n =>
  rw [hs] at hw
  simp only [wid] at hw
  simp only [valAt,Nat.zero_mul,List.drop_zero,takeN_eq,dropN_eq]
  exact Den.agg_iff.2 ⟨_,rfl,hd.sub off n⟩
theorem addr_add (b o n:Nat):(⟨b,o,none⟩:Addr).add n=⟨b,o+n,none⟩:=by
 unfold Addr.add;split <;> simp_all
theorem toList_dec (a b:ByteArray):(a.toList == b.toList)=decide (a=b):=by
 rw [ByteArray.toList_eq,ByteArray.toList_eq]
 by_cases h:a=b
 ·subst h;simp
 ·rw [decide_eq_false h]
  simp only [beq_eq_false_iff_ne,ne_eq]
  intro e
  apply h
  cases a;cases b
  simp only [ByteArray.mk.injEq] at *
  exact Array.toList_inj.1 e
theorem pval_bin (tys:Types P T) (sz:Sizes T) {op:BinOp} {t yt:TypeId} {x y:Operand} {e:Operand→SV} {κ:SV→Prop} (h:pval T (.binOp op t x y yt) e κ) :
  ∃ v,κ v∧POk P (.binOp op t x y yt) e v:=by
 have key:∀ v,(∀ (a:Act) (w:World) (X:Nat→Prop) (ρ:Env),Den w X ρ (e x) (a.eval x)→Den w X ρ (e y) (a.eval y) →
   ∃ u,(do eqGuard op t x y (a.eval x) (a.eval y);binOp op t (a.eval x) (a.eval y)).run P w=.ok u w∧Den w X ρ v u)→POk P (.binOp op t x y yt) e v:=by
  intro v hv
  refine ⟨fun o a w X ρ ho hd=>?_⟩
  obtain ⟨u,hr,hd'⟩:=hv a w X ρ (hd x (by simp [Op.operands])) (hd y (by simp [Op.operands]))
  refine ⟨u,?_,hd'⟩
  simp only [execOp,ho,Sem.run_bind,hr,Result.andThen_ok,Sem.run_pure]
 have noI:∀ (k j:IntKind) (a b:Int) (w:World),(eqGuard op t x y (.int k a) (.int j b)).run P w=.ok () w:=by
  intro k j a b w
  cases op <;> rfl
 have noB:∀ (a b:Bool) (w:World),(eqGuard op t x y (.bool a) (.bool b)).run P w=.ok () w:=by
  intro a b w
  cases op <;> rfl
 simp only [pval] at h
 cases hx:e x with
 | int k a =>
  cases hy:e y with
  | int j b =>
   simp only [hx,hy] at h
   have fin:(∃ v u,κ v∧(∀ w,(binOp op t (.int k a) (.int j b)).run P w=.ok u w)∧∀ w X ρ,Den w X ρ v u)→∃ v,κ v∧POk P (.binOp op t x y yt) e v:=by
    rintro ⟨v,u,hκ,hr,hd⟩
    refine ⟨v,hκ,key v fun a' w X ρ d1 d2=>?_⟩
    rw [hx,Den.int_iff] at d1
    rw [hy,Den.int_iff] at d2
    rw [d1,d2]
    refine ⟨u,?_,hd w X ρ⟩
    rw [Sem.run_bind,noI,Result.andThen_ok,hr]
   cases op
   case shl=>exact fin (shI_ok h t)
   case shr=>exact fin (shI_ok h t)
   all_goals
    simp only at h
    split at h
    ·rename_i e1
     subst e1
     exact fin (binI_ok h t (by simp))
    ·exact h.elim
  | _=>simp only [hx,hy] at h
 | bool a =>
  cases hy:e y with
  | bool b =>
   simp only [hx,hy] at h
   cases ht:T t with
   | none=>simp only [ht] at h
   | some i =>
    simp only [ht] at h
    have tok:=tys.ok t i ht
    have fin:∀ (v:SV) (u:Value),κ v→i.kind=.bool→(∀ w,(binOp op t (.bool a) (.bool b)).run P w=.ok u w)→(∀ w X ρ,Den w X ρ v u)→∃ v,κ v∧POk P (.binOp op t x y yt) e v:=by
     intro v u hκ hk hr hd
     refine ⟨v,hκ,key v fun a' w X ρ d1 d2=>?_⟩
     rw [hx,Den.bool_iff] at d1
     rw [hy,Den.bool_iff] at d2
     rw [d1,d2]
     refine ⟨u,?_,hd w X ρ⟩
     rw [Sem.run_bind,noB,Result.andThen_ok,hr]
    split at h
    ·rename_i hk
     have h:κ (.bool (a == b)):=by cases a <;> cases b <;> exact h
     refine fin _ _ h hk (fun w=>?_) (fun w X ρ=>.bool _ _)
     simp only [binOp,Sem.run_bind,run_equal_bool w t a b (tok.und_bool hk),Result.andThen_ok,Sem.run_pure]
    ·rename_i hk
     have h:κ (.bool (!(a == b))):=by cases a <;> cases b <;> exact h
     refine fin _ _ h hk (fun w=>?_) (fun w X ρ=>.bool _ _)
     simp only [binOp,Sem.run_bind,run_equal_bool w t a b (tok.und_bool hk),Result.andThen_ok,Sem.run_pure]
    ·exact h.elim
  | _=>simp only [hx,hy] at h
 | str a =>
  cases hy:e y with
  | str b =>
   simp only [hx,hy] at h
   cases ht:T t with
   | none=>simp only [ht] at h
   | some i =>
    simp only [ht] at h
    have tok:=tys.ok t i ht
    have noS:∀ (w:World),(eqGuard op t x y (.string a) (.string b)).run P w=.ok () w:=by
     intro w
     cases op <;> rfl
    have fin:∀ (v:SV) (u:Value),κ v→(∀ w,(binOp op t (.string a) (.string b)).run P w=.ok u w)→(∀ w X ρ,Den w X ρ v u)→∃ v,κ v∧POk P (.binOp op t x y yt) e v:=by
     intro v u hκ hr hd
     refine ⟨v,hκ,key v fun a' w X ρ d1 d2=>?_⟩
     rw [hx,Den.str_iff] at d1
     rw [hy,Den.str_iff] at d2
     rw [d1,d2]
     refine ⟨u,?_,hd w X ρ⟩
     rw [Sem.run_bind,noS,Result.andThen_ok,hr]
    split at h
    ·rename_i hk
     refine fin _ _ (h.get (decide (a=b)) (by simp)) (fun w=>?_) (fun w X ρ=>.bool _ _)
     simp only [binOp,Op.stringOp,toList_dec,Sem.run_pure]
    ·rename_i hk
     refine fin _ _ (h.get (!decide (a=b)) (by simp)) (fun w=>?_) (fun w X ρ=>.bool _ _)
     simp only [binOp,Op.stringOp,toList_dec,Sem.run_pure]
    ·rename_i hk
     obtain ⟨z,⟨hz,rfl⟩,h⟩:=h.h
     refine fin _ _ h (fun w=>?_) (fun w X ρ=>.str _ _)
     rw [O.hsa,binOp_string_add,run_string_add_sum w a b hz]
    ·exact h.elim
  | _=>simp only [hx,hy] at h
 | agg a =>
  cases hy:e y with
  | agg b =>
   simp only [hx,hy] at h
   cases ht:T t with
   | none=>simp only [ht] at h
   | some i =>
    simp only [ht] at h
    have fin:∀ (f:Unit→Bool) (v:SV) (u:Value),κ v→i.kind.aggB=true→a.length=i.size→b.length=i.size→eqT T 8 t a b=some f →
      (∀ w (xs ys:Array Value),(Op.equalIn 10000 t (.agg xs) (.agg ys)).run P w=.ok (f ()) w→(binOp op t (.agg xs) (.agg ys)).run P w=.ok u w)→(∀ w X ρ,Den w X ρ v u)→∃ v,κ v∧POk P (.binOp op t x y yt) e v:=by
     intro f v u hκ hk hl1 hl2 he hr hd
     refine ⟨v,hκ,key v fun a' w X ρ d1 d2=>?_⟩
     rw [hx,Den.agg_iff] at d1
     rw [hy,Den.agg_iff] at d2
     obtain ⟨c1,e1,d1⟩:=d1
     obtain ⟨c2,e2,d2⟩:=d2
     rw [e1,e2]
     refine ⟨u,?_,hd w X ρ⟩
     obtain ⟨g1,g2,g3⟩:=tys.cmp t i ht hk
     rw [Sem.run_bind,run_eqGuard_agg w op t x y _ _ g2,Result.andThen_ok]
     refine hr w _ _ ?_
     have hs:=eqT_sound tys sz (w:=w) (X:=X) (ρ:=ρ) 8 t i a b c1 c2 f 9992 ht he d1 d2 hl1 hl2
     have q1:valAt i.shape c1 0=.agg ⟨c1⟩:=by
      simp only [TI.shape,hk,if_true,valAt,Nat.zero_mul,List.drop_zero]
      rw [List.take_of_length_le (by rw [← d1.1,hl1];exact Nat.le_refl _)]
     have q2:valAt i.shape c2 0=.agg ⟨c2⟩:=by
      simp only [TI.shape,hk,if_true,valAt,Nat.zero_mul,List.drop_zero]
      rw [List.take_of_length_le (by rw [← d2.1,hl2];exact Nat.le_refl _)]
     rw [q1,q2] at hs
     exact hs
    split at h
    ·rename_i hk
     split at h
     ·rename_i hl
      split at h
      ·rename_i f hf
       refine fin f _ _ (h.get (f ()) (by simp)) (by rw [hk];rfl) hl.1 hl.2 hf (fun w xs ys hr=>?_) (fun w X ρ=>.bool _ _)
       rw [run_eql_struct,hr];rfl
      ·exact h.elim
     ·exact h.elim
    ·rename_i hk
     split at h
     ·rename_i hl
      split at h
      ·rename_i f hf
       refine fin f _ _ (h.get (!f ()) (by simp)) (by rw [hk];rfl) hl.1 hl.2 hf (fun w xs ys hr=>?_) (fun w X ρ=>.bool _ _)
       rw [run_neq_struct,hr];rfl
      ·exact h.elim
     ·exact h.elim
    ·rename_i hk
     split at h
     ·rename_i hl
      split at h
      ·rename_i f hf
       refine fin f _ _ (h.get (f ()) (by simp)) (by rw [hk];rfl) hl.1 hl.2 hf (fun w xs ys hr=>?_) (fun w X ρ=>.bool _ _)
       rw [run_eql_struct,hr];rfl
      ·exact h.elim
     ·exact h.elim
    ·rename_i hk
     split at h
     ·rename_i hl
      split at h
      ·rename_i f hf
       refine fin f _ _ (h.get (!f ()) (by simp)) (by rw [hk];rfl) hl.1 hl.2 hf (fun w xs ys hr=>?_) (fun w X ρ=>.bool _ _)
       rw [run_neq_struct,hr];rfl
      ·exact h.elim
     ·exact h.elim
    ·exact h.elim
  | _=>simp only [hx,hy] at h
 | _=>simp only [hx] at h
end
section
open Go.RowKit
variable {P:Program} {T:Nat→Option TI}
theorem fieldAt_run (tys:Types P T) {s f off t:Nat} {i j:TI} {fs:List (Nat × Nat)} (hs:T s=some i) (hk:i.kind=.struct fs) (hf:fs[f]?=some (off,t)) (ht:T t=some j) (hj:j.size≠0) (b o:Nat) (w:World) :
  (Instr.fieldAt s (.pointer (some ⟨b,o,none⟩)) f).run P w=.ok (.pointer (some ⟨b,o+off,none⟩)) w:=by
 obtain ⟨gs,hg,hgs⟩:=(tys.ok s i hs).und_struct hk
 rw [← hgs] at hf
 simp only [List.getElem?_map,Option.map_eq_some_iff] at hf
 obtain ⟨g,hg1,hg2⟩:=hf
 simp only [Prod.mk.injEq] at hg2
 obtain ⟨rfl,rfl⟩:=hg2
 have hz:=(tys.ok _ j ht).sizeOf w
 have hg1':gs[f]?=some g:=by simpa using hg1
 simp only [Instr.fieldAt,Sem.run_bind,run_underlying hg,Result.andThen_ok,hg1',Instr.sureAddr,Sem.run_pure,fieldPlace,hz]
 rw [if_neg hj]
 simp [addr_add]
theorem pval_ok (tys:Types P T) (sz:Sizes T) (cl:Closed T) {op:Op} {e:Operand→SV} {κ:SV→Prop} (h:pval T op e κ):∃ v,κ v∧POk P op e v:=by
 cases op
 case binOp op t x y yt=>exact pval_bin tys sz h
 case move x =>
  refine ⟨_,h,⟨fun o a w X ρ ho hd=>⟨a.eval x,by simp [execOp,ho],hd x (by simp [Op.operands])⟩⟩⟩
 case assign x =>
  refine ⟨_,h,⟨fun o a w X ρ ho hd=>⟨a.eval x,by simp [execOp,ho],hd x (by simp [Op.operands])⟩⟩⟩
 case pick c a b =>
  simp only [pval] at h
  split at h
  ·rename_i hc
   rename_i cb
   cases cb
   ·refine ⟨_,h,⟨fun o ac w X ρ ho hd=>⟨ac.eval b,?_,hd b (by simp [Op.operands])⟩⟩⟩
    have:=hd c (by simp [Op.operands])
    rw [hc,Den.bool_iff] at this
    simp [execOp,ho,this,asBool]
   ·refine ⟨_,h,⟨fun o ac w X ρ ho hd=>⟨ac.eval a,?_,hd a (by simp [Op.operands])⟩⟩⟩
    have:=hd c (by simp [Op.operands])
    rw [hc,Den.bool_iff] at this
    simp [execOp,ho,this,asBool]
  ·exact h.elim
 case unOp op t x =>
  simp only [pval] at h
  split at h
  ·rename_i hx
   rename_i b0
   have h:κ (.bool (!b0)):=by cases b0 <;> exact h
   refine ⟨_,h,⟨fun o ac w X ρ ho hd=>?_⟩⟩
   have:=hd x (by simp [Op.operands])
   rw [hx,Den.bool_iff] at this
   exact ⟨_,by simp [execOp,ho,this,Op.unary],.bool _ _⟩
  ·rename_i hx
   refine ⟨_,arith_ok h,⟨fun o ac w X ρ ho hd=>?_⟩⟩
   have:=hd x (by simp [Op.operands])
   rw [hx,Den.int_iff] at this
   refine ⟨_,?_,.int _ _ _⟩
   simp only [execOp,ho,this,Op.unary,Op.intArith,Sem.run_bind,Sem.run_pure,Result.andThen_ok]
  ·exact h.elim
 case convert s d x =>
  simp only [pval] at h
  split at h
  ·rename_i i0 i j n hs0 hd' hx
   split at h
   ·rename_i k hk
    refine ⟨_,cvI_ok h,⟨fun o ac w X ρ ho hd=>?_⟩⟩
    have hv:=hd x (by simp [Op.operands])
    rw [hx,Den.int_iff] at hv
    have hu:=(tys.ok d i hd').und_int hk
    obtain ⟨d0,hd0,_⟩:=(tys.ok s i0 hs0).desc
    refine ⟨_,?_,.int _ _ _⟩
    simp [execOp,ho,hv,convert,run_underlying hd0,run_underlying hu,Conv.intToInt]
   ·exact h.elim
  ·exact h.elim
 case fieldAddr s x f =>
  simp only [pval] at h
  cases hs:T s with
  | none=>simp only [hs] at h
  | some i =>
   simp only [hs] at h
   split at h <;> try exact h.elim
   rename_i fs hk
   split at h <;> try exact h.elim
   rename_i off t hf
   split at h <;> try exact h.elim
   rename_i j ht
   split at h
   ·exact h.elim
   ·rename_i hj
    split at h <;> try exact h.elim
    ·rename_i r o hx
     refine ⟨_,h,⟨fun o ac w X ρ ho hd=>?_⟩⟩
     have hv:=hd x (by simp [Op.operands])
     rw [hx] at hv
     generalize hev:ac.eval x=v at hv
     cases hv with
     | ptr _ _ _ b hb=>exact ⟨_,by simp only [execOp,ho,hev,Sem.run_bind,fieldAt_run tys hs hk hf ht hj,Result.andThen_ok,Sem.run_pure],.ptr _ _ _ b hb⟩
    ·rename_i s' y o1 hx
     refine ⟨_,h,⟨fun o ac w X ρ ho hd=>?_⟩⟩
     have hv:=hd x (by simp [Op.operands])
     rw [hx] at hv
     generalize hev:ac.eval x=v at hv
     cases hv with
     | eptr _ _ _ _ b o us hb hx hu hl hy =>
      refine ⟨.pointer (some ⟨b,o+(o1+off),none⟩),by simp only [execOp,ho,hev,Sem.run_bind,fieldAt_run tys hs hk hf ht hj,Result.andThen_ok,Sem.run_pure,Nat.add_assoc],?_⟩
      exact .eptr _ _ _ _ b o us hb hx hu hl hy
    ·rename_i r s' i' o1 hx
     refine ⟨_,h,⟨fun o ac w X ρ ho hd=>?_⟩⟩
     have hv:=hd x (by simp [Op.operands])
     rw [hx] at hv
     generalize hev:ac.eval x=v at hv
     cases hv with
     | rptr _ _ _ _ _ b ob hb =>
      refine ⟨.pointer (some ⟨b,ob+i' * wid s'+(o1+off),none⟩),by simp only [execOp,ho,hev,Sem.run_bind,fieldAt_run tys hs hk hf ht hj,Result.andThen_ok,Sem.run_pure,Nat.add_assoc],?_⟩
      exact .rptr _ _ _ _ _ b ob hb
 case field s x f =>
  simp only [pval] at h
  split at h <;> try exact h.elim
  rename_i i l hs hx
  split at h <;> try exact h.elim
  rename_i fs hk
  split at h <;> try exact h.elim
  rename_i off t hf
  split at h <;> try exact h.elim
  rename_i j ht
  split at h
  ·rename_i hl
   refine ⟨_,h,⟨fun o ac w X ρ ho hd=>?_⟩⟩
   have hv:=hd x (by simp [Op.operands])
   rw [hx,Den.agg_iff] at hv
   obtain ⟨cs,hev,hcs⟩:=hv
   obtain ⟨gs,hg,hgs⟩:=(tys.ok s i hs).und_struct hk
   rw [← hgs] at hf
   simp only [List.getElem?_map,Option.map_eq_some_iff] at hf
   obtain ⟨g,hg1,hg2⟩:=hf
   simp only [Prod.mk.injEq] at hg2
   obtain ⟨rfl,rfl⟩:=hg2
   have hg1':gs[f]?=some g:=by simpa using hg1
   refine ⟨_,?_,partS_den hcs hl (sz.one _ _ ht)⟩
   simp only [execOp,ho,hev,Instr.field,Sem.run_bind,run_underlying hg,Result.andThen_ok,hg1',asAgg,Sem.run_pure]
   rw [run_part (tys.ok _ j ht) cs g.offset (by rw [← hcs.1];exact hl) (sz.one _ _ ht)]
   rfl
  ·exact h.elim
 case extract x i =>
  simp only [pval] at h
  split at h <;> try exact h.elim
  rename_i l hx
  split at h <;> try exact h.elim
  rename_i y hy
  refine ⟨_,h,⟨fun o ac w X ρ ho hd=>?_⟩⟩
  have hv:=hd x (by simp [Op.operands])
  rw [hx,Den.tup_iff] at hv
  obtain ⟨cs,hev,hcs⟩:=hv
  have hi:=(List.getElem?_eq_some_iff.1 hy).1
  have hi':i < cs.length:=by rw [← hcs.1];exact hi
  refine ⟨cs[i],?_,hcs.2 i _ _ hy (List.getElem?_eq_getElem hi')⟩
  simp [execOp,ho,hev,Instr.extract,hi']
 case build t ps =>
  simp only [pval] at h
  split at h <;> try exact h.elim
  rename_i i ht
  split at h <;> try exact h.elim
  ·rename_i fs z hk hz
   split at h <;> try exact h.elim
   rename_i l hl
   refine ⟨_,h,⟨fun o ac w X ρ ho hd=>?_⟩⟩
   obtain ⟨cs,hr,hcs⟩:=run_build_ tys cl (w:=w) (X:=X) (ρ:=ρ) ht hk hz _ (ps.toList.map fun p=>(p.1,ac.eval p.2)) hl (by simp) (fun n p q hp hq=>by
    simp only [List.getElem?_map,Option.map_eq_some_iff] at hp hq
    obtain ⟨p',hp1,rfl⟩:=hp
    obtain ⟨q',hq1,rfl⟩:=hq
    rw [hp1] at hq1
    injection hq1 with hq1
    subst hq1
    refine ⟨rfl,hd p'.2 ?_⟩
    simp only [Op.operands]
    exact List.mem_toArray.2 (List.mem_map.2 ⟨p',List.mem_of_getElem? hp1,rfl⟩))
   refine ⟨_,?_,Den.agg_iff.2 ⟨cs,rfl,hcs⟩⟩
   have e:(ps.map fun (x:Nat × Operand)=>(x.1,ac.eval x.2))=(ps.toList.map fun p=>(p.1,ac.eval p.2)).toArray:=by
    apply Array.ext';simp
   simp only [execOp,ho,Sem.run_bind]
   rw [show (ps.map fun x=>match x with | (i,x)=>(i,ac.eval x))=(ps.toList.map fun p=>(p.1,ac.eval p.2)).toArray from e,hr]
   rfl
  ·rename_i n el z hk hz
   split at h <;> try exact h.elim
   rename_i j hj
   split at h <;> try exact h.elim
   rename_i l hl
   refine ⟨_,h,⟨fun o ac w X ρ ho hd=>?_⟩⟩
   obtain ⟨cs,hr,hcs⟩:=run_build_arr tys (w:=w) (X:=X) (ρ:=ρ) ht hk hj hz _ (ps.toList.map fun p=>(p.1,ac.eval p.2)) hl (by simp) (fun n p q hp hq=>by
    simp only [List.getElem?_map,Option.map_eq_some_iff] at hp hq
    obtain ⟨p',hp1,rfl⟩:=hp
    obtain ⟨q',hq1,rfl⟩:=hq
    rw [hp1] at hq1
    injection hq1 with hq1
    subst hq1
    refine ⟨rfl,hd p'.2 ?_⟩
    simp only [Op.operands]
    exact List.mem_toArray.2 (List.mem_map.2 ⟨p',List.mem_of_getElem? hp1,rfl⟩))
   refine ⟨_,?_,Den.agg_iff.2 ⟨cs,rfl,hcs⟩⟩
   have e:(ps.map fun (x:Nat × Operand)=>(x.1,ac.eval x.2))=(ps.toList.map fun p=>(p.1,ac.eval p.2)).toArray:=by
    apply Array.ext';simp
   simp only [execOp,ho,Sem.run_bind]
   rw [show (ps.map fun x=>match x with | (i,x)=>(i,ac.eval x))=(ps.toList.map fun p=>(p.1,ac.eval p.2)).toArray from e,hr]
   rfl
 case nilCheck x =>
  simp only [pval] at h
  split at h
  ·rename_i hp
   refine ⟨_,h,⟨fun o ac w X ρ ho hd=>?_⟩⟩
   have hv:=hd x (by simp [Op.operands])
   have hv':=hv
   generalize hev:ac.eval x=v at hv hv'
   refine ⟨v,?_,hv'⟩
   generalize e x=y at hv hp
   cases hv <;> first | (simp [isPtr] at hp;done) | simp [execOp,ho,hev]
  ·exact h.elim
 case call c =>
  simp only [pval] at h
  obtain ⟨cal,args,ats⟩:=c
  split at h <;> try exact h.elim
  ·rename_i x y hc ha
   simp only at hc ha
   subst hc
   obtain rfl:args=#[x,y]:=by apply Array.ext';simpa using ha
   split at h <;> try exact h.elim
   rename_i k a j b hx hy
   refine ⟨_,h.h.2 _ rfl,⟨fun o ac w X ρ ho hd=>?_⟩⟩
   have h1:=hd x (by simp [Op.operands,Call.operands])
   have h2:=hd y (by simp [Op.operands,Call.operands])
   rw [hx,Den.int_iff] at h1
   rw [hy,Den.int_iff] at h2
   refine ⟨_,?_,.int _ _ _⟩
   simp [execOp,ho,resolve,invoke,builtin,Builtin.min_,Builtin.min2,h1,h2]
   split <;> omega
  ·rename_i x y hc ha
   simp only at hc ha
   subst hc
   obtain rfl:args=#[x,y]:=by apply Array.ext';simpa using ha
   split at h <;> try exact h.elim
   rename_i k a j b hx hy
   refine ⟨_,h.h.2 _ rfl,⟨fun o ac w X ρ ho hd=>?_⟩⟩
   have h1:=hd x (by simp [Op.operands,Call.operands])
   have h2:=hd y (by simp [Op.operands,Call.operands])
   rw [hx,Den.int_iff] at h1
   rw [hy,Den.int_iff] at h2
   refine ⟨_,?_,.int _ _ _⟩
   simp [execOp,ho,resolve,invoke,builtin,Builtin.max_,Builtin.max2,h1,h2]
   split <;> omega
 all_goals exact h.elim
end
section
def glob:Nat→Option SV:=fun _=>none
theorem glob_noref {g:Nat} {x:SV} (h:glob g=some x) (d:Nat):noref d x=true:=by cases h
def mapT:Nat→Option (Nat × Nat × List IntKind):=fun _=>none
end
section
open Go.RowKit
variable {P:Program} {T:Nat→Option TI}
def Blk.own:Blk→Bool
 | .chunk _ _ | .row _ _ _ | .rowx _ _ _ _ | .iter _ _ | .gen _ _ _=>true
 | _=>false
def vblock:Value→Option Nat
 | .pointer (some a)=>some a.block
 | .slice (some a) _ c=>if c=0 then none else some a.block
 | .map (some b)=>some b
 | _=>none
def owned (mem:Mem) (ρ:Env) (b:Nat):Prop:=∃ r v,(getM mem r).own=true∧ρ r=some v∧vblock v=some b
def Forb (X:Nat→Prop) (mem:Mem) (ρ:Env) (b:Nat):Prop:=X b∨owned mem ρ b
inductive KFit:List IntKind→List SV→List Value→Prop
 | nil:KFit [] [] []
 | cons {k:IntKind} {ks:List IntKind} {n:Int} {ys:List SV} {us:List Value} (h:k.min≤n∧n≤k.max) (r:KFit ks ys us):KFit (k::ks) (.int k n::ys) (.int k n::us)
def genRep (tag k:Nat) (l:List SV) (v:Value) (b:Nat) (ob:Obj):Prop :=
 match tag with
 | 1=>∃ m,mapT k=some m∧v=.map (some b)∧∃ es clock,ob=.map es clock∧(∀ x∈es.toList,x.val=.bool true∧∃ ys us,KFit m.2.2 ys us∧x.key=.agg ⟨us⟩∧SV.agg ys∈l) ∧
   (∀ x∈l,∃ ys us e,x=.agg ys∧KFit m.2.2 ys us∧e∈es.toList∧e.key=.agg ⟨us⟩)
 | 0=>∃ cap cur fz,v=.slice (some ⟨b,0,none⟩) l.length cap∧ob=.cells cur k fz∧cur.size≤fz.1∧l.length≤cap∧cap≤maxLen∧cap≤cur.size∧0 < cap∧(∀ u∈cur.toList,u.oneCell'=true)∧∀ (i:Nat) (x:SV),l[i]?=some x→∃ n:Int,x=.int .u8 n∧cur[i]?=some (.int .u8 n)
 | _=>False
def BlkRep (T:Nat→Option TI) (N:Nat→Prop) (w:World) (Y:Nat→Prop) (ρ:Env):Blk→Option Value→Prop
 | .no,o=>o=none
 | .chunk t x,o=>∃ i b us ty,T t=some i∧o=some (.pointer (some ⟨b,0,none⟩))∧N b∧w.heap[b]?=some (.cells us ty (0,0))∧us.size=i.size ∧
   (∀ u∈us.toList,u.oneCell'=true)∧Den w Y ρ x (valAt i.shape us.toList 0)
 | .row sh e l,o=>∃ v,o=some v∧((∃ a,v=.slice a 0 0∧l=[])∨∃ b off cap cur,v=.slice (some ⟨b,off,none⟩) l.length cap∧N b∧w.heap[b]?=some (.cells cur e (0,0)) ∧
   l.length≤cap∧cap≤maxLen∧off+cap * wid sh≤cur.size∧0 < cap∧(∀ u∈cur.toList,u.oneCell'=true)∧∀ (i:Nat) (h:i < l.length),Den w Y noEnv l[i] (valAt sh (cur.toList.drop off) i))
 | .frz sh l,o=>∃ v,o=some v∧Den w Y noEnv (.lst sh l) v
 | .rowx e l i x,o=>∃ b off cap cur,o=some (.slice (some ⟨b,off,none⟩) l.length cap)∧N b∧w.heap[b]?=some (.cells cur e (0,0)) ∧
   l.length≤cap∧cap≤maxLen∧off+cap≤cur.size∧0 < cap∧(∀ u∈cur.toList,u.oneCell'=true)∧i < l.length∧(∀ (j:Nat) (h:j < l.length),j≠i→Den w Y noEnv l[j] (valAt none (cur.toList.drop off) j)) ∧
   Den w Y ρ x (valAt none (cur.toList.drop off) i)
 | .iter s p,o=>∃ b,o=some (.pointer (some ⟨b,0,none⟩))∧N b∧w.heap[b]?=some (.stringIter s p)
 | .gen tag k l,o=>∃ v b ob,o=some v∧vblock v=some b∧N b∧w.heap[b]?=some ob∧genRep tag k l v b ob
structure BelowW (N:Nat→Prop) (w w':World):Prop where
 os:w'.os=w.os
 tape:w'.tape=w.tape
 output:w'.output=w.output
 size:w.heap.size≤w'.heap.size
 block:∀ k,k < w.heap.size→¬ N k→w'.heap[k]?=w.heap[k]?
theorem BelowW.refl (N:Nat→Prop) (w:World):BelowW N w w:=⟨rfl,rfl,rfl,Nat.le_refl _,fun _ _ _=>rfl⟩
theorem BelowW.trans {N:Nat→Prop} {a b c:World} (h:BelowW N a b) (k:BelowW N b c):BelowW N a c :=
 ⟨k.os.trans h.os,k.tape.trans h.tape,k.output.trans h.output,Nat.le_trans h.size k.size,fun i hi hn=>(k.block i (Nat.lt_of_lt_of_le hi h.size) hn).trans (h.block i hi hn)⟩
theorem BelowW.of {N:Nat→Prop} {w w':World} (h:Below w.heap.size w w'):BelowW N w w':=⟨h.os,h.tape,h.output,h.size,fun k hk _=>h.block k hk⟩
theorem BelowW.new {w w':World} (h:BelowW (fun b=>w.heap.size≤b) w w'):Below w.heap.size w w':=⟨h.os,h.tape,h.output,h.size,fun k hk=>h.block k hk (by omega)⟩
structure MRep (T:Nat→Option TI) (N:Nat→Prop) (w0 w:World) (X:Nat→Prop) (mem:Mem) (ρ:Env):Prop where
 low:∀ b,X b→b < w.heap.size∧¬ N b
 below:BelowW N w0 w
 szN:∀ b,w.heap.size≤b→N b
 blk:∀ r,BlkRep T N w (Forb X mem ρ) ρ (getM mem r) (ρ r)
 inj:∀ r r' v v' b,(getM mem r).own=true→(getM mem r').own=true→ρ r=some v→ρ r'=some v'→vblock v=some b→vblock v'=some b→r=r'
 gl:∀ g x,glob g=some x→plainB x=true∧Den w (Forb X mem ρ) noEnv x (.pointer (some ⟨g,0,none⟩))
theorem gl_mono {w w':World} {Y Y':Nat→Prop} (h:∀ g x,glob g=some x→plainB x=true∧Den w Y noEnv x (.pointer (some ⟨g,0,none⟩))) (hs:w.heap.size≤w'.heap.size) (hk:∀ b,b < w.heap.size→¬ Y b→¬ Y' b∧w'.heap[b]?=w.heap[b]?) :
  ∀ g x,glob g=some x→plainB x=true∧Den w' Y' noEnv x (.pointer (some ⟨g,0,none⟩)):=fun g x hg=>⟨(h g x hg).1,(h g x hg).2.mono hs hk⟩
theorem heap_lt {w:World} {b:Nat} {o:Obj} (h:w.heap[b]?=some o):b < w.heap.size:=(Array.getElem?_eq_some_iff.1 h).1
theorem MRep.owned_lt {N:Nat→Prop} {w0 w:World} {X:Nat→Prop} {mem:Mem} {ρ:Env} (m:MRep T N w0 w X mem ρ) {b:Nat} (h:owned mem ρ b):N b∧b < w.heap.size:=by
 obtain ⟨r,v,ho,hv,hb⟩:=h
 have hr:=m.blk r
 cases hm:getM mem r with
 | no=>rw [hm] at ho;simp [Blk.own] at ho
 | frz sh l=>rw [hm] at ho;simp [Blk.own] at ho
 | rowx e l i x =>
  rw [hm,hv] at hr
  obtain ⟨b',off,cap,cur,e1,hN,hh,_,_,_,h0,_⟩:=hr
  injection e1 with e1
  subst e1
  simp only [vblock] at hb
  rw [if_neg (by omega)] at hb
  injection hb with hb
  subst hb
  exact ⟨hN,heap_lt hh⟩
 | gen tag k l =>
  rw [hm,hv] at hr
  obtain ⟨v',b',ob,e1,e2,hN,hh,_⟩:=hr
  injection e1 with e1
  subst e1
  rw [e2] at hb
  injection hb with hb
  subst hb
  exact ⟨hN,heap_lt hh⟩
 | iter s p =>
  rw [hm,hv] at hr
  obtain ⟨b',e1,hN,hh⟩:=hr
  injection e1 with e1
  subst e1
  simp only [vblock,Option.some.injEq] at hb
  subst hb
  exact ⟨hN,heap_lt hh⟩
 | chunk t x =>
  rw [hm,hv] at hr
  obtain ⟨i,b',us,ty,_,e,hN,hh,_⟩:=hr
  injection e with e
  subst e
  simp only [vblock,Option.some.injEq] at hb
  subst hb
  exact ⟨hN,heap_lt hh⟩
 | row sh e l =>
  rw [hm,hv] at hr
  obtain ⟨v',e1,hr⟩:=hr
  injection e1 with e1
  subst e1
  rcases hr with ⟨_,rfl,_⟩ | ⟨b',off,cap,cur,rfl,hN,hh,_,_,_,h0,_⟩
  ·cases ‹Option Addr› <;> simp [vblock] at hb
  ·simp only [vblock] at hb
   rw [if_neg (by omega)] at hb
   injection hb with hb
   subst hb
   exact ⟨hN,heap_lt hh⟩
theorem MRep.forb_lt {N:Nat→Prop} {w0 w:World} {X:Nat→Prop} {mem:Mem} {ρ:Env} (m:MRep T N w0 w X mem ρ) {b:Nat} (h:Forb X mem ρ b):b < w.heap.size:=by
 rcases h with h | h
 ·exact (m.low b h).1
 ·exact (m.owned_lt h).2
theorem MRep.grow {N:Nat→Prop} {w0 w w':World} {X:Nat→Prop} {mem:Mem} {ρ:Env} (m:MRep T N w0 w X mem ρ) (hb:Below w.heap.size w w'):MRep T N w0 w' X mem ρ:=by
 have hk:∀ b,b < w.heap.size→¬ Forb X mem ρ b→¬ Forb X mem ρ b∧w'.heap[b]?=w.heap[b]?:=fun b h1 h2=>⟨h2,hb.block b h1⟩
 refine ⟨fun b h=>⟨Nat.lt_of_lt_of_le (m.low b h).1 hb.size,(m.low b h).2⟩,m.below.trans (.of hb),fun b h=>m.szN b (Nat.le_trans hb.size h),fun r=>?_,m.inj,gl_mono m.gl hb.size hk⟩
 have hr:=m.blk r
 cases hm:getM mem r with
 | no=>rw [hm] at hr;exact hr
 | frz sh l =>
  rw [hm] at hr
  obtain ⟨v,h1,h2⟩:=hr
  exact ⟨v,h1,h2.mono hb.size hk⟩
 | rowx e l i x =>
  rw [hm] at hr
  obtain ⟨b,off,cap,cur,h2,h3,h4,h5,h6,h7,h0,h9,hi,h8,hx⟩:=hr
  exact ⟨b,off,cap,cur,h2,h3,by rw [hb.block b (heap_lt h4)];exact h4,h5,h6,h7,h0,h9,hi,fun j h hj=>(h8 j h hj).mono hb.size hk,hx.mono hb.size hk⟩
 | iter s p =>
  rw [hm] at hr
  obtain ⟨b,h1,h2,h3⟩:=hr
  exact ⟨b,h1,h2,by rw [hb.block b (heap_lt h3)];exact h3⟩
 | gen tag k l =>
  rw [hm] at hr
  obtain ⟨v,b,ob,h1,h2,h3,h4,h5⟩:=hr
  exact ⟨v,b,ob,h1,h2,h3,by rw [hb.block b (heap_lt h4)];exact h4,h5⟩
 | chunk t x =>
  rw [hm] at hr
  obtain ⟨i,b,us,ty,h1,h2,h3,h4,h5,h7,h6⟩:=hr
  exact ⟨i,b,us,ty,h1,h2,h3,by rw [hb.block b (heap_lt h4)];exact h4,h5,h7,h6.mono hb.size hk⟩
 | row sh e l =>
  rw [hm] at hr
  obtain ⟨v,h1,h2⟩:=hr
  refine ⟨v,h1,?_⟩
  rcases h2 with h2 | ⟨b,off,cap,cur,h2,h3,h4,h5,h6,h7,h0,h9,h8⟩
  ·exact .inl h2
  ·exact .inr ⟨b,off,cap,cur,h2,h3,by rw [hb.block b (heap_lt h4)];exact h4,h5,h6,h7,h0,h9,fun i h=>(h8 i h).mono hb.size hk⟩
structure Turn (w:World) (Y:Nat→Prop) (ρ:Env) (w':World) (Y':Nat→Prop) (ρ':Env) (d:Option Nat):Prop where
 env:∀ r,ρ' r=none∨ρ' r=ρ r∨d=some r
 size:w.heap.size≤w'.heap.size
 keep:∀ b,b < w.heap.size→¬ Y b→¬ Y' b∧w'.heap[b]?=w.heap[b]?
theorem Turn.refl (w:World) (Y:Nat→Prop) (ρ:Env) (d:Option Nat):Turn w Y ρ w Y ρ d:=⟨fun _=>.inr (.inl rfl),Nat.le_refl _,fun _ _ h=>⟨h,rfl⟩⟩
theorem Turn.den {w w':World} {Y Y':Nat→Prop} {ρ ρ':Env} {d:Option Nat} (t:Turn w Y ρ w' Y' ρ' d) {x:SV} {v:Value} (hn:∀ r,d=some r→noref r x=true) (h:Den w Y ρ x v):Den w' Y' ρ' x v:=by
 refine (h.mono t.size t.keep).env fun r=>?_
 rcases t.env r with e | e | e
 ·exact .inl e
 ·exact .inr (.inl e)
 ·exact .inr (.inr (hn r e))
structure Ok (P:Program) (T:Nat→Option TI) (o:Oper) (e:Operand→SV) (mem:Mem) (x:SV) (mem':Mem):Prop where
 h:∀ (a:Act) (N:Nat→Prop) (w0 w:World) (X:Nat→Prop) (ρ:Env),MRep T N w0 w X mem ρ→(∀ y∈o.op.operands,Den w (Forb X mem ρ) ρ (e y) (a.eval y)) →
  ∀ (K:Act→World→Prop) (Q:Exit→Act→World→Prop),
   (∀ u w' ρ',MRep T N w0 w' X mem' ρ'→Den w' (Forb X mem' ρ') ρ' x u→Turn w (Forb X mem ρ) ρ w' (Forb X mem' ρ') ρ' none→K (a.put o.dst u) w')→o.wp P a w K Q
theorem Ok.of_run {o:Oper} {e:Operand→SV} {mem:Mem} {x:SV}
  (h:∀ (a:Act) (N:Nat→Prop) (w0 w:World) (X:Nat→Prop) (ρ:Env),MRep T N w0 w X mem ρ→(∀ y∈o.op.operands,Den w (Forb X mem ρ) ρ (e y) (a.eval y)) →
    ∃ u w',(execOp a.eval o).run P w=.ok (.value u) w'∧Den w' (Forb X mem ρ) ρ x u∧Below w.heap.size w w'):Ok P T o e mem x mem:=by
 refine ⟨fun a N w0 w X ρ m hd K Q hK=>?_⟩
 obtain ⟨u,w',hr,hx,hb⟩:=h a N w0 w X ρ m hd
 unfold Oper.wp
 rw [hr]
 exact hK u w' ρ (m.grow hb) hx ⟨fun _=>.inr (.inl rfl),hb.size,fun b h1 h2=>⟨h2,hb.block b h1⟩⟩
theorem POk.ok {o:Oper} {e:Operand→SV} {x:SV} (h:POk P o.op e x) (mem:Mem):Ok P T o e mem x mem :=
 .of_run fun a N w0 w X ρ m hd=>by
  obtain ⟨u,hr,hx⟩:=h.h o a w (Forb X mem ρ) ρ rfl hd
  exact ⟨u,w,hr,hx,Below.refl _ _⟩
theorem run_loadCells_at (w:World) (b o:Nat) (us:List Value) (h:∀ j u,us[j]?=some u→w.cell? ⟨b,o+j,none⟩=some u):(loadCells ⟨b,o,none⟩ us.length).run P w=.ok us.toArray w :=
 run_loadCells_list (P:=P) w ⟨b,o,none⟩ us fun j v hv=>by rw [addr_add];exact h j v hv
theorem run_load_at {t:Nat} {i:TI} (tok:TOk P t i) (h1:i.kind.aggB=false→i.size=1) (w:World) (b o:Nat) (us:List Value) (hl:i.size≤us.length) (h:∀ j u,us[j]?=some u→w.cell? ⟨b,o+j,none⟩=some u) :
  (Instr.loadAt t (.pointer (some ⟨b,o,none⟩))).run P w=.ok (valAt i.shape us 0) w:=by
 simp only [Instr.loadAt,Instr.sureAddr,Sem.run_bind,Sem.run_pure,Result.andThen_ok,loadVar,tok.isAgg,TI.shape]
 cases hb:i.kind.aggB
 ·have h0:0 < us.length:=by have:=h1 hb;omega
  simp only [Bool.false_eq_true,if_false,valAt]
  have:=h 0 _ (List.getElem?_eq_getElem h0)
  simp only [Nat.add_zero] at this
  simp [run_load,this,h0]
 ·simp only [if_true,Sem.run_bind,tok.sizeOf,Result.andThen_ok,valAt,Nat.zero_mul,List.drop_zero]
  have hlen:(us.take i.size).length=i.size:=by rw [List.length_take];omega
  have:=run_loadCells_at (P:=P) w b o (us.take i.size) (fun j u hu=>h j u (by
   rw [List.getElem?_take] at hu
   split at hu
   ·exact hu
   ·cases hu))
  rw [hlen] at this
  rw [this]
  simp
end
section
open Go.RowKit
variable {P:Program} {T:Nat→Option TI}
def shEq:Option Nat→Option Nat→Bool
 | none,none=>true
 | some a,some b=>Nat.beq a b
 | _,_=>false
theorem shEq_eq {a b:Option Nat} (h:shEq a b=true):a=b:=by
 cases a <;> cases b <;> simp_all [shEq]
def allPlain:List SV→Bool
 | []=>true
 | x::l=>plainB x && allPlain l
def dataB:SV→Bool
 | .agg l=>allPlain l
 | x=>plainB x
theorem plain_noref {x:SV} (h:plainB x=true) (r:Nat):noref r x=true:=by
 cases x <;> simp_all [plainB,noref]
theorem allPlain_get:∀ {l:List SV},allPlain l=true→∀ (i:Nat) (h:i < l.length),plainB l[i]=true
 | x::l,hl,0,_=>by simp [allPlain] at hl;exact hl.1
 | x::l,hl,i+1,h=>by simp [allPlain] at hl;exact allPlain_get hl.2 i (by simpa using h)
theorem allPlain_noref:∀ {l:List SV},allPlain l=true→∀ r,noref.norefs r l=true
 | [],_,r=>rfl
 | x::l,h,r=>by
  simp [allPlain] at h
  simp [noref.norefs,plain_noref h.1 r,allPlain_noref h.2 r]
theorem data_noref {x:SV} (h:dataB x=true) (r:Nat):noref r x=true:=by
 cases x with
 | agg l=>exact allPlain_noref (by simpa [dataB] using h) r
 | _=>exact plain_noref (by simpa [dataB] using h) r
theorem Den.data {w:World} {X:Nat→Prop} {ρ ρ':Env} {x:SV} {v:Value} (h:Den w X ρ x v) (hd:dataB x=true):Den w X ρ' x v :=
 h.env fun r=>.inr (.inr (data_noref hd r))
def normNil (T:Nat→Option TI) (t:Nat) (x:SV):SV :=
 match x with
 | .nil=>(match T t with
  | some i=>(match i.kind with
   | .slice el=>(match T el with | some j=>.lst j.shape [] | none=>.nil)
   | _=>.nil)
  | none=>.nil)
 | x=>x
theorem normNil_den {w:World} {X:Nat→Prop} {ρ:Env} {t:Nat} {x:SV} {v:Value} (h:Den w X ρ x v):Den w X ρ (normNil T t x) v:=by
 unfold normNil
 split
 ·cases h
  repeat' split
  all_goals first | exact .lst0 _ _ _ _ | exact .nil _
 ·exact h
theorem valAt_some_full {n:Nat} {us:List Value} (h:us.length≤n):valAt (some n) us 0=.agg ⟨us⟩:=by
 simp only [valAt,Nat.zero_mul,List.drop_zero]
 rw [List.take_of_length_le h]
theorem valAt_seg (sh:Option Nat) (us:List Value) (q:Nat) (h:q * wid sh+wid sh≤us.length):valAt sh us q=valAt sh ((us.drop (q * wid sh)).take (wid sh)) 0:=by
 cases sh with
 | none=>simp only [wid,Nat.mul_one] at *;simp [valAt]
 | some n=>simp only [wid] at *;simp [valAt,List.take_take]
def SliceAt (w:World) (Y ok:Nat→Prop) (sh:Option Nat) (l:List SV) (v:Value):Prop :=
 ∃ ad c,v=.slice ad l.length c∧l.length≤c∧(l=[]∨∃ b off us,ad=some ⟨b,off,none⟩∧b < w.heap.size∧ok b∧us.length=l.length * wid sh∧(∀ u∈us,u.oneCell'=true) ∧
  (∀ (j:Nat) (u:Value),us[j]?=some u→w.cell? ⟨b,off+j,none⟩=some u)∧∀ (i:Nat) (h:i < l.length),Den w Y noEnv l[i] (valAt sh us i))
def listB (sh:Option Nat):Blk→Option (List SV)
 | .row s _ l=>if shEq s sh then some l else none
 | .frz s l=>if shEq s sh then some l else none
 | _=>none
def Sees (μ:Nat→Blk) (mem:Mem):Prop:=∀ q,μ q=.no∨μ q=getM mem q
theorem Sees.blk {N:Nat→Prop} {w0 w:World} {X:Nat→Prop} {mem:Mem} {ρ:Env} {μ:Nat→Blk} (hμ:Sees μ mem) (m:MRep T N w0 w X mem ρ) (r:Nat):μ r=.no∨BlkRep T N w (Forb X mem ρ) ρ (μ r) (ρ r):=by
 rcases hμ r with h | h
 ·exact .inl h
 ·rw [h];exact .inr (m.blk r)
noncomputable def listOf (μ:Nat→Blk) (sh:Option Nat):SV→Option (List SV)
 | .lst s l=>if shEq s sh then some l else none
 | .nil=>some []
 | .row r=>listB sh (μ r)
 | .rsl r s a n _=>if shEq s sh then (match listB sh (μ r) with | some l=>some (O.sg l a n) | none=>none) else none
 | _=>none
def liveB:Blk→Bool
 | .row _ _ _=>true
 | _=>false
def live (μ:Nat→Blk):SV→Bool
 | .row r=>liveB (μ r)
 | .rsl r _ _ _ _=>liveB (μ r)
 | .agg l=>lives μ l
 | .tup l=>lives μ l
 | _=>false
where lives (μ:Nat→Blk):List SV→Bool
 | []=>false
 | x::l=>live μ x || lives μ l
theorem valAt_take (sh:Option Nat) (us:List Value) (n i:Nat) (hi:i < n) (h:n * wid sh≤us.length):valAt sh (us.take (n * wid sh)) i=valAt sh us i:=by
 have hq:i * wid sh+wid sh≤n * wid sh:=by rw [← Nat.succ_mul];exact Nat.mul_le_mul_right _ hi
 rw [valAt_seg sh us i (by omega),valAt_seg sh _ i (by rw [List.length_take];omega)]
 congr 1
 apply List.ext_getElem?
 intro j
 simp only [List.getElem?_take,List.getElem?_drop]
 by_cases hj:j < wid sh
 ·rw [if_pos hj,if_pos hj,if_pos (by omega)]
 ·rw [if_neg hj,if_neg hj]
theorem valAt_dropN (sh:Option Nat) (us:List Value) (a i:Nat):valAt sh (us.drop (a * wid sh)) i=valAt sh us (a+i):=by
 cases sh with
 | none=>simp [valAt,wid]
 | some m=>simp only [valAt,wid,List.drop_drop,Nat.add_mul]
theorem SliceAt.part {w:World} {Y ok:Nat→Prop} {sh:Option Nat} {l:List SV} {b off a n c:Nat} {us:List Value} (hb:b < w.heap.size) (hok:ok b) (hlen:us.length=l.length * wid sh) (ho:∀ u∈us,u.oneCell'=true)
  (hu:∀ (j:Nat) (u:Value),us[j]?=some u→w.cell? ⟨b,off+j,none⟩=some u) (h:∀ (i:Nat) (h:i < l.length),Den w Y noEnv l[i] (valAt sh us i)) (han:a+n≤l.length) (hc:n≤c) :
  SliceAt w Y ok sh ((l.drop a).take n) (.slice (some ⟨b,off+a * wid sh,none⟩) n c):=by
 have hl:((l.drop a).take n).length=n:=by simp;omega
 have hm:(a+n) * wid sh≤us.length:=by rw [hlen];exact Nat.mul_le_mul_right _ han
 rw [Nat.add_mul] at hm
 refine ⟨some ⟨b,off+a * wid sh,none⟩,c,by rw [hl],by omega,.inr ⟨b,off+a * wid sh,(us.drop (a * wid sh)).take (n * wid sh),rfl,hb,hok,by rw [hl,List.length_take,List.length_drop];omega,fun u hu=>ho u (List.mem_of_mem_drop (List.mem_of_mem_take hu)),fun j u hj=>?_,fun i hi=>?_⟩⟩
 ·rw [List.getElem?_take] at hj
  split at hj
  ·rw [Nat.add_assoc];exact hu _ u (by simpa using hj)
  ·cases hj
 ·rw [hl] at hi
  rw [valAt_take sh _ n i hi (by rw [List.length_drop];omega),valAt_dropN]
  simpa using h (a+i) (by omega)
theorem SliceAt.nil {w:World} {Y ok:Nat→Prop} {sh:Option Nat} (ad:Option Addr) (c:Nat):SliceAt w Y ok sh [] (.slice ad 0 c):=⟨ad,c,rfl,Nat.zero_le _,.inl rfl⟩
theorem SliceAt.of_lst {w:World} {Y:Nat→Prop} {ok:Nat→Prop} {ρ:Env} {sh:Option Nat} {l:List SV} {v:Value} (h:Den w Y ρ (.lst sh l) v) (hok:∀ b,¬ Y b→ok b):SliceAt w Y ok sh l v:=by
 cases h with
 | lst0 _ _ a cap=>exact .nil a cap
 | lst _ _ _ b off cap us hb hx hc hu hl ho h=>exact ⟨_,cap,rfl,hc,.inr ⟨b,off,us,rfl,hb,hok b hx,hl,ho,hu,h⟩⟩
theorem SliceAt.lst {w:World} {Y Z ok:Nat→Prop} {ρ:Env} {sh:Option Nat} {l:List SV} {v:Value} (h:SliceAt w Y ok sh l v) (hZ:∀ b,b < w.heap.size→¬ Y b→¬ Z b) (hok:∀ b,ok b→¬ Z b):Den w Z ρ (.lst sh l) v:=by
 obtain ⟨ad,c,rfl,hc,h⟩:=h
 rcases h with rfl | ⟨b,off,us,rfl,hb,hob,hl,ho,hu,h⟩
 ·exact .lst0 _ _ _ _
 ·exact .lst _ sh l b off c us hb (hok b hob) hc hu hl ho fun i h1=>(h i h1).mono (Nat.le_refl _) fun b hb hy=>⟨hZ b hb hy,rfl⟩
theorem listB_den {N:Nat→Prop} {w0 w:World} {X:Nat→Prop} {mem:Mem} {ρ:Env} {μ:Nat→Blk} (hμ:Sees μ mem) (m:MRep T N w0 w X mem ρ) {r:Nat} {sh:Option Nat} {l:List SV} (h:listB sh (μ r)=some l) :
  ∃ v,ρ r=some v∧SliceAt w (Forb X mem ρ) (fun b=>¬ Forb X mem ρ b∨(N b∧liveB (μ r)=true)) sh l v:=by
 have hb:=hμ.blk m r
 cases hm:μ r with
 | no=>rw [hm] at h;simp [listB] at h
 | chunk t x=>rw [hm] at h;simp [listB] at h
 | rowx e l i x=>rw [hm] at h;simp [listB] at h
 | iter s p=>rw [hm] at h;simp [listB] at h
 | gen _ _ _=>rw [hm] at h;simp [listB] at h
 | frz s l' =>
  rw [hm] at h hb
  simp only [listB] at h
  split at h
  case isFalse=>cases h
  rename_i hs
  injection h with h;subst h
  have hs:=shEq_eq hs
  subst hs
  obtain ⟨v,h1,h2⟩:=hb.resolve_left (by simp)
  exact ⟨v,h1,.of_lst h2 fun b hb=>.inl hb⟩
 | row s e l' =>
  rw [hm] at h hb
  simp only [listB] at h
  split at h
  case isFalse=>cases h
  rename_i hs
  injection h with h;subst h
  have hs:=shEq_eq hs
  subst hs
  obtain ⟨v,h1,h2⟩:=hb.resolve_left (by simp)
  refine ⟨v,h1,?_⟩
  rcases h2 with ⟨a,rfl,rfl⟩ | ⟨b,off,cap,cur,rfl,h3,h4,h5,h6,h7,h0,h9,h8⟩
  ·exact .nil a 0
  ·have hle:l'.length * wid s≤cap * wid s:=Nat.mul_le_mul_right _ h5
   refine ⟨_,cap,rfl,h5,.inr ⟨b,off,(cur.toList.drop off).take (l'.length * wid s),rfl,heap_lt h4,.inr ⟨h3,rfl⟩,?_,fun u hu=>h9 u (List.mem_of_mem_drop (List.mem_of_mem_take hu)),fun j u hj=>?_,fun i hi=>?_⟩⟩
   ·rw [List.length_take,List.length_drop,Array.length_toList (xs:=cur)];omega
   ·rw [List.getElem?_take] at hj
    split at hj
    ·rw [cell_of_row w b (off+j) cur e (0,0) h4]
     simpa using hj
    ·cases hj
   ·rw [valAt_take s _ l'.length i hi (by rw [List.length_drop,Array.length_toList (xs:=cur)];omega)]
    exact h8 i hi
theorem listOf_den {N:Nat→Prop} {w0 w:World} {X:Nat→Prop} {mem:Mem} {ρ:Env} {μ:Nat→Blk} (hμ:Sees μ mem) (m:MRep T N w0 w X mem ρ) {x:SV} {sh:Option Nat} {l:List SV} {v:Value} (h:listOf μ sh x=some l) (hd:Den w (Forb X mem ρ) ρ x v) :
  SliceAt w (Forb X mem ρ) (fun b=>¬ Forb X mem ρ b∨(N b∧live μ x=true)) sh l v:=by
 cases x with
 | lst s l' =>
  simp only [listOf] at h
  split at h
  case isFalse=>cases h
  rename_i hs
  injection h with h;subst h
  have hs:=shEq_eq hs
  subst hs
  exact .of_lst hd fun b hb=>.inl hb
 | nil=>simp only [listOf] at h;injection h with h;subst h;cases hd;exact .nil _ _
 | row r =>
  simp only [listOf] at h
  obtain ⟨q,h1,h2⟩:=listB_den hμ m h
  cases hd with
  | row _ _ a n c hrow=>rw [← hrow _ h1];exact h2
 | rsl r s a n c =>
  simp only [listOf] at h
  split at h
  case isFalse=>cases h
  rename_i hs
  have hs:=shEq_eq hs
  subst hs
  cases hl:listB s (μ r) with
  | none=>rw [hl] at h;cases h
  | some l' =>
   rw [hl] at h
   injection h with h;subst h
   rw [O.hsg]
   obtain ⟨q,h1,ad,cp,rfl,h3,h4⟩:=listB_den hμ m hl
   cases hd with
   | rsl _ _ _ _ _ _ x cc hc hr =>
    obtain ⟨x0,len,cap,e1,e2,e3,_,_,e6⟩:=((hr _ h1).resolve_right (by rintro ⟨_,h,_⟩;cases h))
    injection e1 with e1 e4 e5
    subst e1;subst e4;subst e5
    by_cases hn:n=0
    ·subst hn
     rw [List.take_zero]
     exact .nil _ _
    ·have hne:l'≠[]:=by rintro rfl;simp at e2;omega
     rcases e6 with e6 | ⟨b,off,rfl,rfl⟩
     ·omega
     ·rcases h4 with rfl | ⟨b',off',us,e7,g1,g2,g3,g6,g4,g5⟩
      ·exact absurd rfl hne
      ·simp only [Option.some.injEq,Addr.mk.injEq,and_true] at e7
       obtain ⟨rfl,rfl⟩:=e7
       exact .part g1 g2 g3 g6 g4 g5 e2 hc
 | _=>simp [listOf] at h
noncomputable def viewC (μ:Nat→Blk):SV→Option SV
 | .row r=>(match μ r with
  | .row sh _ l=>some (.lst sh l)
  | .frz sh l=>some (.lst sh l)
  | _=>none)
 | .rsl r sh a n c=>(match listOf μ sh (.rsl r sh a n c) with | some l=>some (.lst sh l) | none=>none)
 | x=>if plainB x then some x else none
noncomputable def viewCs (μ:Nat→Blk):List SV→Option (List SV)
 | []=>some []
 | x::xs=>(match viewC μ x,viewCs μ xs with
  | some y,some ys=>some (y::ys)
  | _,_=>none)
noncomputable def view (T:Nat→Option TI) (μ:Nat→Blk) (t:Nat) (x:SV):Option SV :=
 match x with
 | .agg l=>(match viewCs μ l with | some l=>some (.agg l) | none=>none)
 | x=>(match viewC μ x with | some y=>some (normNil T t y) | none=>none)
noncomputable def views (T:Nat→Option TI) (μ:Nat→Blk):List Nat→List SV→Option (List SV)
 | [],[]=>some []
 | t::ts,x::xs=>(match view T μ t x,views T μ ts xs with
  | some y,some ys=>some (y::ys)
  | _,_=>none)
 | _,_=>none
theorem viewC_den {N:Nat→Prop} {w0 w:World} {X:Nat→Prop} {mem:Mem} {ρ:Env} {μ:Nat→Blk} (hμ:Sees μ mem) (m:MRep T N w0 w X mem ρ) {Z:Nat→Prop} {x y:SV} {v:Value} (hZ:∀ b,b < w.heap.size→¬ Forb X mem ρ b→¬ Z b)
  (hok:live μ x=true→∀ b,N b→¬ Z b) (hv:viewC μ x=some y) (hd:Den w (Forb X mem ρ) ρ x v):Den w Z noEnv y v:=by
 have go:∀ {sh l},listOf μ sh x=some l→Den w Z noEnv (.lst sh l) v:=by
  intro sh l hl
  obtain ⟨ad,c,h1,h2,h3⟩:=listOf_den hμ m hl hd
  refine SliceAt.lst (Y:=Forb X mem ρ) (ok:=fun b=>¬ Z b) ⟨ad,c,h1,h2,?_⟩ hZ (fun b h=>h)
  rcases h3 with h3 | ⟨b,off,us,e1,e2,e3,e4⟩
  ·exact .inl h3
  ·exact .inr ⟨b,off,us,e1,e2,(e3.elim (hZ b e2) fun h=>hok h.2 b h.1),e4⟩
 have shr:∀ s:Option Nat,shEq s s=true:=by intro s;cases s <;> simp [shEq]
 cases x with
 | row r =>
  simp only [viewC] at hv
  cases hm:μ r with
  | row sh e l=>rw [hm] at hv;injection hv with hv;subst hv;exact go (by simp [listOf,hm,listB,shr])
  | frz sh l=>rw [hm] at hv;injection hv with hv;subst hv;exact go (by simp [listOf,hm,listB,shr])
  | _=>rw [hm] at hv;cases hv
 | rsl r sh a n c =>
  simp only [viewC] at hv
  cases hl:listOf μ sh (.rsl r sh a n c) with
  | some l=>rw [hl] at hv;injection hv with hv;subst hv;exact go hl
  | none=>rw [hl] at hv;cases hv
 | _ =>
  simp only [viewC] at hv
  split at hv
  ·rename_i hp
   injection hv with hv;subst hv
   exact (hd.mono (Nat.le_refl _) fun b h1 h2=>⟨hZ b h1 h2,rfl⟩).env fun q=>.inr (.inr (plain_noref hp q))
  ·cases hv
theorem viewCs_den {N:Nat→Prop} {w0 w:World} {X:Nat→Prop} {mem:Mem} {ρ:Env} {μ:Nat→Blk} (hμ:Sees μ mem) (m:MRep T N w0 w X mem ρ) {Z:Nat→Prop} (hZ:∀ b,b < w.heap.size→¬ Forb X mem ρ b→¬ Z b) :
  ∀ {l l':List SV} {us:List Value},(live.lives μ l=true→∀ b,N b→¬ Z b)→viewCs μ l=some l'→DenL w (Forb X mem ρ) ρ l us→DenL w Z noEnv l' us
 | [],l',us,_,hv,hd=>by
  simp only [viewCs] at hv
  injection hv with hv;subst hv
  exact ⟨hd.1,fun i x u h=>by simp at h⟩
 | x::l,l',us,hok,hv,hd=>by
  simp only [viewCs] at hv
  cases h1:viewC μ x with
  | none=>rw [h1] at hv;cases hv
  | some y =>
   cases h2:viewCs μ l with
   | none=>rw [h1,h2] at hv;cases hv
   | some ys =>
    rw [h1,h2] at hv
    injection hv with hv;subst hv
    cases us with
    | nil=>have:=hd.1;simp at this
    | cons u us =>
     have ih:=viewCs_den hμ m hZ (l:=l) (l':=ys) (us:=us) (fun h=>hok (by simp [live.lives,h])) h2 ⟨by have:=hd.1;simpa using this,fun i x u hx hu=>hd.2 (i+1) x u hx hu⟩
     refine ⟨by simp [ih.1],fun i a b ha hb=>?_⟩
     cases i with
     | zero =>
      simp at ha hb
      subst ha;subst hb
      exact viewC_den hμ m hZ (fun h=>hok (by simp [live.lives,h])) h1 (hd.2 0 _ _ rfl rfl)
     | succ i=>exact ih.2 i a b (by simpa using ha) (by simpa using hb)
theorem view_den {N:Nat→Prop} {w0 w:World} {X:Nat→Prop} {mem:Mem} {ρ:Env} {μ:Nat→Blk} (hμ:Sees μ mem) (m:MRep T N w0 w X mem ρ) {Z:Nat→Prop} {t:Nat} {x y:SV} {v:Value} (hZ:∀ b,b < w.heap.size→¬ Forb X mem ρ b→¬ Z b)
  (hok:live μ x=true→∀ b,N b→¬ Z b) (hv:view T μ t x=some y) (hd:Den w (Forb X mem ρ) ρ x v):Den w Z noEnv y v:=by
 cases x with
 | agg l =>
  simp only [view] at hv
  cases h1:viewCs μ l with
  | none=>rw [h1] at hv;cases hv
  | some l' =>
   rw [h1] at hv
   injection hv with hv;subst hv
   obtain ⟨cs,rfl,hd2⟩:=Den.agg_iff.1 hd
   exact Den.agg_iff.2 ⟨cs,rfl,viewCs_den hμ m hZ hok h1 hd2⟩
 | _ =>
  simp only [view] at hv
  split at hv
  ·rename_i y' h1
   injection hv with hv;subst hv
   exact normNil_den (viewC_den hμ m hZ hok h1 hd)
  ·cases hv
theorem views_den {N:Nat→Prop} {w0 w:World} {X:Nat→Prop} {mem:Mem} {ρ:Env} {μ:Nat→Blk} (hμ:Sees μ mem) (m:MRep T N w0 w X mem ρ) {Z:Nat→Prop} (hZ:∀ b,b < w.heap.size→¬ Forb X mem ρ b→¬ Z b) :
  ∀ {ts:List Nat} {l l':List SV} {us:List Value},(live.lives μ l=true→∀ b,N b→¬ Z b)→views T μ ts l=some l'→DenL w (Forb X mem ρ) ρ l us→DenL w Z noEnv l' us
 | [],[],l',us,_,hv,hd=>by
  simp only [views] at hv
  injection hv with hv;subst hv
  exact ⟨hd.1,fun i x u h=>by simp at h⟩
 | [],_::_,_,_,_,hv,_=>by simp [views] at hv
 | _::_,[],_,_,_,hv,_=>by simp [views] at hv
 | t::ts,x::l,l',us,hok,hv,hd=>by
  simp only [views] at hv
  cases h1:view T μ t x with
  | none=>rw [h1] at hv;cases hv
  | some y =>
   cases h2:views T μ ts l with
   | none=>rw [h1,h2] at hv;cases hv
   | some ys =>
    rw [h1,h2] at hv
    injection hv with hv;subst hv
    cases us with
    | nil=>have:=hd.1;simp at this
    | cons u us =>
     have ih:=views_den hμ m hZ (ts:=ts) (l:=l) (l':=ys) (us:=us) (fun h=>hok (by simp [live.lives,h])) h2 ⟨by have:=hd.1;simpa using this,fun i x u hx hu=>hd.2 (i+1) x u hx hu⟩
     refine ⟨by simp [ih.1],fun i a b ha hb=>?_⟩
     cases i with
     | zero =>
      simp at ha hb
      subst ha;subst hb
      exact view_den hμ m hZ (fun h=>hok (by simp [live.lives,h])) h1 (hd.2 0 _ _ rfl rfl)
     | succ i=>exact ih.2 i a b (by simpa using ha) (by simpa using hb)
def loadE (i:TI) (sh:Option Nat) (y:SV) (o:Nat) (κ:SV→Prop):Prop :=
 if dataB y then (if Nat.beq o 0 && shEq sh i.shape then κ y else (match y,sh with
  | .agg l,some _=>if o+i.size≤l.length then κ (partS i l o) else False
  | _,_=>False)) else False
def rval (T:Nat→Option TI) (op:Op) (e:Operand→SV) (μ:Nat→Blk) (κ:SV→Prop):Prop :=
 match op with
 | .load t x=>(match T t with
  | some i=>(match e x with
   | .ptr r o=>(match μ r with
    | .chunk t' y=>if Nat.beq o 0 && Nat.beq t' t then κ y else (match y with
     | .agg l=>if o+i.size≤l.length then κ (partS i l o) else False
     | _=>False)
    | _=>False)
   | .eptr sh y o=>loadE i sh y o κ
   | .rptr r sh j o=>(match listB sh (μ r) with
    | some l=>QV (fun y=>l[j]?=some y) (fun y=>loadE i sh y o κ)
    | none=>False)
   | .cel y=>(match i.shape with | none=>κ y | some _=>False)
   | _=>False)
  | none=>False)
 | .indexAddr t x ix=>(match T t with
  | some i=>(match i.kind with
   | .slice el=>(match T el,e ix with
    | some j,.int _ n=>(match listOf μ j.shape (e x) with
     | some l=>(match e x with
      | .row r=>(match μ r with
       | .row _ _ _=>QV (fun (q:Nat)=>n=(q:Int)∧q < O.ln l) (fun q=>κ (.rptr r j.shape q 0))
       | _=>QV (fun (q:Nat × SV)=>n=(q.1:Int)∧l[q.1]?=some q.2) (fun q=>κ (.eptr j.shape q.2 0)))
      | .rsl r _ a _ _=>QV (fun (q:Nat)=>n=(q:Int)∧q < O.ln l) (fun q=>κ (.rptr r j.shape (a+q) 0))
      | _=>QV (fun (q:Nat × SV)=>n=(q.1:Int)∧l[q.1]?=some q.2) (fun q=>κ (.eptr j.shape q.2 0)))
     | none=>False)
    | _,_=>False)
   | .array n el=>(match T el,e ix with
    | some j,.int _ k=>(match e x with
     | .ptr r o=>QV (fun (q:Nat)=>k=(q:Int)∧q < n) (fun q=>κ (.ptr r (o+q * j.size)))
     | .eptr s y o=>QV (fun (q:Nat)=>k=(q:Int)∧q < n) (fun q=>κ (.eptr s y (o+q * j.size)))
     | .rptr r s i o=>QV (fun (q:Nat)=>k=(q:Int)∧q < n) (fun q=>κ (.rptr r s i (o+q * j.size)))
     | _=>False)
    | _,_=>False)
   | _=>False)
  | none=>False)
 | .call c=>(match c.callee with
  | .builtin .len=>(match c.argTypes.toList,c.args.toList with
   | [t],[x]=>(match T t with
    | some i=>(match i.kind,e x with
     | .slice el,y=>(match T el with
      | some j=>(match y with
       | .nil=>κ (.int .i64 0)
       | .rsl r s a n c=>(match listOf μ j.shape (.rsl r s a n c) with | some _=>Q1 (fun _=>True) (fun z=>z=n) (fun z=>κ (.int .i64 z)) | none=>False)
       | y=>(match listOf μ j.shape y with | some l=>Q1 (fun _=>True) (fun z=>z=O.ln l) (fun z=>κ (.int .i64 z)) | none=>False))
      | none=>False)
     | .string,.str s=>Q1 (fun _=>True) (fun z=>z=s.size) (fun z=>κ (.int .i64 z))
     | _,_=>False)
    | none=>False)
   | _,_=>False)
  | _=>False)
 | _=>False
end
section
open Go.RowKit
variable {P:Program} {T:Nat→Option TI}
theorem load_part (tys:Types P T) (sz:Sizes T) {t:Nat} {i:TI} (ht:T t=some i) {w:World} {Y:Nat→Prop} {ρ:Env} {l:List SV} {us:List Value} (hd:DenL w Y ρ l us) {o:Nat} (ho:o+i.size≤l.length)
  (b o':Nat) (hc:∀ j u,us[j]?=some u→w.cell? ⟨b,o'+j,none⟩=some u) :
  ∃ u,(Instr.loadAt t (.pointer (some ⟨b,o'+o,none⟩))).run P w=.ok u w∧Den w Y ρ (partS i l o) u:=by
 refine ⟨_,run_load_at (tys.ok t i ht) (sz.one t i ht) w b (o'+o) (us.drop o) (by have:=hd.1;rw [List.length_drop];omega) (fun j u hu=>?_),partS_den hd ho (sz.one t i ht)⟩
 rw [Nat.add_assoc]
 exact hc (o+j) u (by simpa using hu)
theorem loadE_ok (tys:Types P T) (sz:Sizes T) {t:Nat} {i:TI} (ht:T t=some i) {sh:Option Nat} {y:SV} {o:Nat} {κ:SV→Prop} (h:loadE i sh y o κ) :
  ∃ x,κ x∧∀ (w:World) (Y:Nat→Prop) (ρ ρ':Env) (us:List Value) (b o':Nat),us.length=wid sh→Den w Y ρ' y (valAt sh us 0)→(∀ (j:Nat) (u:Value),us[j]?=some u→w.cell? ⟨b,o'+j,none⟩=some u) →
   ∃ u,(Instr.loadAt t (.pointer (some ⟨b,o'+o,none⟩))).run P w=.ok u w∧Den w Y ρ x u:=by
 unfold loadE at h
 split at h
 case isFalse=>exact h.elim
 rename_i hdat
 split at h
 ·rename_i hc
  simp only [Bool.and_eq_true] at hc
  have h0:o=0:=Nat.eq_of_beq_eq_true hc.1
  have hs:=shEq_eq hc.2
  refine ⟨y,h,fun w Y ρ ρ' us b o' hl hd hcell=>⟨_,?_,hd.data hdat⟩⟩
  subst h0;subst hs
  rw [Nat.add_zero]
  exact run_load_at (tys.ok t i ht) (sz.one t i ht) w b o' us (by rw [hl,← TI.wid_size (sz.one t i ht)];exact Nat.le_refl _) hcell
 ·split at h <;> try exact h.elim
  rename_i l n
  split at h
  ·rename_i hlen
   refine ⟨_,h,fun w Y ρ ρ' us b o' hl hd hcell=>?_⟩
   have hd:=hd.data (ρ':=ρ) hdat
   rw [valAt_some_full (by simp only [wid] at hl;omega)] at hd
   obtain ⟨cs,e,hd⟩:=Den.agg_iff.1 hd
   injection e with e
   injection e with e
   subst e
   exact load_part tys sz ht hd hlen b o' hcell
  ·exact h.elim
theorem run_index_slice (tys:Types P T) {t el:Nat} {i j:TI} (ht:T t=some i) (hk:i.kind=.slice el) (he:T el=some j) (k:IntKind) (b off len cap q:Nat) (hq:q < len) (w:World) :
  (Instr.indexAt t (.slice (some ⟨b,off,none⟩) len cap) (.int k (q:Int))).run P w=.ok (.pointer (some ⟨b,off+q * j.size,none⟩)) w:=by
 have hu:=(tys.ok t i ht).und_slice hk
 have hs:=(tys.ok el j he).sizeOf w
 simp only [Instr.indexAt,asIntOf,Sem.run_bind,Sem.run_pure,Result.andThen_ok,run_underlying hu]
 rw [if_pos ⟨by omega,by omega⟩]
 simp [hs,addr_add]
structure RdOk (P:Program) (T:Nat→Option TI) (o:Oper) (e:Operand→SV) (μ:Nat→Blk) (x:SV):Prop where
 h:∀ (mem:Mem),Sees μ mem→∀ (a:Act) (N:Nat→Prop) (w0 w:World) (X:Nat→Prop) (ρ:Env),MRep T N w0 w X mem ρ→(∀ y∈o.op.operands,Den w (Forb X mem ρ) ρ (e y) (a.eval y)) →
  ∃ u,(execOp a.eval o).run P w=.ok (.value u) w∧Den w (Forb X mem ρ) ρ x u
theorem load_ok (tys:Types P T) (sz:Sizes T) {o:Oper} {t:Nat} {x:Operand} (ho:o.op=.load t x) {e:Operand→SV} {μ:Nat→Blk} {κ:SV→Prop} (h:rval T (.load t x) e μ κ):∃ v,κ v∧RdOk P T o e μ v:=by
 have key:∀ v,(∀ (mem:Mem),Sees μ mem→∀ (a:Act) (N:Nat→Prop) (w0 w:World) (X:Nat→Prop) (ρ:Env),MRep T N w0 w X mem ρ→Den w (Forb X mem ρ) ρ (e x) (a.eval x) →
   ∃ u,(Instr.loadAt t (a.eval x)).run P w=.ok u w∧Den w (Forb X mem ρ) ρ v u)→RdOk P T o e μ v:=by
  intro v hv
  refine ⟨fun mem hμ a N w0 w X ρ m hd=>?_⟩
  obtain ⟨u,hr,hd'⟩:=hv mem hμ a N w0 w X ρ m (hd x (by simp [ho,Op.operands]))
  exact ⟨u,by simp only [execOp,ho,Sem.run_bind,hr,Result.andThen_ok,Sem.run_pure],hd'⟩
 simp only [rval] at h
 cases ht:T t with
 | none=>simp only [ht] at h
 | some i =>
  simp only [ht] at h
  split at h <;> try exact h.elim
  ·rename_i r off hx
   split at h <;> try exact h.elim
   rename_i t' y hm
   have base:∀ (mem:Mem),Sees μ mem→∀ (a:Act) (N:Nat→Prop) (w0 w:World) (X:Nat→Prop) (ρ:Env),MRep T N w0 w X mem ρ→Den w (Forb X mem ρ) ρ (e x) (a.eval x) →
     ∃ i' b us,T t'=some i'∧us.length=i'.size∧(∀ u∈us,u.oneCell'=true)∧Den w (Forb X mem ρ) ρ y (valAt i'.shape us 0)∧a.eval x=.pointer (some ⟨b,off,none⟩)∧∀ (j:Nat) (u:Value),us[j]?=some u→w.cell? ⟨b,j,none⟩=some u:=by
    intro mem hμ a N w0 w X ρ m hd
    have hb:=hμ.blk m r
    rw [hm] at hb
    obtain ⟨i',b,us,ty,h1,h2,h3,h4,h5,h7,h6⟩:=hb.resolve_left (by simp)
    rw [hx] at hd
    generalize hev:a.eval x=v at hd
    cases hd with
    | ptr _ _ _ b' hb' =>
     have:=hb' _ h2
     simp only [Value.pointer.injEq,Option.some.injEq,Addr.mk.injEq,and_true] at this
     subst this
     exact ⟨i',b,us.toList,h1,by simpa using h5,h7,h6,rfl,fun j u hu=>by rw [cell_of_row w b j us ty (0,0) h4];simpa using hu⟩
   split at h
   ·rename_i hc
    simp only [Bool.and_eq_true] at hc
    have h0:off=0:=Nat.eq_of_beq_eq_true hc.1
    have h1:t'=t:=Nat.eq_of_beq_eq_true hc.2
    refine ⟨y,h,key y fun mem hμ a N w0 w X ρ m hd=>?_⟩
    obtain ⟨i',b,us,e1,e2,e3,e4,e5,e6⟩:=base mem hμ a N w0 w X ρ m hd
    subst h0;subst h1
    rw [ht] at e1
    injection e1 with e1
    subst e1
    rw [e5]
    exact ⟨_,run_load_at (tys.ok t' i ht) (sz.one t' i ht) w b 0 us (by omega) (fun j u hu=>by rw [Nat.zero_add];exact e6 j u hu),e4⟩
   ·split at h <;> try exact h.elim
    rename_i l
    split at h
    ·rename_i hlen
     refine ⟨_,h,key _ fun mem hμ a N w0 w X ρ m hd=>?_⟩
     obtain ⟨i',b,us,e1,e2,e3,e4,e5,e6⟩:=base mem hμ a N w0 w X ρ m hd
     have hd':DenL w (Forb X mem ρ) ρ l us:=by
      cases hs:i'.shape with
      | none =>
       rw [hs] at e4
       obtain ⟨cs,e7,_⟩:=Den.agg_iff.1 e4
       simp only [valAt] at e7
       cases hu:us[0]? with
       | none=>rw [hu] at e7;simp [undef] at e7
       | some u =>
        rw [hu] at e7
        have:=e3 u (List.mem_of_getElem? hu)
        simp only [Option.getD_some] at e7
        rw [e7] at this
        simp [Value.oneCell'] at this
      | some n =>
       rw [hs] at e4
       have hn:n=i'.size:=by
        have:=TI.wid_size (sz.one _ _ e1)
        rw [hs] at this
        exact this.symm
       rw [valAt_some_full (by omega)] at e4
       obtain ⟨cs,e7,hcs⟩:=Den.agg_iff.1 e4
       injection e7 with e7
       injection e7 with e7
       subst e7
       exact hcs
     rw [e5]
     have:=load_part tys sz ht hd' hlen b 0 (fun j u hu=>by rw [Nat.zero_add];exact e6 j u hu)
     rw [Nat.zero_add] at this
     exact this
    ·exact h.elim
  ·rename_i sh y off hx
   obtain ⟨v,hκ,hv⟩:=loadE_ok tys sz ht h
   refine ⟨v,hκ,key v fun mem hμ a N w0 w X ρ m hd=>?_⟩
   rw [hx] at hd
   generalize hev:a.eval x=q at hd
   cases hd with
   | eptr _ _ _ _ b o us hb hx' hu hl hy=>exact hv w _ ρ _ us b o hl hy hu
  ·rename_i r sh j off hx
   split at h <;> try exact h.elim
   rename_i l hm
   obtain ⟨y,hy,h⟩:=h.h
   obtain ⟨v,hκ,hv⟩:=loadE_ok tys sz ht h
   refine ⟨v,hκ,key v fun mem hμ a N w0 w X ρ m hd=>?_⟩
   obtain ⟨rv,e1,ad,cp,rfl,h2,h3⟩:=listB_den hμ m hm
   rw [hx] at hd
   generalize hev:a.eval x=q at hd
   obtain ⟨hj,rfl⟩:=List.getElem?_eq_some_iff.1 hy
   rcases h3 with rfl | ⟨b,o1,us,rfl,g1,g2,g3,g6,g4,g5⟩
   ·simp at hj
   ·cases hd with
    | rptr _ _ _ _ _ b' o' hb' =>
     obtain ⟨len,cap',e2⟩:=hb' _ e1
     simp only [Value.slice.injEq,Option.some.injEq,Addr.mk.injEq,and_true] at e2
     obtain ⟨⟨rfl,rfl⟩,_,_⟩:=e2
     have hle:j * wid sh+wid sh≤us.length:=by
      rw [g3,← Nat.succ_mul]
      exact Nat.mul_le_mul_right _ (by omega)
     refine hv w _ ρ noEnv ((us.drop (j * wid sh)).take (wid sh)) b (o1+j * wid sh) (by simp;omega) ?_ (fun k u hu=>?_)
     ·rw [← valAt_seg _ _ _ hle]
      exact g5 j hj
     ·rw [List.getElem?_take] at hu
      split at hu
      ·rw [Nat.add_assoc]
       exact g4 _ u (by simpa using hu)
      ·cases hu
  ·rename_i y hx
   split at h <;> try exact h.elim
   rename_i hsh
   refine ⟨y,h,key y fun mem hμ a N w0 w X ρ m hd=>?_⟩
   rw [hx] at hd
   generalize hev:a.eval x=q at hd
   cases hd with
   | cel _ _ b o1 u hb hx' hu hy =>
    have hsz:i.size=1:=by
     have:=TI.wid_size (sz.one t i ht)
     rw [hsh] at this
     exact this
    have:=run_load_at (P:=P) (tys.ok t i ht) (sz.one t i ht) w b o1 [u] (by simp [hsz]) (fun j u' hj=>by
     cases j with
     | zero=>simp at hj;subst hj;exact hu
     | succ j=>simp at hj)
    refine ⟨_,this,?_⟩
    rw [hsh]
    simpa [valAt] using hy
theorem idx_ok (tys:Types P T) (sz:Sizes T) {o:Oper} {t:Nat} {x ix:Operand} (ho:o.op=.indexAddr t x ix) {e:Operand→SV} {μ:Nat→Blk} {κ:SV→Prop} (h:rval T (.indexAddr t x ix) e μ κ):∃ v,κ v∧RdOk P T o e μ v:=by
 have key:∀ v,(∀ (mem:Mem),Sees μ mem→∀ (a:Act) (N:Nat→Prop) (w0 w:World) (X:Nat→Prop) (ρ:Env),MRep T N w0 w X mem ρ→Den w (Forb X mem ρ) ρ (e x) (a.eval x)→Den w (Forb X mem ρ) ρ (e ix) (a.eval ix) →
   ∃ u,(Instr.indexAt t (a.eval x) (a.eval ix)).run P w=.ok u w∧Den w (Forb X mem ρ) ρ v u)→RdOk P T o e μ v:=by
  intro v hv
  refine ⟨fun mem hμ a N w0 w X ρ m hd=>?_⟩
  obtain ⟨u,hr,hd'⟩:=hv mem hμ a N w0 w X ρ m (hd x (by simp [ho,Op.operands])) (hd ix (by simp [ho,Op.operands]))
  exact ⟨u,by simp only [execOp,ho,Sem.run_bind,hr,Result.andThen_ok,Sem.run_pure],hd'⟩
 simp only [rval] at h
 cases ht:T t with
 | none=>simp only [ht] at h
 | some i =>
  simp only [ht] at h
  simp only [O.hln] at h
  split at h <;> try exact h.elim
  rotate_left
  ·rename_i n el hk
   split at h <;> try exact h.elim
   rename_i j k m he hix
   have run:∀ (w:World) (b o:Nat) (q:Nat),q < n→(Instr.indexAt t (.pointer (some ⟨b,o,none⟩)) (.int k (q:Int))).run P w=.ok (.pointer (some ⟨b,o+q * j.size,none⟩)) w:=by
    intro w b o q hq
    have hu:=(tys.ok t i ht).und_array hk
    have hs:=(tys.ok el j he).sizeOf w
    simp only [Instr.indexAt,asIntOf,Sem.run_bind,Sem.run_pure,Result.andThen_ok,run_underlying hu,Instr.sureAddr]
    rw [if_pos ⟨by omega,by omega⟩]
    simp [hs,addr_add]
   split at h <;> try exact h.elim
   ·rename_i r o hx
    obtain ⟨q,⟨hn,hq⟩,h⟩:=h.h
    refine ⟨_,h,key _ fun mem hμ a N w0 w X ρ m hd hdi=>?_⟩
    rw [hx] at hd
    rw [hix,Den.int_iff] at hdi
    rw [hdi,hn]
    generalize a.eval x=v at hd
    cases hd with
    | ptr _ _ _ b hb=>exact ⟨_,run w b o q hq,.ptr _ _ _ b hb⟩
   ·rename_i s y o hx
    obtain ⟨q,⟨hn,hq⟩,h⟩:=h.h
    refine ⟨_,h,key _ fun mem hμ a N w0 w X ρ m hd hdi=>?_⟩
    rw [hx] at hd
    rw [hix,Den.int_iff] at hdi
    rw [hdi,hn]
    generalize a.eval x=v at hd
    cases hd with
    | eptr _ _ _ _ b o1 us g1 g2 g3 g4 g5=>exact ⟨_,run w b (o1+o) q hq,by rw [Nat.add_assoc];exact .eptr _ _ _ _ b o1 us g1 g2 g3 g4 g5⟩
   ·rename_i r s i' o hx
    obtain ⟨q,⟨hn,hq⟩,h⟩:=h.h
    refine ⟨_,h,key _ fun mem hμ a N w0 w X ρ m hd hdi=>?_⟩
    rw [hx] at hd
    rw [hix,Den.int_iff] at hdi
    rw [hdi,hn]
    generalize a.eval x=v at hd
    cases hd with
    | rptr _ _ _ _ _ b o1 hb=>exact ⟨_,run w b (o1+i' * wid s+o) q hq,by rw [Nat.add_assoc];exact .rptr _ _ _ _ _ b o1 hb⟩
  rename_i el hk
  split at h <;> try exact h.elim
  rename_i j k n he hix
  have hw:=TI.wid_size (sz.one _ _ he)
  split at h <;> try exact h.elim
  rename_i l hl
  have onList:(live μ (e x)=true→False)→∀ (q:Nat) (y:SV),n=(q:Int)→l[q]?=some y→RdOk P T o e μ (.eptr j.shape y 0):=by
   intro hlive q y hn hy
   refine key _ fun mem hμ a N w0 w X ρ m hd hdi=>?_
   obtain ⟨ad,c,h1,h2,h3⟩:=listOf_den hμ m hl hd
   rw [hix,Den.int_iff] at hdi
   rw [hdi,hn,h1]
   obtain ⟨hq,rfl⟩:=List.getElem?_eq_some_iff.1 hy
   rcases h3 with rfl | ⟨b,off,us,rfl,g1,g2,g3,g6,g4,g5⟩
   ·simp at hq
   ·have hx:¬ Forb X mem ρ b:=g2.resolve_right fun h=>hlive h.2
    refine ⟨_,run_index_slice tys ht hk he k b off l.length c q hq w,?_⟩
    have hle:q * wid j.shape+wid j.shape≤us.length:=by
     rw [g3,← Nat.succ_mul]
     exact Nat.mul_le_mul_right _ (by omega)
    have:=Den.eptr (w:=w) (X:=Forb X mem ρ) ρ j.shape l[q] 0 b (off+q * wid j.shape) ((us.drop (q * wid j.shape)).take (wid j.shape)) g1 hx (fun k u hu'=>?_) (by simp;omega) (by rw [← valAt_seg _ _ _ hle];exact g5 q hq)
    ·rw [hw]
     exact this
    ·rw [List.getElem?_take] at hu'
     split at hu'
     ·rw [Nat.add_assoc]
      exact g4 _ u (by simpa using hu')
     ·cases hu'
  have onRow:∀ (r a0:Nat),(∀ (mem:Mem),Sees μ mem→∀ (a:Act) (N:Nat→Prop) (w0 w:World) (X:Nat→Prop) (ρ:Env),MRep T N w0 w X mem ρ→Den w (Forb X mem ρ) ρ (e x) (a.eval x)→∀ ad c,a.eval x=.slice ad l.length c→l≠[]→∃ b o len cap,ρ r=some (.slice (some ⟨b,o,none⟩) len cap)∧ad=some ⟨b,o+a0 * wid j.shape,none⟩) →
    ∀ (q:Nat),n=(q:Int)→q < l.length→RdOk P T o e μ (.rptr r j.shape (a0+q) 0):=by
   intro r a0 hr q hn hq
   refine key _ fun mem hμ a N w0 w X ρ m hd hdi=>?_
   obtain ⟨ad,c,h1,h2,h3⟩:=listOf_den hμ m hl hd
   rw [hix,Den.int_iff] at hdi
   have hne:l≠[]:=by rintro rfl;simp at hq
   obtain ⟨b,o1,len,cap,e1,e2⟩:=hr mem hμ a N w0 w X ρ m hd ad c h1 hne
   rw [hdi,hn,h1,e2]
   refine ⟨_,run_index_slice tys ht hk he k b _ l.length c q hq w,?_⟩
   have:=Den.rptr (w:=w) (X:=Forb X mem ρ) ρ r j.shape (a0+q) 0 b o1 (fun v hv=>by rw [e1] at hv;injection hv with hv;subst hv;exact ⟨_,_,rfl⟩)
   rw [Nat.add_zero,Nat.add_mul,← Nat.add_assoc] at this
   rw [hw]
   exact this
  cases hx:e x with
  | row r =>
   simp only [hx] at h hl
   cases hm:μ r with
   | row sh' el' l' =>
    simp only [hm] at h
    obtain ⟨q,⟨hn,hq⟩,h⟩:=h.h
    have:=onRow r 0 (fun mem hμ a N w0 w X ρ m hd ad c h1 hne=>by
     simp only [listOf] at hl
     obtain ⟨rv,e1,ad',cp,rfl,g2,g3⟩:=listB_den hμ m hl
     rw [hx] at hd
     generalize a.eval x=v at hd h1
     cases hd with
     | row _ _ a' n' c' hrow =>
      have e2:=hrow _ e1
      rcases g3 with rfl | ⟨b,off,us,rfl,_⟩
      ·exact absurd rfl hne
      ·simp only [Value.slice.injEq] at e2 h1
       obtain ⟨rfl,rfl,rfl⟩:=e2
       obtain ⟨rfl,_,rfl⟩:=h1
       exact ⟨b,off,_,_,e1,by simp⟩) q hn hq
    rw [Nat.zero_add] at this
    exact ⟨_,h,this⟩
   | frz sh' l' =>
    simp only [hm] at h
    obtain ⟨⟨q,y⟩,⟨hn,hy⟩,h⟩:=h.h
    exact ⟨_,h,onList (by rw [hx];simp [live,hm,liveB]) q y hn hy⟩
   | _=>rw [listOf,hm] at hl;simp [listB] at hl
  | rsl r s a0 n0 c0 =>
   simp only [hx] at h hl
   obtain ⟨q,⟨hn,hq⟩,h⟩:=h.h
   refine ⟨_,h,onRow r a0 (fun mem hμ a N w0 w X ρ m hd ad c h1 hne=>?_) q hn hq⟩
   simp only [listOf] at hl
   split at hl
   case isFalse=>cases hl
   rename_i hs
   have hs:=shEq_eq hs
   subst hs
   split at hl
   case h_2=>cases hl
   rename_i l' hl'
   injection hl with hl
   rw [O.hsg] at hl
   obtain ⟨rv,e1,ad',cp,rfl,g2,g3⟩:=listB_den hμ m hl'
   rw [hx] at hd
   generalize a.eval x=v at hd h1
   cases hd with
   | rsl _ _ _ _ _ _ x cc hc hr =>
    obtain ⟨x0,len,cap,e3,e4,e5,_,_,e6⟩:=((hr _ e1).resolve_right (by rintro ⟨_,h,_⟩;cases h))
    injection e3 with e3 e7 e8
    subst e3;subst e7;subst e8
    injection h1 with h1 h9 h10
    subst h1;subst h10
    rcases e6 with e6 | ⟨b,off,rfl,rfl⟩
    ·exfalso
     apply hne
     obtain rfl:n0=0:=by omega
     rw [← hl]
     simp
    ·exact ⟨b,off,_,_,e1,rfl⟩
  | lst s l' =>
   simp only [hx] at h
   obtain ⟨⟨q,y⟩,⟨hn,hy⟩,h⟩:=h.h
   exact ⟨_,h,onList (by rw [hx];simp [live]) q y hn hy⟩
  | nil =>
   simp only [hx] at h
   obtain ⟨⟨q,y⟩,⟨hn,hy⟩,h⟩:=h.h
   exact ⟨_,h,onList (by rw [hx];simp [live]) q y hn hy⟩
  | _=>rw [hx] at hl;simp [listOf] at hl
theorem len_ok (tys:Types P T) {o:Oper} {cl:Call} (hc:cl.callee=.builtin .len) (ho:o.op=.call cl) {e:Operand→SV} {μ:Nat→Blk} {κ:SV→Prop} (h:rval T (.call cl) e μ κ):∃ v,κ v∧RdOk P T o e μ v:=by
 obtain ⟨cal,args,ats⟩:=cl
 simp only at hc
 subst hc
 simp only [rval] at h
 split at h <;> try exact h.elim
 rename_i t x hat har
 obtain rfl:args=#[x]:=by apply Array.ext';simpa using har
 obtain rfl:ats=#[t]:=by apply Array.ext';simpa using hat
 have key:∀ v,(∀ (mem:Mem),Sees μ mem→∀ (a:Act) (N:Nat→Prop) (w0 w:World) (X:Nat→Prop) (ρ:Env),MRep T N w0 w X mem ρ→Den w (Forb X mem ρ) ρ (e x) (a.eval x) →
   ∃ u,(Builtin.len_ #[t] o.type #[a.eval x]).run P w=.ok u w∧Den w (Forb X mem ρ) ρ v u)→RdOk P T o e μ v:=by
  intro v hv
  refine ⟨fun mem hμ a N w0 w X ρ m hd=>?_⟩
  obtain ⟨u,hr,hd'⟩:=hv mem hμ a N w0 w X ρ m (hd x (by simp [ho,Op.operands,Call.operands]))
  refine ⟨u,?_,hd'⟩
  simp [execOp,ho,resolve,invoke,builtin,hr]
 cases ht:T t with
 | none=>simp only [ht] at h
 | some i =>
  simp only [ht] at h
  have tok:=tys.ok t i ht
  simp only [O.hln] at h
  have go:∀ el,i.kind=.slice el→∀ (sh:Option Nat) (y:SV) (l:List SV),e x=y→listOf μ sh y=some l→RdOk P T o e μ (.int .i64 l.length):=by
   intro el hk sh y l hy hl
   refine key _ fun mem hμ a N w0 w X ρ m hd=>?_
   rw [hy] at hd
   obtain ⟨ad,c,h1,h2,h3⟩:=listOf_den hμ m hl hd
   rw [h1]
   exact ⟨_,by simp [Builtin.len_,goInt,run_underlying (tok.und_slice hk)],.int _ _ _⟩
  split at h <;> try exact h.elim
  ·rename_i el hk
   split at h <;> try exact h.elim
   rename_i j hj
   split at h
   ·rename_i hx'
    exact ⟨_,h,go el hk none .nil [] hx' rfl⟩
   ·rename_i r s a n c hx'
    split at h <;> try exact h.elim
    rename_i l hl
    refine ⟨_,h.h.2 _ rfl,key _ fun mem hμ ac N w0 w X ρ m hd=>?_⟩
    rw [hx'] at hd
    generalize ac.eval x=v at hd
    cases hd with
    | rsl=>exact ⟨_,by simp [Builtin.len_,goInt,run_underlying (tok.und_slice hk)],.int _ _ _⟩
   ·rename_i y' hn1 hn2
    split at h <;> try exact h.elim
    rename_i l hl
    exact ⟨_,h.h.2 _ rfl,go el hk _ _ l rfl hl⟩
  ·rename_i s hk hx
   refine ⟨_,h.h.2 _ rfl,key _ fun mem hμ a N w0 w X ρ m hd=>?_⟩
   rw [hx,Den.str_iff] at hd
   rw [hd]
   exact ⟨_,by simp [Builtin.len_,goInt,run_underlying (tok.und_string hk)],.int _ _ _⟩
theorem rval_ok (tys:Types P T) (sz:Sizes T) {o:Oper} {e:Operand→SV} {μ:Nat→Blk} {κ:SV→Prop} (h:rval T o.op e μ κ):∃ v,κ v∧RdOk P T o e μ v:=by
 generalize ho:o.op=op at h
 cases op
 case load t x=>exact load_ok tys sz ho h
 case indexAddr t x ix=>exact idx_ok tys sz ho h
 case call c =>
  cases hc:c.callee with
  | builtin b =>
   cases b
   case len=>exact len_ok tys hc ho h
   all_goals simp only [rval,hc] at h
  | _=>simp only [rval,hc] at h
 all_goals exact h.elim
end
section
open Go.RowKit
variable {P:Program} {T:Nat→Option TI}
def bNoref (d:Nat):Blk→Bool
 | .chunk _ x=>noref d x
 | .rowx _ _ _ x=>noref d x
 | _=>true
def memNoref (d:Nat):Mem→Bool
 | []=>true
 | (_,b)::l=>bNoref d b && memNoref d l
theorem memNoref_get {d:Nat}:∀ {l:Mem},memNoref d l=true→∀ r,bNoref d (getM l r)=true
 | [],_,r=>by simp [getM,bNoref]
 | (k,b)::l,h,r=>by
  simp only [memNoref,Bool.and_eq_true] at h
  simp only [getM]
  split
  ·exact h.1
  ·exact memNoref_get h.2 r
theorem memNoref_set {d:Nat} {b:Blk} (hb:bNoref d b=true):∀ {l:Mem} {r:Nat},memNoref d l=true→memNoref d (setM b l r)=true
 | [],r,_=>by simp [setM,memNoref,hb]
 | (k,c)::l,r,h=>by
  simp only [memNoref,Bool.and_eq_true] at h
  simp only [setM]
  split
  ·simp [memNoref,h.1,memNoref_set hb h.2]
  ·split
   ·simp [memNoref,hb,h.2]
   ·simp [memNoref,hb,h.1,h.2]
theorem getN_setN {A:Type} (d v:A):∀ (l:List A) (i j:Nat),i < l.length→getN d (setN v l i) j=if j=i then v else getN d l j
 | [],i,j,h=>by simp at h
 | a::l,0,0,_=>by simp [setN,getN]
 | a::l,0,j+1,_=>by simp [setN,getN]
 | a::l,i+1,0,_=>by simp [setN,getN]
 | a::l,i+1,j+1,h=>by simp [setN,getN,getN_setN d v l i j (by simpa using h)]
theorem setN_length {A:Type} (v:A) (l:List A) (i:Nat):(setN v l i).length=l.length:=by rw [setN_eq];simp
theorem BlkRep.lift {N:Nat→Prop} {w w':World} {Y Y':Nat→Prop} {ρ ρ':Env} {d:Option Nat} (t:Turn w Y ρ w' Y' ρ' d) {B:Blk} {o:Option Value} (hn:∀ r,d=some r→bNoref r B=true)
  (hb:∀ v b,o=some v→vblock v=some b→B.own=true→w'.heap[b]?=w.heap[b]?) (h:BlkRep T N w Y ρ B o):BlkRep T N w' Y' ρ' B o:=by
 cases B with
 | no=>exact h
 | frz sh l =>
  obtain ⟨v,h1,h2⟩:=h
  exact ⟨v,h1,h2.mono t.size t.keep⟩
 | rowx e l i x =>
  obtain ⟨b,off,cap,cur,h2,h3,h4,h5,h6,h7,h0,h9,hi,h8,hx⟩:=h
  exact ⟨b,off,cap,cur,h2,h3,by rw [hb _ b h2 (by simp only [vblock];rw [if_neg (by omega)]) rfl];exact h4,h5,h6,h7,h0,h9,hi,fun j h hj=>(h8 j h hj).mono t.size t.keep,t.den (fun r hr=>hn r hr) hx⟩
 | iter s p =>
  obtain ⟨b,h1,h2,h3⟩:=h
  exact ⟨b,h1,h2,by rw [hb _ b h1 rfl rfl];exact h3⟩
 | gen tag k l =>
  obtain ⟨v,b,ob,h1,h2,h3,h4,h5⟩:=h
  exact ⟨v,b,ob,h1,h2,h3,by rw [hb _ b h1 h2 rfl];exact h4,h5⟩
 | chunk ty x =>
  obtain ⟨i,b,us,tt,h1,h2,h3,h4,h5,h6,h7⟩:=h
  exact ⟨i,b,us,tt,h1,h2,h3,by rw [hb _ b h2 rfl rfl];exact h4,h5,h6,t.den (fun r hr=>hn r hr) h7⟩
 | row sh e l =>
  obtain ⟨v,h1,h2⟩:=h
  refine ⟨v,h1,?_⟩
  rcases h2 with h2 | ⟨b,off,cap,cur,h2,h3,h4,h5,h6,h7,h0,h9,h8⟩
  ·exact .inl h2
  ·exact .inr ⟨b,off,cap,cur,h2,h3,by rw [hb _ b h1 (by rw [h2];simp only [vblock];rw [if_neg (by omega)]) rfl];exact h4,h5,h6,h7,h0,h9,fun i h=>(h8 i h).mono t.size t.keep⟩
def upd (ρ:Env) (d:Nat) (v:Value):Env:=fun r=>if r=d then some v else ρ r
theorem MRep.step {N:Nat→Prop} {w0 w w':World} {X:Nat→Prop} {mem mem':Mem} {ρ ρ':Env} (m:MRep T N w0 w X mem ρ) (S:Nat→Prop) (d:Option Nat)
  (hbel:BelowW N w w') (hold:∀ r,¬ S r→getM mem' r=getM mem r∧ρ' r=ρ r) (henv:∀ r,S r→ρ' r=none∨ρ' r=ρ r∨d=some r)
  (hd:∀ r,d=some r→memNoref r mem=true)
  (hkeep:∀ b,b < w.heap.size→w'.heap[b]?=w.heap[b]?∨∃ r v,S r∧(getM mem r).own=true∧ρ r=some v∧vblock v=some b)
  (hown:∀ r v b,S r→(getM mem' r).own=true→ρ' r=some v→vblock v=some b→(w.heap.size≤b∧b < w'.heap.size)∨∃ r0 v0,S r0∧(getM mem r0).own=true∧ρ r0=some v0∧vblock v0=some b)
  (hinj:∀ r r' v v' b,S r→S r'→(getM mem' r).own=true→(getM mem' r').own=true→ρ' r=some v→ρ' r'=some v'→vblock v=some b→vblock v'=some b→r=r')
  (hB:Turn w (Forb X mem ρ) ρ w' (Forb X mem' ρ') ρ' d→∀ r,S r→BlkRep T N w' (Forb X mem' ρ') ρ' (getM mem' r) (ρ' r)) :
  MRep T N w0 w' X mem' ρ'∧Turn w (Forb X mem ρ) ρ w' (Forb X mem' ρ') ρ' d:=by
 have hO:∀ b,owned mem' ρ' b→w.heap.size≤b∨owned mem ρ b:=by
  rintro b ⟨r,v,h1,h2,h3⟩
  by_cases hS:S r
  ·rcases hown r v b hS h1 h2 h3 with h | ⟨r0,v0,_,g1,g2,g3⟩
   ·exact .inl h.1
   ·exact .inr ⟨r0,v0,g1,g2,g3⟩
  ·obtain ⟨e1,e2⟩:=hold r hS
   exact .inr ⟨r,v,by rw [← e1];exact h1,by rw [← e2];exact h2,h3⟩
 have ht:Turn w (Forb X mem ρ) ρ w' (Forb X mem' ρ') ρ' d:=by
  refine ⟨fun r=>?_,hbel.size,fun b h1 h2=>⟨fun hf=>?_,?_⟩⟩
  ·by_cases hS:S r
   ·exact henv r hS
   ·exact .inr (.inl (hold r hS).2)
  ·rcases hf with hf | hf
   ·exact h2 (.inl hf)
   ·rcases hO b hf with h | h
    ·omega
    ·exact h2 (.inr h)
  ·rcases hkeep b h1 with h | ⟨r,v,_,g1,g2,g3⟩
   ·exact h
   ·exact absurd (.inr ⟨r,v,g1,g2,g3⟩) h2
 refine ⟨⟨fun b h=>⟨Nat.lt_of_lt_of_le (m.low b h).1 hbel.size,(m.low b h).2⟩,m.below.trans hbel,fun b h=>m.szN b (Nat.le_trans hbel.size h),fun r=>?_,fun r r' u u' b h1 h2 h3 h4 h5 h6=>?_,gl_mono m.gl ht.size ht.keep⟩,ht⟩
 ·by_cases hS:S r
  ·exact hB ht r hS
  ·obtain ⟨e1,e2⟩:=hold r hS
   rw [e1,e2]
   refine (m.blk r).lift ht (fun q hq=>memNoref_get (hd q hq) r) (fun v b h1 h2 h3=>?_)
   have hlt:=(m.owned_lt ⟨r,v,h3,h1,h2⟩).2
   rcases hkeep b hlt with h | ⟨r0,v0,hS0,g1,g2,g3⟩
   ·exact h
   ·exact absurd ((m.inj r r0 v v0 b h3 g1 h1 g2 h2 g3) ▸ hS0) hS
 ·have side:∀ r r' u u',¬ S r→S r'→(getM mem' r).own=true→(getM mem' r').own=true→ρ' r=some u→ρ' r'=some u'→vblock u=some b→vblock u'=some b→False:=by
   intro r r' u u' hS hS' h1 h2 h3 h4 h5 h6
   obtain ⟨e1,e2⟩:=hold r hS
   rw [e1] at h1
   rw [e2] at h3
   rcases hown r' u' b hS' h2 h4 h6 with h | ⟨r0,v0,hS0,g1,g2,g3⟩
   ·have:=(m.owned_lt ⟨r,u,h1,h3,h5⟩).2;omega
   ·exact hS ((m.inj r r0 u v0 b h1 g1 h3 g2 h5 g3) ▸ hS0)
  by_cases hS:S r <;> by_cases hS':S r'
  ·exact hinj r r' u u' b hS hS' h1 h2 h3 h4 h5 h6
  ·exact (side r' r u' u hS' hS h2 h1 h4 h3 h6 h5).elim
  ·exact (side r r' u u' hS hS' h1 h2 h3 h4 h5 h6).elim
  ·obtain ⟨e1,e2⟩:=hold r hS
   obtain ⟨e3,e4⟩:=hold r' hS'
   exact m.inj r r' u u' b (by rw [← e1];exact h1) (by rw [← e3];exact h2) (by rw [← e2];exact h3) (by rw [← e4];exact h4) h5 h6
theorem MRep.create {N:Nat→Prop} {w0 w w':World} {X:Nat→Prop} {mem:Mem} {ρ:Env} (m:MRep T N w0 w X mem ρ) {d:Nat} (hno:getM mem d=.no) (hnr:memNoref d mem=true)
  {B:Blk} {v:Value} (hv:∀ b,vblock v=some b→w.heap.size≤b∧b < w'.heap.size) (hbel:Below w.heap.size w w')
  (hB:Turn w (Forb X mem ρ) ρ w' (Forb X (setM B mem d) (upd ρ d v)) (upd ρ d v) (some d)→BlkRep T N w' (Forb X (setM B mem d) (upd ρ d v)) (upd ρ d v) B (some v)) :
  MRep T N w0 w' X (setM B mem d) (upd ρ d v)∧Turn w (Forb X mem ρ) ρ w' (Forb X (setM B mem d) (upd ρ d v)) (upd ρ d v) (some d):=by
 refine m.step (fun r=>r=d) (some d) (.of hbel) (fun r hr=>⟨by rw [getM_setM,if_neg hr],by simp [upd,hr]⟩) (fun r hr=>.inr (.inr (by rw [hr]))) (fun r hr=>by injection hr with hr;subst hr;exact hnr)
  (fun b hb=>.inl (hbel.block b hb)) (fun r u b hr h1 h2 h3=>?_) (fun r r' _ _ _ h1 h2 _ _ _ _ _ _=>by rw [h1,h2]) (fun ht r hr=>?_)
 ·subst hr
  simp only [upd,if_true] at h2
  injection h2 with h2
  subst h2
  exact .inl (hv b h3)
 ·subst hr
  rw [getM_setM,if_pos rfl]
  simp only [upd,if_true]
  exact hB ht
theorem MRep.update {N:Nat→Prop} {w0 w w':World} {X:Nat→Prop} {mem:Mem} {ρ:Env} (m:MRep T N w0 w X mem ρ) {r:Nat} {v:Value} (hv:ρ r=some v) (ho:(getM mem r).own=true)
  {b:Nat} (hb:vblock v=some b) (hbel:Below b w w') (hoth:∀ k,k≠b→w'.heap[k]?=w.heap[k]?) {B:Blk}
  (hB:Turn w (Forb X mem ρ) ρ w' (Forb X (setM B mem r) ρ) ρ none→BlkRep T N w' (Forb X (setM B mem r) ρ) ρ B (some v)) :
  MRep T N w0 w' X (setM B mem r) ρ∧Turn w (Forb X mem ρ) ρ w' (Forb X (setM B mem r) ρ) ρ none:=by
 have hN:=(m.owned_lt ⟨r,v,ho,hv,hb⟩).1
 refine m.step (fun q=>q=r) none ⟨hbel.os,hbel.tape,hbel.output,hbel.size,fun k _ hk=>hoth k (fun e=>hk (by rw [e];exact hN))⟩ (fun q hq=>⟨by rw [getM_setM,if_neg hq],rfl⟩) (fun q _=>.inr (.inl rfl)) (fun q hq=>by cases hq)
  (fun k _=>?_) (fun q u c hq h1 h2 h3=>?_) (fun r r' _ _ _ h1 h2 _ _ _ _ _ _=>by rw [h1,h2]) (fun ht q hq=>?_)
 ·by_cases hk:k=b
  ·subst hk;exact .inr ⟨r,v,rfl,ho,hv,hb⟩
  ·exact .inl (hoth k hk)
 ·subst hq
  rw [hv] at h2
  injection h2 with h2
  subst h2
  exact .inr ⟨q,v,rfl,ho,hv,h3⟩
 ·subst hq
  rw [getM_setM,if_pos rfl,hv]
  exact hB ht
theorem MRep.freeze {N:Nat→Prop} {w0 w:World} {X:Nat→Prop} {mem:Mem} {ρ:Env} (m:MRep T N w0 w X mem ρ) {r:Nat} {sh:Option Nat} {e:Nat} {l:List SV} (hr:getM mem r=.row sh e l) :
  MRep T N w0 w X (setM (.frz sh l) mem r) ρ∧Turn w (Forb X mem ρ) ρ w (Forb X (setM (.frz sh l) mem r) ρ) ρ none:=by
 have hb:=m.blk r
 rw [hr] at hb
 obtain ⟨v,h1,h2⟩:=hb
 refine m.step (fun q=>q=r) none (.refl _ _) (fun q hq=>⟨by rw [getM_setM,if_neg hq],rfl⟩) (fun q _=>.inr (.inl rfl)) (fun q hq=>by cases hq) (fun k _=>.inl rfl)
  (fun q u c hq h1 h2 h3=>?_) (fun r r' _ _ _ h1 h2 _ _ _ _ _ _=>by rw [h1,h2]) (fun ht q hq=>?_)
 ·subst hq
  rw [getM_setM,if_pos rfl] at h1
  simp [Blk.own] at h1
 ·subst hq
  rw [getM_setM,if_pos rfl]
  refine ⟨v,h1,?_⟩
  rcases h2 with ⟨a,rfl,rfl⟩ | ⟨b,off,cap,cur,rfl,h3,h4,h5,h6,h7,h0,h9,h8⟩
  ·exact .lst0 _ _ _ _
  ·have hf:¬ Forb X (setM (.frz sh l) mem q) ρ b:=by
    rintro (hf | ⟨q',u,g1,g2,g3⟩)
    ·exact (m.low b hf).2 h3
    ·rw [getM_setM] at g1
     by_cases hq:q'=q
     ·rw [if_pos hq] at g1;simp [Blk.own] at g1
     ·rw [if_neg hq] at g1
      refine hq (m.inj q' q u _ b g1 (by rw [hr];rfl) g2 h1 g3 ?_)
      simp only [vblock];rw [if_neg (by omega)]
   have hle:l.length * wid sh≤cap * wid sh:=Nat.mul_le_mul_right _ h5
   refine .lst _ sh l b off cap ((cur.toList.drop off).take (l.length * wid sh)) (heap_lt h4) hf h5 (fun j u hj=>?_) (by rw [List.length_take,List.length_drop,Array.length_toList (xs:=cur)];omega) (fun u hu=>h9 u (List.mem_of_mem_drop (List.mem_of_mem_take hu))) (fun i hi=>?_)
   ·rw [List.getElem?_take] at hj
    split at hj
    ·rw [cell_of_row w b (off+j) cur e (0,0) h4]
     simpa using hj
    ·cases hj
   ·rw [valAt_take sh _ l.length i hi (by rw [List.length_drop,Array.length_toList (xs:=cur)];omega)]
    exact (h8 i hi).mono ht.size ht.keep
theorem MRep.move {N:Nat→Prop} {w0 w w':World} {X:Nat→Prop} {mem:Mem} {ρ:Env} (m:MRep T N w0 w X mem ρ) {q d:Nat} (hq:(getM mem q).own=true) {v0:Value} (hv0:ρ q=some v0) (hqd:q≠d) (hno:getM mem d=.no) (hnr:memNoref d mem=true)
  {B:Blk} {v:Value} (hbel:BelowW N w w') (hkeep:∀ b,b < w.heap.size→vblock v0≠some b→w'.heap[b]?=w.heap[b]?) (hv:∀ b,vblock v=some b→(w.heap.size≤b∧b < w'.heap.size)∨vblock v0=some b)
  (hB:let mem':=setM B (setM .no mem q) d;let ρ':Env:=fun r=>if r=d then some v else if r=q then none else ρ r
    Turn w (Forb X mem ρ) ρ w' (Forb X mem' ρ') ρ' (some d)→BlkRep T N w' (Forb X mem' ρ') ρ' B (some v)) :
  let mem':=setM B (setM .no mem q) d
  let ρ':Env:=fun r=>if r=d then some v else if r=q then none else ρ r
  MRep T N w0 w' X mem' ρ'∧Turn w (Forb X mem ρ) ρ w' (Forb X mem' ρ') ρ' (some d):=by
 intro mem' ρ'
 have e:∀ r,getM mem' r=if r=d then B else if r=q then .no else getM mem r:=fun r=>by simp only [mem',getM_setM]
 refine m.step (fun r=>r=q∨r=d) (some d) hbel (fun r hr=>?_) (fun r hr=>?_) (fun r hr=>by injection hr with hr;subst hr;exact hnr) (fun b hb=>?_) (fun r u b hr h1 h2 h3=>?_)
  (fun r r' _ _ _ h1 h2 g1 g2 _ _ _ _=>?_) (fun ht r hr=>?_)
 ·have h1:r≠d:=fun e=>hr (.inr e)
  have h2:r≠q:=fun e=>hr (.inl e)
  exact ⟨by rw [e,if_neg h1,if_neg h2],by simp only [ρ',if_neg h1,if_neg h2]⟩
 ·rcases hr with rfl | rfl
  ·exact .inl (by simp only [ρ',if_neg hqd,if_true])
  ·exact .inr (.inr rfl)
 ·by_cases hb0:vblock v0=some b
  ·exact .inr ⟨q,v0,.inl rfl,hq,hv0,hb0⟩
  ·exact .inl (hkeep b hb hb0)
 ·rcases hr with rfl | rfl
  ·rw [e,if_neg hqd,if_pos rfl] at h1;simp [Blk.own] at h1
  ·simp only [ρ',if_true] at h2
   injection h2 with h2
   subst h2
   exact (hv b h3).imp id fun h=>⟨q,v0,.inl rfl,hq,hv0,h⟩
 ·have key:∀ r,r=q∨r=d→(getM mem' r).own=true→r=d:=by
   rintro r (rfl | rfl) h
   ·rw [e,if_neg hqd,if_pos rfl] at h;simp [Blk.own] at h
   ·rfl
  rw [key r h1 g1,key r' h2 g2]
 ·rcases hr with rfl | rfl
  ·rw [e,if_neg hqd,if_pos rfl]
   show ρ' r=none
   simp only [ρ',if_neg hqd,if_true]
  ·rw [e,if_pos rfl]
   have:ρ' r=some v:=by simp only [ρ',if_true]
   rw [this]
   exact hB ht
end
section
open Go.RowKit
variable {P:Program} {T:Nat→Option TI}
structure Src (P:Program) (w:World) (Y:Nat→Prop) (sh:Option Nat) (l:List SV) (x:Value):Prop where
 h:∃ us:List Value,us.length=l.length * wid sh∧(∀ u∈us,u.oneCell'=true)∧(∀ (i:Nat) (h:i < l.length),Den w Y noEnv l[i] (valAt sh us i)) ∧
  (∀ w',(Builtin.lenOf x).run P w'=.ok l.length w')∧∀ (w':World) (n:Nat),w'.heap=w.heap→n≤l.length→(Builtin.firstCells (wid sh) n x).run P w'=.ok (us.take (n * wid sh)).toArray w'
theorem Src.of_slice {w:World} {Y ok:Nat→Prop} {sh:Option Nat} {l:List SV} {x:Value} (h:SliceAt w Y ok sh l x):Src P w Y sh l x:=by
 obtain ⟨ad,c,rfl,hc,h⟩:=h
 rcases h with rfl | ⟨b,off,us,rfl,g1,g2,g3,g6,g4,g5⟩
 ·refine ⟨[],by simp,by simp,fun i h=>by simp at h,fun w'=>by simp [Builtin.lenOf],fun w' n hw hn=>?_⟩
  obtain rfl:n=0:=by simpa using hn
  cases ad with
  | none=>simp [Builtin.firstCells]
  | some a=>simp [Builtin.firstCells,loadCells,loadCellsFrom]
 ·refine ⟨us,g3,g6,g5,fun w'=>by simp [Builtin.lenOf],fun w' n hw hn=>?_⟩
  have hle:n * wid sh≤us.length:=by rw [g3];exact Nat.mul_le_mul_right _ hn
  refine run_firstCells_some (P:=P) w' (wid sh) n ⟨b,off,none⟩ l.length c (us.take (n * wid sh)) (by rw [List.length_take];omega) (fun j v hv=>?_)
  rw [addr_add]
  rw [List.getElem?_take] at hv
  split at hv
  ·have:=g4 j v hv
   simpa [World.cell?,hw] using this
  ·cases hv
def bytesSV (s:ByteArray):List SV:=s.data.toList.map fun b=>.int .u8 b.toNat
theorem O.by_eq (s:ByteArray):O.by' s=bytesSV s:=O.hby s
theorem Src.of_string {w:World} {Y:Nat→Prop} (s:ByteArray):Src P w Y none (bytesSV s) (.string s):=by
 have hl:(bytesSV s).length=s.size:=by simp [bytesSV]
 refine ⟨s.data.toList.map fun b=>.int .u8 b.toNat,by simp [bytesSV,wid],fun u hu=>?_,fun i h=>?_,fun w'=>by rw [hl];simp [Builtin.lenOf],fun w' n hw hn=>?_⟩
 ·obtain ⟨b,_,rfl⟩:=List.mem_map.1 hu
  rfl
 ·simp only [bytesSV,valAt]
  have h':i < (s.data.toList.map fun b=>Value.int .u8 b.toNat).length:=by simpa [bytesSV] using h
  rw [List.getElem?_eq_getElem h']
  simp only [List.getElem_map,Option.getD_some]
  exact .int _ _ _
 ·simp only [Builtin.firstCells,wid,Nat.mul_one,Sem.run_pure]
  congr 1
  apply Array.ext'
  simp [ByteArray.extract,ByteArray.copySlice]
def RowAt (w:World) (e:TypeId) (sh:Option Nat) (v:Value) (n:Nat) (cs:List Value) (old:Option Nat) (sz:Nat):Prop :=
 (∃ a,v=.slice a 0 0∧n=0∧cs=[])∨∃ b off cap cur,v=.slice (some ⟨b,off,none⟩) n cap∧(sz≤b∨old=some b)∧w.heap[b]?=some (.cells cur e (0,0))∧n≤cap∧cap≤maxLen ∧
  off+cap * wid sh≤cur.size∧0 < cap∧(∀ u∈cur.toList,u.oneCell'=true)∧(cur.toList.drop off).take (n * wid sh)=cs
theorem take_splice (L:List Value) (off k:Nat) (news:List Value) (h:off+k+news.length≤L.length) :
  ((L.take (off+k)++news++L.drop (off+k+news.length)).drop off).take (k+news.length)=(L.drop off).take k++news:=by
 apply List.ext_getElem?
 intro i
 rw [List.getElem?_take,List.getElem?_drop]
 have h1:(L.take (off+k)).length=off+k:=by rw [List.length_take];omega
 have h2:((L.drop off).take k).length=k:=by rw [List.length_take,List.length_drop];omega
 by_cases hi:i < k+news.length
 ·rw [if_pos hi]
  by_cases hk:i < k
  ·rw [List.append_assoc,List.getElem?_append_left (by omega),List.getElem?_append_left (by omega),List.getElem?_take,if_pos (by omega),List.getElem?_take,if_pos hk,List.getElem?_drop]
  ·rw [List.append_assoc,List.getElem?_append_right (by omega),List.getElem?_append_left (by omega),List.getElem?_append_right (by omega)]
   congr 1
   omega
 ·rw [if_neg hi,List.getElem?_append_right (by omega),List.getElem?_eq_none (by omega)]
theorem zero_one {z:Value} (hz:(z.cells.all (·.oneCell'))=true) (hs:0 < z.cells.size) (n:Nat):∀ u∈(Builtin.zeroCells z.cells n).toList,u.oneCell'=true:=by
 intro u hu
 simp only [Builtin.zeroCells,Array.toList_map,Array.toList_range,List.mem_map] at hu
 obtain ⟨j,_,rfl⟩:=hu
 have hlt:j % z.cells.size < z.cells.size:=Nat.mod_lt _ hs
 rw [getElem!_pos z.cells _ hlt]
 exact (Array.all_eq_true_iff_forall_mem.1 hz) _ (Array.getElem_mem hlt)
theorem run_append_row (w:World) (t t2 ty e:TypeId) (d2:TypeDesc) (i:TypeInfo) (z:Value) (sh:Option Nat) (ht:P.underlying t=some (.slice e)) (ht2:P.underlying t2=some d2) (hd2:d2=.string∨∃ e',d2=.slice e') (hi:P.info? e=some i) (hz:i.zero=some z)
  (hsz:i.size=wid sh) (hzs:z.cells.size=i.size) (hz1:(z.cells.all (·.oneCell'))=true) (hpos:0 < wid sh) (v:Value) (n m:Nat) (olds news:List Value)
  (old:Option Nat) (hold:RowAt w e sh v n olds old w.heap.size) (x:Value) (hn1:∀ u∈news,u.oneCell'=true) (hnl:news.length=m * wid sh)
  (hlen:∀ w',(Builtin.lenOf x).run P w'=.ok m w') (hfc:∀ w':World,w'.heap=w.heap→(Builtin.firstCells (wid sh) m x).run P w'=.ok news.toArray w')
  (hb:(n+m) * i.bytes≤140737488355328) (hm:n+m≤maxLen) :
  ∃ v' w',(Builtin.append_ #[t,t2] ty #[v,x]).run P w=.ok v' w'∧w'.os=w.os∧w'.tape=w.tape∧w'.output=w.output∧w.heap.size≤w'.heap.size ∧
   (∀ k,k < w.heap.size→old≠some k→w'.heap[k]?=w.heap[k]?)∧RowAt w' e sh v' (n+m) (olds++news) old w.heap.size:=by
 have grow:∀ (base:Option Addr) (cap:Nat),v=.slice base n cap→(∀ w':World,w'.heap=w.heap→(Builtin.firstCells (wid sh) n v).run P w'=.ok olds.toArray w')→olds.length=n * wid sh→(∀ u∈olds,u.oneCell'=true)→cap < n+m →
   ∃ v' w',(Builtin.append_ #[t,t2] ty #[v,x]).run P w=.ok v' w'∧w'.os=w.os∧w'.tape=w.tape∧w'.output=w.output∧w.heap.size≤w'.heap.size ∧
   (∀ k,k < w.heap.size→old≠some k→w'.heap[k]?=w.heap[k]?)∧RowAt w' e sh v' (n+m) (olds++news) old w.heap.size:=by
  intro base cap hv hfo hol ho1 hcap
  have hn:¬ (n+m≤cap):=by omega
  have h63':¬ (9223372036854775807 < ((n:Int)+(m:Int))):=by simp only [maxLen] at hm;omega
  have h48':¬ (281474976710656 < Builtin.nextslicecap (n+m) cap * i.bytes):=by have:=growslice_fits hcap hb;omega
  have hf:=hfc w.drew rfl
  have hfo':=hfo w.drew rfl
  rw [hv] at hfo'
  have hge:=grownCap_ge w (n+m) cap e
  have hcm:=grownCap_le_maxLen w (n+m) cap e hm
  refine ⟨.slice (some ⟨w.heap.size,0,none⟩) (n+m) (grownCap w (n+m) cap e),w.drew.alloc (.cells (olds.toArray++news.toArray++Builtin.zeroCells z.cells (grownCap w (n+m) cap e - (n+m))) e),?_,rfl,rfl,rfl,by simp,fun k hk _=>heap_alloc_old w.drew _ hk,.inr ⟨w.heap.size,0,_,_,rfl,.inl (Nat.le_refl _),heap_alloc_new w.drew _,hge,hcm,?_,by omega,fun u hu=>?_,?_⟩⟩
  ·rw [hv]
   rcases hd2 with rfl | ⟨e',rfl⟩
   all_goals simp [Builtin.append_,run_underlying ht,run_underlying ht2,sizeOf,typeInfo,zeroValue,hi,hz,hsz,hn,h63',h48',Question.forced,hf,hfo',newRow,grownCap,hlen]
   all_goals (congr 2;apply Array.ext';simp [List.append_assoc])
  ·simp only [Array.size_append,List.size_toArray,size_zeroCells,hzs,hsz,hol,hnl,← Nat.add_mul,Nat.zero_add]
   rw [Nat.add_sub_cancel' hge]
   exact Nat.le_refl _
  ·simp only [Array.toList_append,List.mem_append] at hu
   rcases hu with (hu | hu) | hu
   ·exact ho1 u hu
   ·exact hn1 u hu
   ·exact zero_one hz1 (by rw [hzs,hsz];exact hpos) _ u hu
  ·simp only [List.drop_zero,Array.toList_append,List.append_assoc]
   rw [← List.append_assoc,Nat.add_mul,← hol,← hnl,← List.length_append]
   exact List.take_left
 rcases hold with ⟨a,rfl,rfl,rfl⟩ | ⟨b,off,cap,cur,rfl,hbo,hg,hnc,hcm,hfit,hc0,hc1,hcs⟩
 ·by_cases hm0:m=0
  ·subst hm0
   obtain rfl:news=[]:=List.eq_nil_of_length_eq_zero (by simpa using hnl)
   refine ⟨.slice a 0 0,w,?_,rfl,rfl,rfl,Nat.le_refl _,fun _ _ _=>rfl,.inl ⟨a,rfl,rfl,rfl⟩⟩
   have hf:=hfc w rfl
   rcases hd2 with rfl | ⟨e',rfl⟩
   all_goals cases a <;> simp [Builtin.append_,run_underlying ht,run_underlying ht2,sizeOf,typeInfo,hi,hsz,hf,hlen,storeCells]
  ·refine grow a 0 rfl (fun w' _=>?_) (by simp) (by simp) (by omega)
   cases a with
   | none=>simp [Builtin.firstCells]
   | some a=>simp [Builtin.firstCells,loadCells,loadCellsFrom]
 ·have hle:n * wid sh≤cap * wid sh:=Nat.mul_le_mul_right _ hnc
  have hcl:cur.toList.length=cur.size:=Array.length_toList
  have hol:olds.length=n * wid sh:=by rw [← hcs,List.length_take,List.length_drop];omega
  by_cases hroom:n+m≤cap
  ·have hle2:(n+m) * wid sh≤cap * wid sh:=Nat.mul_le_mul_right _ hroom
   rw [Nat.add_mul] at hle2
   have hst:=run_storeCells_at P b (off+n * wid sh) e news 0 cur w hg (by omega) hn1
   simp only [Nat.add_zero] at hst
   have hf:=hfc w rfl
   refine ⟨.slice (some ⟨b,off,none⟩) (n+m) cap,w.setRow b (cur.toList.take (off+n * wid sh)++news++cur.toList.drop (off+n * wid sh+news.length)).toArray,?_,rfl,rfl,rfl,by simp [World.setRow],fun k hk hne=>setRow_other w b k _ (fun e=>?_),.inr ⟨b,off,cap,_,rfl,hbo,setRow_heap w b cur _ e _ hg,hroom,hcm,?_,hc0,fun u hu=>?_,?_⟩⟩
   ·rcases hd2 with rfl | ⟨e',rfl⟩ <;> simp [Builtin.append_,run_underlying ht,run_underlying ht2,sizeOf,typeInfo,hi,hsz,hf,hlen,hroom,addr_add,hst]
   ·subst e
    rcases hbo with h | h
    ·omega
    ·exact hne h
   ·simp only [List.size_toArray,List.length_append,List.length_take,List.length_drop,hcl]
    omega
   ·simp only [List.mem_append] at hu
    rcases hu with (hu | hu) | hu
    ·exact hc1 u (List.mem_of_mem_take hu)
    ·exact hn1 u hu
    ·exact hc1 u (List.mem_of_mem_drop hu)
   ·simp only
    rw [Nat.add_mul,← hnl,take_splice _ _ _ _ (by omega),hcs]
  ·refine grow (some ⟨b,off,none⟩) cap rfl (fun w' hw=>?_) hol (fun u hu=>?_) (by omega)
   ·refine run_firstCells_some (P:=P) w' (wid sh) n ⟨b,off,none⟩ n cap olds hol (fun j v hv=>?_)
    rw [addr_add,cell_of_row w' b (off+j) cur e (0,0) (by rw [hw];exact hg)]
    rw [← hcs,List.getElem?_take] at hv
    split at hv
    ·simpa using hv
    ·cases hv
   ·rw [← hcs] at hu
    exact hc1 u (List.mem_of_mem_drop (List.mem_of_mem_take hu))
theorem run_copy_into (w:World) (t t2 ty e:TypeId) (i:TypeInfo) (size:Nat) (ht:P.underlying t=some (.slice e)) (hi:P.info? e=some i) (hsz:i.size=size)
  (b off n c:Nat) (cur:Array Value) (eb:TypeId) (hg:w.heap[b]?=some (.cells cur eb (0,0))) (x:Value) (m:Nat) (news:List Value) (hn1:∀ u∈news,u.oneCell'=true)
  (hlen:∀ w',(Builtin.lenOf x).run P w'=.ok m w') (hfc:(Builtin.firstCells size (Nat.min m n) x).run P w=.ok news.toArray w) (hfit:off+news.length≤cur.size) :
  (Builtin.copy_ #[t,t2] ty #[.slice (some ⟨b,off,none⟩) n c,x]).run P w=.ok (goInt (Nat.min m n)) (w.setRow b (cur.toList.take off++news++cur.toList.drop (off+news.length)).toArray):=by
 have hst:=run_storeCells_at P b off eb news 0 cur w hg (by simpa using hfit) hn1
 simp only [Nat.add_zero] at hst
 simp [Builtin.copy_,run_underlying ht,sizeOf,typeInfo,hi,hsz,hlen,hfc,hst]
theorem run_copy_no (w:World) (t t2 ty e:TypeId) (i:TypeInfo) (size:Nat) (ht:P.underlying t=some (.slice e)) (hi:P.info? e=some i) (hsz:i.size=size)
  (a:Option Addr) (c:Nat) (x:Value) (m:Nat) (hlen:∀ w',(Builtin.lenOf x).run P w'=.ok m w') (hfc:(Builtin.firstCells size 0 x).run P w=.ok #[] w) :
  (Builtin.copy_ #[t,t2] ty #[.slice a 0 c,x]).run P w=.ok (goInt 0) w:=by
 cases a <;> simp [Builtin.copy_,run_underlying ht,sizeOf,typeInfo,hi,hsz,hlen,hfc,storeCells]
end
section
open Go.RowKit
variable {P:Program} {T:Nat→Option TI}
def appU:List (Nat × Blk)→Mem→Mem
 | [],m=>m
 | (q,b)::U,m=>appU U (setM b m q)
theorem appU_append:∀ (U V:List (Nat × Blk)) (m:Mem),appU (U++V) m=appU V (appU U m)
 | [],_,_=>rfl
 | (q,b)::U,V,m=>by simp only [List.cons_append,appU];exact appU_append U V _
theorem appU_ne {d:Nat}:∀ {U:List (Nat × Blk)} {m:Mem},(∀ q b,(q,b)∈U→d≠q)→getM (appU U m) d=getM m d
 | [],_,_=>rfl
 | (q,b)::U,m,h=>by
  simp only [appU]
  rw [appU_ne (fun q' b' h'=>h q' b' (by simp [h'])),getM_setM,if_neg (h q b (by simp))]
theorem appU_noref {d:Nat}:∀ {U:List (Nat × Blk)} {m:Mem},memNoref d m=true→(∀ q b,(q,b)∈U→bNoref d b=true)→memNoref d (appU U m)=true
 | [],_,h,_=>h
 | (q,b)::U,m,h,g=>by
  simp only [appU]
  exact appU_noref (memNoref_set (g q b (by simp)) h) (fun q' b' h'=>g q' b' (by simp [h']))
theorem Turn.trans {w w1 w2:World} {Y Y1 Y2:Nat→Prop} {ρ ρ1 ρ2:Env} {d:Option Nat} (h:Turn w Y ρ w1 Y1 ρ1 none) (g:Turn w1 Y1 ρ1 w2 Y2 ρ2 d):Turn w Y ρ w2 Y2 ρ2 d:=by
 refine ⟨fun r=>?_,Nat.le_trans h.size g.size,fun b h1 h2=>?_⟩
 ·rcases g.env r with e | e | e
  ·exact .inl e
  ·rcases h.env r with e' | e' | e'
   ·exact .inl (e.trans e')
   ·exact .inr (.inl (e.trans e'))
   ·cases e'
  ·exact .inr (.inr e)
 ·obtain ⟨k1,k2⟩:=h.keep b h1 h2
  obtain ⟨k3,k4⟩:=g.keep b (Nat.lt_of_lt_of_le h1 h.size) k1
  exact ⟨k3,k4.trans k2⟩
theorem forb_congr {X:Nat→Prop} {mem mem':Mem} {ρ:Env} (h:∀ q,getM mem' q=getM mem q):Forb X mem' ρ=Forb X mem ρ:=by
 funext b
 simp only [Forb,owned,h]
theorem MRep.congr {N:Nat→Prop} {w0 w:World} {X:Nat→Prop} {mem mem':Mem} {ρ:Env} (m:MRep T N w0 w X mem ρ) (h:∀ q,getM mem' q=getM mem q):MRep T N w0 w X mem' ρ:=by
 refine ⟨m.low,m.below,m.szN,fun r=>?_,fun r r' v v' b h1 h2=>?_,by rw [forb_congr h];exact m.gl⟩
 ·rw [h,forb_congr h];exact m.blk r
 ·rw [h] at h1 h2;exact m.inj r r' v v' b h1 h2
def frzB (r:Nat):Blk→List (Nat × Blk)
 | .row sh _ l=>[(r,.frz sh l)]
 | _=>[]
def rids:SV→List Nat
 | .row r=>[r]
 | .rsl r _ _ _ _=>[r]
 | .agg l=>ridsL l
 | .tup l=>ridsL l
 | _=>[]
where ridsL:List SV→List Nat
 | []=>[]
 | x::l=>rids x++ridsL l
theorem rids_noref {r:Nat}:∀ {x:SV},r∈rids x→noref r x=false
 | .row q,h=>by simp [rids] at h;subst h;simp [noref]
 | .rsl q _ _ _ _,h=>by simp [rids] at h;subst h;simp [noref]
 | .agg l,h=>go (l:=l) h
 | .tup l,h=>go (l:=l) h
 | .any,h | .bool _,h | .int _ _,h | .str _,h | .lst _ _,h | .nil,h | .ptr _ _,h | .rptr _ _ _ _,h | .eptr _ _ _,h | .val _,h | .clo _ _,h | .fcl _ _,h | .cel _,h=>by simp [rids] at h
where go {r:Nat}:∀ {l:List SV},r∈rids.ridsL l→noref.norefs r l=false
 | [],h=>by simp [rids.ridsL] at h
 | x::l,h=>by
  simp only [rids.ridsL,List.mem_append] at h
  simp only [noref.norefs,Bool.and_eq_false_iff]
  rcases h with h | h
  ·exact .inl (rids_noref h)
  ·exact .inr (go h)
def frzU (μ:Nat→Blk):List Nat→List (Nat × Blk)
 | []=>[]
 | r::l=>frzB r (μ r)++frzU μ l
theorem frzU_mem {μ:Nat→Blk}:∀ {l:List Nat} {q:Nat} {b:Blk},(q,b)∈frzU μ l→q∈l∧∃ sh e k,μ q=.row sh e k∧b=.frz sh k
 | [],q,b,h=>by simp [frzU] at h
 | r::l,q,b,h=>by
  simp only [frzU,List.mem_append] at h
  rcases h with h | h
  ·cases hm:μ r with
   | row sh e k=>rw [hm] at h;simp [frzB] at h;obtain ⟨rfl,rfl⟩:=h;exact ⟨by simp,sh,e,k,hm,rfl⟩
   | _=>rw [hm] at h;simp [frzB] at h
  ·obtain ⟨h1,h2⟩:=frzU_mem h
   exact ⟨by simp [h1],h2⟩
theorem mem_frzU {μ:Nat→Blk} {sh:Option Nat} {e:Nat} {k:List SV}:∀ {l:List Nat} {q:Nat},q∈l→μ q=.row sh e k→(q,Blk.frz sh k)∈frzU μ l
 | [],q,h,_=>by simp at h
 | r::l,q,h,hq=>by
  simp only [frzU,List.mem_append]
  rcases List.mem_cons.1 h with rfl | h
  ·left;rw [hq];simp [frzB]
  ·right;exact mem_frzU h hq
theorem freezeU {μ:Nat→Blk} {N:Nat→Prop} {w0 w:World} {X:Nat→Prop} {ρ:Env}:∀ (U:List (Nat × Blk)) (mem:Mem),(∀ q b,(q,b)∈U→∃ sh e k,μ q=.row sh e k∧b=.frz sh k)→(∀ q b,(q,b)∈U→getM mem q=μ q∨getM mem q=b) →
  MRep T N w0 w X mem ρ→MRep T N w0 w X (appU U mem) ρ∧Turn w (Forb X mem ρ) ρ w (Forb X (appU U mem) ρ) ρ none
 | [],mem,_,_,m=>⟨m,Turn.refl _ _ _ _⟩
 | (r,c)::U,mem,hU,hg,m=>by
  obtain ⟨sh,e,k,h1,rfl⟩:=hU r c (by simp)
  have st:MRep T N w0 w X (setM (.frz sh k) mem r) ρ∧Turn w (Forb X mem ρ) ρ w (Forb X (setM (.frz sh k) mem r) ρ) ρ none:=by
   rcases hg r (.frz sh k) (by simp) with h | h
   ·exact m.freeze (h.trans h1)
   ·have hs:∀ q,getM (setM (.frz sh k) mem r) q=getM mem q:=by
     intro q
     rw [getM_setM]
     split
     ·rename_i hq;rw [hq,h]
     ·rfl
    refine ⟨m.congr hs,?_⟩
    rw [forb_congr hs]
    exact Turn.refl _ _ _ _
  obtain ⟨m',t'⟩:=freezeU U (setM (.frz sh k) mem r) (fun q b h=>hU q b (by simp [h])) (fun q b h=>by
   rw [getM_setM]
   split
   ·rename_i hq
    subst hq
    obtain ⟨sh',e',k',g1,rfl⟩:=hU q b (by simp [h])
    rw [h1] at g1
    injection g1 with g1 g2 g3
    subst g1;subst g3
    exact .inr rfl
   ·exact hg q b (by simp [h])) st.1
  exact ⟨m',st.2.trans t'⟩
theorem appU_frz {μ:Nat→Blk}:∀ (U:List (Nat × Blk)) (mem:Mem) (q:Nat),(∀ q b,(q,b)∈U→∃ sh e k,μ q=.row sh e k∧b=.frz sh k)→(∀ b,(q,b) ∉ U)∧getM (appU U mem) q=getM mem q∨∃ sh e k,μ q=.row sh e k∧getM (appU U mem) q=.frz sh k∧(q,Blk.frz sh k)∈U
 | [],mem,q,_=>.inl ⟨by simp,rfl⟩
 | (r,c)::U,mem,q,hU=>by
  rcases appU_frz U (setM c mem r) q (fun q b h=>hU q b (by simp [h])) with ⟨h1,h2⟩ | ⟨sh,e,k,h1,h2,h3⟩
  ·simp only [appU]
   rw [h2,getM_setM]
   by_cases hq:q=r
   ·subst hq
    rw [if_pos rfl]
    obtain ⟨sh,e,k,g1,g2⟩:=hU q c (by simp)
    exact .inr ⟨sh,e,k,g1,g2,by simp [g2]⟩
   ·rw [if_neg hq]
    refine .inl ⟨fun b hb=>?_,rfl⟩
    rcases List.mem_cons.1 hb with hb | hb
    ·injection hb with hb;exact hq hb
    ·exact h1 b hb
  ·exact .inr ⟨sh,e,k,h1,h2,by simp [h3]⟩
structure Frozen (T:Nat→Option TI) (N:Nat→Prop) (w0 w:World) (X:Nat→Prop) (mem mem':Mem) (ρ:Env) (μ:Nat→Blk) (ids:List Nat):Prop where
 m:MRep T N w0 w X mem' ρ
 t:Turn w (Forb X mem ρ) ρ w (Forb X mem' ρ) ρ none
 at':∀ r∈ids,∀ sh k,((∃ e,μ r=.row sh e k)→getM mem' r=.frz sh k)∧(μ r=.frz sh k→getM mem' r=.frz sh k)
 old:∀ q,getM mem' q=getM mem q∨(q∈ids∧∃ sh e k,μ q=.row sh e k∧getM mem' q=.frz sh k)
theorem freeze_ids {μ:Nat→Blk} {N:Nat→Prop} {w0 w:World} {X:Nat→Prop} {mem:Mem} {ρ:Env} (hμ:Sees μ mem) (m:MRep T N w0 w X mem ρ) (ids:List Nat):Frozen T N w0 w X mem (appU (frzU μ ids) mem) ρ μ ids:=by
 have hU:∀ q b,(q,b)∈frzU μ ids→∃ sh e k,μ q=.row sh e k∧b=.frz sh k:=fun q b h=>(frzU_mem h).2
 obtain ⟨m',t'⟩:=freezeU (T:=T) (frzU μ ids) mem hU (fun q b h=>by
  obtain ⟨sh,e,k,h1,_⟩:=hU q b h
  rcases hμ q with g | g
  ·rw [g] at h1;cases h1
  ·exact .inl g.symm) m
 refine ⟨m',t',fun r hr sh k=>⟨fun ⟨e,h⟩=>?_,fun h=>?_⟩,fun q=>?_⟩
 ·rcases appU_frz (frzU μ ids) mem r hU with ⟨h1,_⟩ | ⟨sh',e',k',h1,h2,_⟩
  ·exact absurd (mem_frzU hr h) (h1 _)
  ·rw [h] at h1
   injection h1 with g1 g2 g3
   subst g1;subst g3
   exact h2
 ·rcases appU_frz (frzU μ ids) mem r hU with ⟨_,h2⟩ | ⟨sh',e',k',h1,_⟩
  ·rw [h2]
   rcases hμ r with g | g
   ·rw [g] at h;cases h
   ·rw [← g];exact h
  ·rw [h] at h1;cases h1
 ·rcases appU_frz (frzU μ ids) mem q hU with ⟨_,h2⟩ | ⟨sh',e',k',h1,h2,h3⟩
  ·exact .inl h2
  ·exact .inr ⟨(frzU_mem h3).1,_,_,_,h1,h2⟩
theorem Frozen.no {N:Nat→Prop} {w0 w:World} {X:Nat→Prop} {mem mem':Mem} {ρ:Env} {μ:Nat→Blk} {ids:List Nat} (f:Frozen T N w0 w X mem mem' ρ μ ids) (hμ:Sees μ mem) {k:Nat} (h:getM mem k=.no):getM mem' k=.no:=by
 rcases f.old k with g | ⟨_,sh,e,l,g1,_⟩
 ·rw [g];exact h
 ·rcases hμ k with g2 | g2
  ·rw [g2] at g1;cases g1
  ·rw [g2,h] at g1;cases g1
theorem viewC_same {μ μ':Nat→Blk} {x y:SV} (h:∀ r∈rids x,∀ sh k,((∃ e,μ r=.row sh e k)→μ' r=.frz sh k)∧(μ r=.frz sh k→μ' r=.frz sh k)) (hv:viewC μ x=some y):viewC μ' x=some y∧live μ' x=false:=by
 cases x with
 | row r =>
  simp only [viewC] at hv ⊢
  cases hm:μ r with
  | row sh e k=>rw [hm] at hv;have:=(h r (by simp [rids]) sh k).1 ⟨e,hm⟩;rw [this];exact ⟨hv,by simp [live,this,liveB]⟩
  | frz sh k=>rw [hm] at hv;have:=(h r (by simp [rids]) sh k).2 hm;rw [this];exact ⟨hv,by simp [live,this,liveB]⟩
  | _=>rw [hm] at hv;cases hv
 | rsl r sh a n c =>
  simp only [viewC,listOf] at hv ⊢
  cases hm:μ r with
  | row sh' e k=>rw [hm] at hv;have:=(h r (by simp [rids]) sh' k).1 ⟨e,hm⟩;rw [this];exact ⟨hv,by simp [live,this,liveB]⟩
  | frz sh' k=>rw [hm] at hv;have:=(h r (by simp [rids]) sh' k).2 hm;rw [this];exact ⟨hv,by simp [live,this,liveB]⟩
  | _=>rw [hm] at hv;simp [listB] at hv
 | agg l=>simp [viewC,plainB] at hv
 | tup l=>simp [viewC,plainB] at hv
 | _=>exact ⟨hv,rfl⟩
theorem viewCs_same {μ μ':Nat→Blk}:∀ {l l':List SV},(∀ r∈rids.ridsL l,∀ sh k,((∃ e,μ r=.row sh e k)→μ' r=.frz sh k)∧(μ r=.frz sh k→μ' r=.frz sh k))→viewCs μ l=some l'→viewCs μ' l=some l'∧live.lives μ' l=false
 | [],l',_,hv=>⟨hv,rfl⟩
 | x::l,l',h,hv=>by
  simp only [viewCs] at hv
  cases h1:viewC μ x with
  | none=>rw [h1] at hv;cases hv
  | some y =>
   cases h2:viewCs μ l with
   | none=>rw [h1,h2] at hv;cases hv
   | some ys =>
    obtain ⟨a1,a2⟩:=viewC_same (fun r hr=>h r (by simp [rids.ridsL,hr])) h1
    obtain ⟨b1,b2⟩:=viewCs_same (fun r hr=>h r (by simp [rids.ridsL,hr])) h2
    rw [h1,h2] at hv
    simp only [viewCs,a1,b1,live.lives,a2,b2,Bool.or_self]
    exact ⟨hv,trivial⟩
theorem view_same {μ μ':Nat→Blk} {t:Nat} {x y:SV} (h:∀ r∈rids x,∀ sh k,((∃ e,μ r=.row sh e k)→μ' r=.frz sh k)∧(μ r=.frz sh k→μ' r=.frz sh k)) (hv:view T μ t x=some y):view T μ' t x=some y∧live μ' x=false:=by
 cases x with
 | agg l =>
  simp only [view] at hv ⊢
  cases h1:viewCs μ l with
  | none=>rw [h1] at hv;cases hv
  | some l' =>
   obtain ⟨b1,b2⟩:=viewCs_same h h1
   rw [h1] at hv
   rw [b1]
   exact ⟨hv,b2⟩
 | _ =>
  simp only [view] at hv ⊢
  split at hv
  ·rename_i y' h1
   obtain ⟨b1,b2⟩:=viewC_same h h1
   rw [b1]
   exact ⟨hv,b2⟩
  ·cases hv
theorem sees_all (mem:Mem):Sees (getM mem) mem:=fun _=>.inr rfl
theorem Frozen.view {N:Nat→Prop} {w0 w:World} {X:Nat→Prop} {mem mem':Mem} {ρ:Env} {μ:Nat→Blk} {ids:List Nat} (f:Frozen T N w0 w X mem mem' ρ μ ids) {t:Nat} {x y:SV} {v:Value} (hi:∀ r∈rids x,r∈ids) (hv:view T μ t x=some y)
  (hd:Den w (Forb X mem ρ) ρ x v):Den w (Forb X mem' ρ) noEnv y v:=by
 obtain ⟨h1,h2⟩:=view_same (T:=T) (μ':=getM mem') (fun r hr=>f.at' r (hi r hr)) hv
 exact view_den (sees_all mem') f.m (fun b _ h=>h) (fun h=>by rw [h2] at h;cases h) h1 (f.t.den (fun _ h=>by cases h) hd)
theorem view_data {μ:Nat→Blk} {t:Nat} {x y:SV} (hv:view T μ t x=some y):dataB y=true:=by
 have c:∀ x y,viewC μ x=some y→plainB y=true:=by
  intro x y h
  cases x <;> simp only [viewC] at h
  case row r=>cases hm:μ r <;> rw [hm] at h <;> first | (injection h with h;subst h;rfl) | cases h
  case rsl r sh a n c=>split at h <;> first | (injection h with h;subst h;rfl) | cases h
  all_goals (split at h <;> first | (rename_i hp;injection h with h;subst h;exact hp) | cases h)
 have cs:∀ l l',viewCs μ l=some l'→allPlain l'=true:=by
  intro l
  induction l with
  | nil=>intro l' h;simp only [viewCs] at h;injection h with h;subst h;rfl
  | cons x l ih =>
   intro l' h
   simp only [viewCs] at h
   split at h
   ·rename_i y ys h1 h2
    injection h with h;subst h
    simp [allPlain,c _ _ h1,ih _ h2]
   ·cases h
 have nn:∀ y,plainB y=true→dataB (normNil T t y)=true:=by
  intro y h
  unfold normNil
  split
  ·repeat' split
   all_goals rfl
  ·cases y <;> simp_all [dataB,plainB]
 cases x with
 | agg l =>
  simp only [view] at hv
  split at hv
  ·rename_i l' h1;injection hv with hv;subst hv;exact cs _ _ h1
  ·cases hv
 | _ =>
  simp only [view] at hv
  split at hv
  ·rename_i y' h1;injection hv with hv;subst hv;exact nn _ (c _ _ h1)
  ·cases hv
def FR (r:Option Nat):Fence:={ Fence.wide with round:=r }
theorem calls_FR {r:Option Nat} {n:Nat} {f:FuncId} {args:Array Value} {w:World} {R:Ending→World→Prop} (h:Calls P f args w R):CallsIn (FR r) n P f args w R :=
 (callsIn_wide (n:=n)).2 h
theorem semAt_exec {o:Oper} {r:Option Nat} {ρ:Operand→Value} {w w':World} {x:Next} (h:(execOp ρ o).run P w=.ok x w') (hx:∀ d,x≠.defer d):Oper.semAt r ρ o=execOp ρ o:=by
 cases r with
 | none=>rfl
 | some l =>
  refine Oper.semAt_some l ρ o fun c hc=>?_
  simp only [execOp,hc,Sem.run_bind] at h
  generalize hres:(resolve ρ c o.type).run P w=q at h
  cases q with
  | ok d w1 =>
   simp only [Result.andThen_ok,Sem.run_pure,Result.ok.injEq] at h
   exact hx d h.1.symm
  | halt e w1=>simp [Result.andThen] at h
structure Eff (P:Program) (T:Nat→Option TI) (o:Oper) (e:Operand→SV) (μ:Nat→Blk) (x:SV) (U:List (Nat × Blk)) (cr:Option Nat):Prop where
 h:∀ (mem:Mem),Sees μ mem→(∀ d,cr=some d→getM mem d=.no∧memNoref d mem=true∧∀ y∈o.op.operands,noref d (e y)=true) →
  ∀ (a:Act) (N:Nat→Prop) (w0 w:World) (X:Nat→Prop) (ρ:Env),MRep T N w0 w X mem ρ→(∀ y∈o.op.operands,Den w (Forb X mem ρ) ρ (e y) (a.eval y))→∀ (K:Act→World→Prop) (Q:Exit→Act→World→Prop),
  (∀ u w' ρ',MRep T N w0 w' X (appU U mem) ρ'→Den w' (Forb X (appU U mem) ρ') ρ' x u→Turn w (Forb X mem ρ) ρ w' (Forb X (appU U mem) ρ') ρ' cr→K (a.put o.dst u) w')→∀ (r:Option Nat) (n:Nat),o.wpIn (FR r) n P a w K Q
theorem Eff.of_run {o:Oper} {e:Operand→SV} {μ:Nat→Blk} {x:SV} {U:List (Nat × Blk)} {cr:Option Nat}
  (h:∀ (mem:Mem),Sees μ mem→(∀ d,cr=some d→getM mem d=.no∧memNoref d mem=true∧∀ y∈o.op.operands,noref d (e y)=true) →
    ∀ (a:Act) (N:Nat→Prop) (w0 w:World) (X:Nat→Prop) (ρ:Env),MRep T N w0 w X mem ρ→(∀ y∈o.op.operands,Den w (Forb X mem ρ) ρ (e y) (a.eval y)) →
    ∃ r u w' ρ',(execOp a.eval o).run P w=.ok r w'∧(r=.value u∨(r=.skip∧x=.any))∧MRep T N w0 w' X (appU U mem) ρ'∧Den w' (Forb X (appU U mem) ρ') ρ' x u∧Turn w (Forb X mem ρ) ρ w' (Forb X (appU U mem) ρ') ρ' cr):Eff P T o e μ x U cr:=by
 refine ⟨fun mem hμ hc a N w0 w X ρ m hd K Q hK ro nn=>⟨fun _ _=>trivial,?_⟩⟩
 obtain ⟨r,u,w',ρ',hr,hru,m',hx,t⟩:=h mem hμ hc a N w0 w X ρ m hd
 rw [semAt_exec hr (fun d hd=>by rcases hru with rfl | ⟨rfl,_⟩ <;> cases hd),hr]
 rcases hru with rfl | ⟨rfl,rfl⟩
 ·exact hK u w' ρ' m' hx t
 ·exact hK undef w' ρ' m' (.any _ _) t
theorem POk.eff {o:Oper} {e:Operand→SV} {x:SV} (h:POk P o.op e x) (μ:Nat→Blk):Eff P T o e μ x [] none :=
 .of_run fun mem hμ hc a N w0 w X ρ m hd=>by
  obtain ⟨u,hr,hx⟩:=h.h o a w (Forb X mem ρ) ρ rfl hd
  exact ⟨_,u,w,ρ,hr,.inl rfl,m,hx,Turn.refl _ _ _ _⟩
theorem RdOk.eff {o:Oper} {e:Operand→SV} {μ:Nat→Blk} {x:SV} (h:RdOk P T o e μ x):Eff P T o e μ x [] none :=
 .of_run fun mem hμ hc a N w0 w X ρ m hd=>by
  obtain ⟨u,hr,hx⟩:=h.h mem hμ a N w0 w X ρ m hd
  exact ⟨_,u,w,ρ,hr,.inl rfl,m,hx,Turn.refl _ _ _ _⟩
end
section
open Go.RowKit
variable {P:Program} {T:Nat→Option TI}
def chunkOk (i:TI) (y:SV):Bool :=
 (match cellsA y with | some xs=>Nat.beq xs.length i.size | none=>false) && (match y,i.shape with | .agg _,some _=>true | .agg _,none=>false | _,none=>true | _,_=>false)
theorem chunk_den {w:World} {Y:Nat→Prop} {ρ:Env} {i:TI} {y:SV} {v:Value} (h1:i.kind.aggB=false→i.size=1) (h:chunkOk i y=true) (hd:Den w Y ρ y v) :
  v.cells.size=i.size∧(∀ u∈v.cells.toList,u.oneCell'=true)∧valAt i.shape v.cells.toList 0=v:=by
 unfold chunkOk at h
 simp only [Bool.and_eq_true] at h
 obtain ⟨h2,h3⟩:=h
 cases hc:cellsA y with
 | none=>rw [hc] at h2;cases h2
 | some xs =>
  rw [hc] at h2
  have hx:=Nat.eq_of_beq_eq_true h2
  obtain ⟨c1,c2⟩:=cellsA_den hc hd
  have hs:v.cells.size=i.size:=by rw [← hx,c1.1,Array.length_toList]
  refine ⟨hs,c2,?_⟩
  have hw:=TI.wid_size h1
  cases hsh:i.shape with
  | none =>
   rw [hsh] at h3 hw
   have hat:atomB y=true:=by
    cases y with
    | agg l=>cases h3
    | _=>simp only [cellsA] at hc;split at hc <;> first | assumption | cases hc
   have:=one_cells (hd.one hat)
   rw [this]
   rfl
  | some n =>
   rw [hsh] at h3 hw
   cases y with
   | agg l =>
    obtain ⟨cs,rfl,_⟩:=Den.agg_iff.1 hd
    simp only [Value.cells,List.size_toArray] at hs ⊢
    rw [valAt_some_full (by simp only [wid] at hw;omega)]
   | _=>cases h3
theorem noref_norm {d t:Nat} {x:SV} (h:noref d x=true):noref d (normNil T t x)=true:=by
 unfold normNil
 split
 ·repeat' split
  all_goals rfl
 ·exact h
noncomputable def litV (T:Nat→Option TI) (μ:Nat→Blk) (el:Nat) (j:TI) (e:Operand→SV):Nat→List (Nat × Operand)→Option (List SV)
 | _,[]=>some []
 | k,(i,x)::ps=>if Nat.beq i k then (match view T μ el (e x) with
  | some y=>if chunkOk j y then (match litV T μ el j e (k+1) ps with | some l=>some (y::l) | none=>none) else none
  | none=>none) else none
def litIds (e:Operand→SV):List (Nat × Operand)→List Nat
 | []=>[]
 | (_,x)::ps=>rids (e x)++litIds e ps
def mval (T:Nat→Option TI) (d:Nat) (op:Op) (e:Operand→SV) (μ:Nat→Blk) (κ:SV→List (Nat × Blk)→Prop):Prop :=
 match op with
 | .box t x=>(match T t with | some i=>if chunkOk i (normNil T t (e x)) then κ (.ptr d 0) [(d,.chunk t (normNil T t (e x)))] else False | none=>False)
 | .alloc t=>(match T t with | some i=>if chunkOk i i.zero then κ (.ptr d 0) [(d,.chunk t i.zero)] else False | none=>False)
 | .makeSlice t n c=>(match T t with
  | some i=>(match i.kind with
   | .slice el=>(match T el,e n,e c with
    | some j,.int _ n,.int _ c=>if chunkOk j j.zero && !(Nat.beq j.size 0) then
      Rq (fun _=>0≤n∧n≤c∧c≤9223372036854775807∧(j.bytes:Int) * c≤140737488355328) (fun _=>κ (.row d) [(d,.row j.shape el (O.rp n j.zero))]) else False
    | _,_,_=>False)
   | _=>False)
  | none=>False)
 | .buildSlice t n ps=>(match T t with
  | some i=>(match i.kind with
   | .slice el=>(match T el with
    | some j=>if Nat.beq ps.toList.length n && Nat.ble (n * j.size) 16777216 && !(Nat.beq j.size 0) then (match litV T μ el j e 0 ps.toList with | some l=>κ (.row d) (frzU μ (litIds e ps.toList)++[(d,.row j.shape el l)]) | none=>False) else False
    | none=>False)
   | _=>False)
  | none=>False)
 | .makeFunc (.func f) first caps=>if first.toList.isEmpty then (if allPlain (caps.toList.map e) then κ (.clo f (caps.toList.map e)) [] else κ (.fcl f (caps.toList.map e)) []) else False
 | _=>False
theorem new_chunk (sz:Sizes T) {d t:Nat} {i:TI} (ht:T t=some i) {y:SV} (hc:chunkOk i y=true) (hz:noref d y=true) {N:Nat→Prop} {w0 w:World} {X:Nat→Prop} {mem:Mem} {ρ:Env} (m:MRep T N w0 w X mem ρ)
  (hno:getM mem d=.no) (hnr:memNoref d mem=true) {v:Value} (hv:Den w (Forb X mem ρ) ρ y v) :
  let w':=w.alloc (.cells v.cells t)
  ∃ ρ',MRep T N w0 w' X (setM (.chunk t y) mem d) ρ'∧Den w' (Forb X (setM (.chunk t y) mem d) ρ') ρ' (.ptr d 0) (.pointer (some ⟨w.heap.size,0,none⟩)) ∧
   Turn w (Forb X mem ρ) ρ w' (Forb X (setM (.chunk t y) mem d) ρ') ρ' (some d):=by
 intro w'
 obtain ⟨c1,c2,c3⟩:=chunk_den (sz.one t i ht) hc hv
 have hbel:Below w.heap.size w w':=(Below.refl _ _).alloc (Nat.le_refl _) _
 obtain ⟨m',t'⟩:=m.create (w':=w') hno hnr (B:=.chunk t y) (v:=.pointer (some ⟨w.heap.size,0,none⟩)) (fun b hb=>by simp only [vblock] at hb;injection hb with hb;subst hb;exact ⟨Nat.le_refl _,by show _ < (w.heap.push _).size;simp⟩) hbel
  (fun ht'=>⟨i,w.heap.size,v.cells,t,ht,rfl,m.szN _ (Nat.le_refl _),heap_alloc_new w _,c1,c2,by
    rw [c3]
    exact ht'.den (fun r hr=>by injection hr with hr;subst hr;exact hz) hv⟩)
 refine ⟨_,m',.ptr _ d 0 w.heap.size (fun q hq=>?_),t'⟩
 simp only [upd,if_true] at hq
 injection hq with hq
 exact hq.symm
theorem new_row {d e:Nat} {sh:Option Nat} {l:List SV} {N:Nat→Prop} {w0 w:World} {X:Nat→Prop} {mem:Mem} {ρ:Env} (m:MRep T N w0 w X mem ρ) (hno:getM mem d=.no) (hnr:memNoref d mem=true)
  (R:Array Value) (cap:Nat) (hlc:l.length≤cap) (hcm:cap≤maxLen) (hR:R.size=cap * wid sh) (h1:∀ u∈R.toList,u.oneCell'=true) (hl:∀ (i:Nat) (h:i < l.length),Den w (Forb X mem ρ) noEnv l[i] (valAt sh R.toList i)) :
  let w':=w.alloc (.cells R e)
  ∃ ρ',MRep T N w0 w' X (setM (.row sh e l) mem d) ρ'∧Den w' (Forb X (setM (.row sh e l) mem d) ρ') ρ' (.row d) (.slice (some ⟨w.heap.size,0,none⟩) l.length cap) ∧
   Turn w (Forb X mem ρ) ρ w' (Forb X (setM (.row sh e l) mem d) ρ') ρ' (some d):=by
 intro w'
 have hbel:Below w.heap.size w w':=(Below.refl _ _).alloc (Nat.le_refl _) _
 obtain ⟨m',t'⟩:=m.create (w':=w') hno hnr (B:=.row sh e l) (v:=.slice (some ⟨w.heap.size,0,none⟩) l.length cap) (fun b hb=>by
   simp only [vblock] at hb
   split at hb
   ·cases hb
   ·injection hb with hb;subst hb;exact ⟨Nat.le_refl _,by show _ < (w.heap.push _).size;simp⟩) hbel
  (fun ht'=>⟨_,rfl,by
    by_cases h0:cap=0
    ·subst h0
     have hl0:l.length=0:=by omega
     exact .inl ⟨_,by rw [hl0],List.eq_nil_of_length_eq_zero hl0⟩
    ·refine .inr ⟨w.heap.size,0,cap,R,rfl,m.szN _ (Nat.le_refl _),heap_alloc_new w _,hlc,hcm,by omega,by omega,h1,fun i hi=>?_⟩
     rw [List.drop_zero]
     exact (hl i hi).mono ht'.size ht'.keep⟩)
 refine ⟨_,m',.row _ d _ _ _ (fun q hq=>?_),t'⟩
 simp only [upd,if_true] at hq
 injection hq with hq
 exact hq.symm
theorem litV_some {μ:Nat→Blk} {el:Nat} {j:TI} {e:Operand→SV}:∀ (ps:List (Nat × Operand)) (k:Nat) (l:List SV),litV T μ el j e k ps=some l →
  l.length=ps.length∧ps=((ps.map (·.2)).zipIdx k).map (fun p=>(p.2,p.1))∧∀ (q:Nat) (p:Nat × Operand),ps[q]?=some p→∃ y,l[q]?=some y∧view T μ el (e p.2)=some y∧chunkOk j y=true
 | [],k,l,h=>by
  simp only [litV] at h
  injection h with h;subst h
  simp
 | (i,x)::ps,k,l,h=>by
  simp only [litV] at h
  split at h
  case isFalse=>cases h
  rename_i hk
  have hk:=Nat.eq_of_beq_eq_true hk
  subst hk
  cases hv:view T μ el (e x) with
  | none=>rw [hv] at h;cases h
  | some y =>
   rw [hv] at h
   simp only at h
   split at h
   case isFalse=>cases h
   rename_i hc
   cases hl':litV T μ el j e (i+1) ps with
   | none=>rw [hl'] at h;cases h
   | some l' =>
    rw [hl'] at h
    injection h with h;subst h
    obtain ⟨i1,i2,i3⟩:=litV_some ps (i+1) l' hl'
    refine ⟨by simp [i1],by simp only [List.map_cons,List.zipIdx_cons];rw [← i2],fun q p hp=>?_⟩
    cases q with
    | zero=>simp at hp;subst hp;exact ⟨y,rfl,hv,hc⟩
    | succ q=>simpa using i3 q p (by simpa using hp)
theorem litIds_mem {e:Operand→SV}:∀ {ps:List (Nat × Operand)} {p:Nat × Operand},p∈ps→∀ r∈rids (e p.2),r∈litIds e ps
 | [],p,h,_,_=>by simp at h
 | (i,x)::ps,p,h,r,hr=>by
  simp only [litIds,List.mem_append]
  rcases List.mem_cons.1 h with rfl | h
  ·exact .inl hr
  ·exact .inr (litIds_mem h r hr)
theorem fill_seq (size:Nat):∀ (vs:List Value) (k:Nat) (A:Array Value),(∀ v∈vs,v.cells.size=size)→(k+vs.length) * size≤A.size→(∀ u∈A.toList,u.oneCell'=true)→(∀ v∈vs,∀ u∈v.cells.toList,u.oneCell'=true) →
  ∃ R:Array Value,Instr.fill (fun i=>some (i * size,size)) A ((vs.zipIdx k).map fun p=>(p.2,p.1))=some R∧R.size=A.size∧(∀ j:Nat,j < k * size→R[j]?=A[j]?) ∧
   (∀ (i:Nat) (v:Value),vs[i]?=some v→∀ j:Nat,j < size→R[(k+i) * size+j]?=v.cells[j]?)∧∀ u∈R.toList,u.oneCell'=true
 | [],k,A,_,_,hA1,_=>⟨A,by simp [Instr.fill],rfl,fun _ _=>rfl,fun i v h=>by simp at h,hA1⟩
 | v::vs,k,A,hv,hA,hA1,hv1=>by
  have h1:=hv v (by simp)
  have e0:(k+1) * size≤(k+(v::vs).length) * size:=Nat.mul_le_mul_right _ (by simp only [List.length_cons];omega)
  have e1:(k+1) * size=k * size+size:=Nat.succ_mul _ _
  have hl:k * size+0+v.cells.toList.length≤A.size:=by rw [Array.length_toList,h1];omega
  obtain ⟨g1,g2⟩:=fold_set v.cells.toList 0 (k * size) A hl
  have e:v.cells.zipIdx.foldl (fun (cs:Array Value) (p:Value × Nat)=>cs.setIfInBounds (k * size+p.2) p.1) A=(v.cells.toList.zipIdx 0).foldl (fun (cs:Array Value) (p:Value × Nat)=>cs.setIfInBounds (k * size+p.2) p.1) A:=by
   rw [← Array.foldl_toList,Array.toList_zipIdx]
  obtain ⟨R,r1,r2,r3,r4,r5⟩:=fill_seq size vs (k+1) (v.cells.zipIdx.foldl (fun (cs:Array Value) (p:Value × Nat)=>cs.setIfInBounds (k * size+p.2) p.1) A) (fun u hu=>hv u (by simp [hu])) (by
   rw [e,g1]
   have:(k+1+vs.length) * size=(k+(v::vs).length) * size:=by congr 1;simp;omega
   omega) (by
   rw [e]
   intro u hu
   obtain ⟨i,hi⟩:=List.mem_iff_getElem?.1 hu
   have hi':((v.cells.toList.zipIdx 0).foldl (fun (cs:Array Value) (p:Value × Nat)=>cs.setIfInBounds (k * size+p.2) p.1) A)[i]?=some u:=by simpa using hi
   rw [g2 i] at hi'
   split at hi'
   ·exact hv1 v (by simp) u (List.mem_of_getElem? hi')
   ·exact hA1 u (by rw [← Array.getElem?_toList] at hi';exact List.mem_of_getElem? hi')) (fun u hu=>hv1 u (by simp [hu]))
  refine ⟨R,?_,by rw [r2,e,g1],fun j hj=>?_,fun i u hu j hj=>?_,r5⟩
  ·simp only [List.zipIdx_cons,List.map_cons,Instr.fill]
   rw [if_neg (by simp [h1];omega)]
   exact r1
  ·rw [r3 j (by omega),e,g2 j,if_neg (by omega)]
  ·cases i with
   | zero =>
    simp at hu
    subst hu
    rw [Nat.add_zero,r3 _ (by omega),e,g2,if_pos (by rw [Array.length_toList,h1];omega)]
    simp
   | succ i =>
    have:=r4 i u (by simpa using hu) j hj
    rw [← this,show k+(i+1)=k+1+i by omega]
theorem made_one {z:Value} (hz:(z.cells.all (·.oneCell'))=true) (hs:0 < z.cells.size) (n:Nat):∀ u∈((Array.range n).map (z.cells[· % z.cells.size]!)).toList,u.oneCell'=true:=by
 intro u hu
 simp only [Array.toList_map,Array.toList_range,List.mem_map] at hu
 obtain ⟨j,_,rfl⟩:=hu
 have hlt:j % z.cells.size < z.cells.size:=Nat.mod_lt _ hs
 rw [getElem!_pos z.cells _ hlt]
 exact (Array.all_eq_true_iff_forall_mem.1 hz) _ (Array.getElem_mem hlt)
theorem valAt_made {z:Value} {sh:Option Nat} {n i:Nat} (hs:z.cells.size=wid sh) (hv:valAt sh z.cells.toList 0=z) (hi:i < n) (m:Nat) (hm:n * wid sh≤m) :
  valAt sh ((Array.range m).map (z.cells[· % z.cells.size]!)).toList i=z:=by
 have hle:i * wid sh+wid sh≤n * wid sh:=by rw [← Nat.succ_mul];exact Nat.mul_le_mul_right _ hi
 rw [valAt_seg _ _ _ (by simp;omega)]
 have:((((Array.range m).map (z.cells[· % z.cells.size]!)).toList.drop (i * wid sh)).take (wid sh))=z.cells.toList:=by
  apply List.ext_getElem?
  intro k
  rw [List.getElem?_take,List.getElem?_drop]
  by_cases hk:k < wid sh
  ·rw [if_pos hk]
   have e1:(i * wid sh+k) % z.cells.size=k:=by rw [hs,Nat.mul_comm,Nat.mul_add_mod,Nat.mod_eq_of_lt hk]
   simp only [Array.toList_map,Array.toList_range,List.getElem?_map]
   rw [List.getElem?_range (by omega)]
   simp only [Option.map_some,e1]
   rw [getElem!_pos z.cells k (by omega),Array.getElem?_toList,Array.getElem?_eq_getElem (by omega)]
  ·rw [if_neg hk,List.getElem?_eq_none (by rw [Array.length_toList];omega)]
 rw [this]
 exact hv
theorem mval_ok (tys:Types P T) (sz:Sizes T) (hz0:∀ t i,T t=some i→∀ d,noref d i.zero=true) {o:Oper} {d:Nat} {e:Operand→SV} {μ:Nat→Blk} {κ:SV→List (Nat × Blk)→Prop} (h:mval T d o.op e μ κ) :
  ∃ x U,κ x U∧(∀ q b,(q,b)∈U→q=d∨(μ q).own=true)∧Eff P T o e μ x U (some d):=by
 generalize ho:o.op=op at h
 cases op
 case box t x =>
  simp only [mval] at h
  split at h <;> try exact h.elim
  rename_i i ht
  split at h <;> try exact h.elim
  rename_i hc
  refine ⟨_,_,h,(fun q b hq=>by simp at hq;exact .inl hq.1),.of_run fun mem hμ hcr a N w0 w X ρ m hden=>?_⟩
  obtain ⟨hno,hnr,hn⟩:=hcr d rfl
  have hx:=normNil_den (T:=T) (t:=t) (hden x (by simp [ho,Op.operands]))
  obtain ⟨ρ',m',d',t'⟩:=new_chunk sz ht hc (noref_norm (hn x (by simp [ho,Op.operands]))) m hno hnr hx
  refine ⟨_,_,_,ρ',?_,.inl rfl,m',d',t'⟩
  simp only [execOp,ho,Instr.box,newVar,newRow,Sem.run_bind,run_newObj,Result.andThen_ok,Sem.run_pure]
  rfl
 case alloc t =>
  simp only [mval] at h
  split at h <;> try exact h.elim
  rename_i i ht
  split at h <;> try exact h.elim
  rename_i hc
  refine ⟨_,_,h,(fun q b hq=>by simp at hq;exact .inl hq.1),.of_run fun mem hμ hcr a N w0 w X ρ m hden=>?_⟩
  obtain ⟨hno,hnr,hn⟩:=hcr d rfl
  obtain ⟨z,hz,h2,_⟩:=(tys.ok t i ht).zero_run
  have hx:Den w (Forb X mem ρ) ρ i.zero z:=by rw [h2];exact ofValue_den _ _ _ _
  obtain ⟨ρ',m',d',t'⟩:=new_chunk sz ht hc (hz0 t i ht d) m hno hnr hx
  refine ⟨_,_,_,ρ',?_,.inl rfl,m',d',t'⟩
  simp only [execOp,ho,Instr.alloc,hz,newVar,newRow,Sem.run_bind,run_newObj,Result.andThen_ok,Sem.run_pure]
  rfl
 case makeSlice t n c =>
  simp only [mval] at h
  split at h <;> try exact h.elim
  rename_i i ht
  split at h <;> try exact h.elim
  rename_i el hk
  split at h <;> try exact h.elim
  rename_i j kn nv kc cv hj hn hc
  split at h <;> try exact h.elim
  rename_i hck
  simp only [Bool.and_eq_true,Bool.not_eq_true'] at hck
  obtain ⟨⟨g1,g2,g3,g4⟩,h⟩:=h
  rw [O.hrp] at h
  refine ⟨_,_,h,(fun q b hq=>by simp at hq;exact .inl hq.1),.of_run fun mem hμ hcr a N w0 w X ρ m hden=>?_⟩
  obtain ⟨hno,hnr,_⟩:=hcr d rfl
  have d1:=hden n (by simp [ho,Op.operands])
  have d2:=hden c (by simp [ho,Op.operands])
  rw [hn,Den.int_iff] at d1
  rw [hc,Den.int_iff] at d2
  have tj:=tys.ok el j hj
  have ti:=tys.ok t i ht
  obtain ⟨ji,j1,j2,j3⟩:=tj.inf
  obtain ⟨z,z1,z2,z3,z4,z5⟩:=tj.zero
  have hz:ji.zero=some z:=by rw [j1] at z1;simpa using z1
  have hw:=TI.wid_size (sz.one _ _ hj)
  have hp:0 < wid j.shape:=by
   rcases Nat.eq_zero_or_pos (wid j.shape) with h0 | h0
   ·rw [hw,h0] at hck;simp at hck
   ·exact h0
  have hdz:∀ Y ρ,Den w Y ρ j.zero z:=fun Y ρ=>by rw [z2];exact ofValue_den _ _ _ _
  obtain ⟨c1,c2,c3⟩:=chunk_den (sz.one el j hj) hck.1 (hdz (Forb X mem ρ) noEnv)
  have hrun:=run_make (P:=P) w t el ji z (ti.und_slice hk) j1 hz kn kc nv cv g1 g2 (by rw [j3];omega) g3
  rw [j2] at hrun
  have hsz:(madeCells z.cells (cv.toNat * j.size)).size=cv.toNat * wid j.shape:=by rw [size_madeCells,hw]
  obtain ⟨ρ',m',d',t'⟩:=new_row (e:=el) (sh:=j.shape) (l:=List.replicate nv.toNat j.zero) m hno hnr (madeCells z.cells (cv.toNat * j.size)) cv.toNat (by simp;omega) (by simp only [maxLen];omega) hsz
   (made_one z4 (by omega) _) (fun i hi=>by
    rw [List.getElem_replicate,show madeCells z.cells (cv.toNat * j.size)=(Array.range (cv.toNat * j.size)).map (z.cells[· % z.cells.size]!) from rfl]
    rw [valAt_made (n:=nv.toNat) (by omega) c3 (by simpa using hi) _ (by rw [hw];exact Nat.mul_le_mul_right _ (by omega))]
    exact hdz _ _)
  refine ⟨_,_,_,ρ',?_,.inl rfl,m',d',t'⟩
  simp only [execOp,ho,d1,d2,Sem.run_bind,hrun,Result.andThen_ok,Sem.run_pure]
  simp
 case buildSlice t n ps =>
  simp only [mval] at h
  split at h <;> try exact h.elim
  rename_i i ht
  split at h <;> try exact h.elim
  rename_i el hk
  split at h <;> try exact h.elim
  rename_i j he
  split at h <;> try exact h.elim
  rename_i hc
  simp only [Bool.and_eq_true,Bool.not_eq_true'] at hc
  obtain ⟨⟨c1,c2⟩,c3⟩:=hc
  have c1:ps.toList.length=n:=Nat.eq_of_beq_eq_true c1
  have c2:n * j.size≤16777216:=Nat.le_of_ble_eq_true c2
  have c3:j.size≠0:=by intro h0;rw [h0] at c3;simp at c3
  split at h <;> try exact h.elim
  rename_i l hl
  obtain ⟨l1,l2,l3⟩:=litV_some ps.toList 0 l hl
  have tok:=tys.ok t i ht
  have tj:=tys.ok el j he
  have hw:=TI.wid_size (sz.one _ _ he)
  refine ⟨_,_,h,(fun q b hq=>?_),.of_run fun mem hμ hcr a N w0 w X ρ m hd=>?_⟩
  ·rcases List.mem_append.1 hq with hq | hq
   ·obtain ⟨_,sh,e',k,hm,_⟩:=frzU_mem hq
    exact .inr (by rw [hm];rfl)
   ·simp at hq;exact .inl hq.1
  obtain ⟨hno,hnr,hnop⟩:=hcr d rfl
  have hmem:∀ p∈ps.toList,p.2∈o.op.operands:=by
   intro p hp
   rw [ho]
   simp only [Op.operands]
   exact List.mem_toArray.2 (List.mem_map.2 ⟨p,hp,rfl⟩)
  have fz:=freeze_ids hμ m (litIds e ps.toList)
  have hop:∀ (q:Nat) (p:Nat × Operand),ps.toList[q]?=some p→∃ y,l[q]?=some y∧chunkOk j y=true∧Den w (Forb X (appU (frzU μ (litIds e ps.toList)) mem) ρ) noEnv y (a.eval p.2):=by
   intro q p hp
   obtain ⟨y,y1,y2,y3⟩:=l3 q p hp
   exact ⟨y,y1,y3,fz.view (litIds_mem (List.mem_of_getElem? hp)) y2 (hd p.2 (hmem p (List.mem_of_getElem? hp)))⟩
  obtain ⟨z,hz,_,hzs,hz1,_⟩:=tj.zero_run
  have hvs:∀ v∈ps.toList.map (fun p=>a.eval p.2),v.cells.size=j.size∧∀ u∈v.cells.toList,u.oneCell'=true:=by
   intro v hv
   obtain ⟨p,hp,rfl⟩:=List.mem_map.1 hv
   obtain ⟨q,hq⟩:=List.mem_iff_getElem?.1 hp
   obtain ⟨y,y1,y2,y3⟩:=hop q p hq
   obtain ⟨k1,k2,_⟩:=chunk_den (sz.one el j he) y2 y3
   exact ⟨k1,k2⟩
  have hsz0:((Array.range (n * j.size)).map (z.cells[· % z.cells.size]!)).size=n * j.size:=by simp
  obtain ⟨R,r1,r2,_,r4,r5⟩:=fill_seq j.size (ps.toList.map fun p=>a.eval p.2) 0 ((Array.range (n * j.size)).map (z.cells[· % z.cells.size]!)) (fun v hv=>(hvs v hv).1) (by rw [hsz0,List.length_map,c1,Nat.zero_add];exact Nat.le_refl _)
   (made_one hz1 (by omega) _) (fun v hv=>(hvs v hv).2)
  have hparts:(ps.map fun (x:Nat × Operand)=>(x.1,a.eval x.2)).toList=((ps.toList.map fun p=>a.eval p.2).zipIdx 0).map (fun p=>(p.2,p.1)):=by
   rw [Array.toList_map]
   conv=>lhs;rw [l2]
   simp only [List.map_map,List.zipIdx_map]
   rfl
  have hlen:l.length=n:=by rw [l1,c1]
  have hdU:∀ b,(d,b) ∉ frzU μ (litIds e ps.toList):=by
   intro b hb
   obtain ⟨_,sh,e',k,hm,_⟩:=frzU_mem hb
   rcases hμ d with g | g
   ·rw [g] at hm;cases hm
   ·rw [g,hno] at hm;cases hm
  have hno':getM (appU (frzU μ (litIds e ps.toList)) mem) d=.no:=by
   rw [appU_ne (fun q b hq e=>hdU b (by rw [e];exact hq))]
   exact hno
  have hnr':memNoref d (appU (frzU μ (litIds e ps.toList)) mem)=true:=appU_noref hnr (fun q b hq=>by
   obtain ⟨_,sh,e',k,_,rfl⟩:=frzU_mem hq
   rfl)
  obtain ⟨ρ',m',d',t'⟩:=new_row (e:=el) (sh:=j.shape) (l:=l) fz.m hno' hnr' R n (by omega) (by simp only [maxLen];have:n≤n * j.size:=Nat.le_mul_of_pos_right _ (by omega);omega) (by rw [r2,hsz0,hw]) r5 (fun q hq=>by
   have hq':q < ps.toList.length:=by omega
   obtain ⟨y,y1,y2,y3⟩:=hop q _ (List.getElem?_eq_getElem hq')
   rw [List.getElem?_eq_getElem hq] at y1
   injection y1 with y1
   rw [y1]
   obtain ⟨k1,k2,k3⟩:=chunk_den (sz.one el j he) y2 y3
   have hget:=r4 q (a.eval (ps.toList[q]).2) (by rw [List.getElem?_map,List.getElem?_eq_getElem hq'];rfl)
   have hle:q * wid j.shape+wid j.shape≤R.toList.length:=by
    rw [Array.length_toList,r2,hsz0,hw,← Nat.succ_mul]
    exact Nat.mul_le_mul_right _ (by omega)
   rw [valAt_seg _ _ _ hle]
   have:(R.toList.drop (q * wid j.shape)).take (wid j.shape)=(a.eval (ps.toList[q]).2).cells.toList:=by
    apply List.ext_getElem?
    intro k
    rw [List.getElem?_take,List.getElem?_drop]
    by_cases hk':k < wid j.shape
    ·rw [if_pos hk',Array.getElem?_toList,Array.getElem?_toList]
     have:=hget k (by omega)
     rw [Nat.zero_add] at this
     rw [← hw]
     exact this
    ·rw [if_neg hk',List.getElem?_eq_none (by rw [Array.length_toList];omega)]
   rw [this,k3]
   exact y3)
  rw [hlen] at d'
  refine ⟨_,_,_,ρ',?_,.inl rfl,by rw [appU_append];exact m',by rw [appU_append];exact d',by rw [appU_append];exact fz.t.trans t'⟩
  rw [← hparts] at r1
  have hn0:¬ n * j.size > 2 ^ 24:=by omega
  simp only [execOp,ho,Instr.buildSlice,Sem.run_bind,run_underlying (tok.und_slice hk),Result.andThen_ok,tj.sizeOf,if_neg hn0]
  by_cases h0:n * j.size=0
  ·have e3:∀ (f g:Nat→Value),(Array.range (n * j.size)).map f=(Array.range (n * j.size)).map g:=fun f g=>by rw [h0];simp
   rw [e3 _ ((#[]:Array Value)[· % (#[]:Array Value).size]!)] at r1
   simp only [if_pos h0,Sem.run_bind,Sem.run_pure,Result.andThen_ok,r1,newRow,run_newObj]
   rfl
  ·simp only [if_neg h0,Sem.run_bind,Sem.run_pure,Result.andThen_ok,hz,r1,newRow,run_newObj]
   rfl
 case makeFunc fn first caps =>
  cases fn <;> simp only [mval] at h <;> try exact h.elim
  rename_i f
  split at h <;> try exact h.elim
  rename_i hfirst
  have hf0:first=#[]:=by
   cases first with | mk l=>cases l with
    | nil=>rfl
    | cons=>simp at hfirst
  subst hf0
  have hd:∀ {a:Act} {w:World} {Y:Nat→Prop} {ρ:Env},(∀ y∈o.op.operands,Den w Y ρ (e y) (a.eval y))→DenL w Y ρ (caps.toList.map e) (caps.toList.map a.eval):=by
   intro a w Y ρ hden
   refine ⟨by simp,fun i x v hx hv=>?_⟩
   simp only [List.getElem?_map,Option.map_eq_some_iff] at hx hv
   obtain ⟨y,hy,rfl⟩:=hx
   obtain ⟨y',hy',rfl⟩:=hv
   rw [hy] at hy'
   injection hy' with hy'
   subst hy'
   exact hden y (by rw [ho];simp only [Op.operands,Array.empty_append];exact Array.mem_toList_iff.1 (List.mem_of_getElem? hy))
  have e1:∀ a:Act,caps.map a.eval=⟨caps.toList.map a.eval⟩:=fun a=>by apply Array.ext';simp
  have fin:∀ {x:SV},(∀ (a:Act) (w:World) (Y:Nat→Prop) (ρ:Env),DenL w Y ρ (caps.toList.map e) (caps.toList.map a.eval)→Den w Y ρ x (.func (.func f) #[] ⟨caps.toList.map a.eval⟩))→Eff P T o e μ x [] (some d):=fun hx =>
   .of_run fun mem hμ hcr a N w0 w X ρ m hden=>by
    refine ⟨.value (.func (.func f) #[] ⟨caps.toList.map a.eval⟩),.func (.func f) #[] ⟨caps.toList.map a.eval⟩,w,ρ,?_,.inl rfl,m,hx a _ _ _ (hd hden),Turn.refl _ _ _ _⟩
    simp only [execOp,ho,Instr.makeFunc,Sem.run_bind,Sem.run_pure,Result.andThen_ok,Array.map_empty,e1]
  split at h
  ·rename_i hp
   exact ⟨_,_,h,(fun q b hq=>by simp at hq),fin fun a w Y ρ hc=>.clo _ f _ _ hc.1 fun i h1 h2=>(hc.2 i _ _ (List.getElem?_eq_getElem h1) (List.getElem?_eq_getElem h2)).env fun r=>.inr (.inr (plain_noref (allPlain_get hp i h1) r))⟩
  ·exact ⟨_,_,h,(fun q b hq=>by simp at hq),fin fun a w Y ρ hc=>.fcl _ f _ _ hc.1 fun i h1 h2=>hc.2 i _ _ (List.getElem?_eq_getElem h1) (List.getElem?_eq_getElem h2)⟩
 all_goals exact h.elim
end
end Go.Proofs.YtgfpjhddojhfpaaGreat

/- Texts put together: SE SF SG. -/
import Derived.Test.YtgfpjhddojhfpaaGreatZ05
namespace Go.Proofs.YtgfpjhddojhfpaaGreat
set_option linter.unusedVariables false
set_option linter.unusedSimpArgs false
section
open Go.RowKit
set_option maxHeartbeats 4000000
theorem sumP_u6 (bs:List UInt8):u6 (sumP bs):=by
 unfold sumP
 have h0:(iniP (lsN (keyB.take 8)) (lsN (keyB.drop 8))).Ok:=iniP_ok (lsN_u6 _ (by decide)) (lsN_u6 _ (by decide))
 generalize iniP (lsN (keyB.take 8)) (lsN (keyB.drop 8))=s at *
 have h1:=mixP_ok (stN_ok h0 bs (bs.length / 8)) (lastW_u6 bs)
 rw [finP_eq s bs _ rfl]
 generalize mixP (stN s bs (bs.length / 8)) (lastW bs)=t at *
 have h2:=rdn_ok (s:=⟨t.a,t.b,xo t.c 255,t.d⟩) ⟨h1.a,h1.b,xo_u6 h1.c (by unfold u6;omega),h1.d⟩ 4
 generalize rdn 4 ⟨t.a,t.b,xo t.c 255,t.d⟩=q at *
 exact xo_u6 (xo_u6 (xo_u6 h2.a h2.b) h2.c) h2.d
def tagB (v:Int) (i:Nat):UInt8:=UInt8.ofNat (v / 2 ^ (8 * i) % 256).toNat
def tagN (v:Int) (n:Nat):List UInt8:=(List.range n).map (tagB v)
def tagP (bs:List UInt8) (n:Nat):List UInt8:=tagN (sumP bs) n
theorem tagN_len (v:Int) (n:Nat):(tagN v n).length=n:=by simp [tagN]
theorem tagP_len (bs:List UInt8) (n:Nat):(tagP bs n).length=n:=tagN_len _ _
theorem tagB_val (v:Int) (i:Nat):((tagB v i).toNat:Int)=v / 2 ^ (8 * i) % 256:=by
 have h0:=Int.emod_nonneg (v / 2 ^ (8 * i)) (show (256:Int)≠0 by omega)
 have h1:=Int.emod_lt_of_pos (v / 2 ^ (8 * i)) (show (0:Int) < 256 by omega)
 unfold tagB
 generalize v / 2 ^ (8 * i) % 256=x at *
 simp only [UInt8.toNat_ofNat']
 omega
theorem tagF (v:Int) (n:Nat):∃ G:Nat→List SV,G 0=List.replicate n (.int .u8 0)∧(∀ i,(G i).length=n)∧(∀ i x,i < n→x=v / 2 ^ (8 * i) % 256→O.st (G i) i (.int .u8 x)=G (i+1))∧G n=u8l (tagN v n):=by
 refine ⟨fun i=>u8l ((tagN v n).take i++List.replicate (n - i) 0),by simp [u8l],fun i=>?_,fun i x hi hx=>?_,by show u8l ((tagN v n).take n++List.replicate (n - n) 0)=_;rw [List.take_of_length_le (by rw [tagN_len];omega)];simp⟩
 ·rw [u8l_len,List.length_append,List.length_take,List.length_replicate,tagN_len];omega
 ·rw [ost,hx,← tagB_val,u8l_set]
  congr 1
  have h1:(tagN v n).take (i+1)=(tagN v n).take i++[tagB v i]:=by
   rw [List.take_add_one]
   congr 1
   simp [tagN,hi]
  rw [h1,show n - i=(n - (i+1))+1 by omega,List.replicate_succ,List.set_append_right _ _ (by rw [List.length_take,tagN_len];omega),List.length_take,tagN_len,show i - min i n=0 by omega,List.set_cons_zero,List.append_assoc]
  rfl
theorem tag_c (bs:List UInt8) (X R:List SV) (hX:X=u8l bs) (hl:bs.length≤100000) (N:Int) (n:Nat) (hN:N=n) (hn:1≤n∧n≤8) (hR:R=u8l (tagP bs n)) :
  Good 107 (nu [.agg [.int .u8 17,.int .u8 18,.int .u8 19,.int .u8 20,.int .u8 21,.int .u8 22,.int .u8 23,.int .u8 24,.int .u8 25,.int .u8 26,.int .u8 27,.int .u8 28,.int .u8 29,.int .u8 30,.int .u8 31,.int .u8 32],.lst none X,.int .i64 N] (.tup [.row 1,.bool true]) (.row none 5 R)):=by
 obtain ⟨v,hv⟩:∃ v,v=sumP bs:=⟨_,rfl⟩
 have hvu:0≤v∧v≤18446744073709551615:=by rw [hv];exact sumP_u6 bs
 obtain ⟨G,G0,Gl,Gs,Gn⟩:=tagF v n
 have hs:=sum_c bs X v hX hl hv
 have hRv:R=u8l (tagN v n):=by rw [hR,hv];rfl
 clear hR
 have hN1:1≤N∧N≤8:=by omega
 refine Good.of Tryz.func107 rfl (by rfl) (by kernel_rfl) ?_
 cbv
 (repeat' (first
| ((first
| (refine q1w (fun z hz=>?_);(try simp only at hz))
| refine rqa ?_
| refine chpA ?_
| refine QCt ?_
| refine QCf ?_);cbv)
| (refine QC.mk ?_ ?_ <;> intro hc <;> (try dsimp only at hc) <;> cbv)
| (refine br_mk2 ?_ ?_ <;> intro hb <;> (try subst hb) <;> cbv)
| (refine callq (hs) rfl rfl ?_;cbv)))
 refine loopQ (A:=Nat × Int) (fun p=>p.2=p.1∧p.1≤n) (fun p=>n - p.1) (fun p=>[(9,.row 9),(23,.int .i64 p.2)]) (fun p=>[(9,.row none 5 (G p.1))]) (0,0) ⟨rfl,by omega⟩ ?_ ?_
 ·cbv
  refine ⟨?_,trivial⟩
  show Blk.row none 5 (O.rp N (.int .u8 0))=Blk.row none 5 (G 0)
  rw [G0,orp,show N.toNat=n by (first | omega | (simp only [cst] at *;omega) | (simp only [sm] at *;omega))]
 ·intro ⟨i,j⟩ h
  have hj:j=(i:Int):=h.1
  have hi:i≤n:=h.2
  clear h
  have hgl:=Gl i
  have hst:=Gs i
  have hj8:(8 * j).toNat=8 * i:=by omega
  cbv
  (repeat' (first
| ((first
| (refine q1w (fun z hz=>?_);(try simp only at hz))
| refine rqa ?_
| refine chpA ?_
| refine QCt ?_
| refine QCf ?_);cbv)
| (refine QC.mk ?_ ?_ <;> intro hc <;> (try dsimp only at hc) <;> cbv)
| (refine br_mk2 ?_ ?_ <;> intro hb <;> (try subst hb) <;> cbv)))
  ·have him:i < n:=by (first | omega | (simp only [cst] at *;omega) | (simp only [sm] at *;omega))
   refine qv i (by (first | omega | (simp only [cst] at *;omega) | (simp only [sm] at *;omega))) ?_
   cbv
   (repeat' (first
| ((first
| (refine q1w (fun z hz=>?_);(try simp only at hz))
| refine rqa ?_
| refine chpA ?_
| refine QCt ?_
| refine QCf ?_);cbv)
| (refine QC.mk ?_ ?_ <;> intro hc <;> (try dsimp only at hc) <;> cbv)
| (refine br_mk2 ?_ ?_ <;> intro hb <;> (try subst hb) <;> cbv)))
   rename_i z1 h1 z2 h2 z3 h3
   refine ⟨(i+1,z),⟨by (first | omega | (simp only [cst] at *;omega) | (simp only [sm] at *;omega)),by (first | omega | (simp only [cst] at *;omega) | (simp only [sm] at *;omega))⟩,by (first | omega | (simp only [cst] at *;omega) | (simp only [sm] at *;omega)),?_⟩
   cbv
   refine ⟨?_,trivial⟩
   show Blk.row none 5 (O.st (G i) i (.int .u8 z3))=Blk.row none 5 (G (i+1))
   rw [hst z3 him (by rw [h3,h2,h1,hj8])]
  ·have e:i=n:=by (first | omega | (simp only [cst] at *;omega) | (simp only [sm] at *;omega))
   refine ⟨rfl,?_,rfl⟩
   show Blk.row none 5 (G i)=.row none 5 R
   rw [e,Gn,hRv]
end
section
open Go.RowKit
set_option maxHeartbeats 4000000
theorem by_u8 (a:List UInt8):O.by' ⟨a.toArray⟩=u8l a:=by rw [oby];simp [u8l]
theorem equal_c (a b:List UInt8) (X Y:List SV) (hX:X=u8l a) (hY:Y=u8l b) (r:Bool) (hr:r=decide (a=b)):Good 53 (pu [.lst none X,.lst none Y] (.bool r)):=by
 obtain ⟨s,hs⟩:∃ s:ByteArray,X=O.by' s∧s=⟨a.toArray⟩:=⟨_,by rw [by_u8,hX],rfl⟩
 obtain ⟨t,ht⟩:∃ s:ByteArray,Y=O.by' s∧s=⟨b.toArray⟩:=⟨_,by rw [by_u8,hY],rfl⟩
 refine Good.of Tryz.func53 rfl (by rfl) (by kernel_rfl) ?_
 cbv
 (repeat' (first
| ((first
| (refine q1w (fun z hz=>?_);(try simp only at hz))
| refine rqa ?_
| refine chpA ?_
| refine QCt ?_
| refine QCf ?_);cbv)
| (refine QC.mk ?_ ?_ <;> intro hc <;> (try dsimp only at hc) <;> cbv)
| (refine br_mk2 ?_ ?_ <;> intro hb <;> (try subst hb) <;> cbv)))
 refine qv s hs.1 ?_
 cbv
 (repeat' (first
| ((first
| (refine q1w (fun z hz=>?_);(try simp only at hz))
| refine rqa ?_
| refine chpA ?_
| refine QCt ?_
| refine QCf ?_);cbv)
| (refine QC.mk ?_ ?_ <;> intro hc <;> (try dsimp only at hc) <;> cbv)
| (refine br_mk2 ?_ ?_ <;> intro hb <;> (try subst hb) <;> cbv)))
 refine qv t ht.1 ?_
 cbv
 (repeat' (first
| ((first
| (refine q1w (fun z hz=>?_);(try simp only at hz))
| refine rqa ?_
| refine chpA ?_
| refine QCt ?_
| refine QCf ?_);cbv)
| (refine QC.mk ?_ ?_ <;> intro hc <;> (try dsimp only at hc) <;> cbv)
| (refine br_mk2 ?_ ?_ <;> intro hb <;> (try subst hb) <;> cbv)))
 ·refine ⟨?_,rfl,rfl⟩
  have:a=b:=by
   rw [hs.2,ht.2] at hc
   injection hc with hc
   injection hc
  rw [hr,this]
  simp
 ·refine ⟨?_,rfl,rfl⟩
  have:a≠b:=fun e=>hc (by rw [hs.2,ht.2,e])
  rw [hr]
  simp [this]
theorem verify_c (bs tag:List UInt8) (X Y:List SV) (hX:X=u8l bs) (hl:bs.length≤100000) (hY:Y=u8l tag) (ht:1≤tag.length∧tag.length≤8) (r:Bool) (hr:r=decide (tagP bs tag.length=tag)) :
  Good 110 (pu [.agg [.int .u8 17,.int .u8 18,.int .u8 19,.int .u8 20,.int .u8 21,.int .u8 22,.int .u8 23,.int .u8 24,.int .u8 25,.int .u8 26,.int .u8 27,.int .u8 28,.int .u8 29,.int .u8 30,.int .u8 31,.int .u8 32],.lst none X,.lst none Y] (.bool r)):=by
 obtain ⟨N,hN⟩:∃ N:Int,N=tag.length:=⟨_,rfl⟩
 have hyl:Y.length=tag.length:=by rw [hY,u8l_len]
 have h2:=equal_c (tagP bs tag.length) tag (u8l (tagP bs tag.length)) Y rfl hY r hr
 obtain ⟨R,hR⟩:∃ R,R=u8l (tagP bs tag.length):=⟨_,rfl⟩
 rw [← hR] at h2
 have h1:=tag_c bs X R hX hl
 refine Good.of Tryz.func110 rfl (by rfl) (by kernel_rfl) ?_
 cbv
 (repeat' (first
| ((first
| (refine q1w (fun z hz=>?_);(try simp only at hz))
| refine rqa ?_
| refine chpA ?_
| refine QCt ?_
| refine QCf ?_);cbv)
| (refine QC.mk ?_ ?_ <;> intro hc <;> (try dsimp only at hc) <;> cbv)
| (refine br_mk2 ?_ ?_ <;> intro hb <;> (try subst hb) <;> cbv)))
 have hz1:z=(tag.length:Int):=by (first | omega | (simp only [cst] at *;omega) | (simp only [sm] at *;omega))
 refine callq (h1 z tag.length hz1 ht hR) rfl rfl ?_
 cbv
 (repeat' (first
| ((first
| (refine q1w (fun z hz=>?_);(try simp only at hz))
| refine rqa ?_
| refine chpA ?_
| refine QCt ?_
| refine QCf ?_);cbv)
| (refine QC.mk ?_ ?_ <;> intro hc <;> (try dsimp only at hc) <;> cbv)
| (refine br_mk2 ?_ ?_ <;> intro hb <;> (try subst hb) <;> cbv)))
 refine callq h2 rfl rfl ?_
 cbv
 (repeat' (first
| ((first
| (refine q1w (fun z hz=>?_);(try simp only at hz))
| refine rqa ?_
| refine chpA ?_
| refine QCt ?_
| refine QCf ?_);cbv)
| (refine QC.mk ?_ ?_ <;> intro hc <;> (try dsimp only at hc) <;> cbv)
| (refine br_mk2 ?_ ?_ <;> intro hb <;> (try subst hb) <;> cbv)))
 exact ⟨rfl,rfl,rfl⟩
end
section
open Go.RowKit
set_option maxHeartbeats 4000000
def crcBit (x:Int):Int:=if ((x.toNat &&& 1:Nat):Int)=1 then xo (x / 2) 33800 else x / 2
def crcBits:Nat→Int→Int
 | 0,x=>x
 | k+1,x=>crcBit (crcBits k x)
def crcP:List UInt8→Int→Int
 | [],x=>x
 | b::l,x=>crcP l (crcBits 8 (xo x b.toNat))
def u2 (x:Int):Prop:=0≤x∧x≤65535
theorem xo_u2 {a b:Int} (ha:u2 a) (hb:u2 b):u2 (xo a b):=by
 unfold u2 xo at *
 have:=Nat.xor_lt_two_pow (x:=a.toNat) (y:=b.toNat) (n:=16) (by omega) (by omega)
 omega
theorem crcBit_u2 {x:Int} (h:u2 x):u2 (crcBit x):=by
 unfold crcBit
 have h2:u2 (x / 2):=by unfold u2 at *;omega
 split
 ·exact xo_u2 h2 (by unfold u2;omega)
 ·exact h2
theorem crcBits_u2 {x:Int} (h:u2 x):∀ k,u2 (crcBits k x)
 | 0=>h
 | k+1=>crcBit_u2 (crcBits_u2 h k)
theorem byte_u2 (b:UInt8):u2 b.toNat:=by
 have:=b.toNat_lt
 unfold u2
 omega
theorem crcP_u2:∀ (l:List UInt8) {x:Int},u2 x→u2 (crcP l x)
 | [],_,h=>h
 | b::l,_,h=>crcP_u2 l (crcBits_u2 (xo_u2 h (byte_u2 b)) 8)
theorem crcP_app:∀ (l m:List UInt8) (x:Int),crcP (l++m) x=crcP m (crcP l x)
 | [],_,_=>rfl
 | b::l,m,x=>crcP_app l m _
theorem crcF (bs:List UInt8):∃ (V B:Nat→Int) (W:Nat→Nat→Int),V 0=0∧V bs.length=crcP bs 0∧(∀ i,u2 (V i))∧(∀ i k,u2 (W i k)) ∧
  (∀ i,i < bs.length→(u8l bs)[i]?=some (.int .u8 (B i))∧(0≤B i∧B i≤255)∧(∀ x,x=xo (V i) (B i)→x=W i 0)∧W i 8=V (i+1)) ∧
  ∀ i k a h,a=(((W i k).toNat &&& 1:Nat):Int)→h=W i k / 2→(a=1→∀ y,y=xo h 33800→y=W i (k+1))∧(a≠1→h=W i (k+1)):=by
 refine ⟨fun i=>crcP (bs.take i) 0,fun i=>(bs.getD i 0).toNat,fun i k=>crcBits k (xo (crcP (bs.take i) 0) (bs.getD i 0).toNat),rfl,by simp,fun i=>crcP_u2 _ (by unfold u2;omega),fun i k=>crcBits_u2 (xo_u2 (crcP_u2 _ (by unfold u2;omega)) (byte_u2 _)) k,fun i hi=>⟨u8l_at i hi,?_,fun x hx=>hx,?_⟩,fun i k a h ha hh=>⟨fun h1 y hy=>?_,fun h1=>?_⟩⟩
 ·have:=(bs.getD i 0).toNat_lt
  dsimp only
  omega
 ·have h1:bs.take (i+1)=bs.take i++[bs.getD i 0]:=by rw [List.take_add_one];simp [List.getD,hi]
  dsimp only
  rw [h1,crcP_app]
  rfl
 ·dsimp only at *
  rw [hy,hh]
  show _=crcBit _
  rw [crcBit,if_pos (by rw [← ha];exact h1)]
 ·dsimp only at *
  rw [hh]
  show _=crcBit _
  rw [crcBit,if_neg (by rw [← ha];exact h1)]
theorem extend_c (bs:List UInt8) (X:List SV) (r:Int) (hX:X=u8l bs) (hlb:bs.length≤100000) (hr:r=crcP bs 0):Good 172 (pu [.int .u16 0,.lst none X] (.int .u16 r)):=by
 obtain ⟨V,B,W,V0,Vn,hV,hW,hB,hS⟩:=crcF bs
 have hl:X.length=bs.length:=by rw [hX,u8l_len]
 refine Good.of Tryz.func172 rfl (by rfl) (by kernel_rfl) ?_
 cbv
 (repeat' (first
| ((first
| (refine q1w (fun z hz=>?_);(try simp only at hz))
| refine rqa ?_
| refine chpA ?_
| refine QCt ?_
| refine QCf ?_);cbv)
| (refine QC.mk ?_ ?_ <;> intro hc <;> (try dsimp only at hc) <;> cbv)
| (refine br_mk2 ?_ ?_ <;> intro hb <;> (try subst hb) <;> cbv)))
 refine loopQ (A:=Nat × Int) (fun p=>p.2=p.1∧p.1≤bs.length) (fun p=>bs.length - p.1) (fun p=>[(0,.int .u16 (V p.1)),(10,.int .i64 p.2)]) (fun p=>[]) (0,0) ⟨rfl,by omega⟩ ?_ ?_
 ·cbv
  refine ⟨⟨?_,trivial⟩,trivial⟩
  show SV.int .u16 0=SV.int .u16 (V 0)
  rw [V0]
 ·intro ⟨i,j⟩ h
  have hj:j=(i:Int):=h.1
  have hi:i≤bs.length:=h.2
  clear h
  have hv1:0≤V i∧V i≤65535:=hV i
  have hbi:=hB i
  have hsi:=hS i
  have hwi:∀ k,0≤W i k∧W i k≤65535:=hW i
  cbv
  (repeat' (first
| ((first
| (refine q1w (fun z hz=>?_);(try simp only at hz))
| refine rqa ?_
| refine chpA ?_
| refine QCt ?_
| refine QCf ?_);cbv)
| (refine QC.mk ?_ ?_ <;> intro hc <;> (try dsimp only at hc) <;> cbv)
| (refine br_mk2 ?_ ?_ <;> intro hb <;> (try subst hb) <;> cbv)))
  ·have hjm:i < bs.length:=by (first | omega | (simp only [cst] at *;omega) | (simp only [sm] at *;omega))
   have b1:=(hbi hjm).1
   have b2:=(hbi hjm).2.1
   have b3:=(hbi hjm).2.2.1
   have b4:=(hbi hjm).2.2.2
   refine qv (i,.int .u8 (B i)) ⟨hj,by rw [hX];exact b1⟩ ?_
   cbv
   (repeat' (first
| ((first
| (refine q1w (fun z hz=>?_);(try simp only at hz))
| refine rqa ?_
| refine chpA ?_
| refine QCt ?_
| refine QCf ?_);cbv)
| (refine QC.mk ?_ ?_ <;> intro hc <;> (try dsimp only at hc) <;> cbv)
| (refine br_mk2 ?_ ?_ <;> intro hb <;> (try subst hb) <;> cbv)))
   rename_i z1 h1
   have e1:z1=B i:=by omega
   have e0:z=W i 0:=b3 z (by rw [hz,e1];rfl)
   clear hz
   refine loopQ (A:=Nat × Int) (fun p=>p.2=p.1∧p.1≤8) (fun p=>8 - p.1) (fun p=>[(0,.int .u16 (W i p.1)),(18,.int .i64 p.2)]) (fun p=>[]) (0,0) ⟨rfl,by omega⟩ ?_ ?_
   ·cbv
    refine ⟨⟨?_,trivial⟩,trivial⟩
    show SV.int .u16 z=SV.int .u16 (W i 0)
    rw [e0]
   ·intro ⟨k,m⟩ h
    have hm:m=(k:Int):=h.1
    have hk:k≤8:=h.2
    clear h
    have hwk:=hwi k
    have hsk:=hsi k
    cbv
    (repeat' (first
| ((first
| (refine q1w (fun z hz=>?_);(try simp only at hz))
| refine rqa ?_
| refine chpA ?_
| refine QCt ?_
| refine QCf ?_);cbv)
| (refine QC.mk ?_ ?_ <;> intro hc <;> (try dsimp only at hc) <;> cbv)
| (refine br_mk2 ?_ ?_ <;> intro hb <;> (try subst hb) <;> cbv)))
    ·rename_i a1 ha1
     have p1:(2:Int) ^ Int.toNat 1=2:=rfl
     rw [p1] at hz
     have hs1:=(hsk a1 z ha1 hz).1 hc
     refine q1 ⟨by omega,by omega,by omega,by omega⟩ fun y hy=>?_
     have hy1:=hs1 y hy
     clear hs1 hsk
     cbv
     (repeat' (first
| ((first
| (refine q1w (fun z hz=>?_);(try simp only at hz))
| refine rqa ?_
| refine chpA ?_
| refine QCt ?_
| refine QCf ?_);cbv)
| (refine QC.mk ?_ ?_ <;> intro hc <;> (try dsimp only at hc) <;> cbv)
| (refine br_mk2 ?_ ?_ <;> intro hb <;> (try subst hb) <;> cbv)))
     refine ⟨(k+1,z),⟨by (first | omega | (simp only [cst] at *;omega) | (simp only [sm] at *;omega)),by (first | omega | (simp only [cst] at *;omega) | (simp only [sm] at *;omega))⟩,by (first | omega | (simp only [cst] at *;omega) | (simp only [sm] at *;omega)),?_⟩
     cbv
     refine ⟨⟨?_,trivial⟩,trivial⟩
     show SV.int .u16 y=SV.int .u16 (W i (k+1))
     rw [hy1]
    ·rename_i hc0 a1 ha1 h1 hh1
     have p1:(2:Int) ^ Int.toNat 1=2:=rfl
     rw [p1] at hh1
     have hs1:=(hsk a1 h1 ha1 hh1).2 hc
     refine ⟨(k+1,z),⟨by (first | omega | (simp only [cst] at *;omega) | (simp only [sm] at *;omega)),by (first | omega | (simp only [cst] at *;omega) | (simp only [sm] at *;omega))⟩,by (first | omega | (simp only [cst] at *;omega) | (simp only [sm] at *;omega)),?_⟩
     cbv
     refine ⟨⟨?_,trivial⟩,trivial⟩
     show SV.int .u16 h1=SV.int .u16 (W i (k+1))
     rw [hs1]
    ·have hk8:k=8:=by (first | omega | (simp only [cst] at *;omega) | (simp only [sm] at *;omega))
     refine ⟨(i+1,z),⟨by (first | omega | (simp only [cst] at *;omega) | (simp only [sm] at *;omega)),by (first | omega | (simp only [cst] at *;omega) | (simp only [sm] at *;omega))⟩,by (first | omega | (simp only [cst] at *;omega) | (simp only [sm] at *;omega)),?_⟩
     cbv
     refine ⟨⟨?_,trivial⟩,trivial⟩
     show SV.int .u16 (W i k)=SV.int .u16 (V (i+1))
     rw [hk8,b4]
  ·have e:i=bs.length:=by (first | omega | (simp only [cst] at *;omega) | (simp only [sm] at *;omega))
   refine ⟨?_,rfl,rfl⟩
   show SV.int .u16 (V i)=.int .u16 r
   rw [e,Vn,hr]
def crcL (bs:List UInt8):List UInt8:=[tagB (crcP bs 0) 0,tagB (crcP bs 0) 1]
theorem crc_c (bs:List UInt8) (X:List SV) (r:Int) (hX:X=u8l bs) (hlb:bs.length≤100000) (hr:r=crcP bs 0):Good 113 (pu [.lst none X] (.int .u16 r)):=by
 have h1:=extend_c bs X r hX hlb hr
 refine Good.of Tryz.func113 rfl (by rfl) (by kernel_rfl) ?_
 cbv
 (repeat' (first
| ((first
| (refine q1w (fun z hz=>?_);(try simp only at hz))
| refine rqa ?_
| refine chpA ?_
| refine QCt ?_
| refine QCf ?_);cbv)
| (refine QC.mk ?_ ?_ <;> intro hc <;> (try dsimp only at hc) <;> cbv)
| (refine br_mk2 ?_ ?_ <;> intro hb <;> (try subst hb) <;> cbv)
| (refine callq (h1) rfl rfl ?_;cbv)))
 exact ⟨rfl,rfl,rfl⟩
theorem crcAppend_c (bs:List UInt8) (X R:List SV) (hX:X=u8l bs) (hlb:bs.length≤100000) (hR:R=u8l (bs++crcL bs)):Good 60 (nu [.lst none X] (.row 1) (.row none 5 R)):=by
 obtain ⟨c,hc0⟩:∃ c,c=crcP bs 0:=⟨_,rfl⟩
 have h1:=crc_c bs X c hX hlb hc0
 have hcu:0≤c∧c≤65535:=by rw [hc0];exact crcP_u2 bs (by unfold u2;omega)
 have hl:X.length=bs.length:=by rw [hX,u8l_len]
 have hd:∀ a b,a=c % 256→b=c / 2 ^ (8:Nat) % 256→X++[.int .u8 a,.int .u8 b]=R:=by
  intro a b ha hb
  rw [hR,← u8l_app,hX]
  congr 1
  show _=[SV.int .u8 (tagB (crcP bs 0) 0).toNat,SV.int .u8 (tagB (crcP bs 0) 1).toNat]
  rw [tagB_val,tagB_val,← hc0,ha,hb]
  simp
 refine Good.of Tryz.func60 rfl (by rfl) (by kernel_rfl) ?_
 cbv
 (repeat' (first
| ((first
| (refine q1w (fun z hz=>?_);(try simp only at hz))
| refine rqa ?_
| refine chpA ?_
| refine QCt ?_
| refine QCf ?_);cbv)
| (refine QC.mk ?_ ?_ <;> intro hc <;> (try dsimp only at hc) <;> cbv)
| (refine br_mk2 ?_ ?_ <;> intro hb <;> (try subst hb) <;> cbv)
| (refine callq (h1) rfl rfl ?_;cbv)))
 rename_i y0 f0 y1 f1 y2 f2 y3 f3
 have p8:(2:Int) ^ Int.toNat 8=2 ^ (8:Nat):=rfl
 rw [p8] at f3
 have e0:(Classical.choice lo_ex).5 0 (SV.int IntKind.u8 0)=[]:=by show O.rp 0 _=[];rw [orp];rfl
 simp only [e0]
 refine rq (by show (((O.ln X:Nat):Int)+((O.ln [SV.int .u8 y2,SV.int .u8 z]:Nat):Int)) * 1≤_;simp only [oln,List.length_cons,List.length_nil];omega) ?_
 cbv
 (repeat' (first
| ((first
| (refine q1w (fun z hz=>?_);(try simp only at hz))
| refine rqa ?_
| refine chpA ?_
| refine QCt ?_
| refine QCf ?_);cbv)
| (refine QC.mk ?_ ?_ <;> intro hc <;> (try dsimp only at hc) <;> cbv)
| (refine br_mk2 ?_ ?_ <;> intro hb <;> (try subst hb) <;> cbv)))
 refine ⟨rfl,?_,rfl⟩
 show Blk.row none 5 (apL X [SV.int .u8 y2,SV.int .u8 z])=_
 rw [apL_eq,hd y2 z f2 (by rw [hz,f3])]
theorem check_c (bs:List UInt8) (X:List SV) (hX:X=u8l bs) (hlb:bs.length≤100000) (h2:2≤bs.length) (r:Bool) (hr:r=decide (bs.drop (bs.length - 2)=crcL (bs.take (bs.length - 2)))):Good 51 (pu [.lst none X] (.bool r)):=by
 obtain ⟨n,hn⟩:∃ n,n=bs.length - 2:=⟨_,rfl⟩
 rw [← hn] at hr
 obtain ⟨c,hc0⟩:∃ c,c=crcP (bs.take n) 0:=⟨_,rfl⟩
 have h1:=fun Y hY=>crc_c (bs.take n) Y c hY (by rw [List.length_take];omega) hc0
 have hcu:0≤c∧c≤65535:=by rw [hc0];exact crcP_u2 _ (by unfold u2;omega)
 have hl:X.length=bs.length:=by rw [hX,u8l_len]
 obtain ⟨a,ha⟩:∃ a:Int,a=(bs.getD n 0).toNat:=⟨_,rfl⟩
 obtain ⟨b,hb⟩:∃ b:Int,b=(bs.getD (n+1) 0).toNat:=⟨_,rfl⟩
 have ga:X[n]?=some (.int .u8 a):=by rw [hX,ha];exact u8l_at n (by omega)
 have gb:X[n+1]?=some (.int .u8 b):=by rw [hX,hb];exact u8l_at (n+1) (by omega)
 have hab:r=decide (a=c % 256∧b=c / 2 ^ (8:Nat) % 256):=by
  have e1:bs.drop n=[bs.getD n 0,bs.getD (n+1) 0]:=by
   apply List.ext_getElem?
   intro i
   rw [List.getElem?_drop]
   match i with
   | 0=>simp [List.getD,show n < bs.length by omega]
   | 1=>simp [List.getD,show n+1 < bs.length by omega]
   | i+2=>rw [List.getElem?_eq_none (by omega)];rfl
  have t:∀ (x:UInt8) (k:Nat),(x=tagB c k) ↔ ((x.toNat:Int)=c / 2 ^ (8 * k) % 256):=by
   intro x k
   rw [← tagB_val]
   constructor
   ·intro e;rw [e]
   ·intro e;exact UInt8.toNat_inj.1 (by omega)
  rw [hr,e1,crcL,← hc0]
  simp only [List.cons.injEq,and_true,t]
  rw [ha,hb]
  simp
 refine Good.of Tryz.func51 rfl (by rfl) (by kernel_rfl) ?_
 cbv
 (repeat' (first
| ((first
| (refine q1w (fun z hz=>?_);(try simp only at hz))
| refine rqa ?_
| refine chpA ?_
| refine QCt ?_
| refine QCf ?_);cbv)
| (refine QC.mk ?_ ?_ <;> intro hc <;> (try dsimp only at hc) <;> cbv)
| (refine br_mk2 ?_ ?_ <;> intro hb <;> (try subst hb) <;> cbv)))
 have ez:z.toNat=n:=by (first | omega | (simp only [cst] at *;omega) | (simp only [sm] at *;omega))
 refine callq (h1 (O.tk z X) (by rw [otk,hX,u8l_take,ez])) rfl rfl ?_
 cbv
 (repeat' (first
| ((first
| (refine q1w (fun z hz=>?_);(try simp only at hz))
| refine rqa ?_
| refine chpA ?_
| refine QCt ?_
| refine QCf ?_);cbv)
| (refine QC.mk ?_ ?_ <;> intro hc <;> (try dsimp only at hc) <;> cbv)
| (refine br_mk2 ?_ ?_ <;> intro hb <;> (try subst hb) <;> cbv)))
 refine qv (n,.int .u8 a) ⟨by (first | omega | (simp only [cst] at *;omega) | (simp only [sm] at *;omega)),ga⟩ ?_
 cbv
 have p8:(2:Int) ^ Int.toNat 8=2 ^ (8:Nat):=rfl
 (repeat' (first
| ((first
| (refine q1w (fun z hz=>?_);(try simp only at hz))
| refine rqa ?_
| refine chpA ?_
| refine QCt ?_
| refine QCf ?_);cbv)
| (refine QC.mk ?_ ?_ <;> intro hc <;> (try dsimp only at hc) <;> cbv)
| (refine br_mk2 ?_ ?_ <;> intro hb <;> (try subst hb) <;> cbv)))
 ·refine qv (n+1,.int .u8 b) ⟨by (first | omega | (simp only [cst] at *;omega) | (simp only [sm] at *;omega)),gb⟩ ?_
  cbv
  (repeat' (first
| ((first
| (refine q1w (fun z hz=>?_);(try simp only at hz))
| refine rqa ?_
| refine chpA ?_
| refine QCt ?_
| refine QCf ?_);cbv)
| (refine QC.mk ?_ ?_ <;> intro hc <;> (try dsimp only at hc) <;> cbv)
| (refine br_mk2 ?_ ?_ <;> intro hb <;> (try subst hb) <;> cbv)))
  ·rename_i y2 f2 g2 y1 f1 y0 f0
   rw [p8] at f0
   refine ⟨?_,rfl,rfl⟩
   rw [hab,decide_eq_true ⟨by rw [g2,f2],by rw [hc,hz,f0]⟩]
  ·rename_i y2 f2 g2 y1 f1 y0 f0
   rw [p8] at f0
   refine ⟨?_,rfl,rfl⟩
   rw [hab,decide_eq_false fun h=>hc (by rw [h.2,hz,f0])]
 ·refine ⟨?_,rfl,rfl⟩
  rw [hab,decide_eq_false fun h=>hc (by rw [h.1,hz])]
end
end Go.Proofs.YtgfpjhddojhfpaaGreat

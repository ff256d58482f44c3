/- Texts put together: VE VG. -/
import Derived.Test.YtgfpjhddojhfpaaGreatZ17
namespace Go.Proofs.YtgfpjhddojhfpaaGreat
set_option linter.unusedVariables false
set_option linter.unusedSimpArgs false
section
open Go.RowKit
set_option maxHeartbeats 8000000
def chk (sz:Nat) (b:List UInt8) (n:Nat):List (List UInt8):=(List.range n).map fun i=>(b.drop (i * sz)).take sz
theorem chk_len (sz:Nat) (b:List UInt8) (n:Nat):(chk sz b n).length=n:=by simp [chk]
theorem chk_succ (sz:Nat) (b:List UInt8) (n:Nat):chk sz b (n+1)=chk sz b n++[(b.drop (n * sz)).take sz]:=by simp [chk,List.range_succ]
def nPc (len sz:Nat):Nat:=(len - 1) / sz+1
theorem nPc_lt {len sz i:Nat} (h1:1≤len) (hs:1≤sz) (h:i < nPc len sz):i * sz < len:=by
 have h2:i≤(len - 1) / sz:=by unfold nPc at h;omega
 have h3:=(Nat.le_div_iff_mul_le (by omega)).1 h2
 omega
theorem nPc_ge {len sz:Nat} (h1:1≤len) (hs:1≤sz):len≤nPc len sz * sz:=by
 have h2:=Nat.lt_div_mul_add (show 0 < sz by omega) (a:=len - 1)
 unfold nPc
 rw [Nat.add_mul]
 omega
def zeroS:SV:=.agg [.int .i64 0,.int .u8 0,.nil,.int .u32 0,.int .i64 0,.int .i64 0]
def begX (b:List UInt8) (tag room:Int):SV × Int :=
 if room≤4 then (zeroS,2) else if b.length=0∨32≤((b.length:Int) - 1) / (room - 4) then (zeroS,3)
 else ((⟨1,tag,chk (room - 4).toNat b (nPc b.length (room - 4).toNat),0,0,0⟩:Snd).v,0)
theorem begin_c (b:List UInt8) (B:List SV) (hB:B=u8l b) (hb:b.length≤140737488351232) (tag room:Int) (hr:-9223372036854775808≤room∧room≤9223372036854775807) (X:SV) (e:Int) (hX:begX b tag room=(X,e)) :
  Good 29 (pu [.lst none B,.int .u8 tag,.int .i64 room] (.tup [X,.int .i64 e])):=by
 have hBl:B.length=b.length:=by rw [hB,u8l_len]
 unfold begX at hX
 refine Good.of Tryz.func29 rfl (by rfl) (by kernel_rfl) ?_
 cbv
 have hmk:True:=trivial
 (repeat' (first
| ((first
| (refine q1w (fun z hz=>?_);(try simp only at hz))
| refine rqa ?_
| refine chpA ?_
| refine QCt ?_
| refine QCf ?_);cbv)
| (refine QC.mk ?_ ?_ <;> intro hc <;> (try dsimp only at hc) <;> cbv)
| (refine br_mk2 ?_ ?_ <;> intro hb <;> (try subst hb) <;> cbv)))
 ·rw [if_pos hc] at hX
  obtain ⟨rfl,rfl⟩:=Prod.mk.inj hX
  exact ⟨rfl,rfl,rfl⟩
 ·rename_i h4 z0 hz0
  rw [if_neg h4,if_pos (.inl (by (first | omega | (simp only [cst] at *;omega) | (simp only [sm] at *;omega))))] at hX
  obtain ⟨rfl,rfl⟩:=Prod.mk.inj hX
  exact ⟨rfl,rfl,rfl⟩
 ·rename_i h4 z0 hz0 z1 hz1 h5 z2 hz2 z3 hz3
  have hz3b:0≤z3:=by (first | omega | (simp only [cst] at *;omega) | (simp only [sm] at *;omega))
  have e3:z3=(b.length:Int) - 1:=by (first | omega | (simp only [cst] at *;omega) | (simp only [sm] at *;omega))
  have e1:z=((b.length:Int) - 1) / (room - 4):=by rw [hz.1 hz3b,e3,hz0]
  rw [e1] at hc
  rw [if_neg h4,if_pos (.inr hc)] at hX
  obtain ⟨rfl,rfl⟩:=Prod.mk.inj hX
  exact ⟨rfl,rfl,rfl⟩
 ·rename_i h4 z0 hz0 z1 hz1 h5 z2 hz2 z3 hz3
  have hz3b:0≤z3:=by (first | omega | (simp only [cst] at *;omega) | (simp only [sm] at *;omega))
  have e3:z3=(b.length:Int) - 1:=by (first | omega | (simp only [cst] at *;omega) | (simp only [sm] at *;omega))
  have e1:z=((b.length:Int) - 1) / (room - 4):=by rw [hz.1 hz3b,e3,hz0]
  rw [e1] at hc
  have hb1:1≤b.length:=by (first | omega | (simp only [cst] at *;omega) | (simp only [sm] at *;omega))
  rw [if_neg h4,if_neg (by rintro (h | h);omega;exact hc h)] at hX
  obtain ⟨hXv,rfl⟩:=Prod.mk.inj hX
  obtain ⟨sz,hsz⟩:∃ sz:Nat,sz=(room - 4).toNat:=⟨_,rfl⟩
  have hsz1:1≤sz:=by omega
  have hz0':z0=sz:=by omega
  obtain ⟨n,hn⟩:∃ n,n=nPc b.length sz:=⟨_,rfl⟩
  have hn32:n≤32:=by
   rw [hn,nPc]
   have e4:((b.length:Int) - 1) / (room - 4)=(((b.length - 1) / sz:Nat):Int):=by
    rw [show (b.length:Int) - 1=((b.length - 1:Nat):Int) by omega,show room - 4=(sz:Int) by omega]
    rfl
   rw [e4] at hc
   omega
  rw [← hsz,← hn] at hXv
  obtain ⟨q,hq⟩:∃ q:Nat→Nat,∀ i,q i=i * sz:=⟨_,fun _=>rfl⟩
  have hq0:q 0=0:=by rw [hq];simp
  have hqs:∀ i,q (i+1)=q i+sz:=fun i=>by rw [hq,hq,Nat.add_mul,Nat.one_mul]
  have hql:∀ i,i < n→q i < b.length:=fun i hi=>by rw [hq];exact nPc_lt hb1 hsz1 (hn ▸ hi)
  have hqn:b.length≤q n:=by rw [hq,hn];exact nPc_ge hb1 hsz1
  have hcs:∀ i,chk sz b (i+1)=chk sz b i++[(b.drop (q i)).take sz]:=fun i=>by rw [hq];exact chk_succ sz b i
  clear hq hX hn e1 hc hz hz3 hz2
  obtain ⟨G,hG⟩:∃ G:Nat→List SV,∀ i,G i=u8l (b.drop (q i)):=⟨_,fun _=>rfl⟩
  obtain ⟨U,hU⟩:∃ U:Nat→List SV,∀ i,U i=rowsB (chk sz b i):=⟨_,fun _=>rfl⟩
  have hG0:B=G 0:=by rw [hG,hq0,hB];rfl
  have hGl:∀ i,(G i).length=b.length - q i:=fun i=>by rw [hG,u8l_len,List.length_drop]
  have hU0:[]=U 0:=by rw [hU];rfl
  have hUl:∀ i,(U i).length=i:=fun i=>by rw [hU,rowsB_len,chk_len]
  refine loopQ (A:=Nat) (fun p=>p≤n) (fun p=>n - p) (fun p=>[(10,.lst none (G p)),(9,.row 9)]) (fun p=>[(9,.row none 30 (U p))]) 0 (Nat.zero_le _) ?_ ?_
  ·cbv
   refine ⟨⟨by rw [hG0],trivial⟩,?_,trivial⟩
   show Blk.row none 30 []=.row none 30 (U 0)
   rw [← hU0]
  ·intro i hi
   have hmk:True:=trivial
   have hgl:=hGl i
   have hul:=hUl i
   cbv
   (repeat' (first
| ((first
| (refine q1w (fun z hz=>?_);(try simp only at hz))
| refine rqa ?_
| refine chpA ?_
| refine QCt ?_
| refine QCf ?_);cbv)
| (refine QC.mk ?_ ?_ <;> intro hc <;> (try dsimp only at hc) <;> cbv)
| (refine br_mk2 ?_ ?_ <;> intro hb <;> (try subst hb) <;> cbv)))
   ·rename_i zl hzl hzp zm hzm
    have hlt:i < n:=by
     rcases Nat.lt_or_ge i n with h | h
     ·exact h
     ·exfalso
      have:b.length≤q i:=by rw [show i=n by omega];exact hqn
      (first | omega | (simp only [cst] at *;omega) | (simp only [sm] at *;omega))
    obtain ⟨P,hP⟩:∃ P,P=(b.drop (q i)).take sz:=⟨_,rfl⟩
    have hzn:z.toNat=min sz (b.length - q i):=by (first | omega | (simp only [cst] at *;omega) | (simp only [sm] at *;omega))
    have hT:O.tk z (G i)=u8l P:=by
     rw [otk,hG,u8l_take,hP,hzn]
     congr 1
     rw [List.take_eq_take_iff,List.length_drop]
     omega
    have hD:O.dr z (G i)=G (i+1):=by
     rw [odr,hG,hG,u8l_drop,List.drop_drop,hqs,hzn]
     congr 1
     rw [List.drop_eq_drop_iff]
     omega
    have hPl:P.length≤b.length:=by rw [hP,List.length_take,List.length_drop];omega
    have hUs:apL (U i) [.lst none (O.tk z (G i))]=U (i+1):=by
     rw [apL_eq,hU,hU,hcs,hT,← hP]
     simp [rowsB]
    have g1:=cloned_c P _ hT (by omega)
    (refine callq (g1) rfl rfl ?_;cbv;(repeat' (first
| ((first
| (refine q1w (fun z hz=>?_);(try simp only at hz))
| refine rqa ?_
| refine chpA ?_
| refine QCt ?_
| refine QCf ?_);cbv)
| (refine QC.mk ?_ ?_ <;> intro hc <;> (try dsimp only at hc) <;> cbv)
| (refine br_mk2 ?_ ?_ <;> intro hb <;> (try subst hb) <;> cbv))))
    refine ⟨i+1,hlt,by show n - (i+1) < n - i;omega,?_⟩
    cbv
    refine ⟨⟨?_,trivial⟩,?_,trivial⟩
    ·show SV.lst none (O.dr z (G i))=.lst none (G (i+1))
     rw [hD]
    ·show Blk.row none 30 (apL (U i) [.lst none (O.tk z (G i))])=.row none 30 (U (i+1))
     rw [hUs]
   ·have e:i=n:=by
     rcases Nat.lt_or_ge i n with h | h
     ·have:=hql i h
      exfalso
      (first | omega | (simp only [cst] at *;omega) | (simp only [sm] at *;omega))
     ·omega
    refine ⟨?_,rfl,rfl⟩
    rw [← hXv]
    show SV.tup [.agg [.int .i64 1,.int .u8 tag,.lst none (U i),.int .u32 0,.int .i64 0,.int .i64 0],.int .i64 0]=_
    rw [e,hU]
    rfl
end
section
open Go.RowKit
set_option maxHeartbeats 16000000
theorem missing_c (st tag ak rd un:Int) (R:List SV) :
  Good 78 (pu [.agg [.int .i64 st,.int .u8 tag,.lst none R,.int .u32 ak,.int .i64 rd,.int .i64 un]] (.clo 141 [.eptr (some 6) (.agg [.int .i64 st,.int .u8 tag,.lst none R,.int .u32 ak,.int .i64 rd,.int .i64 un]) 0])):=by
 refine Good.of Tryz.func78 rfl (by rfl) (by kernel_rfl) ?_
 cbv
 (repeat' (first
| ((first
| (refine q1w (fun z hz=>?_);(try simp only at hz))
| refine rqa ?_
| refine chpA ?_
| refine QCt ?_
| refine QCf ?_);cbv)
| (refine QC.mk ?_ ?_ <;> intro hc <;> (try dsimp only at hc) <;> cbv)
| (refine br_mk2 ?_ ?_ <;> intro hb <;> (try subst hb) <;> cbv)))
 exact ⟨rfl,rfl,rfl⟩
theorem pce_at {tag:Int} {ps:List (List UInt8)} {ak:Int} {R:List SV} (hR:R=rowsB ps) {k i:Nat} (h:(opn ak ps.length)[k]?=some i) :
  ∃ (b:List UInt8) (B:List SV),ps[i]?=some b∧B=u8l b∧R[i]?=some (.lst none B)∧(misX ak 0 R)[k]?=some [.int .i64 (i:Int),.lst none B]∧pcL (pre tag ps ak (k+1))=pcL (pre tag ps ak k)++[.agg [.int .u8 tag,.int .i64 (i:Int),.int .i64 (ps.length:Int),.bool false,.lst none B]]:=by
 obtain ⟨b,B,h1,h2,h3⟩:=rowsB_at hR i (opn_lt h).1
 refine ⟨b,B,h1,h2,h3,?_,?_⟩
 ·rw [misX_eq]
  have hl:R.length=ps.length:=by rw [hR,rowsB_len]
  have:((List.range R.length).filter fun i=>decide (ak / 2 ^ (0+i) % 2=0))=opn ak ps.length:=by rw [hl,opn];simp
  rw [this,List.getElem?_map,h]
  simp [h3]
 ·rw [pre_succ _ _ _ _ _ h,pcL,List.map_append]
  have:ps.getD i []=b:=by rw [List.getD_eq_getElem?_getD,h1];rfl
  rw [this,h2]
  rfl
theorem misX_opn (ak:Int) (ps:List (List UInt8)) (R:List SV) (hR:R=rowsB ps):(misX ak 0 R).length=(opn ak ps.length).length:=by
 rw [misX_eq]
 have hl:R.length=ps.length:=by rw [hR,rowsB_len]
 rw [List.length_map,hl,opn]
 simp
theorem misX_shape (ak:Int) (ps:List (List UInt8)) (R:List SV) (hR:R=rowsB ps):∀ x∈misX ak 0 R,x.length=2∧datas x=true:=by
 intro x hx
 obtain ⟨k,hk,rfl⟩:=List.mem_iff_getElem.1 hx
 have hk':k < (opn ak ps.length).length:=by rw [← misX_opn ak ps R hR];exact hk
 obtain ⟨b,B,_,_,_,h,_⟩:=pce_at (tag:=0) hR (List.getElem?_eq_getElem hk')
 rw [List.getElem?_eq_getElem hk] at h
 injection h with h
 rw [h]
 exact ⟨rfl,rfl⟩
theorem pre_mark {tag:Int} {ps:List (List UInt8)} {ak:Int} {R:List SV} (hR:R=rowsB ps) {k:Nat} (h:k+1≤(opn ak ps.length).length) :
  ∃ (i:Nat) (B:List SV),(pcL (pre tag ps ak (k+1)))[k]?=some (.agg [.int .u8 tag,.int .i64 (i:Int),.int .i64 (ps.length:Int),.bool false,.lst none B]) ∧
   (pcL (pre tag ps ak (k+1))).set k (.agg [.int .u8 tag,.int .i64 (i:Int),.int .i64 (ps.length:Int),.bool true,.lst none B])=pcL (mark (pre tag ps ak (k+1))):=by
 have hk:(opn ak ps.length)[k]?=some (opn ak ps.length)[k]:=List.getElem?_eq_getElem (by omega)
 have hs:=pre_succ tag ps ak k _ hk
 have hl:(pre tag ps ak k).length=k:=pre_len _ _ _ _ (by omega)
 have hg:(pre tag ps ak (k+1))[k]?=some ⟨tag,((opn ak ps.length)[k]:Nat),ps.length,false,ps.getD (opn ak ps.length)[k] []⟩:=by
  rw [hs,List.getElem?_append_right (by omega),hl];simp
 refine ⟨(opn ak ps.length)[k],u8l (ps.getD (opn ak ps.length)[k] []),?_,?_⟩
 ·rw [pcL,List.getElem?_map,hg];rfl
 ·rw [← mark_set _ k _ (by rw [pre_len _ _ _ _ h]) hg,pcL,pcL,List.map_set]
  rfl
set_option maxRecDepth 4000 in
theorem nx_c (st tag ak rd un:Int) (ps:List (List UInt8)) (R:List SV) (hR:R=rowsB ps) (hf:Snd.fits ⟨st,tag,ps,ak,rd,un⟩) (b:Bool) (hb:b=true ↔ VS ⟨st,tag,ps,ak,rd,un⟩) (now:Int) (hnow:-9223372036854775808≤now∧now≤9223372036854775807)
  (X:SV) (l:List Pce) (L:List SV) (hL:L=pcL l) (e:Int) (hX:nextX ⟨st,tag,ps,ak,rd,un⟩ b now=(X,l,e)) :
  Good 30 (pu [.agg [.int .i64 st,.int .u8 tag,.lst none R,.int .u32 ak,.int .i64 rd,.int .i64 un],.int .i64 now] (.tup [X,.lst (some 5) L,.int .i64 e])):=by
 have hRl:R.length=ps.length:=by rw [hR,rowsB_len]
 have hfb:=hf.b
 have hfn:=hf.n
 have hak:=hf.ak
 have g1:=vsender_c st tag ak rd un ps R hR hf b hb
 have g2:=clonedPieces_c ps R hR hf.n hf.b
 have gm:=fun rd' un'=>missing_c st tag ak rd' un' R
 have hv:=fun h:b=true=>hb.1 h
 have gq:=fun (rd' un':Int) (hn:ps.length≤32)=>missing1_q st tag rd' un' ak R (by have:=hak;dsimp only at this;omega) (by omega)
 have hxs:=misX_shape ak ps R hR
 obtain ⟨W,hW⟩:∃ W,W=(opn ak ps.length).length:=⟨_,rfl⟩
 have hxl:=misX_opn ak ps R hR
 rw [← hW] at hxl
 have hpos:b=true→st=1→1≤W:=fun h hst=>by
  have v:=hv h
  rw [hW]
  refine opn_pos hak.1 v.ak fun he=>?_
  have:=v.d he
  dsimp only at this
  omega
 have hn32:b=true→ps.length≤32:=fun h=>(hv h).n2
 have hrd:b=true→0≤rd∧rd≤8:=fun h=>⟨(hv h).r1,(hv h).r2⟩
 obtain ⟨S,hS⟩:∃ S:Nat→List SV,∀ k,S k=pcL (pre tag ps ak k):=⟨_,fun _=>rfl⟩
 obtain ⟨iF,hiF⟩:∃ iF:Nat→Nat,∀ k,iF k=(opn ak ps.length).getD k 0:=⟨_,fun _=>rfl⟩
 obtain ⟨bF,hbF⟩:∃ bF:Nat→List UInt8,∀ k,bF k=ps.getD (iF k) []:=⟨_,fun _=>rfl⟩
 obtain ⟨BF,hBF⟩:∃ BF:Nat→List SV,∀ k,BF k=u8l (bF k):=⟨_,fun _=>rfl⟩
 have hS1:∀ (k:Nat) (x:List SV),(misX ak 0 R)[k]?=some x→x=[.int .i64 (iF k:Int),.lst none (BF k)]∧k < W∧iF k < ps.length∧(bF k).length≤140737488351232∧S (k+1)=S k++[.agg [.int .u8 tag,.int .i64 (iF k:Int),.int .i64 (ps.length:Int),.bool false,.lst none (BF k)]]:=fun k x hx=>by
  have hk:k < (opn ak ps.length).length:=by have:=(List.getElem?_eq_some_iff.1 hx).1;omega
  have hki:=List.getElem?_eq_getElem hk
  have hik:iF k=(opn ak ps.length)[k]:=by rw [hiF,List.getD_eq_getElem?_getD,hki];rfl
  obtain ⟨b,B,h1,h2,h3,h4,h5⟩:=pce_at (tag:=tag) hR hki
  have hb:bF k=b:=by rw [hbF,hik,List.getD_eq_getElem?_getD,h1];rfl
  have hB:BF k=B:=by rw [hBF,hb,h2]
  rw [hx] at h4
  injection h4 with h4
  rw [hik,hB,hb]
  exact ⟨h4,by omega,(opn_lt hki).1,hfb b (List.mem_of_getElem? h1),by rw [hS,hS];exact h5⟩
 clear hiF hbF
 have hS0:S 0=[]:=by rw [hS];rfl
 have hSl:∀ k,k≤W→(S k).length=k:=fun k hk=>by rw [hS,pcL_len,pre_len _ _ _ _ (by omega)]
 obtain ⟨F,hF⟩:∃ F:Nat→List SV,∀ k,F k=pcL (mark (pre tag ps ak k)):=⟨_,fun _=>rfl⟩
 have hSm0:∀ k,k+1≤W→∃ (i:Nat) (B:List SV),(S (k+1))[k]?=some (.agg [.int .u8 tag,.int .i64 (i:Int),.int .i64 (ps.length:Int),.bool false,.lst none B])∧(S (k+1)).set k (.agg [.int .u8 tag,.int .i64 (i:Int),.int .i64 (ps.length:Int),.bool true,.lst none B])=F (k+1):=fun k hk=>by
  rw [hS,hF];exact pre_mark hR (by omega)
 obtain ⟨N,hN⟩:∃ N:Int,N=ps.length:=⟨_,rfl⟩
 rw [← hN] at hSm0
 obtain ⟨iM,BM,hSm⟩:∃ (iM:Nat→Nat) (BM:Nat→List SV),∀ k,1≤k→k≤W→(S k)[k - 1]?=some (.agg [.int .u8 tag,.int .i64 (iM k:Int),.int .i64 N,.bool false,.lst none (BM k)])∧(S k).set (k - 1) (.agg [.int .u8 tag,.int .i64 (iM k:Int),.int .i64 N,.bool true,.lst none (BM k)])=F k:=by
  have:∀ k,∃ (i:Nat) (B:List SV),1≤k→k≤W→(S k)[k - 1]?=some (.agg [.int .u8 tag,.int .i64 (i:Int),.int .i64 N,.bool false,.lst none B])∧(S k).set (k - 1) (.agg [.int .u8 tag,.int .i64 (i:Int),.int .i64 N,.bool true,.lst none B])=F k:=fun k=>by
   by_cases h:1≤k∧k≤W
   ·obtain ⟨i,B,h1,h2⟩:=hSm0 (k - 1) (by omega)
    rw [show k - 1+1=k by omega] at h1 h2
    exact ⟨i,B,fun _ _=>⟨h1,h2⟩⟩
   ·exact ⟨0,[],fun a b=>absurd ⟨a,b⟩ h⟩
  exact ⟨fun k=>Classical.choose (this k),fun k=>Classical.choose (Classical.choose_spec (this k)),fun k=>Classical.choose_spec (Classical.choose_spec (this k))⟩
 clear hSm0
 have x1:b=false→X=.agg [.int .i64 0,.int .u8 0,.nil,.int .u32 0,.int .i64 0,.int .i64 0]∧L=[]∧e=1:=fun h=>by
  unfold nextX at hX;rw [if_pos h] at hX;obtain ⟨a1,a2⟩:=Prod.mk.inj hX;obtain ⟨a2,a3⟩:=Prod.mk.inj a2;exact ⟨a1.symm,by rw [hL,← a2];rfl,a3.symm⟩
 have x2:b=true→now < 0∨1099511627776 < now→X=.agg [.int .i64 0,.int .u8 0,.nil,.int .u32 0,.int .i64 0,.int .i64 0]∧L=[]∧e=2:=fun h h2=>by
  unfold nextX at hX;rw [if_neg (by rw [h];simp),if_pos h2] at hX;obtain ⟨a1,a2⟩:=Prod.mk.inj hX;obtain ⟨a2,a3⟩:=Prod.mk.inj a2;exact ⟨a1.symm,by rw [hL,← a2];rfl,a3.symm⟩
 have x3:b=true→¬ (now < 0∨1099511627776 < now)→st≠1∨now < un→X=.agg [.int .i64 st,.int .u8 tag,.lst none R,.int .u32 ak,.int .i64 rd,.int .i64 un]∧L=[]∧e=0:=fun h h2 h3=>by
  unfold nextX at hX;rw [if_neg (by rw [h];simp),if_neg h2,if_pos h3] at hX;obtain ⟨a1,a2⟩:=Prod.mk.inj hX;obtain ⟨a2,a3⟩:=Prod.mk.inj a2;exact ⟨by rw [← a1,hR];rfl,by rw [hL,← a2];rfl,a3.symm⟩
 have x4:b=true→¬ (now < 0∨1099511627776 < now)→¬ (st≠1∨now < un)→rd=8→X=.agg [.int .i64 3,.int .u8 tag,.lst none R,.int .u32 ak,.int .i64 rd,.int .i64 un]∧L=[]∧e=0:=fun h h2 h3 h4=>by
  unfold nextX at hX;rw [if_neg (by rw [h];simp),if_neg h2,if_neg h3,if_pos h4] at hX;obtain ⟨a1,a2⟩:=Prod.mk.inj hX;obtain ⟨a2,a3⟩:=Prod.mk.inj a2;exact ⟨by rw [← a1,hR];rfl,by rw [hL,← a2];rfl,a3.symm⟩
 have x5:b=true→¬ (now < 0∨1099511627776 < now)→¬ (st≠1∨now < un)→¬ rd=8→X=.agg [.int .i64 st,.int .u8 tag,.lst none R,.int .u32 ak,.int .i64 (rd+1),.int .i64 (min (now+8) 1099511627776)]∧L=F (min W 8)∧e=0:=fun h h2 h3 h4=>by
  unfold nextX at hX;rw [if_neg (by rw [h];simp),if_neg h2,if_neg h3,if_neg h4] at hX;obtain ⟨a1,a2⟩:=Prod.mk.inj hX;obtain ⟨a2,a3⟩:=Prod.mk.inj a2;exact ⟨by rw [← a1,hR];rfl,by rw [hF,hW,hL,← a2],a3.symm⟩
 clear hX hb hv hS hF hW
 refine Good.of Tryz.func30 rfl (by rfl) (by kernel_rfl) ?_
 cbv
 have hmk:True:=trivial
 (repeat' (first
| ((first
| (refine q1w (fun z hz=>?_);(try simp only at hz))
| refine rqa ?_
| refine chpA ?_
| refine QCt ?_
| refine QCf ?_);cbv)
| (refine QC.mk ?_ ?_ <;> intro hc <;> (try dsimp only at hc) <;> cbv)
| (refine br_mk2 ?_ ?_ <;> intro hb <;> (try subst hb) <;> cbv)))
 (refine callq (g1) rfl rfl ?_;cbv;(repeat' (first
| ((first
| (refine q1w (fun z hz=>?_);(try simp only at hz))
| refine rqa ?_
| refine chpA ?_
| refine QCt ?_
| refine QCf ?_);cbv)
| (refine QC.mk ?_ ?_ <;> intro hc <;> (try dsimp only at hc) <;> cbv)
| (refine br_mk2 ?_ ?_ <;> intro hb <;> (try subst hb) <;> cbv))))
 ·obtain ⟨e1,e2,e3⟩:=x2 rfl (.inl hc)
  refine Fin.mk ?_ rfl rfl
  rw [e1,e2,e3]
 ·obtain ⟨e1,e2,e3⟩:=x2 rfl (.inr hc)
  refine Fin.mk ?_ rfl rfl
  rw [e1,e2,e3]
 ·rename_i h1
  have ht:¬ (now < 0∨1099511627776 < now):=by omega
  have x3:=x3 rfl ht
  have x4:=x4 rfl ht
  have x5:=x5 rfl ht
  have hpos:=hpos rfl
  have hn32:=hn32 rfl
  have hrd:=hrd rfl
  clear x1 x2
  (refine callq (g2) rfl rfl ?_;cbv;(repeat' (first
| ((first
| (refine q1w (fun z hz=>?_);(try simp only at hz))
| refine rqa ?_
| refine chpA ?_
| refine QCt ?_
| refine QCf ?_);cbv)
| (refine QC.mk ?_ ?_ <;> intro hc <;> (try dsimp only at hc) <;> cbv)
| (refine br_mk2 ?_ ?_ <;> intro hb <;> (try subst hb) <;> cbv))))
  ·obtain ⟨e1,e2,e3⟩:=x3 (.inl hc)
   refine Fin.mk ?_ rfl rfl
   rw [e1,e2,e3]
  ·obtain ⟨e1,e2,e3⟩:=x3 (.inr hc)
   refine Fin.mk ?_ rfl rfl
   rw [e1,e2,e3]
  ·rename_i h2 h3
   obtain ⟨e1,e2,e3⟩:=x4 (by omega) hc
   refine Fin.mk ?_ rfl rfl
   rw [e1,e2,e3]
  ·rename_i h2 h3 h4 z1 hz1 z2 hz2
   have x5:=x5 (by omega) hc
   have hpos:=hpos (by omega)
   clear x3 x4
   have gm:=gm z1 z
   (refine callq (gm) rfl rfl ?_;cbv;(repeat' (first
| ((first
| (refine q1w (fun z hz=>?_);(try simp only at hz))
| refine rqa ?_
| refine chpA ?_
| refine QCt ?_
| refine QCf ?_);cbv)
| (refine QC.mk ?_ ?_ <;> intro hc <;> (try dsimp only at hc) <;> cbv)
| (refine br_mk2 ?_ ?_ <;> intro hb <;> (try subst hb) <;> cbv))))
   obtain ⟨e1,e2,e3⟩:=x5
   rw [← hz2,← hz,← hz1] at e1
   have gq:=gq z1 z hn32
   clear gm g1
   refine rangeQ (misX ak 0 R) gq hxs (A:=Option Nat) (fun p=>match p with | none=>True | some k=>1≤k∧k≤W∧k≤8) (fun p=>match p with | none=>0 | some k=>k) (fun p=>[])
    (fun p=>match p with | none=>[(7,.chunk 93 .nil)] | some k=>[(7,.chunk 93 (.row 66)),(66,.row (some 5) 98 (S k))]) none ⟨trivial,rfl⟩ ?_ ?_ ?_
   ·cbv
    try trace_state
   ·intro p x hp hx
    cases p with
    | none =>
     have hx1:=hS1 0 x hx
     have hxe:=hx1.1
     subst hxe
     have hkW:=hx1.2.1
     have hi:=hx1.2.2.1
     have hbl:=hx1.2.2.2.1
     have hSs:=hx1.2.2.2.2
     clear hp hx hx1
     have g3:=cloned_c (bF 0) (BF 0) (hBF 0) hbl
     have hmz:True:=trivial
     cbv
     (repeat' (first
| ((first
| (refine q1w (fun z hz=>?_);(try simp only at hz))
| refine rqa ?_
| refine chpA ?_
| refine QCt ?_
| refine QCf ?_);cbv)
| (refine QC.mk ?_ ?_ <;> intro hc <;> (try dsimp only at hc) <;> cbv)
| (refine br_mk2 ?_ ?_ <;> intro hb <;> (try subst hb) <;> cbv)))
     (refine callq (g3) rfl rfl ?_;cbv;(repeat' (first
| ((first
| (refine q1w (fun z hz=>?_);(try simp only at hz))
| refine rqa ?_
| refine chpA ?_
| refine QCt ?_
| refine QCf ?_);cbv)
| (refine QC.mk ?_ ?_ <;> intro hc <;> (try dsimp only at hc) <;> cbv)
| (refine br_mk2 ?_ ?_ <;> intro hb <;> (try subst hb) <;> cbv))))
     refine ⟨some 1,⟨Nat.le_refl _,by show 1≤W;omega,by show 1≤8;omega⟩,rfl,?_⟩
     cbv
     refine ⟨?_,trivial⟩
     show Blk.row (some 5) 98 [.agg [.int .u8 tag,.int .i64 (iF 0:Int),.int .i64 z,.bool false,.lst none (BF 0)]]=.row (some 5) 98 (S (0+1))
     rw [hSs,hS0,show z=(ps.length:Int) by (first | omega | (simp only [cst] at *;omega) | (simp only [sm] at *;omega))]
     rfl
    | some k =>
     have hk1:1≤k:=hp.1
     have hkW:k≤W:=hp.2.1
     have hk8:k≤8:=hp.2.2
     have hx1:=hS1 k x hx
     have hxe:=hx1.1
     subst hxe
     have hkW2:=hx1.2.1
     have hi:=hx1.2.2.1
     have hbl:=hx1.2.2.2.1
     have hSs:=hx1.2.2.2.2
     have hSlk:=hSl k hkW
     clear hp hx hx1
     have g3:=cloned_c (bF k) (BF k) (hBF k) hbl
     have hmz:True:=trivial
     cbv
     (repeat' (first
| ((first
| (refine q1w (fun z hz=>?_);(try simp only at hz))
| refine rqa ?_
| refine chpA ?_
| refine QCt ?_
| refine QCf ?_);cbv)
| (refine QC.mk ?_ ?_ <;> intro hc <;> (try dsimp only at hc) <;> cbv)
| (refine br_mk2 ?_ ?_ <;> intro hb <;> (try subst hb) <;> cbv)))
     ·have hkk:k=8:=by (first | omega | (simp only [cst] at *;omega) | (simp only [sm] at *;omega))
      have hWk:min W 8=k:=by omega
      have hm1:=(hSm k hk1 hkW).1
      have hm2:=(hSm k hk1 hkW).2
      skip
      refine qv (k - 1) ⟨by (first | omega | (simp only [cst] at *;omega) | (simp only [sm] at *;omega)),by rw [oln];omega⟩ ?_
      cbv
      (repeat' (first
| ((first
| (refine q1w (fun z hz=>?_);(try simp only at hz))
| refine rqa ?_
| refine chpA ?_
| refine QCt ?_
| refine QCf ?_);cbv)
| (refine QC.mk ?_ ?_ <;> intro hc <;> (try dsimp only at hc) <;> cbv)
| (refine br_mk2 ?_ ?_ <;> intro hb <;> (try subst hb) <;> cbv)))
      refine qv _ ⟨hm1,by simp⟩ ?_
      cbv
      (repeat' (first
| ((first
| (refine q1w (fun z hz=>?_);(try simp only at hz))
| refine rqa ?_
| refine chpA ?_
| refine QCt ?_
| refine QCf ?_);cbv)
| (refine QC.mk ?_ ?_ <;> intro hc <;> (try dsimp only at hc) <;> cbv)
| (refine br_mk2 ?_ ?_ <;> intro hb <;> (try subst hb) <;> cbv)))
      refine Fin.mk ?_ rfl rfl
      rw [e1,e2,e3,hWk,← hm2]
      show SV.tup [_,.lst (some 5) (O.st (S k) (k - 1) _),_]=_
      rw [ost]
      rfl
     ·(refine callq (g3) rfl rfl ?_;cbv;(repeat' (first
| ((first
| (refine q1w (fun z hz=>?_);(try simp only at hz))
| refine rqa ?_
| refine chpA ?_
| refine QCt ?_
| refine QCf ?_);cbv)
| (refine QC.mk ?_ ?_ <;> intro hc <;> (try dsimp only at hc) <;> cbv)
| (refine br_mk2 ?_ ?_ <;> intro hb <;> (try subst hb) <;> cbv))))
      have hkk:k≠8:=by (first | omega | (simp only [cst] at *;omega) | (simp only [sm] at *;omega))
      refine ⟨some (k+1),⟨by show 1≤k+1;omega,by show k+1≤W;omega,by show k+1≤8;omega⟩,rfl,?_⟩
      cbv
      refine ⟨?_,trivial⟩
      show Blk.row (some 5) 98 (apL (S k) [.agg [.int .u8 tag,.int .i64 (iF k:Int),.int .i64 z,.bool false,.lst none (BF k)]])=.row (some 5) 98 (S (k+1))
      rw [apL_eq,hSs,show z=(ps.length:Int) by (first | omega | (simp only [cst] at *;omega) | (simp only [sm] at *;omega))]
   ·intro p hp hps
    cases p with
    | none =>
     have hps':0=(misX ak 0 R).length:=hps
     have hWk:0=W:=by rw [← hxl];exact hps'
     clear hp hps hps'
     cbv
     exfalso
     (first | omega | (simp only [cst] at *;omega) | (simp only [sm] at *;omega))
    | some k =>
     have hk1:1≤k:=hp.1
     have hkW:k≤W:=hp.2.1
     have hk8:k≤8:=hp.2.2
     have hps':k=(misX ak 0 R).length:=hps
     have hSlk:=hSl k hkW
     have hWk:min W 8=k:=by omega
     have hm1:=(hSm k hk1 hkW).1
     have hm2:=(hSm k hk1 hkW).2
     clear hp hps
     have hmz:True:=trivial
     cbv
     (repeat' (first
| ((first
| (refine q1w (fun z hz=>?_);(try simp only at hz))
| refine rqa ?_
| refine chpA ?_
| refine QCt ?_
| refine QCf ?_);cbv)
| (refine QC.mk ?_ ?_ <;> intro hc <;> (try dsimp only at hc) <;> cbv)
| (refine br_mk2 ?_ ?_ <;> intro hb <;> (try subst hb) <;> cbv)))
     refine qv (k - 1) ⟨by (first | omega | (simp only [cst] at *;omega) | (simp only [sm] at *;omega)),by rw [oln];omega⟩ ?_
     cbv
     (repeat' (first
| ((first
| (refine q1w (fun z hz=>?_);(try simp only at hz))
| refine rqa ?_
| refine chpA ?_
| refine QCt ?_
| refine QCf ?_);cbv)
| (refine QC.mk ?_ ?_ <;> intro hc <;> (try dsimp only at hc) <;> cbv)
| (refine br_mk2 ?_ ?_ <;> intro hb <;> (try subst hb) <;> cbv)))
     refine qv _ ⟨hm1,by simp⟩ ?_
     cbv
     (repeat' (first
| ((first
| (refine q1w (fun z hz=>?_);(try simp only at hz))
| refine rqa ?_
| refine chpA ?_
| refine QCt ?_
| refine QCf ?_);cbv)
| (refine QC.mk ?_ ?_ <;> intro hc <;> (try dsimp only at hc) <;> cbv)
| (refine br_mk2 ?_ ?_ <;> intro hb <;> (try subst hb) <;> cbv)))
     refine Fin.mk ?_ rfl rfl
     rw [e1,e2,e3,hWk,← hm2]
     show SV.tup [_,.lst (some 5) (O.st (S k) (k - 1) _),_]=_
     rw [ost]
     rfl
 ·obtain ⟨e1,e2,e3⟩:=x1 rfl
  refine Fin.mk ?_ rfl rfl
  rw [e1,e2,e3]
end
end Go.Proofs.YtgfpjhddojhfpaaGreat

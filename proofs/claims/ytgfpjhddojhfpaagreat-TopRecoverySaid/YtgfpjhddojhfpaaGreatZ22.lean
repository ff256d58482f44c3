/- Texts put together: KL KC KD KE KF KM. -/
import Derived.Test.YtgfpjhddojhfpaaGreatZ20
import Derived.Test.YtgfpjhddojhfpaaGreatZ21
namespace Go.Proofs.YtgfpjhddojhfpaaGreat
set_option linter.unusedVariables false
set_option linter.unusedSimpArgs false
section
open Go.RowKit
theorem tape1 (zs:List Int) (hz:∀ v∈zs,-9223372036854775808≤v∧v≤9223372036854775807):Tp ((ints .i64 zs).take 400) 0 :=
 ⟨⟨zs.take 400,by simp [ints],fun v hv=>hz v (List.mem_of_mem_take hv),by rw [List.length_take];omega⟩,by omega⟩
structure Pcs (ps:List (List UInt8)):Prop where
 n1:1≤ps.length
 n2:ps.length≤32
 ne:∀ p∈ps,p≠[]
 b:∀ p∈ps,p.length≤140737488351232
theorem Pcs.fits {ps:List (List UInt8)} (h:Pcs ps) {st tag ak rd un:Int} (h1:0≤st∧st≤3) (h2:0≤tag∧tag≤255) (h3:0≤ak∧ak≤4294967295) (h4:0≤rd∧rd≤8) (h5:0≤un∧un≤1099511627776):Snd.fits ⟨st,tag,ps,ak,rd,un⟩ :=
 ⟨by dsimp only;omega,h2,h3,by dsimp only;omega,by dsimp only;omega,by have:=h.n2;dsimp only;omega,h.b⟩
theorem allI_pos {n:Nat} (h:1≤n):1≤allI n:=by
 rw [allI_nat]
 have:2 ^ 1≤2 ^ n:=Nat.pow_le_pow_right (by omega) h
 omega
theorem Pcs.vs {ps:List (List UInt8)} (h:Pcs ps) {st tag ak rd un:Int} (h1:st=1∨st=3) (h3:ak < allI ps.length) (h4:0≤rd∧rd≤8) (h5:0≤un∧un≤1099511627776):vs ⟨st,tag,ps,ak,rd,un⟩=true :=
 (vs_iff _).2 ⟨h.n1,h.n2,h.ne,by dsimp only;omega,h4.1,h4.2,h5.1,h5.2,fun e=>by dsimp only at e;omega,fun _=>h1⟩
theorem Pcs.vs2 {ps:List (List UInt8)} (h:Pcs ps) {tag ak rd un:Int} (h3:ak=allI ps.length) (h4:0≤rd∧rd≤8) (h5:0≤un∧un≤1099511627776):Go.Proofs.YtgfpjhddojhfpaaGreat.vs ⟨2,tag,ps,ak,rd,un⟩=true :=
 (vs_iff _).2 ⟨h.n1,h.n2,h.ne,by dsimp only;omega,h4.1,h4.2,h5.1,h5.2,fun e=>rfl,fun e=>absurd h3 e⟩
theorem beg_ok (b:List UInt8) (tag:Int) (sz:Nat) (hb:b.length≤140737488351232) (h1:1≤b.length) (hs:1≤sz) (hn:(b.length - 1) / sz < 32) :
  begP b tag (4+sz)=(⟨1,tag,chk sz b (nPc b.length sz),0,0,0⟩,0)∧Pcs (chk sz b (nPc b.length sz)):=by
 have e1:(4+(sz:Int) - 4).toNat=sz:=by omega
 have e2:((b.length:Int) - 1) / (4+(sz:Int) - 4)=(((b.length - 1) / sz:Nat):Int):=by
  rw [show (4+(sz:Int) - 4)=sz by omega,show ((b.length:Int) - 1)=((b.length - 1:Nat):Int) by omega]
  exact (Int.natCast_ediv _ _).symm
 refine ⟨?_,?_,?_,?_,?_⟩
 ·rw [begP,if_neg (show ¬ (4+(sz:Int)≤4) by omega),if_neg (show ¬ (b.length=0∨32≤((b.length:Int) - 1) / (4+(sz:Int) - 4)) by rw [e2];omega),e1]
 ·rw [chk_len,nPc];exact Nat.le_add_left 1 _
 ·rw [chk_len,nPc];exact hn
 ·intro p hp
  simp only [chk,List.mem_map,List.mem_range] at hp
  obtain ⟨i,hi,rfl⟩:=hp
  have:=nPc_lt h1 hs hi
  intro e
  have:=congrArg List.length e
  rw [List.length_take,List.length_drop,List.length_nil] at this
  omega
 ·intro p hp
  simp only [chk,List.mem_map] at hp
  obtain ⟨i,_,rfl⟩:=hp
  rw [List.length_take,List.length_drop]
  omega
theorem nextP_send {ps:List (List UInt8)} (h:Pcs ps) {tag ak rd un now:Int} (hak:0≤ak∧ak < allI ps.length) (hrd:0≤rd∧rd < 8) (hun:0≤un∧un≤1099511627776) (hnow:un≤now∧now≤1099511627776) :
  nextP ⟨1,tag,ps,ak,rd,un⟩ now=(⟨1,tag,ps,ak,rd+1,min (now+8) 1099511627776⟩,mark (pre tag ps ak (min (opn ak ps.length).length 8)),0)∧1≤(opn ak ps.length).length:=by
 refine ⟨?_,opn_pos hak.1 (by omega) (by omega)⟩
 rw [nextP,if_neg (by rw [h.vs (.inl rfl) hak.2 (by omega) hun];simp),if_neg (by omega),if_neg (by dsimp only;omega),if_neg (by dsimp only;omega)]
theorem nextP_wait {ps:List (List UInt8)} (h:Pcs ps) {tag ak rd un now:Int} (hak:0≤ak∧ak < allI ps.length) (hrd:0≤rd∧rd≤8) (hun:0≤un∧un≤1099511627776) (hnow:0≤now∧now < un) :
  nextP ⟨1,tag,ps,ak,rd,un⟩ now=(⟨1,tag,ps,ak,rd,un⟩,[],0):=by
 rw [nextP,if_neg (by rw [h.vs (.inl rfl) hak.2 hrd hun];simp),if_neg (by omega),if_pos (by dsimp only;omega)]
theorem nextP_fail {ps:List (List UInt8)} (h:Pcs ps) {tag ak un now:Int} (hak:0≤ak∧ak < allI ps.length) (hun:0≤un∧un≤1099511627776) (hnow:un≤now∧now≤1099511627776) :
  nextP ⟨1,tag,ps,ak,8,un⟩ now=(⟨3,tag,ps,ak,8,un⟩,[],0):=by
 rw [nextP,if_neg (by rw [h.vs (.inl rfl) hak.2 (by omega) hun];simp),if_neg (by omega),if_neg (by dsimp only;omega),if_pos (by dsimp only)]
theorem sent_len (tag:Int) (ps:List (List UInt8)) (ak:Int):(mark (pre tag ps ak (min (opn ak ps.length).length 8))).length=min (opn ak ps.length).length 8:=by
 rw [mark_len,pre_len _ _ _ _ (by omega)]
end
section
open Go.RowKit
structure RI1 (P:List (List UInt8)) (r:Rcv):Prop where
 tag:r.tag=5
 cnt:r.cnt=P.length
 len:r.ps.length=P.length
 ps:∀ i,i < P.length→r.ps.getD i []=[]∨r.ps.getD i []=P.getD i []
 hv:r.hv=hasN r.ps r.ps.length
 nz:r.hv≠0
 dn:r.dn=decide (r.hv=allI P.length)
def RI (P:List (List UInt8)) (r:Rcv):Prop:=r=zR∨RI1 P r
theorem RI1.vrc {P:List (List UInt8)} {r:Rcv} (hP:Pcs P) (h:RI1 P r):vrc r=true:=by
 have h1:=hP.n1
 have h2:=hP.n2
 refine (vrc_iff r).2 (.inr ⟨by rw [h.cnt];omega,by rw [h.cnt];omega,by rw [h.cnt,h.len],h.nz,h.hv,?_⟩)
 rw [h.dn,h.len,decide_eq_true_iff]
theorem zR_vrc:Go.Proofs.YtgfpjhddojhfpaaGreat.vrc zR=true:=(vrc_iff zR).2 (.inl rfl)
theorem RI1.nzero {P:List (List UInt8)} {r:Rcv} (hP:Pcs P) (h:RI1 P r):zeroB r.tag r.cnt r.ps.length r.hv r.dn=false:=by
 cases hz:zeroB r.tag r.cnt r.ps.length r.hv r.dn
 ·rfl
 ·have:=(zeroB_iff hz).2.2.2.1
  exact absurd this h.nz
theorem putP_get (ps P:List (List UInt8)) (n i:Nat) (hn:n < ps.length) (hl:ps.length=P.length) (hi:i < P.length) (h:∀ i,i < P.length→ps.getD i []=[]∨ps.getD i []=P.getD i []):(putP ps n (P.getD n [])).getD i []=[]∨(putP ps n (P.getD n [])).getD i []=P.getD i []:=by
 unfold putP
 split
 ·by_cases e:n=i
  ·subst e
   right
   simp [List.getD_eq_getElem?_getD,hn]
  ·have:=h i hi
   simpa [List.getD_eq_getElem?_getD,List.getElem?_set,e] using this
 ·exact h i hi
theorem recvN_ri {P:List (List UInt8)} (hP:Pcs P) (ps:List (List UInt8)) (hl:ps.length=P.length) (h:∀ i,i < P.length→ps.getD i []=[]∨ps.getD i []=P.getD i []) (n:Nat) (hn:n < P.length) (k:Bool) :
  RI1 P (recvN 5 P.length ps ⟨5,n,P.length,k,P.getD n []⟩)∧(recvN 5 P.length ps ⟨5,n,P.length,k,P.getD n []⟩).hv.toNat=hasN ps ps.length ||| 2 ^ n:=by
 have hd:0 < (P.getD n []).length:=by
  have h1:=hP.ne P[n] (List.getElem_mem hn)
  rw [List.getD_eq_getElem?_getD,List.getElem?_eq_getElem hn]
  exact List.length_pos_iff.2 h1
 have hh:=hasN_put ps n (P.getD n []) (by omega) hd
 have hq:(recvN 5 P.length ps ⟨5,n,P.length,k,P.getD n []⟩).hv.toNat=hasN ps ps.length ||| 2 ^ n:=by
  rw [hh];simp [recvN]
 refine ⟨⟨rfl,rfl,?_,fun i hi=>?_,by simp [recvN],fun e=>?_,?_⟩,hq⟩
 ·simp [recvN,putP_len,hl]
 ·have:=putP_get ps P n i (by omega) hl hi h
  simpa [recvN] using this
 ·rw [e] at hq
  have h1:=congrArg (fun x=>x.testBit n) hq
  simp at h1
 ·simp [recvN,hl]
theorem RI.recv {P:List (List UInt8)} {r:Rcv} (hP:Pcs P) (h:RI P r) (n:Nat) (hn:n < P.length) (k:Bool) :
  ∃ r',recvP r ⟨5,n,P.length,k,P.getD n []⟩=(r',0)∧RI1 P r'∧r'.hv.toNat=r.hv.toNat ||| 2 ^ n:=by
 have hv:valP (n:Int) (P.length:Int) (P.getD n []).length=true:=by
  have h1:=hP.ne P[n] (List.getElem_mem hn)
  have h2:=hP.n2
  have hd:0 < (P.getD n []).length:=by
   rw [List.getD_eq_getElem?_getD,List.getElem?_eq_getElem hn]
   exact List.length_pos_iff.2 h1
  exact decide_eq_true ⟨by omega,by omega,by omega,by omega,hd⟩
 unfold recvP
 rcases h with rfl | h
 ·obtain ⟨a,b⟩:=recvN_ri hP (List.replicate P.length []) (by simp) (fun i hi=>.inl (by simp [hi])) n hn k
  refine ⟨_,?_,a,?_⟩
  ·rw [if_neg (fun h=>h.elim (fun h1=>by rw [zR_vrc] at h1;cases h1) (fun h1=>by have h2:=hv.symm.trans h1;cases h2)),if_pos (show zeroB zR.tag zR.cnt zR.ps.length zR.hv zR.dn=true from rfl)]
   rfl
  ·rw [b]
   congr 1
   have:∀ m,bm (fun i=>decide (0 < ((List.replicate P.length ([]:List UInt8)).getD i []).length)) m=0:=fun m=>by
    induction m with
    | zero=>rfl
    | succ m ih =>
     rw [bm,ih,if_neg]
     rw [List.getD_eq_getElem?_getD]
     by_cases hm:m < P.length <;> simp [hm]
   exact this _
 ·obtain ⟨a,b⟩:=recvN_ri hP r.ps h.len h.ps n hn k
  refine ⟨_,?_,a,?_⟩
  ·rw [if_neg (fun h'=>h'.elim (fun h1=>by rw [h.vrc hP] at h1;cases h1) (fun h1=>by have h2:=hv.symm.trans h1;cases h2)),if_neg (by rw [h.nzero hP];simp),if_neg (by rw [h.tag,h.cnt];simp),h.tag,h.cnt]
  ·rw [b,h.hv];rfl
end
section
open Go.RowKit
theorem opn_succ (a:Int) (n:Nat):opn a (n+1)=opn a n++(if a / 2 ^ n % 2=0 then [n] else []):=by
 rw [opn,opn,List.range_succ,List.filter_append]
 congr 1
 by_cases h:a / 2 ^ n % 2=0 <;> simp [h]
theorem opn_mono (a o:Int):∀ n:Nat,(∀ i,i < n→o / 2 ^ i % 2=0→a / 2 ^ i % 2=0)→(opn o n).length≤(opn a n).length
 | 0,_=>Nat.le_refl _
 | n+1,h=>by
  have ih:=opn_mono a o n fun i hi=>h i (by omega)
  have hn:=h n (by omega)
  rw [opn_succ,opn_succ,List.length_append,List.length_append]
  by_cases ho:o / 2 ^ n % 2=0
  ·rw [if_pos ho,if_pos (hn ho)];simp only [List.length_cons,List.length_nil];omega
  ·rw [if_neg ho];simp only [List.length_nil];omega
theorem opn_lt2 (a o:Int) (k:Nat) (hk:a / 2 ^ k % 2=0) (hk2:¬ o / 2 ^ k % 2=0):∀ n:Nat,k < n→(∀ i,i < n→o / 2 ^ i % 2=0→a / 2 ^ i % 2=0)→(opn o n).length < (opn a n).length
 | 0,hn,_=>absurd hn (Nat.not_lt_zero _)
 | n+1,hn,h=>by
  rw [opn_succ,opn_succ,List.length_append,List.length_append]
  by_cases e:k=n
  ·subst e
   have:=opn_mono a o k fun i hi=>h i (by omega)
   rw [if_pos hk,if_neg hk2];simp only [List.length_cons,List.length_nil];omega
  ·have ih:=opn_lt2 a o k hk hk2 n (by omega) fun i hi=>h i (by omega)
   have hn:=h n (by omega)
   by_cases ho:o / 2 ^ n % 2=0
   ·rw [if_pos ho,if_pos (hn ho)];simp only [List.length_cons,List.length_nil];omega
   ·rw [if_neg ho];simp only [List.length_nil];omega
theorem opn_len_le (a:Int) (n:Nat):(opn a n).length≤n:=by
 rw [opn]
 exact Nat.le_trans (List.length_filter_le _ _) (by simp)
theorem bit_opn (a:Nat) (i:Nat):((a:Int) / 2 ^ i % 2=0) ↔ a.testBit i=false:=by
 have e:((a:Int) / 2 ^ i % 2)=((a / 2 ^ i % 2:Nat):Int):=by simp
 rw [e,Nat.testBit_eq_decide_div_mod_eq]
 simp only [decide_eq_false_iff_not]
 omega
end
section
open Go.RowKit
structure EI (P:List (List UInt8)) (s:Snd) (r:Rcv) (t:Int):Prop where
 tag:s.tag=5
 ps:s.ps=P
 v:VS s
 ak0:0≤s.ak
 sub:∀ i,s.ak.toNat.testBit i=true→r.hv.toNat.testBit i=true
 ri:RI P r
 pot:s.st=1→72 * ((opn s.ak P.length).length:Int)+8 * (8 - s.rd)+max (s.un - t) 0+t≤2368
theorem EI.fits {P:List (List UInt8)} {s:Snd} {r:Rcv} {t:Int} (hP:Pcs P) (h:EI P s r t):s.fits:=by
 have v:=h.v
 have hst:s.st=1∨s.st=2∨s.st=3:=by
  by_cases e:s.ak=allI s.ps.length
  ·exact .inr (.inl (v.d e))
  ·rcases v.a e with h | h
   ·exact .inl h
   ·exact .inr (.inr h)
 have hb:=allI_b v.n2
 have:=v.ak
 have:=h.ak0
 have:=v.r1
 have:=v.r2
 have:=v.u1
 have:=v.u2
 have:=v.n2
 exact ⟨by omega,by rw [h.tag];omega,by omega,by omega,by omega,by omega,by rw [h.ps];exact hP.b⟩
theorem EI.recv {P:List (List UInt8)} {s:Snd} {r:Rcv} {t:Int} (hP:Pcs P) (h:EI P s r t) (n:Nat) (hn:n < P.length) (k:Bool) :
  ∃ r',recvP r ⟨5,n,P.length,k,P.getD n []⟩=(r',0)∧RI1 P r'∧EI P s r' t∧r'.hv.toNat=r.hv.toNat ||| 2 ^ n:=by
 obtain ⟨r',h1,h2,h3⟩:=h.ri.recv hP n hn k
 refine ⟨r',h1,h2,⟨h.tag,h.ps,h.v,h.ak0,fun i hi=>?_,.inr h2,h.pot⟩,h3⟩
 rw [h3,Nat.testBit_or,h.sub i hi,Bool.true_or]
theorem EI.next {P:List (List UInt8)} {s:Snd} {r:Rcv} {t:Int} (hP:Pcs P) (h:EI P s r t) (hst:s.st=1) (ht:0≤t∧t≤5000) :
  ∃ s' l,nextP s t=(s',l,0)∧EI P s' r (t+1)∧(l=[]∨l=mark (pre 5 P s.ak (min (opn s.ak P.length).length 8))):=by
 have v:=h.v
 have hpot:=h.pot hst
 obtain ⟨st,tag,ps,ak,rd,un⟩:=s
 have htag:tag=5:=h.tag
 have hps:ps=P:=h.ps
 subst htag hps
 have hst:st=1:=hst
 subst hst
 have r1:0≤rd:=v.r1
 have r2:rd≤8:=v.r2
 have u1:0≤un:=v.u1
 have u2:un≤1099511627776:=v.u2
 have hne:ak≠allI ps.length:=fun e=>by have:=v.d e;exact absurd (show (1:Int)=2 from this) (by decide)
 have hak:0≤ak∧ak < allI ps.length:=⟨h.ak0,by have:=v.ak;dsimp only at this;omega⟩
 dsimp only at hpot
 rcases Int.lt_or_le t un with hw | hw
 ·refine ⟨_,_,nextP_wait hP hak ⟨r1,r2⟩ ⟨u1,u2⟩ ⟨ht.1,hw⟩,⟨rfl,rfl,v,h.ak0,h.sub,h.ri,fun _=>?_⟩,.inl rfl⟩
  dsimp only
  omega
 ·by_cases h8:rd=8
  ·subst h8
   refine ⟨_,_,nextP_fail hP hak ⟨u1,u2⟩ ⟨hw,by omega⟩,⟨rfl,rfl,⟨v.n1,v.n2,v.ne,v.ak,v.r1,v.r2,v.u1,v.u2,fun e=>absurd e hne,fun _=>.inr rfl⟩,h.ak0,h.sub,h.ri,fun e=>?_⟩,.inl rfl⟩
   exact absurd (show (3:Int)=1 from e) (by decide)
  ·obtain ⟨x1,x2⟩:=nextP_send hP (tag:=5) hak ⟨r1,by omega⟩ ⟨u1,u2⟩ ⟨hw,by omega⟩
   refine ⟨_,_,x1,⟨rfl,rfl,⟨v.n1,v.n2,v.ne,v.ak,by dsimp only;omega,by dsimp only;omega,by dsimp only;omega,by dsimp only;omega,fun e=>absurd e hne,fun _=>.inl rfl⟩,h.ak0,h.sub,h.ri,fun _=>?_⟩,.inr rfl⟩
   dsimp only
   rw [Int.min_eq_left (by omega)]
   omega
end
section
open Go.RowKit
theorem RI1.hvb {P:List (List UInt8)} {r:Rcv} (hP:Pcs P) (h:RI1 P r):0≤r.hv∧r.hv≤allI P.length∧r.hv.toNat < 2 ^ P.length:=by
 have h1:=bm_lt (fun i=>decide (0 < (r.ps.getD i []).length)) r.ps.length
 have h2:=h.hv
 have h3:=h.len
 rw [show hasN r.ps r.ps.length=bm (fun i=>decide (0 < (r.ps.getD i []).length)) r.ps.length from rfl] at h2
 rw [h3] at h1 h2
 rw [allI_nat]
 omega
theorem testBit_ge {a n i:Nat} (h:a < 2 ^ n) (hi:n≤i):a.testBit i=false :=
 Nat.testBit_lt_two_pow (Nat.lt_of_lt_of_le h (Nat.pow_le_pow_right (by omega) hi))
theorem EI.ack {P:List (List UInt8)} {s:Snd} {r:Rcv} {t:Int} (hP:Pcs P) (h:EI P s r t) (hr:RI1 P r) (ht:0≤t) :
  ∃ s',ackP s 5 r.hv=(s',0)∧EI P s' r t:=by
 have v:=h.v
 obtain ⟨b1,b2,b3⟩:=hr.hvb hP
 by_cases hst:s.st=1
 ·obtain ⟨st,tag,ps,ak,rd,un⟩:=s
  have hpot:=h.pot hst
  have htag:tag=5:=h.tag
  have hps:ps=P:=h.ps
  have hst:st=1:=hst
  subst htag hps hst
  have hak0:0≤ak:=h.ak0
  have hsub:∀ i,ak.toNat.testBit i=true→r.hv.toNat.testBit i=true:=h.sub
  have hle:ak≤allI ps.length:=v.ak
  have r1:0≤rd:=v.r1
  have r2:rd≤8:=v.r2
  have u1:0≤un:=v.u1
  have hn1:=hP.n1
  have hn2:=hP.n2
  have hpw:1≤2 ^ ps.length:=Nat.one_le_two_pow
  have hw:ackW r.hv ps.length=r.hv:=by
   have:r.hv.toNat &&& (allI ps.length).toNat=r.hv.toNat:=by
    rw [allI_nat,Int.toNat_natCast,Nat.and_two_pow_sub_one_eq_mod,Nat.mod_eq_of_lt b3]
   rw [ackW,this];omega
  have hor:ak.toNat ||| r.hv.toNat=r.hv.toNat:=by
   apply Nat.eq_of_testBit_eq
   intro i
   rw [Nat.testBit_or]
   cases hb:ak.toNat.testBit i
   ·simp
   ·rw [hsub i hb];rfl
  have ho:ackO r.hv ak=r.hv:=by rw [ackO,hor];omega
  have hne:=hr.nz
  have e0:ackP ⟨1,5,ps,ak,rd,un⟩ 5 r.hv=(⟨if r.hv=allI ps.length then 2 else 1,5,ps,r.hv,if ackD r.hv ak=0 then rd else 0,0⟩,0):=by
   rw [ackP,if_neg (by rw [(vs_iff _).2 v];simp),if_neg (by simp),if_neg (by simp),ackS]
   dsimp only
   rw [hw,if_neg hne,ho]
  refine ⟨_,e0,rfl,rfl,⟨hn1,hn2,hP.ne,b2,?_,?_,by dsimp only;omega,by dsimp only;omega,fun e=>if_pos e,fun e=>.inl (if_neg e)⟩,b1,fun i hi=>hi,h.ri,fun e1=>?_⟩
  ·dsimp only;split <;> omega
  ·dsimp only;split <;> omega
  ·dsimp only at e1 hpot ⊢
   split at e1
   ·omega
   rename_i hna
   have mono:∀ i,i < ps.length→r.hv / 2 ^ i % 2=0→ak / 2 ^ i % 2=0:=fun i _ hb=>by
    rw [← Int.toNat_of_nonneg b1] at hb
    rw [← Int.toNat_of_nonneg hak0]
    rw [bit_opn] at hb ⊢
    cases hb2:ak.toNat.testBit i
    ·rfl
    ·rw [hsub i hb2] at hb;cases hb
   split
   ·rename_i hd
    have:=opn_mono ak r.hv ps.length mono
    omega
   ·rename_i hd
    have:∃ k,k < ps.length∧r.hv.toNat.testBit k=true∧ak.toNat.testBit k=false:=by
     refine Classical.byContradiction fun hno=>hd ?_
     have e:r.hv.toNat ^^^ (r.hv.toNat &&& ak.toNat)=0:=by
      apply Nat.eq_of_testBit_eq
      intro i
      rw [Nat.testBit_xor,Nat.testBit_and,Nat.zero_testBit]
      cases h1:r.hv.toNat.testBit i
      ·rfl
      ·cases h2:ak.toNat.testBit i
       ·exfalso
        refine hno ⟨i,?_,h1,h2⟩
        rcases Nat.lt_or_ge i ps.length with h3 | h3
        ·exact h3
        ·rw [testBit_ge b3 h3] at h1;cases h1
       ·rfl
     rw [ackD,e];rfl
    obtain ⟨k,k1,k2,k3⟩:=this
    have:=opn_lt2 ak r.hv k (by rw [← Int.toNat_of_nonneg hak0,bit_opn];exact k3) (by rw [← Int.toNat_of_nonneg b1,bit_opn,k2];simp) ps.length k1 mono
    omega
 ·refine ⟨s,?_,h⟩
  rw [ackP,if_neg (by rw [(vs_iff _).2 v];simp),if_neg (by rw [h.tag];simp),if_pos hst]
theorem EI.done {P:List (List UInt8)} {s:Snd} {r:Rcv} {t:Int} (hP:Pcs P) (h:EI P s r t) (hd:s.st=2):r.dn=true:=by
 have v:=h.v
 have hak:s.ak=allI P.length:=by
  rw [← h.ps]
  refine Classical.byContradiction fun e=>?_
  have:=v.a e
  omega
 have hall:∀ i,i < P.length→r.hv.toNat.testBit i=true:=fun i hi=>h.sub i (by
  rw [hak,allI_nat,Int.toNat_natCast,Nat.testBit_two_pow_sub_one];simpa using hi)
 have hn1:=hP.n1
 rcases h.ri with rfl | hr
 ·have:=hall 0 (by omega)
  simp [zR] at this
 ·obtain ⟨b1,b2,b3⟩:=hr.hvb hP
  rw [hr.dn,decide_eq_true_iff]
  have:r.hv.toNat=2 ^ P.length - 1:=by
   apply Nat.eq_of_testBit_eq
   intro i
   rw [Nat.testBit_two_pow_sub_one]
   rcases Nat.lt_or_ge i P.length with h1 | h1
   ·rw [hall i h1];simp [h1]
   ·rw [testBit_ge b3 h1];simp [Nat.not_lt.2 h1]
  rw [allI_nat];omega
theorem RI.whole {P:List (List UInt8)} {r:Rcv} (hP:Pcs P) (h:RI P r) (hd:r.dn=true):r.ps=P∧VRc r.tag r.cnt r.ps r.hv true:=by
 rcases h with rfl | hr
 ·cases hd
 ·have hv:=(vrc_iff r).1 (hr.vrc hP)
  rw [hd] at hv
  refine ⟨?_,hv⟩
  have h1:=hr.dn
  rw [hd] at h1
  have h2:=of_decide_eq_true h1.symm
  rw [hr.hv,allI_nat] at h2
  have h3:hasN r.ps r.ps.length=2 ^ P.length - 1:=by omega
  rw [← hr.len] at h3
  have h4:=(bm_full _ _).1 h3
  apply List.ext_getElem hr.len
  intro i i1 i2
  have h5:=h4 i i1
  have h6:=hr.ps i i2
  have h7:r.ps.getD i []=r.ps[i]:=by simp [i1]
  have h8:P.getD i []=P[i]:=by simp [i2]
  rw [h7,h8] at h6
  rw [h7] at h5
  have h9:=of_decide_eq_true h5
  rcases h6 with h6 | h6
  ·rw [h6] at h9;simp at h9
  ·exact h6
theorem RI.fits {P:List (List UInt8)} {r:Rcv} (hP:Pcs P) (h:RI P r):r.fits:=by
 have hn:=hP.n2
 rcases h with rfl | hr
 ·exact ⟨by decide,by decide,by decide,by decide,fun p hp=>by cases hp⟩
 ·obtain ⟨b1,b2,b3⟩:=hr.hvb hP
  have:=allI_b hn
  refine ⟨by rw [hr.tag];omega,by rw [hr.cnt];omega,by omega,by rw [hr.len];omega,fun p hp=>?_⟩
  obtain ⟨i,hi,rfl⟩:=List.mem_iff_getElem.1 hp
  have h6:=hr.ps i (by rw [← hr.len];exact hi)
  have h7:r.ps.getD i []=r.ps[i]:=by simp [hi]
  rw [h7] at h6
  rcases h6 with h6 | h6
  ·rw [h6];simp
  ·rw [h6]
   have i2:i < P.length:=by rw [← hr.len];exact hi
   have h8:P.getD i []=P[i]:=by simp [i2]
   rw [h8]
   exact hP.b _ (List.getElem_mem i2)
end
section
open Go.RowKit
set_option maxHeartbeats 4000000
theorem mark_get:∀ (l:List Pce) (i:Nat) (p:Pce),l[i]?=some p→(mark l)[i]?=some { p with ack:=if i+1=l.length then true else p.ack }
 | [],_,_,h=>by cases h
 | [q],i,p,h=>by
  cases i with
  | zero=>injection h with h;subst h;rfl
  | succ i=>cases h
 | q::r::l,i,p,h=>by
  cases i with
  | zero =>
   injection h with h;subst h
   rw [mark,List.getElem?_cons_zero,if_neg (by simp)]
  | succ i =>
   rw [mark]
   have:=mark_get (r::l) i p h
   rw [List.getElem?_cons_succ,this]
   simp
theorem pre_get {tag:Int} {ps:List (List UInt8)} {ak:Int} {k i j:Nat} (hi:i < k) (h:(opn ak ps.length)[i]?=some j):(pre tag ps ak k)[i]?=some ⟨tag,j,ps.length,false,ps.getD j []⟩:=by
 rw [pre,List.getElem?_map,List.getElem?_take,if_pos hi,h];rfl
def PcOf (P:List (List UInt8)) (p:Pce):Prop:=∃ (j:Nat) (κ:Bool),j < P.length∧p=⟨5,j,P.length,κ,P.getD j []⟩
theorem EI.tick {P:List (List UInt8)} {s:Snd} {r:Rcv} {t:Int} (hP:Pcs P) (h:EI P s r t) (hst:s.st=1) (ht:0≤t∧t≤5000) :
  ∃ s' l,nextP s t=(s',l,0)∧EI P s' r (t+1)∧l.length≤8∧∀ k,k < l.length→∃ p,l[k]?=some p∧PcOf P p:=by
 obtain ⟨s',l,h1,h2,h3⟩:=h.next hP hst ht
 refine ⟨s',l,h1,h2,?_⟩
 rcases h3 with rfl | rfl
 ·exact ⟨by simp,fun k hk=>by simp at hk⟩
 ·rw [sent_len]
  refine ⟨by omega,fun k hk=>?_⟩
  obtain ⟨j,hj⟩:∃ j,(opn s.ak P.length)[k]?=some j:=⟨_,List.getElem?_eq_getElem (show k < (opn s.ak P.length).length by omega)⟩
  have e1:=pre_get (tag:=5) (ps:=P) (k:=min (opn s.ak P.length).length 8) hk hj
  exact ⟨_,mark_get _ _ _ e1,j,_,(opn_lt hj).1,rfl⟩
structure XT where
 s:Snd
 r:Rcv
 ct:Int
 la:Int
 wi:Int
 n:Nat
def winW (wi d:Int):Int:=(((wi * 2 ^ d.toNat % 4294967296).toNat ||| Int.toNat 1:Nat):Int)
theorem winW_b (wi d:Int):0≤winW wi d∧winW wi d≤4294967295:=by
 unfold winW
 have h0:=Int.emod_nonneg (wi * 2 ^ d.toNat) (show (4294967296:Int)≠0 by omega)
 have h1:=Int.emod_lt_of_pos (wi * 2 ^ d.toNat) (show (0:Int) < 4294967296 by omega)
 generalize wi * 2 ^ d.toNat % 4294967296=x at *
 have:=Nat.or_lt_two_pow (show x.toNat < 2 ^ 32 by omega) (show Int.toNat 1 < 2 ^ 32 by decide)
 omega
theorem winW_o (wi d:Int):(((winW wi d).toNat &&& Int.toNat 1:Nat):Int)=1:=by
 unfold winW
 rw [Int.toNat_natCast]
 generalize (wi * 2 ^ d.toNat % 4294967296).toNat=x
 have:(x ||| Int.toNat 1) &&& Int.toNat 1=1:=by
  apply Nat.eq_of_testBit_eq
  intro i
  rw [Nat.testBit_and,Nat.testBit_or,show Int.toNat 1=1 from rfl]
  cases h:Nat.testBit 1 i <;> simp
 rw [this];rfl
noncomputable def stepT (D:Int→Pce→Nat→Bool) (x:XT) (p:Pce):XT :=
 if D x.ct p x.n=true then ⟨if p.ack=true then (ackP x.s 5 (recvP x.r p).1.hv).1 else x.s,(recvP x.r p).1,x.ct+1,x.ct,winW x.wi (x.ct - x.la),x.n+1⟩
 else ⟨x.s,x.r,x.ct+1,x.la,x.wi,x.n+1⟩
structure GI (x:XT):Prop where
 c:x.ct=x.n+1
 l:0≤x.la∧x.la < x.ct
 w:0≤x.wi∧x.wi≤4294967295
 o:((x.wi.toNat &&& Int.toNat 1:Nat):Int)=1
def pc0:Pce:=⟨0,0,0,false,[]⟩
noncomputable def foldT (D:Int→Pce→Nat→Bool) (l:List Pce) (x:XT):Nat→XT
 | 0=>x
 | k+1=>stepT D (foldT D l x k) (l.getD k pc0)
theorem stepT_ei {P:List (List UInt8)} (hP:Pcs P) (D:Int→Pce→Nat→Bool) {t:Int} (ht:0≤t) {x:XT} (h:EI P x.s x.r t) (g:GI x) {p:Pce} (hp:PcOf P p):EI P (stepT D x p).s (stepT D x p).r t∧GI (stepT D x p)∧(stepT D x p).n=x.n+1:=by
 obtain ⟨j,κ,hj,rfl⟩:=hp
 have gc:=g.c
 have gl:=g.l
 unfold stepT
 split
 ·obtain ⟨r',h1,h2,h3,h4⟩:=h.recv hP j hj κ
  rw [h1]
  refine ⟨?_,⟨by dsimp only;omega,by dsimp only;omega,winW_b _ _,winW_o _ _⟩,rfl⟩
  cases κ
  ·exact h3
  ·obtain ⟨s',g1,g2⟩:=h3.ack hP h2 ht
   dsimp only
   rw [if_pos rfl,g1]
   exact g2
 ·exact ⟨h,⟨by dsimp only;omega,by dsimp only;omega,g.w,g.o⟩,rfl⟩
theorem foldT_ei {P:List (List UInt8)} (hP:Pcs P) (D:Int→Pce→Nat→Bool) {t:Int} (ht:0≤t) {x:XT} (h:EI P x.s x.r t) (g:GI x) {l:List Pce} (hl:∀ k,k < l.length→∃ p,l[k]?=some p∧PcOf P p):∀ k,k≤l.length→EI P (foldT D l x k).s (foldT D l x k).r t∧GI (foldT D l x k)∧(foldT D l x k).n=x.n+k
 | 0,_=>⟨h,g,rfl⟩
 | k+1,hk=>by
  obtain ⟨a,b,c⟩:=foldT_ei hP D ht h g hl k (by omega)
  obtain ⟨p,e,hp⟩:=hl k (by omega)
  have e2:l.getD k pc0=p:=by rw [List.getD_eq_getElem?_getD,e];rfl
  rw [foldT,e2]
  obtain ⟨d,e,f⟩:=stepT_ei hP D ht a b hp
  exact ⟨d,e,by omega⟩
noncomputable def tickT (D:Int→Pce→Nat→Bool) (x:XT) (now:Nat):XT :=
 foldT D (nextP x.s now).2.1 ⟨(nextP x.s now).1,x.r,x.ct,x.la,x.wi,x.n⟩ (nextP x.s now).2.1.length
noncomputable def runT (D:Int→Pce→Nat→Bool) (x:XT):Nat→XT
 | 0=>x
 | k+1=>if (runT D x k).s.st=1 then tickT D (runT D x k) k else runT D x k
theorem runT_ei {P:List (List UInt8)} (hP:Pcs P) (D:Int→Pce→Nat→Bool) {x:XT} (h:EI P x.s x.r 0) (g:GI x) (hn:x.n=0):∀ k:Nat,k≤5000→EI P (runT D x k).s (runT D x k).r k∧GI (runT D x k)∧(runT D x k).n≤8 * k
 | 0,_=>⟨h,g,by rw [runT,hn];omega⟩
 | k+1,hk=>by
  obtain ⟨a,b,c⟩:=runT_ei hP D h g hn k (by omega)
  rw [runT]
  split
  ·rename_i hst
   obtain ⟨s',l,e1,e2,e3,e4⟩:=a.tick hP hst (by omega)
   have gg:GI ⟨s',(runT D x k).r,(runT D x k).ct,(runT D x k).la,(runT D x k).wi,(runT D x k).n⟩:=⟨b.c,b.l,b.w,b.o⟩
   have e5:=foldT_ei hP D (t:=(k:Int)+1) (by omega) (x:=⟨s',(runT D x k).r,(runT D x k).ct,(runT D x k).la,(runT D x k).wi,(runT D x k).n⟩) e2 gg e4 l.length (Nat.le_refl _)
   rw [tickT,e1]
   refine ⟨e5.1,e5.2.1,?_⟩
   have:=e5.2.2;dsimp only at this ⊢;omega
  ·rename_i hst
   exact ⟨⟨a.tag,a.ps,a.v,a.ak0,a.sub,a.ri,fun e=>absurd e hst⟩,b,by omega⟩
theorem runT_stop (D:Int→Pce→Nat→Bool) (x:XT) (k:Nat) (h:(runT D x k).s.st≠1):∀ m,runT D x (k+m)=runT D x k
 | 0=>rfl
 | m+1=>by
  have ih:=runT_stop D x k h m
  rw [← Nat.add_assoc,runT,ih,if_neg h]
theorem chk_flat (sz:Nat) (b:List UInt8):∀ n,(chk sz b n).flatten=b.take (n * sz)
 | 0=>by simp [chk]
 | n+1=>by
  rw [chk_succ,List.flatten_append,chk_flat sz b n,Nat.succ_mul]
  simp [List.take_add]
theorem chk_whole {sz:Nat} {b:List UInt8} (h1:1≤b.length) (hs:1≤sz):(chk sz b (nPc b.length sz)).flatten=b:=by
 rw [chk_flat,List.take_of_length_le (nPc_ge h1 hs)]
theorem EI.start {P:List (List UInt8)} (hP:Pcs P):EI P ⟨1,5,P,0,0,0⟩ zR 0:=by
 have h1:=allI_pos hP.n1
 have h2:=hP.n2
 refine ⟨rfl,rfl,⟨hP.n1,h2,hP.ne,by dsimp only;omega,by dsimp only;omega,by dsimp only;omega,by dsimp only;omega,by dsimp only;omega,fun e=>?_,fun _=>.inl rfl⟩,by dsimp only;omega,fun i hi=>by simp at hi,.inl rfl,fun _=>?_⟩
 ·dsimp only at e
  omega
 ·dsimp only
  have:=opn_len_le 0 P.length
  omega
end
end Go.Proofs.YtgfpjhddojhfpaaGreat

/- Texts put together: KX. -/
import Derived.Test.YtgfpjhddojhfpaaGreatZ43
namespace Go.Proofs.YtgfpjhddojhfpaaGreat
set_option linter.unusedVariables false
set_option linter.unusedSimpArgs false
section
open Go.RowKit
set_option maxHeartbeats 4000000
set_option maxRecDepth 100000
theorem chk_76 (sz:Nat) (b:List UInt8) (n:Nat):∀ p∈chk sz b n,p.length≤sz:=by
 intro p hp
 simp only [chk,List.mem_map] at hp
 obtain ⟨i,_,rfl⟩:=hp
 rw [List.length_take];omega
theorem recovery_c (zs:List Int) (qn:Int) (ds:List Int) (hz:∀ v∈zs,-9223372036854775808≤v∧v≤9223372036854775807) (hq:-9223372036854775808≤qn∧qn≤9223372036854775807) (hds:∀ d∈ds,0≤d∧d≤255) (hdl:ds.length≤140737488351232) :
  Good 5 (pu [.lst none (ints .i64 zs),.int .i64 qn,.lst none (ints .u8 ds)] (.bool true)):=by
 obtain ⟨T,hT⟩:∃ T,T=(ints .i64 zs).take 400:=⟨_,rfl⟩
 have h0:=new_c (ints .i64 zs) T hT
 have t0:Tp T 0:=hT ▸ tape1 zs hz
 have hm:=mod_c qn 217 hq (by omega)
 obtain ⟨m0,hm0⟩:∃ N,N=qn % 217:=⟨_,rfl⟩
 rw [← hm0] at hm
 obtain ⟨a,ha⟩:∃ a,a=40+m0:=⟨_,rfl⟩
 have hab:40≤a∧a≤256:=by omega
 obtain ⟨cl,fl,nx,hp,a0,a1,a2,a3,a4,a5,a6,a7,a8,a9,b0,b1,b2,b3,b4,b5,x0,x1,x2,x3,x4,x5,x6,x7,x8,x9,y0,y1,y2,y3,y4,y5,sp,dp,pay,tb,hok,hS,hD,_,gp⟩:=packet_e t0
 have hn:=hok.hn
 obtain ⟨C,c1,c2,_,ge,gd⟩:=pack cl fl nx hp a0 a1 a2 a3 a4 a5 a6 a7 a8 a9 b0 b1 b2 b3 b4 b5 x0 x1 x2 x3 x4 x5 x6 x7 x8 x9 y0 y1 y2 y3 y4 y5 sp dp pay (u8l pay) rfl (by rw [u8l_len];exact hok) hS hD
 have gsm:=psame_c cl fl nx hp a0 a1 a2 a3 a4 a5 a6 a7 a8 a9 b0 b1 b2 b3 b4 b5 x0 x1 x2 x3 x4 x5 x6 x7 x8 x9 y0 y1 y2 y3 y4 y5 sp dp pay (u8l pay) rfl (by omega)
 have gcs:=same_c C C (u8l C) (u8l C) true rfl rfl (by omega) (by omega) (by simp)
 obtain ⟨qb,P0⟩:=beg_ok C 5 76 (by omega) (by omega) (by omega) (by rw [Nat.div_lt_iff_lt_mul (by omega)];omega)
 have hwh:=chk_whole (sz:=76) (b:=C) (by omega) (by omega)
 have hP2:=chk_76 76 C (nPc C.length 76)
 obtain ⟨ps,hps⟩:∃ ps,ps=chk 76 C (nPc C.length 76):=⟨_,rfl⟩
 rw [← hps] at qb P0 hwh hP2
 obtain ⟨R,hR⟩:∃ R,R=rowsB ps:=⟨_,rfl⟩
 have qb:begP C 5 80=(⟨1,5,ps,0,0,0⟩,0):=qb
 have gb:=begin_p C (u8l C) rfl (by omega) 5 80 (by omega) ⟨1,5,ps,0,0,0⟩ R hR 0 qb
 have hei:=EI.start P0
 obtain ⟨xx0,hxx⟩:∃ x:XT,x=⟨⟨1,5,ps,0,0,0⟩,zR,1,0,4294967295,0⟩:=⟨_,rfl⟩
 have hei0:EI ps xx0.s xx0.r 0:=by rw [hxx];exact hei
 have gi:GI xx0:=by rw [hxx];exact ⟨by dsimp only;omega,by dsimp only;omega,by dsimp only;omega,by dsimp only;decide⟩
 have hrun:=fun n hn=>run_t P0 hP2 hR a (by omega) ds hds xx0 hei0 gi (by rw [hxx]) n hn
 have hend:=(runT_ei P0 (dlv a ds) hei0 gi (by rw [hxx]) 2500 (by omega)).1
 have e0:runT (dlv a ds) xx0 0=xx0:=rfl
 refine recov_w cl fl nx hp a0 a1 a2 a3 a4 a5 a6 a7 a8 a9 b0 b1 b2 b3 b4 b5 x0 x1 x2 x3 x4 x5 x6 x7 x8 x9 y0 y1 y2 y3 y4 y5 sp dp (ints .i64 zs) T (ints .u8 ds) (u8l pay) (u8l C) R ds qn m0 a 0 tb (ints_len _ _) hdl rfl hab ha h0 gp ge gd gsm gcs gb hm _ _ _ _ _ _ _ _ _ _ _ _ _ hrun (by rw [e0,hxx]) (by rw [e0,hxx]) (by rw [e0,hxx]) (by rw [e0,hxx]) (by rw [e0,hxx];rfl) (by rw [e0,hxx];rfl) (by rw [e0,hxx];rfl) (by rw [e0,hxx]) (by rw [e0,hxx]) (by rw [e0,hxx]) (by rw [e0,hxx];rfl) (by rw [e0,hxx];rfl) (by rw [e0,hxx]) ?_
 clear hrun hei hei0 gi gb qb h0 t0 ge gd gsm gcs gp
 generalize runT (dlv a ds) xx0 2500=X at hend
 obtain ⟨s,r,ct,la,wi,n⟩:=X
 dsimp only at hend ⊢
 have hst:s.st≠1:=fun h=>by
  have h1:=hend.pot h
  have h2:=hend.v.r2
  omega
 have hst2:s.st=2∨s.st=3:=by
  have v:=hend.v
  by_cases e:s.ak=allI s.ps.length
  ·exact .inl (v.d e)
  ·rcases v.a e with h | h
   ·exact absurd h hst
   ·exact .inr h
 have hdone:=hend.done P0
 have hfit:=hend.ri.fits P0
 have hwhole:=hend.ri.whole P0
 obtain ⟨tag,cnt,qs,hv,dn⟩:=r
 dsimp only at hdone hfit hwhole ⊢
 have yes:dn=true→Good 37 (pu [rcvV (rowsB qs) tag cnt hv true] (.tup [.lst none (u8l C),.bool true])):=fun h=>by
  subst h
  obtain ⟨w1,w2⟩:=hwhole rfl
  subst w1
  exact dgram_yes tag cnt hv qs _ rfl hfit w2 (by rw [hwh];omega) (u8l C) (by rw [hwh])
 rcases hst2 with h2 | h3
 ·have hd:=hdone h2
  exact .inl ⟨h2,hd,yes hd⟩
 ·refine .inr ⟨h3,?_⟩
  cases dn
  ·exact ⟨[],false,dgram_no tag cnt hv false qs _ rfl hfit _ (vrc_iff ⟨tag,cnt,qs,hv,false⟩) (.inr rfl)⟩
  ·exact ⟨_,true,yes rfl⟩
end
end Go.Proofs.YtgfpjhddojhfpaaGreat

/- Texts put together: AD HA HB. -/
import Derived.Test.YtgfpjhddojhfpaaGreatZ03
import Derived.Test.YtgfpjhddojhfpaaGreatZ06
namespace Go.Proofs.YtgfpjhddojhfpaaGreat
set_option linter.unusedVariables false
set_option linter.unusedSimpArgs false
section
open Go.RowKit
set_option maxHeartbeats 4000000
def someA (m s e:Int):Bool:=decide ((m=2∧e=0)∨(m=3∧s=0))
theorem avalid_c (m s e:Int) (r:Bool) (hr:r=decide ((m=0∧s=0∧e=0)∨(m=2∧e=0)∨(m=3∧s=0))):Good 159 (pu [.agg [.int .i64 m,.int .u16 s,.int .u64 e]] (.bool r)):=by
 refine Good.of Tryz.func159 rfl (by rfl) (by kernel_rfl) ?_
 cbv
 (repeat' (first
| ((first
| (refine q1w (fun z hz=>?_);(try simp only at hz))
| refine rqa ?_
| refine chpA ?_
| refine QCt ?_
| refine QCf ?_);cbv)
| (refine QC.mk ?_ ?_ <;> intro hc <;> (try dsimp only at hc) <;> cbv)
| (refine br_mk2 ?_ ?_ <;> intro hb <;> (try subst hb) <;> cbv)))
 all_goals (try simp only [Bool.and_eq_true,decide_eq_true_eq,and_true] at hc)
 all_goals refine ⟨?_,rfl,rfl⟩
 all_goals rw [hr]
 all_goals first | (rw [decide_eq_true (by omega)]) | (rw [decide_eq_false (by omega)])
theorem rvalidA_c (m s e:Int) (r:Bool) (hr:r=decide ((m=0∧s=0∧e=0)∨(m=2∧e=0)∨(m=3∧s=0))):Good 116 (pu [.agg [.int .i64 m,.int .u16 s,.int .u64 e]] (.bool r)):=by
 refine Good.of Tryz.func116 rfl (by rfl) (by kernel_rfl) ?_
 cbv
 (repeat' (first
| ((first
| (refine q1w (fun z hz=>?_);(try simp only at hz))
| refine rqa ?_
| refine chpA ?_
| refine QCt ?_
| refine QCf ?_);cbv)
| (refine QC.mk ?_ ?_ <;> intro hc <;> (try dsimp only at hc) <;> cbv)
| (refine br_mk2 ?_ ?_ <;> intro hb <;> (try subst hb) <;> cbv)))
 all_goals (try simp only [Bool.and_eq_true,decide_eq_true_eq,and_true] at hc)
 all_goals refine ⟨?_,rfl,rfl⟩
 all_goals rw [hr]
 all_goals first | (rw [decide_eq_true (by omega)]) | (rw [decide_eq_false (by omega)])
theorem some_c (m s e:Int) (r:Bool) (hr:r=someA m s e):Good 54 (pu [.agg [.int .i64 m,.int .u16 s,.int .u64 e]] (.bool r)):=by
 obtain ⟨b,hb⟩:∃ b,b=decide ((m=0∧s=0∧e=0)∨(m=2∧e=0)∨(m=3∧s=0)):=⟨_,rfl⟩
 have h1:=rvalidA_c m s e b hb
 unfold someA at hr
 refine Good.of Tryz.func54 rfl (by rfl) (by kernel_rfl) ?_
 cbv
 (repeat' (first
| ((first
| (refine q1w (fun z hz=>?_);(try simp only at hz))
| refine rqa ?_
| refine chpA ?_
| refine QCt ?_
| refine QCf ?_);cbv)
| (refine QC.mk ?_ ?_ <;> intro hc <;> (try dsimp only at hc) <;> cbv)
| (refine br_mk2 ?_ ?_ <;> intro hb <;> (try subst hb) <;> cbv)))
 (refine callq (h1) rfl rfl ?_;cbv;(repeat' (first
| ((first
| (refine q1w (fun z hz=>?_);(try simp only at hz))
| refine rqa ?_
| refine chpA ?_
| refine QCt ?_
| refine QCf ?_);cbv)
| (refine QC.mk ?_ ?_ <;> intro hc <;> (try dsimp only at hc) <;> cbv)
| (refine br_mk2 ?_ ?_ <;> intro hb <;> (try subst hb) <;> cbv))))
 all_goals (first | have hb:=of_decide_eq_true hb.symm | have hb:=of_decide_eq_false hb.symm)
 all_goals (try simp only [Bool.and_eq_true,decide_eq_true_eq,and_true] at hc)
 all_goals refine ⟨?_,rfl,rfl⟩
 all_goals rw [hr]
 all_goals first | (rw [decide_eq_true (by omega)]) | (rw [decide_eq_false (by omega)])
end
section
open Go.RowKit
set_option maxHeartbeats 4000000
def bcA (m s e:Int):Bool:=decide (m=2∧s=65535∧e=0)
theorem bcast_c (m s e:Int) (r:Bool) (hr:r=bcA m s e):Good 176 (pu [.agg [.int .i64 m,.int .u16 s,.int .u64 e]] (.bool r)):=by
 unfold bcA at hr
 refine Good.of Tryz.func176 rfl (by rfl) (by kernel_rfl) ?_
 cbv
 (repeat' (first
| ((first
| (refine q1w (fun z hz=>?_);(try simp only at hz))
| refine rqa ?_
| refine chpA ?_
| refine QCt ?_
| refine QCf ?_);cbv)
| (refine QC.mk ?_ ?_ <;> intro hc <;> (try dsimp only at hc) <;> cbv)
| (refine br_mk2 ?_ ?_ <;> intro hb <;> (try subst hb) <;> cbv)))
 all_goals (try simp only [Bool.and_eq_true,decide_eq_true_eq,and_true] at hc)
 all_goals refine ⟨?_,rfl,rfl⟩
 all_goals rw [hr]
 all_goals first | (rw [decide_eq_true (by omega)]) | (rw [decide_eq_false (by omega)])
def abL (m:Int):Int:=if m=2 then 2 else if m=3 then 8 else 0
theorem addrBytes_c (m s e:Int) (r:Int) (hr:r=abL m):Good 207 (pu [.agg [.int .i64 m,.int .u16 s,.int .u64 e]] (.int .i64 r)):=by
 unfold abL at hr
 refine Good.of Tryz.func207 rfl (by rfl) (by kernel_rfl) ?_
 cbv
 (repeat' (first
| ((first
| (refine q1w (fun z hz=>?_);(try simp only at hz))
| refine rqa ?_
| refine chpA ?_
| refine QCt ?_
| refine QCf ?_);cbv)
| (refine QC.mk ?_ ?_ <;> intro hc <;> (try dsimp only at hc) <;> cbv)
| (refine br_mk2 ?_ ?_ <;> intro hb <;> (try subst hb) <;> cbv)))
 all_goals refine ⟨?_,rfl,rfl⟩
 all_goals rw [hr]
 all_goals repeat' split
 all_goals first | rfl | omega
theorem abL_le (m:Int):0≤abL m∧abL m≤8:=by
 unfold abL
 split
 ·omega
 ·split <;> omega
abbrev frS (k:Int) (ac pe se:Bool) (q pn dm ds de um us ue ct ky:Int) (P M:List SV):SV:=.agg [.int .i64 k,.bool ac,.bool pe,.bool se,.int .u8 q,.int .u16 pn,.int .i64 dm,.int .u16 ds,.int .u64 de,.int .i64 um,.int .u16 us,.int .u64 ue,.int .u32 ct,.int .u8 ky,.lst none P,.lst none M]
def frL (k:Int) (se:Bool) (dm um:Int) (p m:Nat):Int:=5+p+(if k=2 then 0 else 2+abL dm+abL um)+(if se=true then 5+(m:Int) else 0)
theorem length_c (k:Int) (ac pe se:Bool) (q pn dm ds de um us ue ct ky:Int) (P M:List SV) (p m:Nat) (hp:P.length=p) (hm:M.length=m) (hl:p≤140737488355328∧m≤140737488355328) (r:Int) (hr:r=frL k se dm um p m) :
  Good 177 (pu [frS k ac pe se q pn dm ds de um us ue ct ky P M] (.int .i64 r)):=by
 obtain ⟨ad,had⟩:∃ y,y=abL dm:=⟨_,rfl⟩
 obtain ⟨as',has⟩:∃ y,y=abL um:=⟨_,rfl⟩
 have h1:=addrBytes_c dm ds de ad had
 have h2:=addrBytes_c um us ue as' has
 have b1:0≤ad∧ad≤8:=by rw [had];exact abL_le dm
 have b2:0≤as'∧as'≤8:=by rw [has];exact abL_le um
 have hr:r=5+p+(if k=2 then 0 else 2+ad+as')+(if se=true then 5+(m:Int) else 0):=by rw [hr,frL,had,has]
 have hP0:O.ln P≤140737488355328:=by rw [oln];omega
 have hM0:O.ln M≤140737488355328:=by rw [oln];omega
 have hP1:O.ln P=p:=by rw [oln];omega
 have hM1:O.ln M=m:=by rw [oln];omega
 obtain ⟨F,hF⟩:∃ F:Prop,F ↔ (r=5+p+(if k=2 then 0 else 2+ad+as')+(if se=true then 5+(m:Int) else 0)):=⟨_,Iff.rfl⟩
 have hf:F:=hF.2 hr
 clear hr
 refine Good.of Tryz.func177 rfl (by rfl) (by kernel_rfl) ?_
 cbv
 (repeat' (first
| ((first
| (refine q1w (fun z hz=>?_);(try simp only at hz))
| refine rqa ?_
| refine chpA ?_
| refine QCt ?_
| refine QCf ?_);cbv)
| (refine QC.mk ?_ ?_ <;> intro hc <;> (try dsimp only at hc) <;> cbv)
| (refine br_mk2 ?_ ?_ <;> intro hb <;> (try subst hb) <;> cbv)
| (refine callq (h1) rfl rfl ?_;cbv)
| (refine callq (h2) rfl rfl ?_;cbv)))
 all_goals refine ⟨?_,rfl,rfl⟩
 all_goals (have hr:=hF.1 hf;rw [hr])
 all_goals congr 1
 all_goals split <;> split <;> first | (first | omega | (simp only [cst] at *;omega) | (simp only [sm] at *;omega)) | (exfalso;omega) | (rename_i h;exact absurd rfl h) | (rename_i h;cases h)
def ackV (ac se:Bool) (pn dm ds de um us ue ct ky:Int) (p m:Nat):Bool:=decide (ac=false∧se=false∧pn=0∧ct=0∧ky=0∧(dm=0∧ds=0∧de=0)∧(um=0∧us=0∧ue=0)∧p=0∧m=0)
set_option maxRecDepth 20000 in
theorem validAck_c (k:Int) (ac pe se:Bool) (q pn dm ds de um us ue ct ky:Int) (P M:List SV) (p m:Nat) (hp:P.length=p) (hm:M.length=m) (r:Bool) (hr:r=ackV ac se pn dm ds de um us ue ct ky p m) :
  Good 120 (pu [frS k ac pe se q pn dm ds de um us ue ct ky P M] (.bool r)):=by
 have hP1:O.ln P=p:=by rw [oln];omega
 have hM1:O.ln M=m:=by rw [oln];omega
 obtain ⟨F,hF⟩:∃ F:Prop,F ↔ (r=ackV ac se pn dm ds de um us ue ct ky p m):=⟨_,Iff.rfl⟩
 have hf:F:=hF.2 hr
 clear hr
 unfold ackV at hF
 refine Good.of Tryz.func120 rfl (by rfl) (by kernel_rfl) ?_
 cbv
 (repeat' (first
| ((first
| (refine q1w (fun z hz=>?_);(try simp only at hz))
| refine rqa ?_
| refine chpA ?_
| refine QCt ?_
| refine QCf ?_);cbv)
| (refine QC.mk ?_ ?_ <;> intro hc <;> (try dsimp only at hc) <;> cbv)
| (refine br_mk2 ?_ ?_ <;> intro hb <;> (try subst hb) <;> cbv)))
 all_goals refine ⟨?_,rfl,rfl⟩
 all_goals rw [hF.1 hf]
 all_goals clear hF hf
 all_goals (try simp only [Bool.and_eq_true,decide_eq_true_eq,and_true,true_and,false_and,reduceCtorEq,decide_false] at *)
 all_goals first
  | rfl
  | (rw [decide_eq_true (by (first | omega | (simp only [cst] at *;omega) | (simp only [sm] at *;omega)))];done)
  | (rw [decide_eq_false (by (first | omega | (simp only [cst] at *;omega) | (simp only [sm] at *;omega)))];done)
def dataV (ac se:Bool) (dm ds de um us ue ct ky:Int) (m:Nat) (l:Int):Bool :=
 decide ((someA dm ds de=true∧someA um us ue=true)∧(bcA um us ue=false∧(ac=true→bcA dm ds de=false))∧(se=true→m=4)∧(se=false→ct=0∧ky=0∧m=0)∧l≤127)
set_option maxRecDepth 20000 in
theorem validData_c (k:Int) (ac pe se:Bool) (q pn dm ds de um us ue ct ky:Int) (P M:List SV) (p m:Nat) (hp:P.length=p) (hm:M.length=m) (hl:p≤140737488355328∧m≤140737488355328) (r:Bool) (hr:r=dataV ac se dm ds de um us ue ct ky m (frL k se dm um p m)) :
  Good 121 (pu [frS k ac pe se q pn dm ds de um us ue ct ky P M] (.bool r)):=by
 have hM1:O.ln M=m:=by rw [oln];omega
 obtain ⟨l,hl0⟩:∃ l,l=frL k se dm um p m:=⟨_,rfl⟩
 have c1:=length_c k ac pe se q pn dm ds de um us ue ct ky P M p m hp hm hl l hl0
 obtain ⟨vd,hvd⟩:∃ b,b=decide ((dm=0∧ds=0∧de=0)∨(dm=2∧de=0)∨(dm=3∧ds=0)):=⟨_,rfl⟩
 obtain ⟨vu,hvu⟩:∃ b,b=decide ((um=0∧us=0∧ue=0)∨(um=2∧ue=0)∨(um=3∧us=0)):=⟨_,rfl⟩
 have c2:=avalid_c dm ds de vd hvd
 have c3:=avalid_c um us ue vu hvu
 obtain ⟨bd,hbd⟩:∃ b,b=bcA dm ds de:=⟨_,rfl⟩
 obtain ⟨bu,hbu⟩:∃ b,b=bcA um us ue:=⟨_,rfl⟩
 have c4:=bcast_c dm ds de bd hbd
 have c5:=bcast_c um us ue bu hbu
 have sd:(someA dm ds de=true) ↔ (vd=true∧dm≠0):=by rw [hvd,someA,decide_eq_true_eq,decide_eq_true_eq];omega
 have su:(someA um us ue=true) ↔ (vu=true∧um≠0):=by rw [hvu,someA,decide_eq_true_eq,decide_eq_true_eq];omega
 have hr:r=decide (((vd=true∧dm≠0)∧(vu=true∧um≠0))∧(bu=false∧(ac=true→bd=false))∧(se=true→m=4)∧(se=false→ct=0∧ky=0∧m=0)∧l≤127):=by
  rw [hr,dataV,← hbd,← hbu,← hl0]
  exact decide_eq_decide.2 (by rw [sd,su])
 clear hvd hvu hbd hbu sd su hl0
 obtain ⟨F,hF⟩:∃ F:Prop,F ↔ (r=decide (((vd=true∧dm≠0)∧(vu=true∧um≠0))∧(bu=false∧(ac=true→bd=false))∧(se=true→m=4)∧(se=false→ct=0∧ky=0∧m=0)∧l≤127)):=⟨_,Iff.rfl⟩
 have hf:F:=hF.2 hr
 clear hr
 refine Good.of Tryz.func121 rfl (by rfl) (by kernel_rfl) ?_
 cbv
 (repeat' (first
| ((first
| (refine q1w (fun z hz=>?_);(try simp only at hz))
| refine rqa ?_
| refine chpA ?_
| refine QCt ?_
| refine QCf ?_);cbv)
| (refine QC.mk ?_ ?_ <;> intro hc <;> (try dsimp only at hc) <;> cbv)
| (refine br_mk2 ?_ ?_ <;> intro hb <;> (try subst hb) <;> cbv)
| (refine callq (c1) rfl rfl ?_;cbv)
| (refine callq (c2) rfl rfl ?_;cbv)
| (refine callq (c3) rfl rfl ?_;cbv)
| (refine callq (c4) rfl rfl ?_;cbv)
| (refine callq (c5) rfl rfl ?_;cbv)))
 all_goals refine ⟨?_,rfl,rfl⟩
 all_goals rw [hF.1 hf]
 all_goals clear hF hf c1 c2 c3 c4 c5
 all_goals (try simp only [Bool.and_eq_true,decide_eq_true_eq,and_true,true_and,false_and,and_false,reduceCtorEq,decide_false,forall_const,true_implies,false_implies,imp_false,not_true_eq_false,not_false_eq_true] at *)
 all_goals first
  | rfl
  | (rw [decide_eq_true (by (first | omega | (simp only [cst] at *;omega) | (simp only [sm] at *;omega)))];done)
  | (rw [decide_eq_false (by (first | omega | (simp only [cst] at *;omega) | (simp only [sm] at *;omega)))];done)
  | trace_state
end
section
open Go.RowKit
set_option maxHeartbeats 4000000
structure Fr where
 k:Int
 ac:Bool
 pe:Bool
 se:Bool
 q:Int
 pn:Int
 dm:Int
 ds:Int
 de:Int
 um:Int
 us:Int
 ue:Int
 ct:Int
 ky:Int
 P:List UInt8
 M:List UInt8
def Fr.len (f:Fr):Int:=frL f.k f.se f.dm f.um f.P.length f.M.length
def Fr.valid (f:Fr):Bool:=if f.k=2 then ackV f.ac f.se f.pn f.dm f.ds f.de f.um f.us f.ue f.ct f.ky f.P.length f.M.length else if f.k=1∨f.k=3 then dataV f.ac f.se f.dm f.ds f.de f.um f.us f.ue f.ct f.ky f.M.length f.len else false
theorem valid_c (k:Int) (ac pe se:Bool) (q pn dm ds de um us ue ct ky:Int) (P M:List SV) (p m:List UInt8) (hp:P.length=p.length) (hm:M.length=m.length) (hl:p.length≤140737488355328∧m.length≤140737488355328) (r:Bool) (hr:r=(Fr.mk k ac pe se q pn dm ds de um us ue ct ky p m).valid) :
  Good 59 (pu [frS k ac pe se q pn dm ds de um us ue ct ky P M] (.bool r)):=by
 obtain ⟨a,ha⟩:∃ b,b=ackV ac se pn dm ds de um us ue ct ky p.length m.length:=⟨_,rfl⟩
 obtain ⟨b,hb⟩:∃ b,b=dataV ac se dm ds de um us ue ct ky m.length (frL k se dm um p.length m.length):=⟨_,rfl⟩
 have c1:=validAck_c k ac pe se q pn dm ds de um us ue ct ky P M p.length m.length hp hm a ha
 have c2:=validData_c k ac pe se q pn dm ds de um us ue ct ky P M p.length m.length hp hm hl b hb
 have hr:r=if k=2 then a else if k=1∨k=3 then b else false:=by rw [hr,ha,hb];rfl
 clear ha hb
 refine Good.of Tryz.func59 rfl (by rfl) (by kernel_rfl) ?_
 cbv
 (repeat' (first
| ((first
| (refine q1w (fun z hz=>?_);(try simp only at hz))
| refine rqa ?_
| refine chpA ?_
| refine QCt ?_
| refine QCf ?_);cbv)
| (refine QC.mk ?_ ?_ <;> intro hc <;> (try dsimp only at hc) <;> cbv)
| (refine br_mk2 ?_ ?_ <;> intro hb <;> (try subst hb) <;> cbv)
| (refine callq (c1) rfl rfl ?_;cbv)
| (refine callq (c2) rfl rfl ?_;cbv)))
 all_goals refine ⟨?_,rfl,rfl⟩
 all_goals rw [hr]
 all_goals repeat' split
 all_goals first | rfl | (exfalso;omega)
end
end Go.Proofs.YtgfpjhddojhfpaaGreat

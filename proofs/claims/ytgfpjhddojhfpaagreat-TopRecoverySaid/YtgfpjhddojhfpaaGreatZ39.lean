/- Texts put together: EZb. -/
import Derived.Test.YtgfpjhddojhfpaaGreatZ32
namespace Go.Proofs.YtgfpjhddojhfpaaGreat
set_option linter.unusedVariables false
set_option linter.unusedSimpArgs false
section
open Go.RowKit
set_option maxHeartbeats 8000000
set_option maxRecDepth 100000
theorem grp_n {L:List SV} {c:Int} (h:Tp L c) {a1 d0:Int} (ha0:0≤a1) (ha1:a1 < 256) (t0:Tp L d0) (h1:a1=2) (gb:Good 68 (le 144 (.agg [.lst none L,.int .i64 c]) [.int .i64 2] (.bool false) (.agg [.lst none L,.int .i64 d0]))) :
  ∃ a0 a1 a2 a3 a4 a5 a6 a7 a8 a9 b0 b1 b2 b3 b4 b5 b,By16 a0 a1 a2 a3 a4 a5 a6 a7 a8 a9 b0 b1 b2 b3 b4 b5∧Tp L b∧Good 129 (le 144 (.agg [.lst none L,.int .i64 c]) [] (ipS a0 a1 a2 a3 a4 a5 a6 a7 a8 a9 b0 b1 b2 b3 b4 b5) (.agg [.lst none L,.int .i64 b])):=by
 subst h1
 obtain ⟨n0,c0,m0,u0,s0,g0⟩:=next_e t0 15 (by omega)
 by_cases h0:n0≤0
 ·refine ⟨255,2,0,0,0,0,0,0,0,0,0,0,0,0,0,0,c0,⟨by omega,by omega,by omega,by omega,by omega,by omega,by omega,by omega,by omega,by omega,by omega,by omega,by omega,by omega,by omega,by omega⟩,s0,?_⟩
  clear h t0 s0
  refine Good.of Tryz.func129 rfl (by rfl) (by kernel_rfl) ?_
  cbv
  have hmk:True:=trivial
  exact wlkcLMU
 obtain ⟨v0,d1,l0,w0,t1,k0⟩:=next_e s0 256 (by omega)
 obtain ⟨n1,c1,m1,u1,s1,g1⟩:=next_e t1 15 (by omega)
 by_cases h1:n1≤1
 ·refine ⟨255,2,0,0,0,0,0,0,0,0,0,0,0,0,0,v0,c1,⟨by omega,by omega,by omega,by omega,by omega,by omega,by omega,by omega,by omega,by omega,by omega,by omega,by omega,by omega,by omega,⟨l0,Int.le_of_lt_add_one w0⟩⟩,s1,?_⟩
  clear h t0 t1 s0 s1
  refine Good.of Tryz.func129 rfl (by rfl) (by kernel_rfl) ?_
  cbv
  have hmk:True:=trivial
  exact wlkcLMU
 obtain ⟨v1,d2,l1,w1,t2,k1⟩:=next_e s1 256 (by omega)
 obtain ⟨n2,c2,m2,u2,s2,g2⟩:=next_e t2 15 (by omega)
 by_cases h2:n2≤2
 ·refine ⟨255,2,0,0,0,0,0,0,0,0,0,0,0,0,v1,v0,c2,⟨by omega,by omega,by omega,by omega,by omega,by omega,by omega,by omega,by omega,by omega,by omega,by omega,by omega,by omega,⟨l1,Int.le_of_lt_add_one w1⟩,⟨l0,Int.le_of_lt_add_one w0⟩⟩,s2,?_⟩
  clear h t0 t1 t2 s0 s1 s2
  refine Good.of Tryz.func129 rfl (by rfl) (by kernel_rfl) ?_
  cbv
  have hmk:True:=trivial
  exact wlkcLMU
 obtain ⟨v2,d3,l2,w2,t3,k2⟩:=next_e s2 256 (by omega)
 obtain ⟨n3,c3,m3,u3,s3,g3⟩:=next_e t3 15 (by omega)
 by_cases h3:n3≤3
 ·refine ⟨255,2,0,0,0,0,0,0,0,0,0,0,0,v2,v1,v0,c3,⟨by omega,by omega,by omega,by omega,by omega,by omega,by omega,by omega,by omega,by omega,by omega,by omega,by omega,⟨l2,Int.le_of_lt_add_one w2⟩,⟨l1,Int.le_of_lt_add_one w1⟩,⟨l0,Int.le_of_lt_add_one w0⟩⟩,s3,?_⟩
  clear h t0 t1 t2 t3 s0 s1 s2 s3
  refine Good.of Tryz.func129 rfl (by rfl) (by kernel_rfl) ?_
  cbv
  have hmk:True:=trivial
  exact wlkcLMU
 obtain ⟨v3,d4,l3,w3,t4,k3⟩:=next_e s3 256 (by omega)
 obtain ⟨n4,c4,m4,u4,s4,g4⟩:=next_e t4 15 (by omega)
 by_cases h4:n4≤4
 ·refine ⟨255,2,0,0,0,0,0,0,0,0,0,0,v3,v2,v1,v0,c4,⟨by omega,by omega,by omega,by omega,by omega,by omega,by omega,by omega,by omega,by omega,by omega,by omega,⟨l3,Int.le_of_lt_add_one w3⟩,⟨l2,Int.le_of_lt_add_one w2⟩,⟨l1,Int.le_of_lt_add_one w1⟩,⟨l0,Int.le_of_lt_add_one w0⟩⟩,s4,?_⟩
  clear h t0 t1 t2 t3 t4 s0 s1 s2 s3 s4
  refine Good.of Tryz.func129 rfl (by rfl) (by kernel_rfl) ?_
  cbv
  have hmk:True:=trivial
  exact wlkcLMU
 obtain ⟨v4,d5,l4,w4,t5,k4⟩:=next_e s4 256 (by omega)
 obtain ⟨n5,c5,m5,u5,s5,g5⟩:=next_e t5 15 (by omega)
 by_cases h5:n5≤5
 ·refine ⟨255,2,0,0,0,0,0,0,0,0,0,v4,v3,v2,v1,v0,c5,⟨by omega,by omega,by omega,by omega,by omega,by omega,by omega,by omega,by omega,by omega,by omega,⟨l4,Int.le_of_lt_add_one w4⟩,⟨l3,Int.le_of_lt_add_one w3⟩,⟨l2,Int.le_of_lt_add_one w2⟩,⟨l1,Int.le_of_lt_add_one w1⟩,⟨l0,Int.le_of_lt_add_one w0⟩⟩,s5,?_⟩
  clear h t0 t1 t2 t3 t4 t5 s0 s1 s2 s3 s4 s5
  refine Good.of Tryz.func129 rfl (by rfl) (by kernel_rfl) ?_
  cbv
  have hmk:True:=trivial
  exact wlkcLMU
 obtain ⟨v5,d6,l5,w5,t6,k5⟩:=next_e s5 256 (by omega)
 obtain ⟨n6,c6,m6,u6,s6,g6⟩:=next_e t6 15 (by omega)
 by_cases h6:n6≤6
 ·refine ⟨255,2,0,0,0,0,0,0,0,0,v5,v4,v3,v2,v1,v0,c6,⟨by omega,by omega,by omega,by omega,by omega,by omega,by omega,by omega,by omega,by omega,⟨l5,Int.le_of_lt_add_one w5⟩,⟨l4,Int.le_of_lt_add_one w4⟩,⟨l3,Int.le_of_lt_add_one w3⟩,⟨l2,Int.le_of_lt_add_one w2⟩,⟨l1,Int.le_of_lt_add_one w1⟩,⟨l0,Int.le_of_lt_add_one w0⟩⟩,s6,?_⟩
  clear h t0 t1 t2 t3 t4 t5 t6 s0 s1 s2 s3 s4 s5 s6
  refine Good.of Tryz.func129 rfl (by rfl) (by kernel_rfl) ?_
  cbv
  have hmk:True:=trivial
  exact wlkcLMU
 obtain ⟨v6,d7,l6,w6,t7,k6⟩:=next_e s6 256 (by omega)
 obtain ⟨n7,c7,m7,u7,s7,g7⟩:=next_e t7 15 (by omega)
 by_cases h7:n7≤7
 ·refine ⟨255,2,0,0,0,0,0,0,0,v6,v5,v4,v3,v2,v1,v0,c7,⟨by omega,by omega,by omega,by omega,by omega,by omega,by omega,by omega,by omega,⟨l6,Int.le_of_lt_add_one w6⟩,⟨l5,Int.le_of_lt_add_one w5⟩,⟨l4,Int.le_of_lt_add_one w4⟩,⟨l3,Int.le_of_lt_add_one w3⟩,⟨l2,Int.le_of_lt_add_one w2⟩,⟨l1,Int.le_of_lt_add_one w1⟩,⟨l0,Int.le_of_lt_add_one w0⟩⟩,s7,?_⟩
  clear h t0 t1 t2 t3 t4 t5 t6 t7 s0 s1 s2 s3 s4 s5 s6 s7
  refine Good.of Tryz.func129 rfl (by rfl) (by kernel_rfl) ?_
  cbv
  have hmk:True:=trivial
  exact wlkcLMU
 obtain ⟨v7,d8,l7,w7,t8,k7⟩:=next_e s7 256 (by omega)
 obtain ⟨n8,c8,m8,u8,s8,g8⟩:=next_e t8 15 (by omega)
 by_cases h8:n8≤8
 ·refine ⟨255,2,0,0,0,0,0,0,v7,v6,v5,v4,v3,v2,v1,v0,c8,⟨by omega,by omega,by omega,by omega,by omega,by omega,by omega,by omega,⟨l7,Int.le_of_lt_add_one w7⟩,⟨l6,Int.le_of_lt_add_one w6⟩,⟨l5,Int.le_of_lt_add_one w5⟩,⟨l4,Int.le_of_lt_add_one w4⟩,⟨l3,Int.le_of_lt_add_one w3⟩,⟨l2,Int.le_of_lt_add_one w2⟩,⟨l1,Int.le_of_lt_add_one w1⟩,⟨l0,Int.le_of_lt_add_one w0⟩⟩,s8,?_⟩
  clear h t0 t1 t2 t3 t4 t5 t6 t7 t8 s0 s1 s2 s3 s4 s5 s6 s7 s8
  refine Good.of Tryz.func129 rfl (by rfl) (by kernel_rfl) ?_
  cbv
  have hmk:True:=trivial
  exact wlkcLMU
 obtain ⟨v8,d9,l8,w8,t9,k8⟩:=next_e s8 256 (by omega)
 obtain ⟨n9,c9,m9,u9,s9,g9⟩:=next_e t9 15 (by omega)
 by_cases h9:n9≤9
 ·refine ⟨255,2,0,0,0,0,0,v8,v7,v6,v5,v4,v3,v2,v1,v0,c9,⟨by omega,by omega,by omega,by omega,by omega,by omega,by omega,⟨l8,Int.le_of_lt_add_one w8⟩,⟨l7,Int.le_of_lt_add_one w7⟩,⟨l6,Int.le_of_lt_add_one w6⟩,⟨l5,Int.le_of_lt_add_one w5⟩,⟨l4,Int.le_of_lt_add_one w4⟩,⟨l3,Int.le_of_lt_add_one w3⟩,⟨l2,Int.le_of_lt_add_one w2⟩,⟨l1,Int.le_of_lt_add_one w1⟩,⟨l0,Int.le_of_lt_add_one w0⟩⟩,s9,?_⟩
  clear h t0 t1 t2 t3 t4 t5 t6 t7 t8 t9 s0 s1 s2 s3 s4 s5 s6 s7 s8 s9
  refine Good.of Tryz.func129 rfl (by rfl) (by kernel_rfl) ?_
  cbv
  have hmk:True:=trivial
  exact wlkcLMU
 obtain ⟨v9,d10,l9,w9,t10,k9⟩:=next_e s9 256 (by omega)
 obtain ⟨n10,c10,m10,u10,s10,g10⟩:=next_e t10 15 (by omega)
 by_cases h10:n10≤10
 ·refine ⟨255,2,0,0,0,0,v9,v8,v7,v6,v5,v4,v3,v2,v1,v0,c10,⟨by omega,by omega,by omega,by omega,by omega,by omega,⟨l9,Int.le_of_lt_add_one w9⟩,⟨l8,Int.le_of_lt_add_one w8⟩,⟨l7,Int.le_of_lt_add_one w7⟩,⟨l6,Int.le_of_lt_add_one w6⟩,⟨l5,Int.le_of_lt_add_one w5⟩,⟨l4,Int.le_of_lt_add_one w4⟩,⟨l3,Int.le_of_lt_add_one w3⟩,⟨l2,Int.le_of_lt_add_one w2⟩,⟨l1,Int.le_of_lt_add_one w1⟩,⟨l0,Int.le_of_lt_add_one w0⟩⟩,s10,?_⟩
  clear h t0 t1 t2 t3 t4 t5 t6 t7 t8 t9 t10 s0 s1 s2 s3 s4 s5 s6 s7 s8 s9 s10
  refine Good.of Tryz.func129 rfl (by rfl) (by kernel_rfl) ?_
  cbv
  have hmk:True:=trivial
  exact wlkcLMU
 obtain ⟨v10,d11,l10,w10,t11,k10⟩:=next_e s10 256 (by omega)
 obtain ⟨n11,c11,m11,u11,s11,g11⟩:=next_e t11 15 (by omega)
 by_cases h11:n11≤11
 ·refine ⟨255,2,0,0,0,v10,v9,v8,v7,v6,v5,v4,v3,v2,v1,v0,c11,⟨by omega,by omega,by omega,by omega,by omega,⟨l10,Int.le_of_lt_add_one w10⟩,⟨l9,Int.le_of_lt_add_one w9⟩,⟨l8,Int.le_of_lt_add_one w8⟩,⟨l7,Int.le_of_lt_add_one w7⟩,⟨l6,Int.le_of_lt_add_one w6⟩,⟨l5,Int.le_of_lt_add_one w5⟩,⟨l4,Int.le_of_lt_add_one w4⟩,⟨l3,Int.le_of_lt_add_one w3⟩,⟨l2,Int.le_of_lt_add_one w2⟩,⟨l1,Int.le_of_lt_add_one w1⟩,⟨l0,Int.le_of_lt_add_one w0⟩⟩,s11,?_⟩
  clear h t0 t1 t2 t3 t4 t5 t6 t7 t8 t9 t10 t11 s0 s1 s2 s3 s4 s5 s6 s7 s8 s9 s10 s11
  refine Good.of Tryz.func129 rfl (by rfl) (by kernel_rfl) ?_
  cbv
  have hmk:True:=trivial
  exact wlkcLMU
 obtain ⟨v11,d12,l11,w11,t12,k11⟩:=next_e s11 256 (by omega)
 obtain ⟨n12,c12,m12,u12,s12,g12⟩:=next_e t12 15 (by omega)
 by_cases h12:n12≤12
 ·refine ⟨255,2,0,0,v11,v10,v9,v8,v7,v6,v5,v4,v3,v2,v1,v0,c12,⟨by omega,by omega,by omega,by omega,⟨l11,Int.le_of_lt_add_one w11⟩,⟨l10,Int.le_of_lt_add_one w10⟩,⟨l9,Int.le_of_lt_add_one w9⟩,⟨l8,Int.le_of_lt_add_one w8⟩,⟨l7,Int.le_of_lt_add_one w7⟩,⟨l6,Int.le_of_lt_add_one w6⟩,⟨l5,Int.le_of_lt_add_one w5⟩,⟨l4,Int.le_of_lt_add_one w4⟩,⟨l3,Int.le_of_lt_add_one w3⟩,⟨l2,Int.le_of_lt_add_one w2⟩,⟨l1,Int.le_of_lt_add_one w1⟩,⟨l0,Int.le_of_lt_add_one w0⟩⟩,s12,?_⟩
  clear h t0 t1 t2 t3 t4 t5 t6 t7 t8 t9 t10 t11 t12 s0 s1 s2 s3 s4 s5 s6 s7 s8 s9 s10 s11 s12
  refine Good.of Tryz.func129 rfl (by rfl) (by kernel_rfl) ?_
  cbv
  have hmk:True:=trivial
  exact wlkcLMU
 obtain ⟨v12,d13,l12,w12,t13,k12⟩:=next_e s12 256 (by omega)
 obtain ⟨n13,c13,m13,u13,s13,g13⟩:=next_e t13 15 (by omega)
 by_cases h13:n13≤13
 ·refine ⟨255,2,0,v12,v11,v10,v9,v8,v7,v6,v5,v4,v3,v2,v1,v0,c13,⟨by omega,by omega,by omega,⟨l12,Int.le_of_lt_add_one w12⟩,⟨l11,Int.le_of_lt_add_one w11⟩,⟨l10,Int.le_of_lt_add_one w10⟩,⟨l9,Int.le_of_lt_add_one w9⟩,⟨l8,Int.le_of_lt_add_one w8⟩,⟨l7,Int.le_of_lt_add_one w7⟩,⟨l6,Int.le_of_lt_add_one w6⟩,⟨l5,Int.le_of_lt_add_one w5⟩,⟨l4,Int.le_of_lt_add_one w4⟩,⟨l3,Int.le_of_lt_add_one w3⟩,⟨l2,Int.le_of_lt_add_one w2⟩,⟨l1,Int.le_of_lt_add_one w1⟩,⟨l0,Int.le_of_lt_add_one w0⟩⟩,s13,?_⟩
  clear h t0 t1 t2 t3 t4 t5 t6 t7 t8 t9 t10 t11 t12 t13 s0 s1 s2 s3 s4 s5 s6 s7 s8 s9 s10 s11 s12 s13
  refine Good.of Tryz.func129 rfl (by rfl) (by kernel_rfl) ?_
  cbv
  have hmk:True:=trivial
  exact wlkcLMU
 obtain ⟨v13,d14,l13,w13,t14,k13⟩:=next_e s13 256 (by omega)
 obtain ⟨n14,c14,m14,u14,s14,g14⟩:=next_e t14 15 (by omega)
 have h14:n14≤14:=by omega
 refine ⟨255,2,v13,v12,v11,v10,v9,v8,v7,v6,v5,v4,v3,v2,v1,v0,c14,⟨by omega,by omega,⟨l13,Int.le_of_lt_add_one w13⟩,⟨l12,Int.le_of_lt_add_one w12⟩,⟨l11,Int.le_of_lt_add_one w11⟩,⟨l10,Int.le_of_lt_add_one w10⟩,⟨l9,Int.le_of_lt_add_one w9⟩,⟨l8,Int.le_of_lt_add_one w8⟩,⟨l7,Int.le_of_lt_add_one w7⟩,⟨l6,Int.le_of_lt_add_one w6⟩,⟨l5,Int.le_of_lt_add_one w5⟩,⟨l4,Int.le_of_lt_add_one w4⟩,⟨l3,Int.le_of_lt_add_one w3⟩,⟨l2,Int.le_of_lt_add_one w2⟩,⟨l1,Int.le_of_lt_add_one w1⟩,⟨l0,Int.le_of_lt_add_one w0⟩⟩,s14,?_⟩
 clear h t0 t1 t2 t3 t4 t5 t6 t7 t8 t9 t10 t11 t12 t13 t14 s0 s1 s2 s3 s4 s5 s6 s7 s8 s9 s10 s11 s12 s13 s14
 refine Good.of Tryz.func129 rfl (by rfl) (by kernel_rfl) ?_
 cbv
 have hmk:True:=trivial
 exact wlkcLMU
end
end Go.Proofs.YtgfpjhddojhfpaaGreat

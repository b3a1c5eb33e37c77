/-
  The walk of math/bits.Div64 at the divisor 2^61 - 1: what is left over.
-/
import Derived.Test.YtfcnapnopdomhaaGreatDoorZChMZiAZiCLz
namespace Go.Proofs.YtfcnapnopdomhaaGreatDoor
set_option linter.unusedSimpArgs false
set_option linter.unusedVariables false
set_option maxRecDepth 100000
set_option maxHeartbeats 12800000
open Go.RowKit
theorem z2T{n:Int}(h0:0≤n)(h1:n<18446744073709551616):IntKind.u64.wrap n=n:=by rw [IntKind.wrap_u64];omega
theorem y8J:lz 2305843009213693951=3:=by decide
structure z8t (A u q r:Nat):Prop where
 sum:q*4294967295+r=A
 hi:A*4294967296+u<(q+1)*18446744073709551608
 q32:q≤4294967296
theorem z7i{A u:Nat}(hA:A<18446744073709551608)(hu:u<4294967296):z8t A u (A/4294967295) (A%4294967295)∧A%4294967295<4294967296:=by
 refine ⟨⟨by omega,by omega,by omega⟩,by omega⟩
theorem z5y{A u q r:Nat}(h:z8t A u q r)(hc:4294967296≤q∨4294967296*r+u<q*4294967288):0<q:=by
 rcases hc with h1 | h1
 ·exact Nat.lt_of_lt_of_le (by decide) h1
 ·exact Nat.pos_of_ne_zero fun e=>by rw [e,Nat.zero_mul] at h1;exact absurd h1 (Nat.not_lt_zero _)
theorem z4v{A u q q' r:Nat}(h:z8t A u q r)(hq:q=q'+1)(hA:A<18446744073709551608)(hu:u<4294967296)(hr:r<4294967296)(hc:4294967296≤q∨4294967296*r+u<q*4294967288):z8t A u q' (4294967295+r):=by
 obtain ⟨h1,h2,h3⟩:=h;have e1:q'*4294967295+(4294967295+r)=A:=by
  rw [hq,Nat.add_mul,Nat.one_mul] at h1;rw [←h1,Nat.add_assoc]
 have e3:q'≤4294967296:=by clear hc hA hu hr h2 h1 e1;omega
 refine ⟨e1,?_,e3⟩;rw [←hq];rcases hc with h4 | h4
 ·have:4294967296*18446744073709551608≤q*18446744073709551608:=Nat.mul_le_mul_right _ h4;clear h1 h2 h3 e1 e3 hq h4;omega
 ·clear h2 h3 e1 e3 hq;omega
theorem z2S{A u q r:Nat}(h:z8t A u q r)(hq:q*4294967288≤4294967296*r+u):q*18446744073709551608≤A*4294967296+u∧A*4294967296+u - q*18446744073709551608<18446744073709551608:=by
 obtain ⟨h1,h2,h3⟩:=h;omega
theorem z4M{hi lo A u1 u0 q1 q0 R1 R2:Nat}(hA:A=hi*8+lo/2305843009213693952)(hu:u1*4294967296+u0=lo%2305843009213693952*8)(h1:q1*18446744073709551608+R1=A*4294967296+u1)(h2:q0*18446744073709551608+R2=R1*4294967296+u0)(hR:R2<18446744073709551608):
  R2/8=(hi*18446744073709551616+lo)%2305843009213693951:=by
 omega
theorem z5l{q r u:Nat}(hq:q<4294967296)(hr:4294967296≤r):q*4294967288≤4294967296*r+u:=by omega
theorem q1D(w:World):Calls Tryz.prog 301 #[.int .u64 2305843009213693951] w fun e w'=>e= .returned (.int .i64 3)∧w'=w:=by
 have:=y9o 2305843009213693951 (by decide) w;rw [y8J] at this;exact this
theorem y9p(hi lo:Nat)(hh:hi<2305843009213693951)(hl:lo<18446744073709551616)(w:World):
  Calls Tryz.prog 327 #[.int .u64 (hi:Nat), .int .u64 (lo:Nat), .int .u64 2305843009213693951] w fun e w'=>(∃q:Int,e= .returned (.tuple #[.int .u64 q, .int .u64 (((hi*18446744073709551616+lo)%2305843009213693951:Nat):Int)]))∧Below w.heap.size w w':=by
 by_cases h0:hi=0
 ·subst h0;obtain ⟨r,hr⟩:∃r,r=lo%2305843009213693951:=⟨_,rfl⟩;have e1:(0*18446744073709551616+lo)%2305843009213693951=r:=by rw [Nat.zero_mul,Nat.zero_add,hr]
  rw [e1];have hm:(lo:Int).tmod 2305843009213693951=(r:Int):=by rw [hr];exact Int.ofNat_tmod lo 2305843009213693951
  have hm2:(lo:Int)%2305843009213693951=(r:Int):=by rw [hr];simp
  clear e1 hr;go_enter Tryz.func327,Tryz.ntmps327;go_wp2;go_quiet (fail)
  go_wp2;go_ret2;exact ⟨⟨_,rfl⟩,z0k (Below.refl _ _)⟩
 ·have d0:((hi:Int)==0)=false:=by simp;omega
  have d1:decide ((2305843009213693951:Int)≤hi)=false:=decide_eq_false (by omega);have hy:bits .and .u64 18446744073709551608 4294967295=4294967288:=by decide
  obtain ⟨T8,hT8⟩:∃x,x=hi*8:=⟨_,rfl⟩;obtain ⟨L3,hL3⟩:∃x,x=lo/2305843009213693952:=⟨_,rfl⟩;obtain ⟨A,hA⟩:∃x,x=hi*8+lo/2305843009213693952:=⟨_,rfl⟩;obtain ⟨U,hU⟩:∃x,x=lo%2305843009213693952*8:=⟨_,rfl⟩;obtain ⟨u1,hu1⟩:∃x,x=U/4294967296:=⟨_,rfl⟩;obtain ⟨u0,hu0⟩:∃x,x=U%4294967296:=⟨_,rfl⟩;have hw8:IntKind.u64.wrap ((hi:Int)*8)=(T8:Int):=by rw [z2T (by omega) (by omega)];omega
  have hd61:(lo:Int)/2305843009213693952=(L3:Int):=by omega
  have hor:bits .or .u64 (T8:Int) (L3:Int)=(A:Int):=by
   rw [u64_or_nat _ _ (by omega) (by omega),hT8,show hi*8=hi*2^3 from rfl,y9K (show L3<2^3 by omega),hA,hL3]
  have hwU:IntKind.u64.wrap ((lo:Int)*8)=(U:Int):=by rw [IntKind.wrap_u64];omega
  have hdU:(U:Int)/4294967296=(u1:Int):=by omega
  have haU:bits .and .u64 (U:Int) 4294967295=(u0:Int):=by
   have:=u64_and_nat U 4294967295 (by omega) (by decide);rw [Nat.and_two_pow_sub_one_eq_mod U 32] at this;rw [hu0];exact this
  have hAl:A<18446744073709551608:=by omega
  have hu1l:u1<4294967296:=by omega
  have hu0l:u0<4294967296:=by omega
  have HA:=z7 hA;have HUU:Hid (u1*4294967296+u0=lo%2305843009213693952*8):=z7 (by omega);obtain ⟨qa,hqa⟩:∃x,x=A/4294967295:=⟨_,rfl⟩;obtain ⟨ra,hra⟩:∃x,x=A%4294967295:=⟨_,rfl⟩;have hst:=z7i hAl hu1l;rw [←hqa,←hra] at hst;have hq1:(A:Int).tdiv 4294967295=(qa:Int):=by rw [hqa];exact Int.ofNat_tdiv A 4294967295
  have hq2:(A:Int)/4294967295=(qa:Int):=by omega
  obtain ⟨Ma,hMa⟩:∃x,x=qa*4294967295:=⟨_,rfl⟩;have hMl:Ma+ra=A:=by have:=hst.1.sum;omega
  have hm1:IntKind.u64.wrap ((qa:Int)*4294967295)=(Ma:Int):=by rw [z2T (by omega) (by omega)];omega
  have hm2:IntKind.u64.wrap ((A:Int) - Ma)=(ra:Int):=by rw [z2T (by omega) (by omega)];omega
  have HST:=z7 hst.1;have hral:=hst.2;have HL:=z7 hl;clear hst hT8 hL3 hA hU hu1 hu0 hqa hra hMa hMl h0 hh hl;go_enter Tryz.func327,Tryz.ntmps327;go_wp2_with fail;refine (q1D _).mono ?_;rintro e w1 ⟨rfl,rfl⟩;go_wp2_with fail;go_loopw [15,16] (fun qv rv wr=>∃q r:Nat,qv= .int .u64 (q:Nat)∧rv= .int .u64 (r:Nat)∧Hid (z8t A u1 q r)∧r<4294967296∧q≤4294967296∧wr=w1) (fun qv _ _=>match qv with | .int _ x=>x.toNat | _=>0)
  case atStart=>exact ⟨qa,ra,rfl,rfl,HST,by assumption,HST.out.q32,rfl⟩
  case round=>
   obtain ⟨q,r,rfl,rfl,hdg,hr32,hq32,hwe⟩:=hrel;subst wr;by_cases hbig:4294967296≤q
   ·have e1:decide ((4294967296:Int)≤q)=true:=decide_eq_true (by omega);have n1:decide (4294967296≤q)=true:=decide_eq_true hbig;have hcc:4294967296≤q∨4294967296*r+u1<q*4294967288:= .inl hbig;obtain ⟨q',hq'⟩:∃q',q=q'+1:=⟨q - 1,by have:=z5y hdg.out hcc;omega⟩;have hdn:=z7 (z4v hdg.out hq' (by omega) (by omega) hr32 hcc);obtain ⟨r',hr'⟩:∃r',r'=4294967295+r:=⟨_,rfl⟩;rw [←hr'] at hdn;have hwq:IntKind.u64.wrap ((q:Int) - 1)=(q':Int):=by rw [z2T (by omega) (by omega)];omega
    have hwr:IntKind.u64.wrap ((r:Int)+4294967295)=(r':Int):=by rw [z2T (by omega) (by omega)];omega
    have hq'32:q'≤4294967296∧q'<4294967296:=by omega
    have hms:q'<q:=by omega
    by_cases hbr:4294967296≤r'
    ·have e3:decide ((4294967296:Int)≤r')=true:=decide_eq_true (by omega);have n3:decide (4294967296≤r')=true:=decide_eq_true hbr;have hdone:=z2S hdn.out (z5l hq'32.2 hbr);clear hcc hq' hr' hbig;obtain ⟨R1,hR1⟩:∃x,x=A*4294967296+u1 - q'*18446744073709551608:=⟨_,rfl⟩;obtain ⟨a1,ha1⟩:∃x,x=A*4294967296%18446744073709551616:=⟨_,rfl⟩;obtain ⟨a2,ha2⟩:∃x,x=(a1+u1)%18446744073709551616:=⟨_,rfl⟩;obtain ⟨a3,ha3⟩:∃x,x=q'*18446744073709551608%18446744073709551616:=⟨_,rfl⟩;have f1:IntKind.u64.wrap ((A:Int)*4294967296)=(a1:Int):=by rw [IntKind.wrap_u64];omega
     have f2:IntKind.u64.wrap ((a1:Int)+u1)=(a2:Int):=by rw [IntKind.wrap_u64];omega
     have f3:IntKind.u64.wrap ((q':Int)*18446744073709551608)=(a3:Int):=by rw [IntKind.wrap_u64];omega
     have f4:IntKind.u64.wrap ((a2:Int) - a3)=(R1:Int):=by rw [IntKind.wrap_u64];omega
     have hR1l:R1<18446744073709551608:=by omega
     have HR1:Hid (q'*18446744073709551608+R1=A*4294967296+u1):=z7 (by omega);obtain ⟨qb,hqb⟩:∃x,x=R1/4294967295:=⟨_,rfl⟩;obtain ⟨rb,hrb⟩:∃x,x=R1%4294967295:=⟨_,rfl⟩;have hst2:=z7i hR1l hu0l;rw [←hqb,←hrb] at hst2;have k1:(R1:Int).tdiv 4294967295=(qb:Int):=by rw [hqb];exact Int.ofNat_tdiv R1 4294967295
     have k2:(R1:Int)/4294967295=(qb:Int):=by omega
     obtain ⟨Mb,hMb⟩:∃x,x=qb*4294967295:=⟨_,rfl⟩;have hMbl:Mb+rb=R1:=by have:=hst2.1.sum;omega
     have k3:IntKind.u64.wrap ((qb:Int)*4294967295)=(Mb:Int):=by rw [z2T (by omega) (by omega)];omega
     have k4:IntKind.u64.wrap ((R1:Int) - Mb)=(rb:Int):=by rw [z2T (by omega) (by omega)];omega
     have HST2:=z7 hst2.1;have hrbl:=hst2.2;clear hst2 hR1 ha1 ha2 ha3 hdone hqb hrb hMb hMbl;go_wp2_with fail;go_loopw [18,16] (fun qv rv wr=>∃q r:Nat,qv= .int .u64 (q:Nat)∧rv= .int .u64 (r:Nat)∧Hid (z8t R1 u0 q r)∧r<4294967296∧q≤4294967296∧wr=w1) (fun qv _ _=>match qv with | .int _ x=>x.toNat | _=>0)
     case atStart=>exact ⟨qb,rb,rfl,rfl,HST2,by assumption,HST2.out.q32,rfl⟩
     case round=>
      obtain ⟨q,r,rfl,rfl,hdg,hr32,hq32,hwe⟩:=hrel;subst wr;by_cases hbig:4294967296≤q
      ·have e1:decide ((4294967296:Int)≤q)=true:=decide_eq_true (by omega);have n1:decide (4294967296≤q)=true:=decide_eq_true hbig;have hcc:4294967296≤q∨4294967296*r+u0<q*4294967288:= .inl hbig;obtain ⟨q',hq'⟩:∃q',q=q'+1:=⟨q - 1,by have:=z5y hdg.out hcc;omega⟩;have hdn:=z7 (z4v hdg.out hq' (by omega) (by omega) hr32 hcc);obtain ⟨r',hr'⟩:∃r',r'=4294967295+r:=⟨_,rfl⟩;rw [←hr'] at hdn;have hwq:IntKind.u64.wrap ((q:Int) - 1)=(q':Int):=by rw [z2T (by omega) (by omega)];omega
       have hwr:IntKind.u64.wrap ((r:Int)+4294967295)=(r':Int):=by rw [z2T (by omega) (by omega)];omega
       have hq'32:q'≤4294967296∧q'<4294967296:=by omega
       have hms:q'<q:=by omega
       by_cases hbr:4294967296≤r'
       ·have e3:decide ((4294967296:Int)≤r')=true:=decide_eq_true (by omega);have n3:decide (4294967296≤r')=true:=decide_eq_true hbr;have hdone:=z2S hdn.out (z5l hq'32.2 hbr);clear hcc hq' hr' hbig;obtain ⟨R2,hR2⟩:∃x,x=R1*4294967296+u0 - q'*18446744073709551608:=⟨_,rfl⟩;obtain ⟨b1,hb1⟩:∃x,x=R1*4294967296%18446744073709551616:=⟨_,rfl⟩;obtain ⟨b2,hb2⟩:∃x,x=(b1+u0)%18446744073709551616:=⟨_,rfl⟩;obtain ⟨b3,hb3⟩:∃x,x=q'*18446744073709551608%18446744073709551616:=⟨_,rfl⟩;have g1:IntKind.u64.wrap ((R1:Int)*4294967296)=(b1:Int):=by rw [IntKind.wrap_u64];omega
        have g2:IntKind.u64.wrap ((b1:Int)+u0)=(b2:Int):=by rw [IntKind.wrap_u64];omega
        have g3:IntKind.u64.wrap ((q':Int)*18446744073709551608)=(b3:Int):=by rw [IntKind.wrap_u64];omega
        have g4:IntKind.u64.wrap ((b2:Int) - b3)=(R2:Int):=by rw [IntKind.wrap_u64];omega
        have hend:=z4M HA.out HUU.out HR1.out (show q'*18446744073709551608+R2=R1*4294967296+u0 by omega) (by omega);obtain ⟨r9,hr9⟩:∃x,x=(hi*18446744073709551616+lo)%2305843009213693951:=⟨_,rfl⟩;have g5:(R2:Int)/8=(r9:Int):=by rw [hr9,←hend];omega
        have HR9:=z7 hr9;clear hr9 hend hR2 hb1 hb2 hb3 hdone;go_wp2;go_ret2;rw [←HR9.out];exact ⟨⟨_,rfl⟩,Below.refl _ _⟩
       ·have e3:decide ((4294967296:Int)≤r')=false:=decide_eq_false (by omega);have n3:decide (4294967296≤r')=false:=decide_eq_false hbr;have hr'32:r'<4294967296:=by omega
        clear hcc hq' hr' hbig;go_wp2;exact ⟨⟨q',r',rfl,rfl,hdn,hr'32,hq'32.1,(by trivial)⟩,by show (q':Int).toNat<(q:Int).toNat;omega⟩
      ·have e1:decide ((4294967296:Int)≤q)=false:=decide_eq_false (by omega);have n1:decide (4294967296≤q)=false:=decide_eq_false hbig;obtain ⟨Q8,hQ8⟩:∃x,x=q*4294967288:=⟨_,rfl⟩;obtain ⟨R8,hR8⟩:∃x,x=4294967296*r:=⟨_,rfl⟩;obtain ⟨S8,hS8⟩:∃x,x=R8+u0:=⟨_,rfl⟩;have hw1:IntKind.u64.wrap ((q:Int)*4294967288)=(Q8:Int):=by rw [z2T (by omega) (by omega)];omega
       have hw2:IntKind.u64.wrap (4294967296*(r:Int))=(R8:Int):=by rw [z2T (by omega) (by omega)];omega
       have hw3:IntKind.u64.wrap ((R8:Int)+u0)=(S8:Int):=by rw [z2T (by omega) (by omega)];omega
       by_cases hgt:S8<Q8
       ·have e2:decide ((S8:Int)<Q8)=true:=decide_eq_true (by omega);have n2:decide (S8<Q8)=true:=decide_eq_true hgt;have hcc:4294967296≤q∨4294967296*r+u0<q*4294967288:= .inr (by rw [←hQ8,←hR8,←hS8];exact hgt);obtain ⟨q',hq'⟩:∃q',q=q'+1:=⟨q - 1,by have:=z5y hdg.out hcc;omega⟩;have hdn:=z7 (z4v hdg.out hq' (by omega) (by omega) hr32 hcc);obtain ⟨r',hr'⟩:∃r',r'=4294967295+r:=⟨_,rfl⟩;rw [←hr'] at hdn;have hwq:IntKind.u64.wrap ((q:Int) - 1)=(q':Int):=by rw [z2T (by omega) (by omega)];omega
        have hwr:IntKind.u64.wrap ((r:Int)+4294967295)=(r':Int):=by rw [z2T (by omega) (by omega)];omega
        have hq'32:q'≤4294967296∧q'<4294967296:=by omega
        have hms:q'<q:=by omega
        by_cases hbr:4294967296≤r'
        ·have e3:decide ((4294967296:Int)≤r')=true:=decide_eq_true (by omega);have n3:decide (4294967296≤r')=true:=decide_eq_true hbr;have hdone:=z2S hdn.out (z5l hq'32.2 hbr);clear hcc hq' hr' hbig hgt hQ8 hR8 hS8;obtain ⟨R2,hR2⟩:∃x,x=R1*4294967296+u0 - q'*18446744073709551608:=⟨_,rfl⟩;obtain ⟨b1,hb1⟩:∃x,x=R1*4294967296%18446744073709551616:=⟨_,rfl⟩;obtain ⟨b2,hb2⟩:∃x,x=(b1+u0)%18446744073709551616:=⟨_,rfl⟩;obtain ⟨b3,hb3⟩:∃x,x=q'*18446744073709551608%18446744073709551616:=⟨_,rfl⟩;have g1:IntKind.u64.wrap ((R1:Int)*4294967296)=(b1:Int):=by rw [IntKind.wrap_u64];omega
         have g2:IntKind.u64.wrap ((b1:Int)+u0)=(b2:Int):=by rw [IntKind.wrap_u64];omega
         have g3:IntKind.u64.wrap ((q':Int)*18446744073709551608)=(b3:Int):=by rw [IntKind.wrap_u64];omega
         have g4:IntKind.u64.wrap ((b2:Int) - b3)=(R2:Int):=by rw [IntKind.wrap_u64];omega
         have hend:=z4M HA.out HUU.out HR1.out (show q'*18446744073709551608+R2=R1*4294967296+u0 by omega) (by omega);obtain ⟨r9,hr9⟩:∃x,x=(hi*18446744073709551616+lo)%2305843009213693951:=⟨_,rfl⟩;have g5:(R2:Int)/8=(r9:Int):=by rw [hr9,←hend];omega
         have HR9:=z7 hr9;clear hr9 hend hR2 hb1 hb2 hb3 hdone;go_wp2;go_ret2;rw [←HR9.out];exact ⟨⟨_,rfl⟩,Below.refl _ _⟩
        ·have e3:decide ((4294967296:Int)≤r')=false:=decide_eq_false (by omega);have n3:decide (4294967296≤r')=false:=decide_eq_false hbr;have hr'32:r'<4294967296:=by omega
         clear hcc hq' hr' hbig hgt hQ8 hR8 hS8;go_wp2;exact ⟨⟨q',r',rfl,rfl,hdn,hr'32,hq'32.1,(by trivial)⟩,by show (q':Int).toNat<(q:Int).toNat;omega⟩
       ·have e2:decide ((S8:Int)<Q8)=false:=decide_eq_false (by omega);have n2:decide (S8<Q8)=false:=decide_eq_false hgt;have hdone:=z2S hdg.out (by rw [←hQ8,←hR8,←hS8];omega);clear hbig hgt hQ8 hR8 hS8;obtain ⟨R2,hR2⟩:∃x,x=R1*4294967296+u0 - q*18446744073709551608:=⟨_,rfl⟩;obtain ⟨b1,hb1⟩:∃x,x=R1*4294967296%18446744073709551616:=⟨_,rfl⟩;obtain ⟨b2,hb2⟩:∃x,x=(b1+u0)%18446744073709551616:=⟨_,rfl⟩;obtain ⟨b3,hb3⟩:∃x,x=q*18446744073709551608%18446744073709551616:=⟨_,rfl⟩;have g1:IntKind.u64.wrap ((R1:Int)*4294967296)=(b1:Int):=by rw [IntKind.wrap_u64];omega
        have g2:IntKind.u64.wrap ((b1:Int)+u0)=(b2:Int):=by rw [IntKind.wrap_u64];omega
        have g3:IntKind.u64.wrap ((q:Int)*18446744073709551608)=(b3:Int):=by rw [IntKind.wrap_u64];omega
        have g4:IntKind.u64.wrap ((b2:Int) - b3)=(R2:Int):=by rw [IntKind.wrap_u64];omega
        have hend:=z4M HA.out HUU.out HR1.out (show q*18446744073709551608+R2=R1*4294967296+u0 by omega) (by omega);obtain ⟨r9,hr9⟩:∃x,x=(hi*18446744073709551616+lo)%2305843009213693951:=⟨_,rfl⟩;have g5:(R2:Int)/8=(r9:Int):=by rw [hr9,←hend];omega
        have HR9:=z7 hr9;clear hr9 hend hR2 hb1 hb2 hb3 hdone;go_wp2;go_ret2;rw [←HR9.out];exact ⟨⟨_,rfl⟩,Below.refl _ _⟩
    ·have e3:decide ((4294967296:Int)≤r')=false:=decide_eq_false (by omega);have n3:decide (4294967296≤r')=false:=decide_eq_false hbr;have hr'32:r'<4294967296:=by omega
     clear hcc hq' hr' hbig;go_wp2;exact ⟨⟨q',r',rfl,rfl,hdn,hr'32,hq'32.1,(by trivial)⟩,by show (q':Int).toNat<(q:Int).toNat;omega⟩
   ·have e1:decide ((4294967296:Int)≤q)=false:=decide_eq_false (by omega);have n1:decide (4294967296≤q)=false:=decide_eq_false hbig;obtain ⟨Q8,hQ8⟩:∃x,x=q*4294967288:=⟨_,rfl⟩;obtain ⟨R8,hR8⟩:∃x,x=4294967296*r:=⟨_,rfl⟩;obtain ⟨S8,hS8⟩:∃x,x=R8+u1:=⟨_,rfl⟩;have hw1:IntKind.u64.wrap ((q:Int)*4294967288)=(Q8:Int):=by rw [z2T (by omega) (by omega)];omega
    have hw2:IntKind.u64.wrap (4294967296*(r:Int))=(R8:Int):=by rw [z2T (by omega) (by omega)];omega
    have hw3:IntKind.u64.wrap ((R8:Int)+u1)=(S8:Int):=by rw [z2T (by omega) (by omega)];omega
    by_cases hgt:S8<Q8
    ·have e2:decide ((S8:Int)<Q8)=true:=decide_eq_true (by omega);have n2:decide (S8<Q8)=true:=decide_eq_true hgt;have hcc:4294967296≤q∨4294967296*r+u1<q*4294967288:= .inr (by rw [←hQ8,←hR8,←hS8];exact hgt);obtain ⟨q',hq'⟩:∃q',q=q'+1:=⟨q - 1,by have:=z5y hdg.out hcc;omega⟩;have hdn:=z7 (z4v hdg.out hq' (by omega) (by omega) hr32 hcc);obtain ⟨r',hr'⟩:∃r',r'=4294967295+r:=⟨_,rfl⟩;rw [←hr'] at hdn;have hwq:IntKind.u64.wrap ((q:Int) - 1)=(q':Int):=by rw [z2T (by omega) (by omega)];omega
     have hwr:IntKind.u64.wrap ((r:Int)+4294967295)=(r':Int):=by rw [z2T (by omega) (by omega)];omega
     have hq'32:q'≤4294967296∧q'<4294967296:=by omega
     have hms:q'<q:=by omega
     by_cases hbr:4294967296≤r'
     ·have e3:decide ((4294967296:Int)≤r')=true:=decide_eq_true (by omega);have n3:decide (4294967296≤r')=true:=decide_eq_true hbr;have hdone:=z2S hdn.out (z5l hq'32.2 hbr);clear hcc hq' hr' hbig hgt hQ8 hR8 hS8;obtain ⟨R1,hR1⟩:∃x,x=A*4294967296+u1 - q'*18446744073709551608:=⟨_,rfl⟩;obtain ⟨a1,ha1⟩:∃x,x=A*4294967296%18446744073709551616:=⟨_,rfl⟩;obtain ⟨a2,ha2⟩:∃x,x=(a1+u1)%18446744073709551616:=⟨_,rfl⟩;obtain ⟨a3,ha3⟩:∃x,x=q'*18446744073709551608%18446744073709551616:=⟨_,rfl⟩;have f1:IntKind.u64.wrap ((A:Int)*4294967296)=(a1:Int):=by rw [IntKind.wrap_u64];omega
      have f2:IntKind.u64.wrap ((a1:Int)+u1)=(a2:Int):=by rw [IntKind.wrap_u64];omega
      have f3:IntKind.u64.wrap ((q':Int)*18446744073709551608)=(a3:Int):=by rw [IntKind.wrap_u64];omega
      have f4:IntKind.u64.wrap ((a2:Int) - a3)=(R1:Int):=by rw [IntKind.wrap_u64];omega
      have hR1l:R1<18446744073709551608:=by omega
      have HR1:Hid (q'*18446744073709551608+R1=A*4294967296+u1):=z7 (by omega);obtain ⟨qb,hqb⟩:∃x,x=R1/4294967295:=⟨_,rfl⟩;obtain ⟨rb,hrb⟩:∃x,x=R1%4294967295:=⟨_,rfl⟩;have hst2:=z7i hR1l hu0l;rw [←hqb,←hrb] at hst2;have k1:(R1:Int).tdiv 4294967295=(qb:Int):=by rw [hqb];exact Int.ofNat_tdiv R1 4294967295
      have k2:(R1:Int)/4294967295=(qb:Int):=by omega
      obtain ⟨Mb,hMb⟩:∃x,x=qb*4294967295:=⟨_,rfl⟩;have hMbl:Mb+rb=R1:=by have:=hst2.1.sum;omega
      have k3:IntKind.u64.wrap ((qb:Int)*4294967295)=(Mb:Int):=by rw [z2T (by omega) (by omega)];omega
      have k4:IntKind.u64.wrap ((R1:Int) - Mb)=(rb:Int):=by rw [z2T (by omega) (by omega)];omega
      have HST2:=z7 hst2.1;have hrbl:=hst2.2;clear hst2 hR1 ha1 ha2 ha3 hdone hqb hrb hMb hMbl;go_wp2_with fail;go_loopw [18,16] (fun qv rv wr=>∃q r:Nat,qv= .int .u64 (q:Nat)∧rv= .int .u64 (r:Nat)∧Hid (z8t R1 u0 q r)∧r<4294967296∧q≤4294967296∧wr=w1) (fun qv _ _=>match qv with | .int _ x=>x.toNat | _=>0)
      case atStart=>exact ⟨qb,rb,rfl,rfl,HST2,by assumption,HST2.out.q32,rfl⟩
      case round=>
       obtain ⟨q,r,rfl,rfl,hdg,hr32,hq32,hwe⟩:=hrel;subst wr;by_cases hbig:4294967296≤q
       ·have e1:decide ((4294967296:Int)≤q)=true:=decide_eq_true (by omega);have n1:decide (4294967296≤q)=true:=decide_eq_true hbig;have hcc:4294967296≤q∨4294967296*r+u0<q*4294967288:= .inl hbig;obtain ⟨q',hq'⟩:∃q',q=q'+1:=⟨q - 1,by have:=z5y hdg.out hcc;omega⟩;have hdn:=z7 (z4v hdg.out hq' (by omega) (by omega) hr32 hcc);obtain ⟨r',hr'⟩:∃r',r'=4294967295+r:=⟨_,rfl⟩;rw [←hr'] at hdn;have hwq:IntKind.u64.wrap ((q:Int) - 1)=(q':Int):=by rw [z2T (by omega) (by omega)];omega
        have hwr:IntKind.u64.wrap ((r:Int)+4294967295)=(r':Int):=by rw [z2T (by omega) (by omega)];omega
        have hq'32:q'≤4294967296∧q'<4294967296:=by omega
        have hms:q'<q:=by omega
        by_cases hbr:4294967296≤r'
        ·have e3:decide ((4294967296:Int)≤r')=true:=decide_eq_true (by omega);have n3:decide (4294967296≤r')=true:=decide_eq_true hbr;have hdone:=z2S hdn.out (z5l hq'32.2 hbr);clear hcc hq' hr' hbig;obtain ⟨R2,hR2⟩:∃x,x=R1*4294967296+u0 - q'*18446744073709551608:=⟨_,rfl⟩;obtain ⟨b1,hb1⟩:∃x,x=R1*4294967296%18446744073709551616:=⟨_,rfl⟩;obtain ⟨b2,hb2⟩:∃x,x=(b1+u0)%18446744073709551616:=⟨_,rfl⟩;obtain ⟨b3,hb3⟩:∃x,x=q'*18446744073709551608%18446744073709551616:=⟨_,rfl⟩;have g1:IntKind.u64.wrap ((R1:Int)*4294967296)=(b1:Int):=by rw [IntKind.wrap_u64];omega
         have g2:IntKind.u64.wrap ((b1:Int)+u0)=(b2:Int):=by rw [IntKind.wrap_u64];omega
         have g3:IntKind.u64.wrap ((q':Int)*18446744073709551608)=(b3:Int):=by rw [IntKind.wrap_u64];omega
         have g4:IntKind.u64.wrap ((b2:Int) - b3)=(R2:Int):=by rw [IntKind.wrap_u64];omega
         have hend:=z4M HA.out HUU.out HR1.out (show q'*18446744073709551608+R2=R1*4294967296+u0 by omega) (by omega);obtain ⟨r9,hr9⟩:∃x,x=(hi*18446744073709551616+lo)%2305843009213693951:=⟨_,rfl⟩;have g5:(R2:Int)/8=(r9:Int):=by rw [hr9,←hend];omega
         have HR9:=z7 hr9;clear hr9 hend hR2 hb1 hb2 hb3 hdone;go_wp2;go_ret2;rw [←HR9.out];exact ⟨⟨_,rfl⟩,Below.refl _ _⟩
        ·have e3:decide ((4294967296:Int)≤r')=false:=decide_eq_false (by omega);have n3:decide (4294967296≤r')=false:=decide_eq_false hbr;have hr'32:r'<4294967296:=by omega
         clear hcc hq' hr' hbig;go_wp2;exact ⟨⟨q',r',rfl,rfl,hdn,hr'32,hq'32.1,(by trivial)⟩,by show (q':Int).toNat<(q:Int).toNat;omega⟩
       ·have e1:decide ((4294967296:Int)≤q)=false:=decide_eq_false (by omega);have n1:decide (4294967296≤q)=false:=decide_eq_false hbig;obtain ⟨Q8,hQ8⟩:∃x,x=q*4294967288:=⟨_,rfl⟩;obtain ⟨R8,hR8⟩:∃x,x=4294967296*r:=⟨_,rfl⟩;obtain ⟨S8,hS8⟩:∃x,x=R8+u0:=⟨_,rfl⟩;have hw1:IntKind.u64.wrap ((q:Int)*4294967288)=(Q8:Int):=by rw [z2T (by omega) (by omega)];omega
        have hw2:IntKind.u64.wrap (4294967296*(r:Int))=(R8:Int):=by rw [z2T (by omega) (by omega)];omega
        have hw3:IntKind.u64.wrap ((R8:Int)+u0)=(S8:Int):=by rw [z2T (by omega) (by omega)];omega
        by_cases hgt:S8<Q8
        ·have e2:decide ((S8:Int)<Q8)=true:=decide_eq_true (by omega);have n2:decide (S8<Q8)=true:=decide_eq_true hgt;have hcc:4294967296≤q∨4294967296*r+u0<q*4294967288:= .inr (by rw [←hQ8,←hR8,←hS8];exact hgt);obtain ⟨q',hq'⟩:∃q',q=q'+1:=⟨q - 1,by have:=z5y hdg.out hcc;omega⟩;have hdn:=z7 (z4v hdg.out hq' (by omega) (by omega) hr32 hcc);obtain ⟨r',hr'⟩:∃r',r'=4294967295+r:=⟨_,rfl⟩;rw [←hr'] at hdn;have hwq:IntKind.u64.wrap ((q:Int) - 1)=(q':Int):=by rw [z2T (by omega) (by omega)];omega
         have hwr:IntKind.u64.wrap ((r:Int)+4294967295)=(r':Int):=by rw [z2T (by omega) (by omega)];omega
         have hq'32:q'≤4294967296∧q'<4294967296:=by omega
         have hms:q'<q:=by omega
         by_cases hbr:4294967296≤r'
         ·have e3:decide ((4294967296:Int)≤r')=true:=decide_eq_true (by omega);have n3:decide (4294967296≤r')=true:=decide_eq_true hbr;have hdone:=z2S hdn.out (z5l hq'32.2 hbr);clear hcc hq' hr' hbig hgt hQ8 hR8 hS8;obtain ⟨R2,hR2⟩:∃x,x=R1*4294967296+u0 - q'*18446744073709551608:=⟨_,rfl⟩;obtain ⟨b1,hb1⟩:∃x,x=R1*4294967296%18446744073709551616:=⟨_,rfl⟩;obtain ⟨b2,hb2⟩:∃x,x=(b1+u0)%18446744073709551616:=⟨_,rfl⟩;obtain ⟨b3,hb3⟩:∃x,x=q'*18446744073709551608%18446744073709551616:=⟨_,rfl⟩;have g1:IntKind.u64.wrap ((R1:Int)*4294967296)=(b1:Int):=by rw [IntKind.wrap_u64];omega
          have g2:IntKind.u64.wrap ((b1:Int)+u0)=(b2:Int):=by rw [IntKind.wrap_u64];omega
          have g3:IntKind.u64.wrap ((q':Int)*18446744073709551608)=(b3:Int):=by rw [IntKind.wrap_u64];omega
          have g4:IntKind.u64.wrap ((b2:Int) - b3)=(R2:Int):=by rw [IntKind.wrap_u64];omega
          have hend:=z4M HA.out HUU.out HR1.out (show q'*18446744073709551608+R2=R1*4294967296+u0 by omega) (by omega);obtain ⟨r9,hr9⟩:∃x,x=(hi*18446744073709551616+lo)%2305843009213693951:=⟨_,rfl⟩;have g5:(R2:Int)/8=(r9:Int):=by rw [hr9,←hend];omega
          have HR9:=z7 hr9;clear hr9 hend hR2 hb1 hb2 hb3 hdone;go_wp2;go_ret2;rw [←HR9.out];exact ⟨⟨_,rfl⟩,Below.refl _ _⟩
         ·have e3:decide ((4294967296:Int)≤r')=false:=decide_eq_false (by omega);have n3:decide (4294967296≤r')=false:=decide_eq_false hbr;have hr'32:r'<4294967296:=by omega
          clear hcc hq' hr' hbig hgt hQ8 hR8 hS8;go_wp2;exact ⟨⟨q',r',rfl,rfl,hdn,hr'32,hq'32.1,(by trivial)⟩,by show (q':Int).toNat<(q:Int).toNat;omega⟩
        ·have e2:decide ((S8:Int)<Q8)=false:=decide_eq_false (by omega);have n2:decide (S8<Q8)=false:=decide_eq_false hgt;have hdone:=z2S hdg.out (by rw [←hQ8,←hR8,←hS8];omega);clear hbig hgt hQ8 hR8 hS8;obtain ⟨R2,hR2⟩:∃x,x=R1*4294967296+u0 - q*18446744073709551608:=⟨_,rfl⟩;obtain ⟨b1,hb1⟩:∃x,x=R1*4294967296%18446744073709551616:=⟨_,rfl⟩;obtain ⟨b2,hb2⟩:∃x,x=(b1+u0)%18446744073709551616:=⟨_,rfl⟩;obtain ⟨b3,hb3⟩:∃x,x=q*18446744073709551608%18446744073709551616:=⟨_,rfl⟩;have g1:IntKind.u64.wrap ((R1:Int)*4294967296)=(b1:Int):=by rw [IntKind.wrap_u64];omega
         have g2:IntKind.u64.wrap ((b1:Int)+u0)=(b2:Int):=by rw [IntKind.wrap_u64];omega
         have g3:IntKind.u64.wrap ((q:Int)*18446744073709551608)=(b3:Int):=by rw [IntKind.wrap_u64];omega
         have g4:IntKind.u64.wrap ((b2:Int) - b3)=(R2:Int):=by rw [IntKind.wrap_u64];omega
         have hend:=z4M HA.out HUU.out HR1.out (show q*18446744073709551608+R2=R1*4294967296+u0 by omega) (by omega);obtain ⟨r9,hr9⟩:∃x,x=(hi*18446744073709551616+lo)%2305843009213693951:=⟨_,rfl⟩;have g5:(R2:Int)/8=(r9:Int):=by rw [hr9,←hend];omega
         have HR9:=z7 hr9;clear hr9 hend hR2 hb1 hb2 hb3 hdone;go_wp2;go_ret2;rw [←HR9.out];exact ⟨⟨_,rfl⟩,Below.refl _ _⟩
     ·have e3:decide ((4294967296:Int)≤r')=false:=decide_eq_false (by omega);have n3:decide (4294967296≤r')=false:=decide_eq_false hbr;have hr'32:r'<4294967296:=by omega
      clear hcc hq' hr' hbig hgt hQ8 hR8 hS8;go_wp2;exact ⟨⟨q',r',rfl,rfl,hdn,hr'32,hq'32.1,(by trivial)⟩,by show (q':Int).toNat<(q:Int).toNat;omega⟩
    ·have e2:decide ((S8:Int)<Q8)=false:=decide_eq_false (by omega);have n2:decide (S8<Q8)=false:=decide_eq_false hgt;have hdone:=z2S hdg.out (by rw [←hQ8,←hR8,←hS8];omega);clear hbig hgt hQ8 hR8 hS8;obtain ⟨R1,hR1⟩:∃x,x=A*4294967296+u1 - q*18446744073709551608:=⟨_,rfl⟩;obtain ⟨a1,ha1⟩:∃x,x=A*4294967296%18446744073709551616:=⟨_,rfl⟩;obtain ⟨a2,ha2⟩:∃x,x=(a1+u1)%18446744073709551616:=⟨_,rfl⟩;obtain ⟨a3,ha3⟩:∃x,x=q*18446744073709551608%18446744073709551616:=⟨_,rfl⟩;have f1:IntKind.u64.wrap ((A:Int)*4294967296)=(a1:Int):=by rw [IntKind.wrap_u64];omega
     have f2:IntKind.u64.wrap ((a1:Int)+u1)=(a2:Int):=by rw [IntKind.wrap_u64];omega
     have f3:IntKind.u64.wrap ((q:Int)*18446744073709551608)=(a3:Int):=by rw [IntKind.wrap_u64];omega
     have f4:IntKind.u64.wrap ((a2:Int) - a3)=(R1:Int):=by rw [IntKind.wrap_u64];omega
     have hR1l:R1<18446744073709551608:=by omega
     have HR1:Hid (q*18446744073709551608+R1=A*4294967296+u1):=z7 (by omega);obtain ⟨qb,hqb⟩:∃x,x=R1/4294967295:=⟨_,rfl⟩;obtain ⟨rb,hrb⟩:∃x,x=R1%4294967295:=⟨_,rfl⟩;have hst2:=z7i hR1l hu0l;rw [←hqb,←hrb] at hst2;have k1:(R1:Int).tdiv 4294967295=(qb:Int):=by rw [hqb];exact Int.ofNat_tdiv R1 4294967295
     have k2:(R1:Int)/4294967295=(qb:Int):=by omega
     obtain ⟨Mb,hMb⟩:∃x,x=qb*4294967295:=⟨_,rfl⟩;have hMbl:Mb+rb=R1:=by have:=hst2.1.sum;omega
     have k3:IntKind.u64.wrap ((qb:Int)*4294967295)=(Mb:Int):=by rw [z2T (by omega) (by omega)];omega
     have k4:IntKind.u64.wrap ((R1:Int) - Mb)=(rb:Int):=by rw [z2T (by omega) (by omega)];omega
     have HST2:=z7 hst2.1;have hrbl:=hst2.2;clear hst2 hR1 ha1 ha2 ha3 hdone hqb hrb hMb hMbl;go_wp2_with fail;go_loopw [18,16] (fun qv rv wr=>∃q r:Nat,qv= .int .u64 (q:Nat)∧rv= .int .u64 (r:Nat)∧Hid (z8t R1 u0 q r)∧r<4294967296∧q≤4294967296∧wr=w1) (fun qv _ _=>match qv with | .int _ x=>x.toNat | _=>0)
     case atStart=>exact ⟨qb,rb,rfl,rfl,HST2,by assumption,HST2.out.q32,rfl⟩
     case round=>
      obtain ⟨q,r,rfl,rfl,hdg,hr32,hq32,hwe⟩:=hrel;subst wr;by_cases hbig:4294967296≤q
      ·have e1:decide ((4294967296:Int)≤q)=true:=decide_eq_true (by omega);have n1:decide (4294967296≤q)=true:=decide_eq_true hbig;have hcc:4294967296≤q∨4294967296*r+u0<q*4294967288:= .inl hbig;obtain ⟨q',hq'⟩:∃q',q=q'+1:=⟨q - 1,by have:=z5y hdg.out hcc;omega⟩;have hdn:=z7 (z4v hdg.out hq' (by omega) (by omega) hr32 hcc);obtain ⟨r',hr'⟩:∃r',r'=4294967295+r:=⟨_,rfl⟩;rw [←hr'] at hdn;have hwq:IntKind.u64.wrap ((q:Int) - 1)=(q':Int):=by rw [z2T (by omega) (by omega)];omega
       have hwr:IntKind.u64.wrap ((r:Int)+4294967295)=(r':Int):=by rw [z2T (by omega) (by omega)];omega
       have hq'32:q'≤4294967296∧q'<4294967296:=by omega
       have hms:q'<q:=by omega
       by_cases hbr:4294967296≤r'
       ·have e3:decide ((4294967296:Int)≤r')=true:=decide_eq_true (by omega);have n3:decide (4294967296≤r')=true:=decide_eq_true hbr;have hdone:=z2S hdn.out (z5l hq'32.2 hbr);clear hcc hq' hr' hbig;obtain ⟨R2,hR2⟩:∃x,x=R1*4294967296+u0 - q'*18446744073709551608:=⟨_,rfl⟩;obtain ⟨b1,hb1⟩:∃x,x=R1*4294967296%18446744073709551616:=⟨_,rfl⟩;obtain ⟨b2,hb2⟩:∃x,x=(b1+u0)%18446744073709551616:=⟨_,rfl⟩;obtain ⟨b3,hb3⟩:∃x,x=q'*18446744073709551608%18446744073709551616:=⟨_,rfl⟩;have g1:IntKind.u64.wrap ((R1:Int)*4294967296)=(b1:Int):=by rw [IntKind.wrap_u64];omega
        have g2:IntKind.u64.wrap ((b1:Int)+u0)=(b2:Int):=by rw [IntKind.wrap_u64];omega
        have g3:IntKind.u64.wrap ((q':Int)*18446744073709551608)=(b3:Int):=by rw [IntKind.wrap_u64];omega
        have g4:IntKind.u64.wrap ((b2:Int) - b3)=(R2:Int):=by rw [IntKind.wrap_u64];omega
        have hend:=z4M HA.out HUU.out HR1.out (show q'*18446744073709551608+R2=R1*4294967296+u0 by omega) (by omega);obtain ⟨r9,hr9⟩:∃x,x=(hi*18446744073709551616+lo)%2305843009213693951:=⟨_,rfl⟩;have g5:(R2:Int)/8=(r9:Int):=by rw [hr9,←hend];omega
        have HR9:=z7 hr9;clear hr9 hend hR2 hb1 hb2 hb3 hdone;go_wp2;go_ret2;rw [←HR9.out];exact ⟨⟨_,rfl⟩,Below.refl _ _⟩
       ·have e3:decide ((4294967296:Int)≤r')=false:=decide_eq_false (by omega);have n3:decide (4294967296≤r')=false:=decide_eq_false hbr;have hr'32:r'<4294967296:=by omega
        clear hcc hq' hr' hbig;go_wp2;exact ⟨⟨q',r',rfl,rfl,hdn,hr'32,hq'32.1,(by trivial)⟩,by show (q':Int).toNat<(q:Int).toNat;omega⟩
      ·have e1:decide ((4294967296:Int)≤q)=false:=decide_eq_false (by omega);have n1:decide (4294967296≤q)=false:=decide_eq_false hbig;obtain ⟨Q8,hQ8⟩:∃x,x=q*4294967288:=⟨_,rfl⟩;obtain ⟨R8,hR8⟩:∃x,x=4294967296*r:=⟨_,rfl⟩;obtain ⟨S8,hS8⟩:∃x,x=R8+u0:=⟨_,rfl⟩;have hw1:IntKind.u64.wrap ((q:Int)*4294967288)=(Q8:Int):=by rw [z2T (by omega) (by omega)];omega
       have hw2:IntKind.u64.wrap (4294967296*(r:Int))=(R8:Int):=by rw [z2T (by omega) (by omega)];omega
       have hw3:IntKind.u64.wrap ((R8:Int)+u0)=(S8:Int):=by rw [z2T (by omega) (by omega)];omega
       by_cases hgt:S8<Q8
       ·have e2:decide ((S8:Int)<Q8)=true:=decide_eq_true (by omega);have n2:decide (S8<Q8)=true:=decide_eq_true hgt;have hcc:4294967296≤q∨4294967296*r+u0<q*4294967288:= .inr (by rw [←hQ8,←hR8,←hS8];exact hgt);obtain ⟨q',hq'⟩:∃q',q=q'+1:=⟨q - 1,by have:=z5y hdg.out hcc;omega⟩;have hdn:=z7 (z4v hdg.out hq' (by omega) (by omega) hr32 hcc);obtain ⟨r',hr'⟩:∃r',r'=4294967295+r:=⟨_,rfl⟩;rw [←hr'] at hdn;have hwq:IntKind.u64.wrap ((q:Int) - 1)=(q':Int):=by rw [z2T (by omega) (by omega)];omega
        have hwr:IntKind.u64.wrap ((r:Int)+4294967295)=(r':Int):=by rw [z2T (by omega) (by omega)];omega
        have hq'32:q'≤4294967296∧q'<4294967296:=by omega
        have hms:q'<q:=by omega
        by_cases hbr:4294967296≤r'
        ·have e3:decide ((4294967296:Int)≤r')=true:=decide_eq_true (by omega);have n3:decide (4294967296≤r')=true:=decide_eq_true hbr;have hdone:=z2S hdn.out (z5l hq'32.2 hbr);clear hcc hq' hr' hbig hgt hQ8 hR8 hS8;obtain ⟨R2,hR2⟩:∃x,x=R1*4294967296+u0 - q'*18446744073709551608:=⟨_,rfl⟩;obtain ⟨b1,hb1⟩:∃x,x=R1*4294967296%18446744073709551616:=⟨_,rfl⟩;obtain ⟨b2,hb2⟩:∃x,x=(b1+u0)%18446744073709551616:=⟨_,rfl⟩;obtain ⟨b3,hb3⟩:∃x,x=q'*18446744073709551608%18446744073709551616:=⟨_,rfl⟩;have g1:IntKind.u64.wrap ((R1:Int)*4294967296)=(b1:Int):=by rw [IntKind.wrap_u64];omega
         have g2:IntKind.u64.wrap ((b1:Int)+u0)=(b2:Int):=by rw [IntKind.wrap_u64];omega
         have g3:IntKind.u64.wrap ((q':Int)*18446744073709551608)=(b3:Int):=by rw [IntKind.wrap_u64];omega
         have g4:IntKind.u64.wrap ((b2:Int) - b3)=(R2:Int):=by rw [IntKind.wrap_u64];omega
         have hend:=z4M HA.out HUU.out HR1.out (show q'*18446744073709551608+R2=R1*4294967296+u0 by omega) (by omega);obtain ⟨r9,hr9⟩:∃x,x=(hi*18446744073709551616+lo)%2305843009213693951:=⟨_,rfl⟩;have g5:(R2:Int)/8=(r9:Int):=by rw [hr9,←hend];omega
         have HR9:=z7 hr9;clear hr9 hend hR2 hb1 hb2 hb3 hdone;go_wp2;go_ret2;rw [←HR9.out];exact ⟨⟨_,rfl⟩,Below.refl _ _⟩
        ·have e3:decide ((4294967296:Int)≤r')=false:=decide_eq_false (by omega);have n3:decide (4294967296≤r')=false:=decide_eq_false hbr;have hr'32:r'<4294967296:=by omega
         clear hcc hq' hr' hbig hgt hQ8 hR8 hS8;go_wp2;exact ⟨⟨q',r',rfl,rfl,hdn,hr'32,hq'32.1,(by trivial)⟩,by show (q':Int).toNat<(q:Int).toNat;omega⟩
       ·have e2:decide ((S8:Int)<Q8)=false:=decide_eq_false (by omega);have n2:decide (S8<Q8)=false:=decide_eq_false hgt;have hdone:=z2S hdg.out (by rw [←hQ8,←hR8,←hS8];omega);clear hbig hgt hQ8 hR8 hS8;obtain ⟨R2,hR2⟩:∃x,x=R1*4294967296+u0 - q*18446744073709551608:=⟨_,rfl⟩;obtain ⟨b1,hb1⟩:∃x,x=R1*4294967296%18446744073709551616:=⟨_,rfl⟩;obtain ⟨b2,hb2⟩:∃x,x=(b1+u0)%18446744073709551616:=⟨_,rfl⟩;obtain ⟨b3,hb3⟩:∃x,x=q*18446744073709551608%18446744073709551616:=⟨_,rfl⟩;have g1:IntKind.u64.wrap ((R1:Int)*4294967296)=(b1:Int):=by rw [IntKind.wrap_u64];omega
        have g2:IntKind.u64.wrap ((b1:Int)+u0)=(b2:Int):=by rw [IntKind.wrap_u64];omega
        have g3:IntKind.u64.wrap ((q:Int)*18446744073709551608)=(b3:Int):=by rw [IntKind.wrap_u64];omega
        have g4:IntKind.u64.wrap ((b2:Int) - b3)=(R2:Int):=by rw [IntKind.wrap_u64];omega
        have hend:=z4M HA.out HUU.out HR1.out (show q*18446744073709551608+R2=R1*4294967296+u0 by omega) (by omega);obtain ⟨r9,hr9⟩:∃x,x=(hi*18446744073709551616+lo)%2305843009213693951:=⟨_,rfl⟩;have g5:(R2:Int)/8=(r9:Int):=by rw [hr9,←hend];omega
        have HR9:=z7 hr9;clear hr9 hend hR2 hb1 hb2 hb3 hdone;go_wp2;go_ret2;rw [←HR9.out];exact ⟨⟨_,rfl⟩,Below.refl _ _⟩
end Go.Proofs.YtfcnapnopdomhaaGreatDoor

/-
  The walk of zig's Get.
-/
import Derived.Test.YtpocjegemokjgaaGreatDoorZChMZiAZiCLz
namespace Go.Proofs.YtpocjegemokjgaaGreatDoor
open Go.Proofs.Tryz
set_option linter.all false
set_option maxRecDepth 100000
set_option maxHeartbeats 12800000
open Go.RowKit
def z2y(l:List Bool)(i:Nat)(w:World)(e:Ending)(w':World):Prop:=
 Below w.heap.size w w'/\((∃v r,z8l (l.drop i)=some (v,r)/\r=l.drop (l.length - r.length)/\r.length<=l.length/\e= .returned (.tuple #[.int .i64 v,.int .i64 ((l.length - r.length:Nat):Int),.int .u16 0]))\/
  (z8l (l.drop i)=none/\∃x:Nat,0<x/\x<100/\e= .returned (.tuple #[.int .i64 0,.int .i64 0,.int .u16 x])))
theorem y8N{l:List Bool}{i:Nat}{w w':World}(h:z4w (l.drop i)=none)(hb:Below w.heap.size w w'):z2y l i w (.returned (.tuple #[.int .i64 0,.int .i64 0,.int .u16 10])) w':=
 ⟨hb,.inr ⟨by unfold z8l;rw[h],10,by decide,by decide,rfl⟩⟩
theorem y9T{l r:List Bool}{i k:Nat}{w w':World}(h:z4w (l.drop i)=some (k,r))(A:r.length<z3w k)(hb:Below w.heap.size w w'):z2y l i w (.returned (.tuple #[.int .i64 0,.int .i64 0,.int .u16 10])) w':=
 ⟨hb,.inr ⟨by unfold z8l rdN;rw[h];simp only;rw[if_neg (by omega)],10,by decide,by decide,rfl⟩⟩
theorem y8J{l r:List Bool}{i k:Nat}{w w':World}(h:z4w (l.drop i)=some (k,r))(B:z3w k<=r.length)(A:z0H (z2N (r.take (z3w k)))≠k)(hb:Below w.heap.size w w'):z2y l i w (.returned (.tuple #[.int .i64 0,.int .i64 0,.int .u16 11])) w':=
 ⟨hb,.inr ⟨by unfold z8l rdN;rw[h];simp only;rw[if_pos B];simp only;rw[if_neg A],11,by decide,by decide,rfl⟩⟩
theorem q2B{l r:List Bool}{i k m p:Nat}{w w':World}(h:z4w (l.drop i)=some (k,r))(A:r=l.drop (l.length - r.length))(L:r.length<=l.length)(J:z3w k<=r.length)(I:m=z2N (r.take (z3w k)))(B:z0H m=k)(N:p=l.length - r.length+z3w k)(hb:Below w.heap.size w w'):
  z2y l i w (.returned (.tuple #[.int .i64 (z2s m),.int .i64 p,.int .u16 0])) w':=by
 refine⟨hb,.inl ⟨z2s m,r.drop (z3w k),?_,?_,?_,?_⟩⟩
 ·unfold z8l rdN;rw[h];simp only;rw[if_pos J];simp only;rw[<-I,if_pos B]
 ·rw[List.length_drop]
  conv=>lhs;rw[A]
  rw[List.drop_drop]
  congr 1
  omega
 ·rw[List.length_drop];omega
 ·rw[List.length_drop,show l.length - (r.length - z3w k)=p by omega]
theorem q0e(w:World):Sem.run prog (Instr.index 282 z6r (.int .i64 0)) w= .ok (.agg #[.int .u64 0,.int .i64 1,.int .i64 0]) w:=by kernel_rfl
theorem y9v(w:World):Sem.run prog (Instr.index 282 z6r (.int .i64 1)) w= .ok (.agg #[.int .u64 2,.int .i64 2,.int .i64 7]) w:=by kernel_rfl
theorem y9V(w:World):Sem.run prog (Instr.index 282 z6r (.int .i64 2)) w= .ok (.agg #[.int .u64 6,.int .i64 3,.int .i64 9]) w:=by kernel_rfl
theorem y9x(w:World):Sem.run prog (Instr.index 282 z6r (.int .i64 3)) w= .ok (.agg #[.int .u64 14,.int .i64 4,.int .i64 12]) w:=by kernel_rfl
theorem y9E(w:World):Sem.run prog (Instr.index 282 z6r (.int .i64 4)) w= .ok (.agg #[.int .u64 30,.int .i64 5,.int .i64 32]) w:=by kernel_rfl
theorem y9j(w:World):Sem.run prog (Instr.index 282 z6r (.int .i64 5)) w= .ok (.agg #[.int .u64 31,.int .i64 5,.int .i64 64]) w:=by kernel_rfl
theorem z6p(x y z:Int)(w:World):Sem.run prog (Instr.field 243 (.agg #[.int .u64 x,.int .i64 y,.int .i64 z]) 2) w= .ok (.int .i64 z) w:=by kernel_rfl
theorem q5s(a:Option Addr)(n c:Nat)(l:List Bool)(b:List UInt8)(i:Nat)(w:World)(h:z0r w a n c l b)(hl:l.length<=549755813000)(hi:i<=l.length):
  Calls prog 170 #[.agg #[.slice a n c,.int .i64 l.length],.int .i64 i] w (z2y l i w):=by
 obtain⟨N,hN⟩:=zN l.length;rw[<-hN];have HW:=z7 (q1N a n c l b i);rw[<-hN]at HW;have H:=z7 h;have HN:=z7 hN;have HI:=z7 hi;have aO:N<=549755813000:=by omega
 clear h hN hl hi;have aL:=z7 ((Loc.start w).new (.cells #[.slice a n c,.int .i64 (N:Nat)] 49));go_enter func170,ntmps170;go_wp2_with fail;refine(HW.o _ (H.o.low (q5 _ _)) (by have:=HN.o;omega) (by have:=HN.o;have:=HI.o;omega)).mono ?_;rintro e w2 ⟨aH,B⟩;have a5:=z7 (aL.o.call aH);have HT:=z7 B;clear aH B;obtain⟨c0,c1,cf⟩:=z0i (a5.o.get 0 rfl);have l0:=a5.o.lt 0 rfl;rcases HT.o with⟨k,r,a8,aF,aG,aI,rfl⟩|⟨a8,rfl⟩
 ·obtain⟨p,hp⟩:=zN (l.length - r.length);rw[<-hp];have aR:p<=N:=by have:=HN.o;omega
  have hG:Hid (∀w',Below w2.heap.size w2 w'->Calls prog 169 #[.agg #[.slice a n c,.int .i64 (N:Nat)],.int .i64 (p:Nat),.int .i64 (z3w k:Nat)] w' fun e aJ=>
    ((z3w k<=r.length/\e= .returned (.tuple #[.int .u64 (z2N (r.take (z3w k)):Nat),.int .u16 0]))\/(r.length<z3w k/\e= .returned (.tuple #[.int .u64 0,.int .u16 10])))/\Below w'.heap.size w' aJ):=z7 fun w' hb=>by
   have:=y1i a n c l b p (z3w k) w' ((H.o.low a5.o.low).low hb) (by have:=HN.o;omega) (by have:=HN.o;omega) (z6C aF).2.2.2;rw[<-HN.o]at this;refine this.mono ?_;rintro e aJ ⟨rfl,aM⟩;refine⟨?_,aM⟩;by_cases R:z3w k<=r.length
   ·refine .inl ⟨R,?_⟩;unfold z2E z2e;rw[if_pos (by omega),if_pos (by omega),hp,<-aG];rfl
   ·refine .inr ⟨by omega,?_⟩;unfold z2E z2e;rw[if_neg (by omega),if_neg (by omega)];rfl
  have aA:=z7 (fun w' (hr:r.length<z3w k) (hb:Below w.heap.size w w')=>y9T (w:=w) a8 hr hb);have a9:=z7 (fun w' (hr:z3w k<=r.length) (R:z0H (z2N (r.take (z3w k)))≠k) (hb:Below w.heap.size w w')=>y8J (w:=w) a8 hr R hb);have a6:=z7 (fun w' m q (hr:z3w k<=r.length) (hm:m=z2N (r.take (z3w k))) (R:z0H m=k) (hq:q=l.length - r.length+z3w k) (hb:Below w.heap.size w w')=>q2B (w:=w) a8 aG aI hr hm R hq hb);have a7:Hid (z2N (r.take (z3w k))<18446744073709551616):=z7 (Nat.lt_of_lt_of_le (z5P _) (Nat.pow_le_pow_right (by decide) (by have:=(z6C aF).2.2.2;simp;omega):2^_<=2^64));have HP:=z7 hp;clear a8 aG aI hp HT;have aN:k=0\/k=1\/k=2\/k=3\/k=4\/k=5:=by omega
  clear aF;obtain rfl|rfl|rfl|rfl|rfl|rfl:=aN
  ·have aE:IntKind.i64.wrap ((p:Int)+0)=((p+0:Nat):Int):=(by rw[z0n (by omega) (by omega)];omega);go_wp2_with fail;refine(z6B _).mono ?_;rintro e w3 ⟨rfl,O⟩;have U:=z7 (a5.o.call O);have a4:=z7 (hG.o w3 O);clear O c0 c1 cf;obtain⟨c0,c1,cf⟩:=z0i (U.o.get 0 rfl);have aC:=q0e w3;have aB:=z6p 0 1 0 w3;go_wp2_with fail;refine a4.o.mono ?_;rintro e w4 ⟨B,a1⟩;have Y:=z7 (U.o.call a1);clear a1 c0 c1 cf;rcases B with⟨J,rfl⟩|⟨a3,rfl⟩
   ·have I:=z7 J;obtain⟨m,hm⟩:=zN (z2N (r.take (z3w 0)));have L:m<18446744073709551616:=(by rw[hm];exact a7.o);rw[<-hm];have HM:=z7 hm;clear hm J;go_wp2_with fail;refine(z4F m L _).mono ?_;rintro e w5 ⟨rfl,a2⟩;have a0:=z7 (Y.o.call a2);clear a2;obtain⟨f,R⟩:=zN (z0H m);rw[<-R];have HF:=z7 R;by_cases hfk:f=0
    ·have A:Hid (∀w',Below w.heap.size w w'->z2y l i w (.returned (.tuple #[.int .i64 (z2s m),.int .i64 ((p+0:Nat):Int),.int .u16 0])) w'):=z7 fun w' hb=>a6.o w' m (p+0) I.o HM.o (by rw[<-R,hfk]) (by rw[HP.o];rfl) hb;clear R;subst hfk;go_wp2_with fail;refine(z5r m L _).mono ?_;rintro e w6 ⟨rfl,rfl⟩;go_wp2;go_ret3
     exact A.o _ ((a0.o.new _).low)
    ·have d3:((f:Int)==0)=false:=(by simp;omega);have A:Hid (∀w',Below w.heap.size w w'->z2y l i w (.returned (.tuple #[.int .i64 0,.int .i64 0,.int .u16 11])) w'):=z7 fun w' hb=>a9.o w' I.o (by rw[<-HM.o,<-R];exact hfk) hb;clear R hfk;go_wp2;go_ret3
     exact A.o _ ((a0.o.new _).low)
   ·have HF:=z7 (aA.o w4 a3 Y.o.low);clear a3;go_wp2;go_ret3
    exact HF.o
  ·have aE:IntKind.i64.wrap ((p:Int)+7)=((p+7:Nat):Int):=(by rw[z0n (by omega) (by omega)];omega);go_wp2_with fail;refine(z6B _).mono ?_;rintro e w3 ⟨rfl,O⟩;have U:=z7 (a5.o.call O);have a4:=z7 (hG.o w3 O);clear O c0 c1 cf;obtain⟨c0,c1,cf⟩:=z0i (U.o.get 0 rfl);have aC:=y9v w3;have aB:=z6p 2 2 7 w3;go_wp2_with fail;refine a4.o.mono ?_;rintro e w4 ⟨B,a1⟩;have Y:=z7 (U.o.call a1);clear a1 c0 c1 cf;rcases B with⟨J,rfl⟩|⟨a3,rfl⟩
   ·have I:=z7 J;obtain⟨m,hm⟩:=zN (z2N (r.take (z3w 1)));have L:m<18446744073709551616:=(by rw[hm];exact a7.o);rw[<-hm];have HM:=z7 hm;clear hm J;go_wp2_with fail;refine(z4F m L _).mono ?_;rintro e w5 ⟨rfl,a2⟩;have a0:=z7 (Y.o.call a2);clear a2;obtain⟨f,R⟩:=zN (z0H m);rw[<-R];have HF:=z7 R;by_cases hfk:f=1
    ·have A:Hid (∀w',Below w.heap.size w w'->z2y l i w (.returned (.tuple #[.int .i64 (z2s m),.int .i64 ((p+7:Nat):Int),.int .u16 0])) w'):=z7 fun w' hb=>a6.o w' m (p+7) I.o HM.o (by rw[<-R,hfk]) (by rw[HP.o];rfl) hb;clear R;subst hfk;go_wp2_with fail;refine(z5r m L _).mono ?_;rintro e w6 ⟨rfl,rfl⟩;go_wp2;go_ret3
     exact A.o _ ((a0.o.new _).low)
    ·have d3:((f:Int)==1)=false:=(by simp;omega);have A:Hid (∀w',Below w.heap.size w w'->z2y l i w (.returned (.tuple #[.int .i64 0,.int .i64 0,.int .u16 11])) w'):=z7 fun w' hb=>a9.o w' I.o (by rw[<-HM.o,<-R];exact hfk) hb;clear R hfk;go_wp2;go_ret3
     exact A.o _ ((a0.o.new _).low)
   ·have HF:=z7 (aA.o w4 a3 Y.o.low);clear a3;go_wp2;go_ret3
    exact HF.o
  ·have aE:IntKind.i64.wrap ((p:Int)+9)=((p+9:Nat):Int):=(by rw[z0n (by omega) (by omega)];omega);go_wp2_with fail;refine(z6B _).mono ?_;rintro e w3 ⟨rfl,O⟩;have U:=z7 (a5.o.call O);have a4:=z7 (hG.o w3 O);clear O c0 c1 cf;obtain⟨c0,c1,cf⟩:=z0i (U.o.get 0 rfl);have aC:=y9V w3;have aB:=z6p 6 3 9 w3;go_wp2_with fail;refine a4.o.mono ?_;rintro e w4 ⟨B,a1⟩;have Y:=z7 (U.o.call a1);clear a1 c0 c1 cf;rcases B with⟨J,rfl⟩|⟨a3,rfl⟩
   ·have I:=z7 J;obtain⟨m,hm⟩:=zN (z2N (r.take (z3w 2)));have L:m<18446744073709551616:=(by rw[hm];exact a7.o);rw[<-hm];have HM:=z7 hm;clear hm J;go_wp2_with fail;refine(z4F m L _).mono ?_;rintro e w5 ⟨rfl,a2⟩;have a0:=z7 (Y.o.call a2);clear a2;obtain⟨f,R⟩:=zN (z0H m);rw[<-R];have HF:=z7 R;by_cases hfk:f=2
    ·have A:Hid (∀w',Below w.heap.size w w'->z2y l i w (.returned (.tuple #[.int .i64 (z2s m),.int .i64 ((p+9:Nat):Int),.int .u16 0])) w'):=z7 fun w' hb=>a6.o w' m (p+9) I.o HM.o (by rw[<-R,hfk]) (by rw[HP.o];rfl) hb;clear R;subst hfk;go_wp2_with fail;refine(z5r m L _).mono ?_;rintro e w6 ⟨rfl,rfl⟩;go_wp2;go_ret3
     exact A.o _ ((a0.o.new _).low)
    ·have d3:((f:Int)==2)=false:=(by simp;omega);have A:Hid (∀w',Below w.heap.size w w'->z2y l i w (.returned (.tuple #[.int .i64 0,.int .i64 0,.int .u16 11])) w'):=z7 fun w' hb=>a9.o w' I.o (by rw[<-HM.o,<-R];exact hfk) hb;clear R hfk;go_wp2;go_ret3
     exact A.o _ ((a0.o.new _).low)
   ·have HF:=z7 (aA.o w4 a3 Y.o.low);clear a3;go_wp2;go_ret3
    exact HF.o
  ·have aE:IntKind.i64.wrap ((p:Int)+12)=((p+12:Nat):Int):=(by rw[z0n (by omega) (by omega)];omega);go_wp2_with fail;refine(z6B _).mono ?_;rintro e w3 ⟨rfl,O⟩;have U:=z7 (a5.o.call O);have a4:=z7 (hG.o w3 O);clear O c0 c1 cf;obtain⟨c0,c1,cf⟩:=z0i (U.o.get 0 rfl);have aC:=y9x w3;have aB:=z6p 14 4 12 w3;go_wp2_with fail;refine a4.o.mono ?_;rintro e w4 ⟨B,a1⟩;have Y:=z7 (U.o.call a1);clear a1 c0 c1 cf;rcases B with⟨J,rfl⟩|⟨a3,rfl⟩
   ·have I:=z7 J;obtain⟨m,hm⟩:=zN (z2N (r.take (z3w 3)));have L:m<18446744073709551616:=(by rw[hm];exact a7.o);rw[<-hm];have HM:=z7 hm;clear hm J;go_wp2_with fail;refine(z4F m L _).mono ?_;rintro e w5 ⟨rfl,a2⟩;have a0:=z7 (Y.o.call a2);clear a2;obtain⟨f,R⟩:=zN (z0H m);rw[<-R];have HF:=z7 R;by_cases hfk:f=3
    ·have A:Hid (∀w',Below w.heap.size w w'->z2y l i w (.returned (.tuple #[.int .i64 (z2s m),.int .i64 ((p+12:Nat):Int),.int .u16 0])) w'):=z7 fun w' hb=>a6.o w' m (p+12) I.o HM.o (by rw[<-R,hfk]) (by rw[HP.o];rfl) hb;clear R;subst hfk;go_wp2_with fail;refine(z5r m L _).mono ?_;rintro e w6 ⟨rfl,rfl⟩;go_wp2;go_ret3
     exact A.o _ ((a0.o.new _).low)
    ·have d3:((f:Int)==3)=false:=(by simp;omega);have A:Hid (∀w',Below w.heap.size w w'->z2y l i w (.returned (.tuple #[.int .i64 0,.int .i64 0,.int .u16 11])) w'):=z7 fun w' hb=>a9.o w' I.o (by rw[<-HM.o,<-R];exact hfk) hb;clear R hfk;go_wp2;go_ret3
     exact A.o _ ((a0.o.new _).low)
   ·have HF:=z7 (aA.o w4 a3 Y.o.low);clear a3;go_wp2;go_ret3
    exact HF.o
  ·have aE:IntKind.i64.wrap ((p:Int)+32)=((p+32:Nat):Int):=(by rw[z0n (by omega) (by omega)];omega);go_wp2_with fail;refine(z6B _).mono ?_;rintro e w3 ⟨rfl,O⟩;have U:=z7 (a5.o.call O);have a4:=z7 (hG.o w3 O);clear O c0 c1 cf;obtain⟨c0,c1,cf⟩:=z0i (U.o.get 0 rfl);have aC:=y9E w3;have aB:=z6p 30 5 32 w3;go_wp2_with fail;refine a4.o.mono ?_;rintro e w4 ⟨B,a1⟩;have Y:=z7 (U.o.call a1);clear a1 c0 c1 cf;rcases B with⟨J,rfl⟩|⟨a3,rfl⟩
   ·have I:=z7 J;obtain⟨m,hm⟩:=zN (z2N (r.take (z3w 4)));have L:m<18446744073709551616:=(by rw[hm];exact a7.o);rw[<-hm];have HM:=z7 hm;clear hm J;go_wp2_with fail;refine(z4F m L _).mono ?_;rintro e w5 ⟨rfl,a2⟩;have a0:=z7 (Y.o.call a2);clear a2;obtain⟨f,R⟩:=zN (z0H m);rw[<-R];have HF:=z7 R;by_cases hfk:f=4
    ·have A:Hid (∀w',Below w.heap.size w w'->z2y l i w (.returned (.tuple #[.int .i64 (z2s m),.int .i64 ((p+32:Nat):Int),.int .u16 0])) w'):=z7 fun w' hb=>a6.o w' m (p+32) I.o HM.o (by rw[<-R,hfk]) (by rw[HP.o];rfl) hb;clear R;subst hfk;go_wp2_with fail;refine(z5r m L _).mono ?_;rintro e w6 ⟨rfl,rfl⟩;go_wp2;go_ret3
     exact A.o _ ((a0.o.new _).low)
    ·have d3:((f:Int)==4)=false:=(by simp;omega);have A:Hid (∀w',Below w.heap.size w w'->z2y l i w (.returned (.tuple #[.int .i64 0,.int .i64 0,.int .u16 11])) w'):=z7 fun w' hb=>a9.o w' I.o (by rw[<-HM.o,<-R];exact hfk) hb;clear R hfk;go_wp2;go_ret3
     exact A.o _ ((a0.o.new _).low)
   ·have HF:=z7 (aA.o w4 a3 Y.o.low);clear a3;go_wp2;go_ret3
    exact HF.o
  ·have aE:IntKind.i64.wrap ((p:Int)+64)=((p+64:Nat):Int):=(by rw[z0n (by omega) (by omega)];omega);go_wp2_with fail;refine(z6B _).mono ?_;rintro e w3 ⟨rfl,O⟩;have U:=z7 (a5.o.call O);have a4:=z7 (hG.o w3 O);clear O c0 c1 cf;obtain⟨c0,c1,cf⟩:=z0i (U.o.get 0 rfl);have aC:=y9j w3;have aB:=z6p 31 5 64 w3;go_wp2_with fail;refine a4.o.mono ?_;rintro e w4 ⟨B,a1⟩;have Y:=z7 (U.o.call a1);clear a1 c0 c1 cf;rcases B with⟨J,rfl⟩|⟨a3,rfl⟩
   ·have I:=z7 J;obtain⟨m,hm⟩:=zN (z2N (r.take (z3w 5)));have L:m<18446744073709551616:=(by rw[hm];exact a7.o);rw[<-hm];have HM:=z7 hm;clear hm J;go_wp2_with fail;refine(z4F m L _).mono ?_;rintro e w5 ⟨rfl,a2⟩;have a0:=z7 (Y.o.call a2);clear a2;obtain⟨f,R⟩:=zN (z0H m);rw[<-R];have HF:=z7 R;by_cases hfk:f=5
    ·have A:Hid (∀w',Below w.heap.size w w'->z2y l i w (.returned (.tuple #[.int .i64 (z2s m),.int .i64 ((p+64:Nat):Int),.int .u16 0])) w'):=z7 fun w' hb=>a6.o w' m (p+64) I.o HM.o (by rw[<-R,hfk]) (by rw[HP.o];rfl) hb;clear R;subst hfk;go_wp2_with fail;refine(z5r m L _).mono ?_;rintro e w6 ⟨rfl,rfl⟩;go_wp2;go_ret3
     exact A.o _ ((a0.o.new _).low)
    ·have d3:((f:Int)==5)=false:=(by simp;omega);have A:Hid (∀w',Below w.heap.size w w'->z2y l i w (.returned (.tuple #[.int .i64 0,.int .i64 0,.int .u16 11])) w'):=z7 fun w' hb=>a9.o w' I.o (by rw[<-HM.o,<-R];exact hfk) hb;clear R hfk;go_wp2;go_ret3
     exact A.o _ ((a0.o.new _).low)
   ·have HF:=z7 (aA.o w4 a3 Y.o.low);clear a3;go_wp2;go_ret3
    exact HF.o
 ·have HF:=z7 (fun w' (hb:Below w.heap.size w w')=>y8N (w:=w) a8 hb);clear a8 HT;go_wp2_with fail;go_ret3
  exact HF.o _ a5.o.low
theorem y5Z(has:Bool)(prev lead width:Nat)(R:lead<256)(U:width<256)(w:World):
  Calls prog 154 #[.agg #[.bool has,.int .u64 prev,.int .u8 lead,.int .u8 width]] w fun e w'=>e= .returned (.bool (z1k ⟨has,prev,lead,width⟩))/\Below w.heap.size w w':=by
 have hb:=q5 w (.cells #[.bool has,.int .u64 prev,.int .u8 lead,.int .u8 width] 96);have A:=z7 hb;clear hb;cases has with
 | false=>
  have B:z1k ⟨false,prev,lead,width⟩=decide (prev=0/\lead=0/\width=0):=by unfold z1k zeroV;simp
  rw[B];clear B;by_cases h1:prev=0
  ·subst h1;by_cases h2:lead=0
   ·subst h2;by_cases h3:width=0
    ·subst h3;go_enter func154,ntmps154;go_wp2;go_ret;exact⟨rfl,A.o⟩
    ·have I:((width:Int)==0)=false:=(by simp;omega);go_enter func154,ntmps154;go_wp2;go_ret;exact⟨by rw[decide_eq_false (by omega)];rfl,A.o⟩
   ·have I:((lead:Int)==0)=false:=(by simp;omega);go_enter func154,ntmps154;go_wp2;go_ret;exact⟨by rw[decide_eq_false (by omega)];rfl,A.o⟩
  ·have I:((prev:Int)==0)=false:=(by simp;omega);go_enter func154,ntmps154;go_wp2;go_ret;exact⟨by rw[decide_eq_false (by omega)];rfl,A.o⟩
 | true=>
  have N:IntKind.i64.wrap ((lead:Int)+width)=(lead:Int)+width:=z0n (by omega) (by omega);have B:z1k ⟨true,prev,lead,width⟩=decide (lead<=31/\lead+width<=64/\(0<width\/lead=0)):=rfl;rw[B];clear B;by_cases h1:lead<=31
  ·have J:decide ((lead:Int)<=31)=true:=decide_eq_true (by omega);by_cases h2:lead+width<=64
   ·have L:decide ((lead:Int)+width<=64)=true:=decide_eq_true (by omega);by_cases h3:0<width
    ·have I:decide ((0:Int)<width)=true:=decide_eq_true (by omega);go_enter func154,ntmps154;go_wp2;go_ret;exact⟨by rw[decide_eq_true (by omega)];rfl,A.o⟩
    ·obtain rfl:width=0:=by omega
     by_cases h4:lead=0
     ·subst h4;go_enter func154,ntmps154;go_wp2;go_ret;exact⟨rfl,A.o⟩
     ·have O:((lead:Int)==0)=false:=(by simp;omega);go_enter func154,ntmps154;go_wp2;go_ret;exact⟨by rw[decide_eq_false (by omega)];rfl,A.o⟩
   ·have L:decide ((lead:Int)+width<=64)=false:=decide_eq_false (by omega);go_enter func154,ntmps154;go_wp2;go_ret;exact⟨by rw[decide_eq_false (by omega)];rfl,A.o⟩
  ·have J:decide ((lead:Int)<=31)=false:=decide_eq_false (by omega);go_enter func154,ntmps154;go_wp2;go_ret;exact⟨by rw[decide_eq_false (by omega)];rfl,A.o⟩
theorem q2U(has:Bool)(prev lead width:Nat)(B:lead<256)(I:width<256)(w:World):
  Calls prog 156 #[.agg #[.bool has,.int .u64 prev,.int .u8 lead,.int .u8 width]] w fun e w'=>e= .returned (.agg #[.int .i64 lead,.int .i64 width])/\Below w.heap.size w w':=by
 have A:=z7 (((Loc.start w).new (.cells #[.bool has,.int .u64 prev,.int .u8 lead,.int .u8 width] 96)).new' (.cells #[.int .i64 lead,.int .i64 width] 285) (n:=w.heap.size+1) (by simp));go_enter func156,ntmps156;go_wp2;refine bodyPost_ret (y4S rfl _ _ (w.heap.size+1) _ _ rfl (A.o.get 0 rfl) rfl) rfl ?_;exact⟨rfl,A.o.low⟩
theorem y0w(lead size:Nat)(h:lead+size<=64)(w:World):
  Calls prog 158 #[.agg #[.int .i64 lead,.int .i64 size]] w fun e w'=>e= .returned (.int .i64 (64 - lead - size:Nat))/\Below w.heap.size w w':=by
 have A:=z7 (q5 w (.cells #[.int .i64 lead,.int .i64 size] 285));have B:IntKind.i64.wrap (64 - (lead:Int))=64 - lead:=z0n (by omega) (by omega);have I:IntKind.i64.wrap (64 - (lead:Int) - size)=((64 - lead - size:Nat):Int):=by rw[z0n (by omega) (by omega)];omega
 go_enter func158,ntmps158;go_wp2;go_ret;exact⟨rfl,A.o⟩
theorem q1i(lead size:Int)(J:0<=lead)(L:lead<=1000)(N:0<=size)(O:size<=1000)(w:World):
  Calls prog 158 #[.agg #[.int .i64 lead,.int .i64 size]] w fun e w'=>e= .returned (.int .i64 (64 - lead - size))/\Below w.heap.size w w':=by
 have A:=z7 (q5 w (.cells #[.int .i64 lead,.int .i64 size] 285));have B:IntKind.i64.wrap (64 - lead)=64 - lead:=z0n (by omega) (by omega);have I:IntKind.i64.wrap (64 - lead - size)=64 - lead - size:=z0n (by omega) (by omega);go_enter func158,ntmps158;go_wp2;go_ret;exact⟨rfl,A.o⟩
theorem y3b(d:Nat)(hd:d<18446744073709551616)(h0:d≠0)(w:World)(hT:z1u w):
  Calls prog 159 #[.int .u64 d] w fun e w'=>e= .returned (.agg #[.int .i64 (z3q d:Nat),.int .i64 (z1S d:Nat)])/\Below w.heap.size w w':=by
 have I:=q1r hd h0;have J:=z7 (q1x d hd);have N:=z7 (q4E d hd);obtain⟨L,Y⟩:=zN (lz d);obtain⟨T,B⟩:=zN (tz d);obtain⟨A,O⟩:=zN (z3q d);obtain⟨S,hS⟩:=zN (z1S d);have U:A=min L 31:=by rw[O,Y];rfl
 have a0:S=64 - A - T:=by rw[hS,O,B];rfl
 rw[<-Y]at J I;rw[<-B]at N I;rw[<-O,<-hS];have hm:min (L:Int) 31=(A:Int):=by omega
 have e1:IntKind.i64.wrap (64 - (A:Int))=64 - A:=z0n (by omega) (by omega);have e2:IntKind.i64.wrap (64 - (A:Int) - T)=(S:Int):=by rw[z0n (by omega) (by omega)];omega
 have R:=z7 (hT.low (q5 w (.cells #[.int .i64 0,.int .i64 0] 285)));have HL:=z7 ((Loc.start w).new (.cells #[.int .i64 A,.int .i64 S] 285));clear Y B O hS U a0 I h0 hT;go_enter func159,ntmps159;go_wp2_with fail;refine(J.o _).mono ?_;rintro e w1 ⟨rfl,rfl⟩;go_wp2_with fail;refine(N.o _ R.o).mono ?_;rintro e w1 ⟨rfl,rfl⟩;go_wp2;refine bodyPost_ret (y4S rfl _ _ w.heap.size _ _ rfl (HL.o.get 0 rfl) rfl) rfl ?_;exact⟨rfl,HL.o.low⟩
theorem q2M(lead size d:Nat)(a6:lead+size<=64)(hd:d<18446744073709551616)(w:World)(hT:z1u w):
  Calls prog 157 #[.agg #[.int .i64 lead,.int .i64 size],.int .u64 d] w fun e w'=>e= .returned (.bool (z5b lead size d))/\Below w.heap.size w w':=by
 have a0:=z7 (q1x d hd);have a2:=z7 (q4E d hd);unfold z5b;obtain⟨L,hL⟩:=zN (lz d);obtain⟨T,a5⟩:=zN (tz d);rw[<-hL]at a0 ⊢;rw[<-a5]at a2 ⊢;obtain⟨R,a3⟩:=zN (w.alloc (.cells #[.int .i64 lead,.int .i64 size] 285));have Y:=(Loc.start w).new (.cells #[.int .i64 lead,.int .i64 size] 285);rw[<-a3]at Y;have Y:=z7 Y;have a4:Hid (∀w',Below R.heap.size R w'->z1u w'):=z7 fun w' hb=>hT.low (Y.o.call hb).low;have I:Hid (∀w',Below R.heap.size R w'->w'.cell? ⟨w.heap.size,0,none⟩=some (.int .i64 lead)/\w'.cell? ⟨w.heap.size,1,none⟩=some (.int .i64 size)):=z7 fun w' hb=>by
  obtain⟨c0,c1,cf⟩:=z0i ((Y.o.call hb).get 0 rfl);exact⟨c0,c1⟩
 have a1:=z7 (y0w lead size a6);obtain⟨D0,B⟩:=zN (64 - lead - size);rw[<-B]at a1 ⊢;have HW:=z7 a3;clear hL a5 B hT a3;by_cases h0:0<size
 ·have d0:decide ((0:Int)<size)=true:=decide_eq_true (by omega);have n0:decide (0<size)=true:=decide_eq_true (by omega);by_cases h1:lead<=L
  ·have d1:decide ((lead:Int)<=L)=true:=decide_eq_true (by omega);have n1:decide (lead<=L)=true:=decide_eq_true (by omega);by_cases h2:D0<=T
   ·have d2:decide ((D0:Int)<=T)=true:=decide_eq_true (by omega);have n2:decide (D0<=T)=true:=decide_eq_true (by omega);have U:decide (0<size/\lead<=L/\D0<=T)=true:=decide_eq_true (by omega);rw[U];clear U h0 h1 h2;go_enter func157,ntmps157;go_upto_region 1 with fail
    rw[<-HW.o];refine q6 17 22 (fun D v w'=>Below R.heap.size R w') (Below.refl _ _).drew ?_;simp only[z0v];iterate 4 (refine q8.rd (e:=?_) (fun D v w' B A=>?_) ?_;rotate_left;(obtain⟨x0,x1⟩:=I.o w' A;clear A B;go_simp;try with_reducible rfl);go_simp)
    iterate 1 (refine q8.rd (e:=?_) (fun D v w' B A=>?_) ?_;rotate_left;(obtain⟨x0,x1⟩:=I.o w' A;clear A B;go_simp;try with_reducible rfl);go_simp)
    refine q8.ca (.int .i64 (L:Nat)) (fun D v w' B A=>?_) ?_
    ·have N:=z7 A;clear A B;go_simp;go_at_call 180;refine(a0.o w').mono ?_;rintro e O ⟨rfl,J⟩;exact⟨rfl,by rw[J];exact N.o⟩
    go_simp;iterate 3 (refine q8.rd (e:=?_) (fun D v w' B A=>?_) ?_;rotate_left;(obtain⟨x0,x1⟩:=I.o w' A;clear A B;go_simp;try with_reducible rfl);go_simp)
    iterate 2 (refine q8.rd (e:=?_) (fun D v w' B A=>?_) ?_;rotate_left;(obtain⟨x0,x1⟩:=I.o w' A;clear A B;go_simp;try with_reducible rfl);go_simp)
    iterate 1 (refine q8.rd (e:=?_) (fun D v w' B A=>?_) ?_;rotate_left;(obtain⟨x0,x1⟩:=I.o w' A;clear A B;go_simp;try with_reducible rfl);go_simp)
    refine q8.ca (.int .i64 T) (fun D v w' B A=>?_) ?_
    ·have N:=z7 A;clear A B;go_simp;go_at_call 181;refine(a2.o w' (a4.o w' N.o)).mono ?_;rintro e O ⟨rfl,J⟩;exact⟨rfl,by rw[J];exact N.o⟩
    go_simp;iterate 1 (refine q8.rd (e:=?_) (fun D v w' B A=>?_) ?_;rotate_left;(obtain⟨x0,x1⟩:=I.o w' A;clear A B;go_simp;try with_reducible rfl);go_simp)
    refine q8.ca (.int .i64 D0) (fun D v w' B A=>?_) ?_
    ·have N:=z7 A;clear A B;go_simp;go_at_call 158;refine(a1.o w').mono ?_;rintro e O ⟨rfl,J⟩;exact⟨rfl,N.o.trans (J.mono N.o.size)⟩
    go_simp;iterate 2 (refine q8.rd (e:=?_) (fun D v w' B A=>?_) ?_;rotate_left;(obtain⟨x0,x1⟩:=I.o w' A;clear A B;go_simp;try with_reducible rfl);go_simp)
    refine q8.fin (fun v w5 A=>?_);have HF:=z7 ((Y.o.call A).low);clear A;go_wp2;go_ret;exact⟨rfl,HF.o⟩
   ·have d2:decide ((D0:Int)<=T)=false:=decide_eq_false (by omega);have n2:decide (D0<=T)=false:=decide_eq_false (by omega);have U:decide (0<size/\lead<=L/\D0<=T)=false:=decide_eq_false (by omega);rw[U];clear U h0 h1 h2;go_enter func157,ntmps157;go_upto_region 1 with fail
    rw[<-HW.o];refine q6 17 22 (fun D v w'=>Below R.heap.size R w') (Below.refl _ _).drew ?_;simp only[z0v];iterate 4 (refine q8.rd (e:=?_) (fun D v w' B A=>?_) ?_;rotate_left;(obtain⟨x0,x1⟩:=I.o w' A;clear A B;go_simp;try with_reducible rfl);go_simp)
    iterate 1 (refine q8.rd (e:=?_) (fun D v w' B A=>?_) ?_;rotate_left;(obtain⟨x0,x1⟩:=I.o w' A;clear A B;go_simp;try with_reducible rfl);go_simp)
    refine q8.ca (.int .i64 (L:Nat)) (fun D v w' B A=>?_) ?_
    ·have N:=z7 A;clear A B;go_simp;go_at_call 180;refine(a0.o w').mono ?_;rintro e O ⟨rfl,J⟩;exact⟨rfl,by rw[J];exact N.o⟩
    go_simp;iterate 3 (refine q8.rd (e:=?_) (fun D v w' B A=>?_) ?_;rotate_left;(obtain⟨x0,x1⟩:=I.o w' A;clear A B;go_simp;try with_reducible rfl);go_simp)
    iterate 2 (refine q8.rd (e:=?_) (fun D v w' B A=>?_) ?_;rotate_left;(obtain⟨x0,x1⟩:=I.o w' A;clear A B;go_simp;try with_reducible rfl);go_simp)
    iterate 1 (refine q8.rd (e:=?_) (fun D v w' B A=>?_) ?_;rotate_left;(obtain⟨x0,x1⟩:=I.o w' A;clear A B;go_simp;try with_reducible rfl);go_simp)
    refine q8.ca (.int .i64 T) (fun D v w' B A=>?_) ?_
    ·have N:=z7 A;clear A B;go_simp;go_at_call 181;refine(a2.o w' (a4.o w' N.o)).mono ?_;rintro e O ⟨rfl,J⟩;exact⟨rfl,by rw[J];exact N.o⟩
    go_simp;iterate 1 (refine q8.rd (e:=?_) (fun D v w' B A=>?_) ?_;rotate_left;(obtain⟨x0,x1⟩:=I.o w' A;clear A B;go_simp;try with_reducible rfl);go_simp)
    refine q8.ca (.int .i64 D0) (fun D v w' B A=>?_) ?_
    ·have N:=z7 A;clear A B;go_simp;go_at_call 158;refine(a1.o w').mono ?_;rintro e O ⟨rfl,J⟩;exact⟨rfl,N.o.trans (J.mono N.o.size)⟩
    go_simp;iterate 2 (refine q8.rd (e:=?_) (fun D v w' B A=>?_) ?_;rotate_left;(obtain⟨x0,x1⟩:=I.o w' A;clear A B;go_simp;try with_reducible rfl);go_simp)
    refine q8.fin (fun v w5 A=>?_);have HF:=z7 ((Y.o.call A).low);clear A;go_wp2;go_ret;exact⟨rfl,HF.o⟩
  ·have d1:decide ((lead:Int)<=L)=false:=decide_eq_false (by omega);have n1:decide (lead<=L)=false:=decide_eq_false (by omega);have U:decide (0<size/\lead<=L/\D0<=T)=false:=decide_eq_false (by omega);rw[U];clear U h0 h1;go_enter func157,ntmps157;go_upto_region 1 with fail
   rw[<-HW.o];refine q6 17 22 (fun D v w'=>Below R.heap.size R w') (Below.refl _ _).drew ?_;simp only[z0v];iterate 4 (refine q8.rd (e:=?_) (fun D v w' B A=>?_) ?_;rotate_left;(obtain⟨x0,x1⟩:=I.o w' A;clear A B;go_simp;try with_reducible rfl);go_simp)
   iterate 1 (refine q8.rd (e:=?_) (fun D v w' B A=>?_) ?_;rotate_left;(obtain⟨x0,x1⟩:=I.o w' A;clear A B;go_simp;try with_reducible rfl);go_simp)
   refine q8.ca (.int .i64 (L:Nat)) (fun D v w' B A=>?_) ?_
   ·have N:=z7 A;clear A B;go_simp;go_at_call 180;refine(a0.o w').mono ?_;rintro e O ⟨rfl,J⟩;exact⟨rfl,by rw[J];exact N.o⟩
   go_simp;iterate 3 (refine q8.rd (e:=?_) (fun D v w' B A=>?_) ?_;rotate_left;(obtain⟨x0,x1⟩:=I.o w' A;clear A B;go_simp;try with_reducible rfl);go_simp)
   iterate 2 (refine q8.rd (e:=?_) (fun D v w' B A=>?_) ?_;rotate_left;(obtain⟨x0,x1⟩:=I.o w' A;clear A B;go_simp;try with_reducible rfl);go_simp)
   iterate 5 (refine q8.sk (fun D v w h=>h) ?_;go_simp)
   iterate 1 (refine q8.rd (e:=?_) (fun D v w' B A=>?_) ?_;rotate_left;(obtain⟨x0,x1⟩:=I.o w' A;clear A B;go_simp;try with_reducible rfl);go_simp)
   refine q8.fin (fun v w5 A=>?_);have HF:=z7 ((Y.o.call A).low);clear A;go_wp2;go_ret;exact⟨rfl,HF.o⟩
 ·have d0:decide ((0:Int)<size)=false:=decide_eq_false (by omega);have n0:decide (0<size)=false:=decide_eq_false (by omega);have U:decide (0<size/\lead<=L/\D0<=T)=false:=decide_eq_false (by omega);rw[U];clear U h0;go_enter func157,ntmps157;go_upto_region 1 with fail
  rw[<-HW.o];refine q6 17 22 (fun D v w'=>Below R.heap.size R w') (Below.refl _ _).drew ?_;simp only[z0v];iterate 4 (refine q8.rd (e:=?_) (fun D v w' B A=>?_) ?_;rotate_left;(obtain⟨x0,x1⟩:=I.o w' A;clear A B;go_simp;try with_reducible rfl);go_simp)
  iterate 5 (refine q8.sk (fun D v w h=>h) ?_;go_simp)
  iterate 2 (refine q8.rd (e:=?_) (fun D v w' B A=>?_) ?_;rotate_left;(obtain⟨x0,x1⟩:=I.o w' A;clear A B;go_simp;try with_reducible rfl);go_simp)
  iterate 5 (refine q8.sk (fun D v w h=>h) ?_;go_simp)
  iterate 1 (refine q8.rd (e:=?_) (fun D v w' B A=>?_) ?_;rotate_left;(obtain⟨x0,x1⟩:=I.o w' A;clear A B;go_simp;try with_reducible rfl);go_simp)
  refine q8.fin (fun v w5 A=>?_);have HF:=z7 ((Y.o.call A).low);clear A;go_wp2;go_ret;exact⟨rfl,HF.o⟩

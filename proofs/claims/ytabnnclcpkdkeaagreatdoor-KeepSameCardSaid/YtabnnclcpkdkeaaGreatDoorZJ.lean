/- The walks of zig's Fold. -/
import Derived.Test.YtabnnclcpkdkeaaGreatDoorZH
import Derived.Test.YtabnnclcpkdkeaaGreatDoorZI
namespace Go.Proofs.YtabnnclcpkdkeaaGreatDoor
open Go.Proofs.Tryz
set_option linter.all false
set_option maxRecDepth 100000
set_option maxHeartbeats 0
open Go.RowKit
theorem y9M{x n:Nat}(h:x<2^n):x^^^(2^n - 1)=2^n - (x+1):=by
 apply gP;intro i;rw[Nat.testBit_xor,kP,Nat.testBit_two_pow_sub_succ h];by_cases A:i<n
 .simp[A]
 have:x.testBit i=false:=pJ (wS h (uU wG wF));simp[A,this]
theorem q5t(v:Int)(N: -9223372036854775808<=v)(O:v<=9223372036854775807)(w:World):
  Calls prog 136 #[.int .i64 v] w fun e w'=>e= .returned (.int .u64 (z4Q v:Nat))/\w=w':=by
 have key:bits .xor .u64 (IntKind.u64.wrap (IntKind.u64.wrap v*2)) (IntKind.u64.wrap (v/9223372036854775808))=((z4Q v:Nat):Int):=by
  by_cases J:0<=v
  .have L:IntKind.u64.wrap (IntKind.u64.wrap v*2)=((z4Q v:Nat):Int):=(by rw[wq,wq];unfold z4Q;rw[wZ J];omega);have I:IntKind.u64.wrap (v/9223372036854775808)=((0:Nat):Int):=(by rw[wq];omega);rw[L,I,rR _ _ (y1O N O) wG,qK]
  obtain⟨x,A⟩:∃x:Nat,IntKind.u64.wrap (IntKind.u64.wrap v*2)=(x:Int)/\x<18446744073709551616/\18446744073709551616 - (x+1)=z4Q v:=by
   refine⟨(18446744073709551616+2*v).toNat,?_,wF,?_⟩
   .rw[wq,wq];omega
   unfold z4Q;rw[wR J];omega
  have I:IntKind.u64.wrap (v/9223372036854775808)=((18446744073709551615:Nat):Int):=(by rw[wq];omega);rw[A.1,I,rR _ _ A.2.1 wG];have:=y9M (n:=64) (x:=x) A.2.1;rw[show(18446744073709551615:Nat)=2^64 - 1 from rfl,this];rw[show(2:Nat)^64=18446744073709551616 from rfl,A.2.2]
 go_enter func136,ntmps136;go_wp2;go_ret;exact⟨rfl,rfl⟩
theorem q6W(n:Int):Go.RowKit.wrap64 n=IntKind.i64.wrap n:=by unfold Go.RowKit.wrap64;exact(uL n).symm
theorem y6z(a:Nat)(A:a<9223372036854775808):bits .xor .i64 (a:Int) (-1)= -(a:Int) - 1:=by
 show IntKind.i64.wrap ((BitVec.ofInt 64 (a:Int)^^^BitVec.ofInt 64 (-1)).toNat:Int)=_;rw[BitVec.toNat_xor,ofInt_u64 a wF,show(BitVec.ofInt 64 (-1)).toNat=2^64 - 1 from by decide,y9M (n:=64) (show a<2^64 by omega),uL];omega
theorem y5l(a:Nat)(A:a<9223372036854775808):bits .xor .i64 (a:Int) 0=(a:Int):=by
 show IntKind.i64.wrap ((BitVec.ofInt 64 (a:Int)^^^BitVec.ofInt 64 0).toNat:Int)=_;rw[BitVec.toNat_xor,ofInt_u64 a wF,show(BitVec.ofInt 64 0).toNat=0 from by decide,qK,uL];omega
theorem q1I(n:Nat)(h:n<18446744073709551616)(w:World):
  Calls prog 204 #[.int .u64 n] w fun e w'=>e= .returned (.int .i64 (z3U n))/\w=w':=by
 have L:bits .and .u64 (n:Int) 1=((n%2:Nat):Int):=by
  have:=u64_and_nat n 1 h wG;rw[qQ]at this;exact this
 have N:((n:Int)/2)=((n/2:Nat):Int):=wF
 have J:n/2<9223372036854775808:=wF
 have key:bits .xor .i64 ((n:Int)/2) (IntKind.i64.wrap (-IntKind.i64.wrap (bits .and .u64 (n:Int) 1)))=z3U n:=by
  rw[L,N];unfold z3U;by_cases I:n%2=0
  .rw[wZ I,I,show IntKind.i64.wrap (-IntKind.i64.wrap ((0:Nat):Int))=0 from by rw[uL,uL];rfl];exact y5l _ J
  rw[wR I,show n%2=1 by omega,show IntKind.i64.wrap (-IntKind.i64.wrap ((1:Nat):Int))= -1 from by rw[uL,uL];rfl];exact y6z _ J
 clear L N J;have A:Hid (bits .xor .i64 ((n:Int)/2) (Go.RowKit.wrap64 (-Go.RowKit.wrap64 (bits .and .u64 (n:Int) 1)))=z3U n):=z7 (by rw[q6W,q6W];exact key);clear key;go_enter func204,ntmps204;go_wp2;go_ret;exact⟨uS Ending.returned (uS (Value.int .i64) A.o),rfl⟩
def y1d:Value:= .agg #[.int .u64 0,.int .i64 1,.int .i64 0,.int .u64 2,.int .i64 2,.int .i64 7,.int .u64 6,.int .i64 3,.int .i64 9,.int .u64 14,.int .i64 4,.int .i64 12,.int .u64 30,.int .i64 5,.int .i64 32,.int .u64 31,.int .i64 5,.int .i64 64]
def z4H:Array Value:= #[.int .u64 0,.int .i64 1,.int .i64 0,.int .u64 2,.int .i64 2,.int .i64 7,.int .u64 6,.int .i64 3,.int .i64 9,.int .u64 14,.int .i64 4,.int .i64 12,.int .u64 30,.int .i64 5,.int .i64 32,.int .u64 31,.int .i64 5,.int .i64 64]
theorem y6g(tmps:Array Value)(w:World)(I:tmps.getD 0 undef= .pointer (some ⟨w.heap.size,0,none⟩)):
  (results Tryz.f165 tmps).run prog (w.alloc (.cells z4H 295))= .ok y1d (w.alloc (.cells z4H 295)):=by
 have J:=j8 w (.cells z4H 295);have A:∀j u,z4H[j]? =some u->(w.alloc (.cells z4H 295)).cell? ⟨w.heap.size,j,none⟩=some u:=fun j u L=>by rw[pT _ w.heap.size j _ _ (0,0) J];exact L
 simp only[uP]at I;simp[results,Tryz.results165,go_sem,I,y1d,A 0 _ rfl,A 1 _ rfl,A 2 _ rfl,A 3 _ rfl,A 4 _ rfl,A 5 _ rfl,A 6 _ rfl,A 7 _ rfl,A 8 _ rfl,A 9 _ rfl,A 10 _ rfl,A 11 _ rfl,A 12 _ rfl,A 13 _ rfl,A 14 _ rfl,A 15 _ rfl,A 16 _ rfl,A 17 _ rfl];simp[z4H]
theorem y9Z(w:World):Calls prog 165 #[] w fun e w'=>e= .returned y1d/\Below w.heap.size w w':=by
 go_enter func165,ntmps165;go_wp2;refine wU (v:=y1d) (y6g _ w (by rfl)) rfl ?_;exact⟨rfl,q5 _ _⟩
def y4c(n:Nat)(w:World)(e:Ending)(w':World):Prop:=
 Below w.heap.size w w'/\∃x y z,e= .returned (.tuple #[.int .i64 (z0W n:Nat),.agg #[x,y,z]])/\z4H[z0W n*3]? =some x/\z4H[z0W n*3+1]? =some y/\z4H[z0W n*3+2]? =some z
theorem z5V{n k:Nat}{w W:World}(L:z0W n=k)(hb:Below w.heap.size w W){x y z:Value}(A:z4H[k*3]? =some x)(I:z4H[k*3+1]? =some y)(J:z4H[k*3+2]? =some z):
  y4c n w (.returned (.tuple #[.int .i64 k,.agg #[x,y,z]])) (((W.setCell ⟨w.heap.size,0,none⟩ x).setCell ⟨w.heap.size,1,none⟩ y).setCell ⟨w.heap.size,2,none⟩ z).drew:=by
 subst L;exact⟨((((hb.setCell wE _).setCell wE _).setCell wE _).drew),x,y,z,rfl,A,I,J⟩
theorem z4w{W:World}{r:Nat}(A:W.heap[r]? =some (.cells #[.int .u64 0,.int .i64 0,.int .i64 0] 256 (0,0)))(x y z:Value):
  (((W.setCell ⟨r,0,none⟩ x).setCell ⟨r,1,none⟩ y).setCell ⟨r,2,none⟩ z).drew.heap[r]? =some (.cells #[x,y,z] 256 (0,0)):=by
 have:=z0a (z0a (z0a A 0 x) 1 y) 2 z;simpa[World.drew]using this
theorem q2s(n:Nat)(h:n<18446744073709551616)(w:World):
  Calls prog 137 #[.int .u64 n] w (y4c n w):=by
 go_enter func137,ntmps137;go_wp2
 go_step3
 go_wp2_with fail;refine(y9Z _).mono ?_;rintro e I ⟨rfl,a0⟩;unfold y1d;go_wp2
 go_step3
 go_wp2;have a4:Hid (I.heap[w.heap.size]? =some (.cells #[.int .u64 0,.int .i64 0,.int .i64 0] 256 (0,0))):=z7 ((a0.block _ wH).trans (j8 _ _));have a3:Hid (Below w.heap.size w I):=z7 ((q5 _ _).trans (a0.mono (q5 w _).size));have a5:w.heap.size<I.heap.size:=(wI.1 a4.o).1;obtain⟨W,hW⟩:=zN (I.alloc (.cells z4H 295));have hg:=j8 I (.cells z4H 295);rw[<-hW]at hg;have L:Hid (∀j u,z4H[j]? =some u->W.cell? ⟨I.heap.size,j,none⟩=some u):=z7 fun j u hu=>by rw[pT _ I.heap.size j _ _ (0,0) hg];exact hu
 have a1:Below I.heap.size I W:=by rw[hW];exact q5 _ _
 have N:Hid (W.heap[w.heap.size]? =some (.cells #[.int .u64 0,.int .i64 0,.int .i64 0] 256 (0,0))):=z7 ((a1.block _ a5).trans a4.o);have O:Hid (Below w.heap.size w W):=z7 (a3.o.trans (a1.mono a3.o.size));clear a1 a0 a5;unfold z4H at hW;rw[<-hW];have HW:=z7 hW;clear hW hg;have hz:Hid (W.cell? ⟨w.heap.size,0,none⟩=some (.int .u64 0)/\W.cell? ⟨w.heap.size,1,none⟩=some (.int .i64 0)/\W.cell? ⟨w.heap.size,2,none⟩=some (.int .i64 0)/\W.frozen? ⟨w.heap.size,0,none⟩=false/\W.frozen? ⟨w.heap.size,1,none⟩=false/\W.frozen? ⟨w.heap.size,2,none⟩=false):=z7 (by have:=N.o;refine⟨?_,?_,?_,?_,?_,?_⟩<;>simp[World.cell?,World.frozen?,this]);obtain⟨rv,a2⟩:=zN y1d;unfold y1d at a2;rw[<-a2];clear a2;go_loopw[5] (fun kv wr=>∃k:Nat,kv= .int .i64 k/\k<=z0W n/\wr=W) (fun kv _=>match kv with | .int _ x=>5 - x.toNat|_=>0)
 case atStart=>exact⟨0,rfl,wF,rfl⟩
 case round=>
  obtain⟨k,rfl,J,rfl⟩:=hrel;have a6:k<6:=by have:=z5R n;omega
  have a7:k=0\/k=1\/k=2\/k=3\/k=4\/k=5:=wF
  clear a6;obtain rfl|rfl|rfl|rfl|rfl|rfl:=a7
  .skip
   have y0:wr.cell? ⟨I.heap.size,0,none⟩=some (.int .u64 0):=L.o 0 _ rfl;have y1:wr.cell? ⟨I.heap.size,1,none⟩=some (.int .i64 1):=L.o 1 _ rfl;have y2:wr.cell? ⟨I.heap.size,2,none⟩=some (.int .i64 0):=L.o 2 _ rfl;by_cases U:n<1
   .obtain rfl:n=0:=wF
    have A:z0W 0=0:=rfl;have R:=z7 A;clear A J h;obtain⟨z0,z1,z2,f0,f1,f2⟩:=hz.o;go_wp2;go_region
    all_goals
     go_wp2;refine wU (z8E rfl _ _ w.heap.size _ _ _ rfl (z4w N.o _ _ _) rfl) rfl ?_;exact z5V R.o O.o rfl rfl rfl
   have Y:((n:Int)==0)=false:=(by simp;omega);have A:1<=z0W n:=(by revert J;unfold z0W;(repeat' split)<;>omega);clear J U h;go_wp2;exact⟨⟨1,rfl,A,trivial⟩,by show 5 - (1:Int).toNat<5 - ((0:Nat):Int).toNat;decide⟩
  .skip
   have y0:wr.cell? ⟨I.heap.size,3,none⟩=some (.int .u64 2):=L.o 3 _ rfl;have y1:wr.cell? ⟨I.heap.size,4,none⟩=some (.int .i64 2):=L.o 4 _ rfl;have y2:wr.cell? ⟨I.heap.size,5,none⟩=some (.int .i64 7):=L.o 5 _ rfl;by_cases U:n<128
   .have Y:(n:Int)/128=0:=wF;have A:z0W n=1:=(by revert J;unfold z0W;(repeat' split)<;>omega);have R:=z7 A;clear A J h;obtain⟨z0,z1,z2,f0,f1,f2⟩:=hz.o;go_wp2;go_region
    all_goals
     go_wp2;refine wU (z8E rfl _ _ w.heap.size _ _ _ rfl (z4w N.o _ _ _) rfl) rfl ?_;exact z5V R.o O.o rfl rfl rfl
   have Y:((n:Int)/128==0)=false:=(by simp;omega);have A:2<=z0W n:=(by revert J;unfold z0W;(repeat' split)<;>omega);clear J U h;go_wp2;exact⟨⟨2,rfl,A,trivial⟩,by show 5 - (2:Int).toNat<5 - ((1:Nat):Int).toNat;decide⟩
  .skip
   have y0:wr.cell? ⟨I.heap.size,6,none⟩=some (.int .u64 6):=L.o 6 _ rfl;have y1:wr.cell? ⟨I.heap.size,7,none⟩=some (.int .i64 3):=L.o 7 _ rfl;have y2:wr.cell? ⟨I.heap.size,8,none⟩=some (.int .i64 9):=L.o 8 _ rfl;by_cases U:n<512
   .have Y:(n:Int)/512=0:=wF;have A:z0W n=2:=(by revert J;unfold z0W;(repeat' split)<;>omega);have R:=z7 A;clear A J h;obtain⟨z0,z1,z2,f0,f1,f2⟩:=hz.o;go_wp2;go_region
    all_goals
     go_wp2;refine wU (z8E rfl _ _ w.heap.size _ _ _ rfl (z4w N.o _ _ _) rfl) rfl ?_;exact z5V R.o O.o rfl rfl rfl
   have Y:((n:Int)/512==0)=false:=(by simp;omega);have A:3<=z0W n:=(by revert J;unfold z0W;(repeat' split)<;>omega);clear J U h;go_wp2;exact⟨⟨3,rfl,A,trivial⟩,by show 5 - (3:Int).toNat<5 - ((2:Nat):Int).toNat;decide⟩
  .skip
   have y0:wr.cell? ⟨I.heap.size,9,none⟩=some (.int .u64 14):=L.o 9 _ rfl;have y1:wr.cell? ⟨I.heap.size,10,none⟩=some (.int .i64 4):=L.o 10 _ rfl;have y2:wr.cell? ⟨I.heap.size,11,none⟩=some (.int .i64 12):=L.o 11 _ rfl;by_cases U:n<4096
   .have Y:(n:Int)/4096=0:=wF;have A:z0W n=3:=(by revert J;unfold z0W;(repeat' split)<;>omega);have R:=z7 A;clear A J h;obtain⟨z0,z1,z2,f0,f1,f2⟩:=hz.o;go_wp2;go_region
    all_goals
     go_wp2;refine wU (z8E rfl _ _ w.heap.size _ _ _ rfl (z4w N.o _ _ _) rfl) rfl ?_;exact z5V R.o O.o rfl rfl rfl
   have Y:((n:Int)/4096==0)=false:=(by simp;omega);have A:4<=z0W n:=(by revert J;unfold z0W;(repeat' split)<;>omega);clear J U h;go_wp2;exact⟨⟨4,rfl,A,trivial⟩,by show 5 - (4:Int).toNat<5 - ((3:Nat):Int).toNat;decide⟩
  .skip
   have y0:wr.cell? ⟨I.heap.size,12,none⟩=some (.int .u64 30):=L.o 12 _ rfl;have y1:wr.cell? ⟨I.heap.size,13,none⟩=some (.int .i64 5):=L.o 13 _ rfl;have y2:wr.cell? ⟨I.heap.size,14,none⟩=some (.int .i64 32):=L.o 14 _ rfl;by_cases U:n<4294967296
   .have Y:(n:Int)/4294967296=0:=wF;have A:z0W n=4:=(by revert J;unfold z0W;(repeat' split)<;>omega);have R:=z7 A;clear A J h;obtain⟨z0,z1,z2,f0,f1,f2⟩:=hz.o;go_wp2;go_region
    all_goals
     go_wp2;refine wU (z8E rfl _ _ w.heap.size _ _ _ rfl (z4w N.o _ _ _) rfl) rfl ?_;exact z5V R.o O.o rfl rfl rfl
   have Y:((n:Int)/4294967296==0)=false:=(by simp;omega);have A:5<=z0W n:=(by revert J;unfold z0W;(repeat' split)<;>omega);clear J U h;go_wp2;exact⟨⟨5,rfl,A,trivial⟩,by show 5 - (5:Int).toNat<5 - ((4:Nat):Int).toNat;decide⟩
  skip
  have y0:wr.cell? ⟨I.heap.size,15,none⟩=some (.int .u64 31):=L.o 15 _ rfl;have y1:wr.cell? ⟨I.heap.size,16,none⟩=some (.int .i64 5):=L.o 16 _ rfl;have y2:wr.cell? ⟨I.heap.size,17,none⟩=some (.int .i64 64):=L.o 17 _ rfl;have A:z0W n=5:=(by have:=z5R n;omega);have R:=z7 A;clear A J h;obtain⟨z0,z1,z2,f0,f1,f2⟩:=hz.o;go_wp2;go_region
  all_goals
   go_wp2;refine wU (z8E rfl _ _ w.heap.size _ _ _ rfl (z4w N.o _ _ _) rfl) rfl ?_;exact z5V R.o O.o rfl rfl rfl
def y2o(k:Nat):Nat:= [0,2,6,14,30,31].getD k 31
def y7h(k:Nat):Nat:= [1,2,3,4,5,5].getD k 5
theorem z6m{k:Nat}(h:k<=5):y0s k=z3o (y2o k) (y7h k)/\y2o k<18446744073709551616/\y7h k<=64/\z4o k<=64:=by
 match k,h with
 | 0,_=>decide
 | 1,_=>decide
 | 2,_=>decide
 | 3,_=>decide
 | 4,_=>decide
 | 5,_=>decide
theorem q5Q{k:Nat}(h:k<=5):z4H[k*3]? =some (.int .u64 (y2o k:Nat))/\z4H[k*3+1]? =some (.int .i64 (y7h k:Nat))/\z4H[k*3+2]? =some (.int .i64 (z4o k:Nat)):=by
 match k,h with
 | 0,_=>exact⟨rfl,rfl,rfl⟩
 | 1,_=>exact⟨rfl,rfl,rfl⟩
 | 2,_=>exact⟨rfl,rfl,rfl⟩
 | 3,_=>exact⟨rfl,rfl,rfl⟩
 | 4,_=>exact⟨rfl,rfl,rfl⟩
 | 5,_=>exact⟨rfl,rfl,rfl⟩
theorem y4o(n:Nat)(h:n<18446744073709551616)(w:World):
  Calls prog 137 #[.int .u64 n] w fun e w'=>e= .returned (.tuple #[.int .i64 (z0W n:Nat),.agg #[.int .u64 (y2o (z0W n):Nat),.int .i64 (y7h (z0W n):Nat),.int .i64 (z4o (z0W n):Nat)]])/\Below w.heap.size w w':=by
 refine(q2s n h w).mono ?_;rintro e w' ⟨hb,x,y,z,rfl,A,I,J⟩;obtain⟨L,N,O⟩:=q5Q (z5R n);rw[L]at A;rw[N]at I;rw[O]at J;cases A;cases I;cases J;exact⟨rfl,hb⟩
theorem q7F(a:Option Addr)(n c:Nat)(l:List Bool)(b:List UInt8)(v:Int)(w:World)(h:z0r w a n c l b)(hl:l.length<=549755813000)(h1: -9223372036854775808<=v)(h2:v<=9223372036854775807):
  Calls prog 100 #[.agg #[.slice a n c,.int .i64 l.length],.int .i64 v] w (z8u w (l++y0P v)):=by
 obtain⟨N,hN⟩:=zN l.length;rw[<-hN];have hF:=y1O h1 h2;obtain⟨m,hm⟩:=zN (z4Q v);have J:=q5t v h1 h2;rw[<-hm]at J hF;have a7:m<18446744073709551616:=hF;obtain⟨k,hk⟩:=zN (z0W m);have I:=y4o m a7;rw[<-hk]at I;have aX:k<=5:=by rw[hk];exact z5R m
 obtain⟨aG,aH,aI,aJ⟩:=z6m aX;obtain⟨A,hA⟩:=zN (y2o k);obtain⟨M,hM⟩:=zN (y7h k);obtain⟨D,hD⟩:=zN (z4o k);obtain⟨R,hR⟩:=zN ((l++z3o A M)++z3o m D);have Y:l++y0P v=R:=by
  unfold y0P;rw[<-hm,<-hk,aG,hR,hA,hM,hD,wj]
 rw[Y];rw[<-hA]at I aH;rw[<-hM]at I aI;rw[<-hD]at I aJ;have aT:=z7 J;have aS:=z7 I;have H:=z7 h;have HN:=z7 hN;have HR:=z7 hR;have aZ:N<=549755813000:=wF
 clear J I hm hk hA hM hD Y aG hF h hN hl hR;have aU:=z7 (((Loc.start w).new (.cells #[.slice a n c,.int .i64 (N:Nat)] 49)).new' (.cells #[.slice none 0 0,.int .i64 0] 49) (n:=w.heap.size+1) wH);go_enter func100,ntmps100;go_wp2_with fail;refine(aT.o _).mono ?_;rintro e w1 ⟨rfl,rfl⟩;go_wp2_with fail;refine(aS.o _).mono ?_;rintro e w2 ⟨rfl,aL⟩;have U:=z7 (aU.o.call aL);clear aL;obtain⟨c0,c1,cf⟩:=z0m (U.o.get 1 rfl);have l0:=U.o.lt 1 rfl;have l1:=U.o.lt 0 rfl;go_wp2_with fail;have hP:=y5d a n c l b A M (w2.alloc (.cells #[.int .u64 A,.int .i64 M,.int .i64 D] 256)) ((H.o.low U.o.low).low (q5 _ _)) (by have:=HN.o;omega) aH aI;rw[<-HN.o]at hP;refine hP.mono ?_;rintro e w4 ⟨a4,n4,c4,b4,rfl,a0,aO,L,aM⟩;have a2:=z7 ((U.o.new (.cells #[.int .u64 A,.int .i64 M,.int .i64 D] 256)).call aM);have H4:=z7 (z5F a0 aO L);obtain⟨q4,a5⟩:=zN (l++z3o A M);rw[<-a5]at H4 HR;obtain⟨N4,a3⟩:=zN q4.length;have aY:N4<=549755813888:=by rw[a3,a5,wP,z1h];have:=HN.o;omega
 rw[<-a5,<-a3];have aC:=z7 a3;clear aM a0 aO L a5 a3 hP c0 c1 cf;obtain⟨d0,d1,d2,df⟩:=cells3 (a2.o.get 0 rfl);have l4:=a2.o.lt 0 rfl;have l5:=a2.o.lt 1 rfl;go_wp2_with fail;have hP:=y5d a4 n4 c4 q4 b4 m D (w4.alloc (.cells #[.slice a4 n4 c4,.int .i64 N4] 49)) (H4.o.low (q5 _ _)) (by have:=aC.o;omega) a7 aJ;rw[<-aC.o,<-HR.o]at hP;refine hP.mono ?_;rintro e w6 ⟨a6,n6,c6,b6,rfl,a1,aR,O,aN⟩;have aA:=z7 (((a2.o.new (.cells #[.slice a4 n4 c4,.int .i64 N4] 49)).call aN).less.less);obtain⟨N6,a9⟩:=zN R.length;rw[<-a9];have aE:=z7 a9;have aF:=z7 a1;have aV:=z7 aR;have a8:=z7 O;clear aN a1 aR O a9 hP d0 d1 d2 df;obtain⟨d0,d1,df⟩:=z0m (aA.o.get 0 rfl);go_wp2_with fail;have aB:=(aA.o.set 0 rfl 0 (.slice a6 n6 c6)).set 0 rfl 1 (.int .i64 N6);refine wU (z7A rfl _ _ (w.heap.size+1) (.slice a6 n6 c6) (.int .i64 N6) rfl (aB.get 0 rfl) rfl rfl) rfl ?_;rw[aE.o];exact q4K aF.o (by show w.heap.size<=(w4.alloc _).heap.size;simp;omega) aV.o a8.o (by rw[<-aE.o];exact aB.low) fun k hk _=>by
  have:w.heap.size+1<k:=by simp at hk;omega
  rw[q7 wF,q7 wF]
def z8K(l:List Bool)(i:Nat)(w:World)(e:Ending)(w':World):Prop:=
 Below w.heap.size w w'/\((∃k r,z5b (l.drop i)=some (k,r)/\k<=5/\r=l.drop (l.length - r.length)/\r.length<=l.length/\e= .returned (.tuple #[.int .i64 (k:Nat),.int .i64 ((l.length - r.length:Nat):Int),.int .u16 0]))\/
  (z5b (l.drop i)=none/\e= .returned (.tuple #[.int .i64 0,.int .i64 0,.int .u16 10])))
theorem z9P{l:List Bool}{i:Nat}:z2Z l i 1=(if l.getD i false then 1 else 0)/\z2D l i 1=(if i<l.length then 0 else 10):=by
 unfold z2Z z2D;by_cases h:i<l.length
 .have A:i+1<=l.length:=h;simp only[wZ A,wZ h];refine⟨?_,trivial⟩;have e:(l.drop i).take 1= [l[i]]:=by rw[pG h];rfl
  rw[e];simp only[wu,wL h,ki];cases l[i]<;>decide
 have A:¬i+1<=l.length:=h;simp only[wR A,wR h,z6d (show l.length<=i by omega)];exact⟨rfl,trivial⟩
theorem z9u:∀(k:Nat),k<=5->∀(l:List Bool),(∀j,j<k->l[j]? =some true)->(k=5->z5b l=some (5,l.drop 5))/\(k<5->l[k]? =some false->z5b l=some (k,l.drop (k+1)))/\(k<5->l[k]? =none->z5b l=none):=by
 intro k R l h
 match k,R with
 | 0,_=>
  refine⟨fun h=>wF,fun _ A=>?_,fun _ A=>?_⟩
  .match l,A with
   | false::r,_=>rfl
  match l,A with
  | [],_=>rfl
 | 1,_=>
  have I:=h 0 wF;refine⟨fun h=>wF,fun _ A=>?_,fun _ A=>?_⟩
  .match l,I,A with
   | true::false::r,_,_=>rfl
  match l,I,A with
  | [true],_,_=>rfl
 | 2,_=>
  have I:=h 0 wF;have J:=h 1 wF;refine⟨fun h=>wF,fun _ A=>?_,fun _ A=>?_⟩
  .match l,I,J,A with
   | true::true::false::r,_,_,_=>rfl
  match l,I,J,A with
  | [true,true],_,_,_=>rfl
 | 3,_=>
  have I:=h 0 wF;have J:=h 1 wF;have L:=h 2 wF;refine⟨fun h=>wF,fun _ A=>?_,fun _ A=>?_⟩
  .match l,I,J,L,A with
   | true::true::true::false::r,_,_,_,_=>rfl
  match l,I,J,L,A with
  | [true,true,true],_,_,_,_=>rfl
 | 4,_=>
  have I:=h 0 wF;have J:=h 1 wF;have L:=h 2 wF;have N:=h 3 wF;refine⟨fun h=>wF,fun _ A=>?_,fun _ A=>?_⟩
  .match l,I,J,L,N,A with
   | true::true::true::true::false::r,_,_,_,_,_=>rfl
  match l,I,J,L,N,A with
  | [true,true,true,true],_,_,_,_,_=>rfl
 | 5,_=>
  have I:=h 0 wF;have J:=h 1 wF;have L:=h 2 wF;have N:=h 3 wF;have O:=h 4 wF;refine⟨fun _=>?_,fun h=>wF,fun h=>wF⟩
  match l,I,J,L,N,O with
  | true::true::true::true::true::r,_,_,_,_,_=>rfl
theorem q3O(a:Option Addr)(n c:Nat)(l:List Bool)(b:List UInt8)(i:Nat)(w:World)(h:z0r w a n c l b)(hl:l.length<=549755813888)(hi:i<=l.length):
  Calls prog 203 #[.agg #[.slice a n c,.int .i64 l.length],.int .i64 i] w (z8K l i w):=by
 obtain⟨N,hN⟩:=zN l.length;rw[<-hN];obtain⟨W1,U⟩:=zN (w.alloc (.cells #[.slice a n c,.int .i64 (N:Nat)] 49));have a3:Below w.heap.size w W1:=by rw[U];exact q5 _ _
 have Y:=j8 w (.cells #[.slice a n c,.int .i64 (N:Nat)] 49);rw[<-U]at Y;have a8:w.heap.size<W1.heap.size:=(wI.1 Y).1;have aC:Hid (∀w',Below W1.heap.size W1 w'->w'.cell? ⟨w.heap.size,0,none⟩=some (.slice a n c)/\w'.cell? ⟨w.heap.size,1,none⟩=some (.int .i64 (N:Nat))):=z7 fun w' hw=>by
  have h1:=(hw.block w.heap.size a8).trans Y;constructor<;>simp[World.cell?,h1]
 have HW:=z7 U;have HN:=z7 hN;have a6:=z7 a3;have HX:=z7 (h.low a3);have aL:N<=549755813888:=wF
 have aE:i<=N:=wF
 clear U h hN a3 Y hl hi;go_enter func203,ntmps203;go_upto_region 1 with fail
 rw[<-HW.o];go_wp2_with fail;go_loopw[1,10] (fun pv kv wr=>∃p k:Nat,pv= .int .i64 p/\kv= .int .i64 k/\k<=5/\p<=N/\Hid (p=i+k)/\Hid (∀j,j<k->(l.drop i)[j]? =some true)/\Hid (Below W1.heap.size W1 wr)) (fun _ kv _=>match kv with | .int _ x=>5 - x.toNat|_=>0)
 case atStart=>exact⟨i,0,rfl,rfl,wF,aE,z7 rfl,z7 (fun j hj=>wF),z7 wD⟩
 case round=>
  obtain⟨p,k,rfl,rfl,hk,aM,hp,A,hb⟩:=hrel;obtain⟨y0,y1⟩:=aC.o wr hb.o;have a4:Hid ((l.drop i)[k]? =l[p]?):=z7 (by rw[ri,hp.o]);have L:Hid (∀w',Below wr.heap.size wr w'->Below w.heap.size w w'):=z7 fun w' O=>a6.o.trans ((hb.o.trans (O.mono hb.o.size)).mono a6.o.size);by_cases a7:k<5
  .have d0:(k:Int)<5:=wF;have aJ:IntKind.i64.wrap ((k:Int)+1)=((k+1:Nat):Int):=z0l wF wF;obtain⟨k',a0⟩:=zN (k+1);obtain⟨p',a5⟩:=zN (p+1);have aN:IntKind.i64.wrap ((p:Int)+1)=(p':Int):=(by rw[z0l wF wF];omega);rw[<-a0]at aJ;have R:=y2z a n c l b p 1 wr (HX.o.low hb.o) (by have:=HN.o;omega) wF wG;rw[z9P.1,z9P.2,<-HN.o]at R;by_cases a9:p<N
   .rw[wZ a9]at R;obtain⟨x,hx⟩:=zN (l.getD p false);rw[<-hx]at R;have a1:l[p]? =some x:=(by rw[hx];simp[wu,show p<l.length by have:=HN.o;omega]);cases x with
    | false=>
     have J:Hid (∀w',Below wr.heap.size wr w'->z8K l i w (.returned (.tuple #[.int .i64 k,.int .i64 (p':Nat),.int .u16 0])) w'):=z7 fun w' O=>by
      have h9:=(z9u k hk (l.drop i) A.o).2.1 a7 (by rw[a4.o,a1]);have aH:=hp.o;have aB:=HN.o;refine⟨L.o w' O,.inl ⟨k,_,h9,hk,?_,(by simp<;>omega),?_⟩⟩
      .rw[oe];congr 1;simp;try omega
      rw[uE,uE,show l.length - (l.length - i - (k+1))=p' by omega]
     have HG:=z7 R;clear R hx a1 a0 a5;go_wp2_with fail;refine HG.o.mono ?_;rintro e w2 ⟨rfl,I⟩;have HF:=z7 (J.o w2 I);clear I;go_wp2;go_ret3
     exact HF.o
    | true=>
     have aG:Hid (∀j,j<k'->(l.drop i)[j]? =some true):=z7 fun j hj=>by
      by_cases aF:j<k
      .exact A.o j aF
      obtain rfl:j=k:=wF
      rw[a4.o,a1]
     have aI:Hid (p'=i+k'):=z7 (by have:=hp.o;omega);have a2:k'<=5/\p'<=N/\k<k':=wF;have HG:=z7 R;clear R hx a1 a0 a5;go_wp2_with fail;refine HG.o.mono ?_;rintro e w2 ⟨rfl,I⟩;have aA:=z7 (hb.o.trans (I.mono hb.o.size));clear I;go_wp2;exact⟨⟨p',k',rfl,rfl,a2.1,a2.2.1,aI,aG,aA⟩,by show 5 - (k':Int).toNat<5 - (k:Int).toNat;omega⟩
   rw[wR a9,show l.getD p false=false from z6d (by have:=HN.o;omega)]at R;have J:Hid (∀w',Below wr.heap.size wr w'->z8K l i w (.returned (.tuple #[.int .i64 0,.int .i64 0,.int .u16 10])) w'):=z7 fun w' O=>by
    have h9:=(z9u k hk (l.drop i) A.o).2.2 a7 (by rw[a4.o];exact uw (by have:=HN.o;omega));exact⟨L.o w' O,.inr ⟨h9,rfl⟩⟩
   have HG:=z7 R;clear R a0 a5;go_wp2_with fail;refine HG.o.mono ?_;rintro e w2 ⟨rfl,I⟩;have HF:=z7 (J.o w2 I);clear I;go_wp2;go_ret3
   exact HF.o
  obtain rfl:k=5:=wF
  have J:Hid (z8K l i w (.returned (.tuple #[.int .i64 5,.int .i64 p,.int .u16 0])) wr):=z7 (by
   have h9:=(z9u 5 hk (l.drop i) A.o).1 rfl;have aH:=hp.o;have aB:=HN.o;refine⟨L.o wr wD,.inl ⟨5,_,h9,hk,?_,(by simp<;>omega),?_⟩⟩
   .rw[oe];congr 1;simp;try omega
   rw[uE,uE,show l.length - (l.length - i - 5)=p by omega];rfl)
  go_wp2;go_ret3
  exact J.o
def z7s(l:List Bool)(i:Nat)(w:World)(e:Ending)(w':World):Prop:=
 Below w.heap.size w w'/\((∃v r,z9A (l.drop i)=some (v,r)/\r=l.drop (l.length - r.length)/\r.length<=l.length/\e= .returned (.tuple #[.int .i64 v,.int .i64 ((l.length - r.length:Nat):Int),.int .u16 0]))\/
  (z9A (l.drop i)=none/\∃x:Nat,0<x/\x<100/\e= .returned (.tuple #[.int .i64 0,.int .i64 0,.int .u16 x])))
theorem q1j{l:List Bool}{i:Nat}{w w':World}(h:z5b (l.drop i)=none)(hb:Below w.heap.size w w'):z7s l i w (.returned (.tuple #[.int .i64 0,.int .i64 0,.int .u16 10])) w':=
 ⟨hb,.inr ⟨by unfold z9A;rw[h],10,wG,wG,rfl⟩⟩
theorem q1h{l r:List Bool}{i k:Nat}{w w':World}(h:z5b (l.drop i)=some (k,r))(A:r.length<z4o k)(hb:Below w.heap.size w w'):z7s l i w (.returned (.tuple #[.int .i64 0,.int .i64 0,.int .u16 10])) w':=
 ⟨hb,.inr ⟨by unfold z9A rdN;rw[h];simp only;rw[wR wF],10,wG,wG,rfl⟩⟩
theorem q1Z{l r:List Bool}{i k:Nat}{w w':World}(h:z5b (l.drop i)=some (k,r))(I:z4o k<=r.length)(A:z0W (z3R (r.take (z4o k)))≠k)(hb:Below w.heap.size w w'):z7s l i w (.returned (.tuple #[.int .i64 0,.int .i64 0,.int .u16 11])) w':=
 ⟨hb,.inr ⟨by unfold z9A rdN;rw[h];simp only;rw[wZ I];simp only;rw[wR A],11,wG,wG,rfl⟩⟩
theorem q4C{l r:List Bool}{i k m p:Nat}{w w':World}(h:z5b (l.drop i)=some (k,r))(A:r=l.drop (l.length - r.length))(N:r.length<=l.length)(L:z4o k<=r.length)(J:m=z3R (r.take (z4o k)))(I:z0W m=k)(O:p=l.length - r.length+z4o k)(hb:Below w.heap.size w w'):
  z7s l i w (.returned (.tuple #[.int .i64 (z3U m),.int .i64 p,.int .u16 0])) w':=by
 refine⟨hb,.inl ⟨z3U m,r.drop (z4o k),?_,?_,?_,?_⟩⟩
 .unfold z9A rdN;rw[h];simp only;rw[wZ L];simp only;rw[<-J,wZ I]
 .rw[uE]
  conv=>lhs;rw[A]
  rw[oe]
  congr 1
  omega
 .rw[uE];omega
 rw[uE,show l.length - (r.length - z4o k)=p by omega]
theorem q4B{k:Nat}(A:k<=5):∃x y:Int,∀w:World,Sem.run prog (Instr.index 295 y1d (.int .i64 k)) w= .ok (.agg #[.int .u64 x,.int .i64 y,.int .i64 (z4o k:Nat)]) w:=by
 obtain rfl|rfl|rfl|rfl|rfl|rfl:k=0\/k=1\/k=2\/k=3\/k=4\/k=5:=wF
 .exact⟨0,1,fun w=>by kernel_rfl⟩
 .exact⟨2,2,fun w=>by kernel_rfl⟩
 .exact⟨6,3,fun w=>by kernel_rfl⟩
 .exact⟨14,4,fun w=>by kernel_rfl⟩
 .exact⟨30,5,fun w=>by kernel_rfl⟩
 exact⟨31,5,fun w=>by kernel_rfl⟩
theorem q4s(x y z:Int)(w:World):Sem.run prog (Instr.field 256 (.agg #[.int .u64 x,.int .i64 y,.int .i64 z]) 2) w= .ok (.int .i64 z) w:=by kernel_rfl
theorem q7U(a:Option Addr)(n c:Nat)(l:List Bool)(b:List UInt8)(i:Nat)(w:World)(h:z0r w a n c l b)(hl:l.length<=549755813000)(hi:i<=l.length):
  Calls prog 181 #[.agg #[.slice a n c,.int .i64 l.length],.int .i64 i] w (z7s l i w):=by
 obtain⟨N,hN⟩:=zN l.length;rw[<-hN];have HW:=z7 (q3O a n c l b i);rw[<-hN]at HW;have H:=z7 h;have HN:=z7 hN;have HI:=z7 hi;have aR:N<=549755813000:=wF
 clear h hN hl hi;have aN:=z7 ((Loc.start w).new (.cells #[.slice a n c,.int .i64 (N:Nat)] 49));go_enter func181,ntmps181;go_wp2_with fail;refine(HW.o _ (H.o.low (q5 _ _)) (by have:=HN.o;omega) (by have:=HN.o;have:=HI.o;omega)).mono ?_;rintro e w2 ⟨aE,A⟩;have U:=z7 (aN.o.call aE);have HT:=z7 A;clear aE A;obtain⟨c0,c1,cf⟩:=z0m (U.o.get 0 rfl);rcases HT.o with⟨k,r,I,R,a7,aJ,rfl⟩|⟨I,rfl⟩
 .obtain⟨p,hp⟩:=zN (l.length - r.length);rw[<-hp];have aU:p<=N:=by have:=HN.o;omega
  have hG:Hid (∀w',Below w2.heap.size w2 w'->Calls prog 180 #[.agg #[.slice a n c,.int .i64 (N:Nat)],.int .i64 (p:Nat),.int .i64 (z4o k:Nat)] w' fun e aL=>
    ((z4o k<=r.length/\e= .returned (.tuple #[.int .u64 (z3R (r.take (z4o k)):Nat),.int .u16 0]))\/(r.length<z4o k/\e= .returned (.tuple #[.int .u64 0,.int .u16 10])))/\Below w'.heap.size w' aL):=z7 fun w' hb=>by
   have:=y2z a n c l b p (z4o k) w' ((H.o.low U.o.low).low hb) (by have:=HN.o;omega) (by have:=HN.o;omega) (z6m R).2.2.2;rw[<-HN.o]at this;refine this.mono ?_;rintro e aL ⟨rfl,aO⟩;refine⟨?_,aO⟩;by_cases J:z4o k<=r.length
   .refine .inl ⟨J,?_⟩;unfold z2Z z2D;rw[wZ wF,wZ wF,hp,<-a7];rfl
   refine .inr ⟨wF,?_⟩;unfold z2Z z2D;rw[wR wF,wR wF];rfl
  have aC:=z7 (fun w' (hr:r.length<z4o k) (hb:Below w.heap.size w w')=>q1h (w:=w) I hr hb);have aB:=z7 (fun w' (hr:z4o k<=r.length) (J:z0W (z3R (r.take (z4o k)))≠k) (hb:Below w.heap.size w w')=>q1Z (w:=w) I hr J hb);have a2:=z7 (fun w' m q (hr:z4o k<=r.length) (hm:m=z3R (r.take (z4o k))) (J:z0W m=k) (hq:q=l.length - r.length+z4o k) (hb:Below w.heap.size w w')=>q4C (w:=w) I a7 aJ hr hm J hq hb);have a5:Hid (z3R (r.take (z4o k))<18446744073709551616):=z7 (wS (z7w _) (uU wG (by have:=(z6m R).2.2.2;simp;omega):2^_<=2^64));have HP:=z7 hp;obtain⟨X,Y,O⟩:=q4B R;have aH:=(z6m R).2.2.2;obtain⟨d,hd⟩:=zN (z4o k);rw[<-hd]at hG aC aB a2 a5 aH;simp only[<-hd]at O;clear I a7 aJ hp HT hd R;have aV:IntKind.i64.wrap ((p:Int)+d)=((p+d:Nat):Int):=by rw[z0l wF wF];omega
  go_wp2_with fail;refine(y9Z _).mono ?_;rintro e w3 ⟨rfl,a6⟩;have a8:=z7 (U.o.call a6);have aM:=z7 (hG.o w3 a6);clear a6 c0 c1 cf;obtain⟨c0,c1,cf⟩:=z0m (a8.o.get 0 rfl);have aT:=O w3;have aS:=q4s X Y d w3;clear O;go_wp2_with fail;refine aM.o.mono ?_;rintro e w4 ⟨A,aF⟩;have a9:=z7 (a8.o.call aF);clear aF c0 c1 cf;rcases A with⟨a3,rfl⟩|⟨aI,rfl⟩
  .have a1:=z7 a3;obtain⟨m,hm⟩:=zN (z3R (r.take d));have a4:m<18446744073709551616:=(by rw[hm];exact a5.o);rw[<-hm];have HM:=z7 hm;clear hm a3;go_wp2_with fail;refine(y4o m a4 _).mono ?_;rintro e w5 ⟨rfl,aG⟩;have aA:=z7 (a9.o.call aG);clear aG;obtain⟨f,J⟩:=zN (z0W m);rw[<-J];by_cases a0:f=k
   .have L:Hid (∀w',Below w.heap.size w w'->z7s l i w (.returned (.tuple #[.int .i64 (z3U m),.int .i64 ((p+d:Nat):Int),.int .u16 0])) w'):=z7 fun w' hb=>a2.o w' m (p+d) a1.o HM.o (by rw[<-J,a0]) (by rw[HP.o]) hb;clear J;subst a0;go_wp2_with fail;refine(q1I m a4 _).mono ?_;rintro e w6 ⟨rfl,rfl⟩;go_wp2;go_ret3
    exact L.o _ ((aA.o.new _).low)
   have d3:((f:Int)==k)=false:=(by simp;omega);have L:Hid (∀w',Below w.heap.size w w'->z7s l i w (.returned (.tuple #[.int .i64 0,.int .i64 0,.int .u16 11])) w'):=z7 fun w' hb=>aB.o w' a1.o (by rw[<-HM.o,<-J];exact a0) hb;clear J a0;go_wp2;go_ret3
   exact L.o _ ((aA.o.new _).low)
  have HF:=z7 (aC.o w4 aI a9.o.low);clear aI;go_wp2;go_ret3
  exact HF.o
 have HF:=z7 (fun w' (hb:Below w.heap.size w w')=>q1j (w:=w) I hb);clear I HT;go_wp2_with fail;go_ret3
 exact HF.o _ U.o.low

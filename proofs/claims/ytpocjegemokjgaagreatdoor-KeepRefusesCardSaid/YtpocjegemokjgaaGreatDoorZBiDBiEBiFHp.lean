/-
  The walk of bit.Get.
-/
import Derived.Test.YtpocjegemokjgaaGreatDoorZBiABiBBiC
namespace Go.Proofs.YtpocjegemokjgaaGreatDoor
open Go.Proofs.Tryz
set_option linter.all false
set_option maxRecDepth 100000
set_option maxHeartbeats 12800000
open Go.RowKit
def z5z(l:List Bool)(i:Nat):Nat:=z2N ((List.range 8).map fun j=>l.getD (i+j) false)
theorem z3V(l:List Bool)(i:Nat):z5z l i<256/\∀j,j<8->(z5z l i).testBit (7 - j)=l.getD (i+j) false:=by
 have I:=z5P ((List.range 8).map fun j=>l.getD (i+j) false);refine⟨by unfold z5z;simpa using I,fun j B=>?_⟩;have A:=z9n ((List.range 8).map fun j=>l.getD (i+j) false) j (by simpa using B);simp only[List.length_map,List.length_range]at A;rw[show 8 - 1 - j=7 - j by omega]at A;unfold z5z;rw[A];simp[List.getD_eq_getElem?_getD,B]
theorem y3K{y:Nat}{l:List Bool}{i:Nat}(J:y<256)(h:∀j,j<8->y.testBit (7 - j)=l.getD (i+j) false):y=z5z l i:=by
 obtain⟨B,I⟩:=z3V l i;apply Nat.eq_of_testBit_eq;intro k;by_cases hk:k<8
 ·have:=(h (7 - k) (by omega)).trans (I (7 - k) (by omega)).symm
  rwa [show 7 - (7 - k)=k by omega]at this
 ·have A:(256:Nat)<=2^k:=by rw[show(256:Nat)=2^8 from rfl];exact Nat.pow_le_pow_right (by decide) (by omega)
  rw[Nat.testBit_lt_two_pow (Nat.lt_of_lt_of_le J A),Nat.testBit_lt_two_pow (Nat.lt_of_lt_of_le B A)]
theorem y3x(a:Option Addr)(n c:Nat)(l:List Bool)(b:List UInt8)(i:Nat)(w:World)(h:z0r w a n c l b)(A:i<l.length)(B:l.length<=1099511627776):
  Calls prog 106 #[.agg #[.slice a n c,.int .i64 l.length],.int .i64 i] w fun e w'=>e= .returned (.int .u8 (z5z l i:Nat))/\Below w.heap.size w w':=by
 refine(q5Z a n c l b i w h A B).mono ?_;rintro e w' ⟨y,rfl,J,hb,I⟩;exact⟨by rw[y3K J hb],I⟩
def z2E(l:List Bool)(i width:Nat):Nat:=if i+width<=l.length then z2N ((l.drop i).take width)else 0
def z2e(l:List Bool)(i width:Nat):Nat:=if i+width<=l.length then 0 else 10
theorem q2n{a b n:Nat}(h:b<2^n):a*2^n ||| b=a*2^n+b:=by
 rw[Nat.mul_comm];exact(Nat.two_pow_add_eq_or_of_lt h a).symm
theorem q0E{l:List Bool}{i d n:Nat}(I:n<=8)(h:i+(d+n)<=l.length):z2N ((l.drop i).take d)*2^n+z5z l (i+d)/2^(8 - n)=z2N ((l.drop i).take (d+n)):=by
 obtain⟨A,B⟩:=z3V l (i+d);rw[y9Q A B I (by omega),List.take_add,z7x,List.drop_drop];simp only[List.length_take,List.length_drop];rw[Nat.min_eq_left (by omega)]
theorem y1i(a:Option Addr)(n c:Nat)(l:List Bool)(b:List UInt8)(i width:Nat)(w:World)(h:z0r w a n c l b)(hl:l.length<=549755813888)(hi:i<=1099511627776)(hw:width<=64):
  Calls prog 169 #[.agg #[.slice a n c,.int .i64 l.length],.int .i64 i,.int .i64 width] w fun e w'=>e= .returned (.tuple #[.int .u64 (z2E l i width:Nat),.int .u16 (z2e l i width:Nat)])/\Below w.heap.size w w':=by
 obtain⟨N,hN⟩:=zN l.length;rw[<-hN];obtain⟨W1,a0⟩:=zN (w.alloc (.cells #[.slice a n c,.int .i64 (N:Nat)] 49));have a6:Below w.heap.size w W1:=by rw[a0];exact q5 _ _
 have a1:=j8 w (.cells #[.slice a n c,.int .i64 (N:Nat)] 49);rw[<-a0]at a1;have aC:w.heap.size<W1.heap.size:=(Array.getElem?_eq_some_iff.1 a1).1;have a8:Hid (∀w',Below W1.heap.size W1 w'->w'.cell? ⟨w.heap.size,0,none⟩=some (.slice a n c)/\w'.cell? ⟨w.heap.size,1,none⟩=some (.int .i64 (N:Nat))):=z7 fun w' hw=>by
  have h1:=(hw.block w.heap.size aC).trans a1;constructor<;>simp[World.cell?,h1]
 have HW:=z7 a0;have HN:=z7 hN;have B:=z7 a6;have HX:=z7 (h.low a6);have a2:=h.len;have U:=z2q h.bits;rw[<-hN]at U;have aA:=z7 U;have b1:n<=137438953473:=by have:=h.bits.len;omega
 have aX:N<=549755813888:=by omega
 have I:=z7 a2;obtain⟨x0,x1⟩:=a8.o W1 (Below.refl _ _);clear a0 h hN a6 a1 a2 U hl;have aT:decide ((width:Int)<0)=false:=decide_eq_false (by omega);have aS:decide ((64:Int)<width)=false:=decide_eq_false (by omega);have aL:decide ((i:Int)<0)=false:=decide_eq_false (by omega);go_enter func169,ntmps169;go_upto_region 1 with fail
 rw[<-HW.o];go_wp2_with fail;have a9:=z2M a c b N W1 (by have:=HX.o.rd;rw[I.o]at this;exact this) (by have:=I.o;omega) (by omega) (by omega);rw[<-I.o,aA.o]at a9;refine a9.mono ?_;rintro e w2 ⟨rfl,a7⟩;obtain⟨y0,y1⟩:=a8.o w2 a7;have a4:=z7 a7;have aO:IntKind.i64.wrap ((N:Int) - i)=(N:Int) - i:=z0n (by omega) (by omega);clear a9 a7 x0 x1;by_cases hN1:N<i
 ·have d1:decide ((N:Int)<i)=true:=decide_eq_true (by omega);have HG:Hid (z2E l i width=0/\z2e l i width=10):=z7 (by unfold z2E z2e;have:=HN.o;rw[if_neg (by omega),if_neg (by omega)];exact⟨rfl,rfl⟩);go_wp2;go_ret2;rw[HG.o.1,HG.o.2];exact⟨rfl,B.o.trans (a4.o.mono B.o.size)⟩
 have d1:decide ((N:Int)<i)=false:=decide_eq_false (by omega);by_cases hN2:N<i+width
 ·have d2:decide ((N:Int) - i<width)=true:=decide_eq_true (by omega);have HG:Hid (z2E l i width=0/\z2e l i width=10):=z7 (by unfold z2E z2e;have:=HN.o;rw[if_neg (by omega),if_neg (by omega)];exact⟨rfl,rfl⟩);go_wp2;go_ret2;rw[HG.o.1,HG.o.2];exact⟨rfl,B.o.trans (a4.o.mono B.o.size)⟩
 have d2:decide ((N:Int) - i<width)=false:=decide_eq_false (by omega);have HG:Hid (z2E l i width=z2N ((l.drop i).take width)/\z2e l i width=0):=z7 (by unfold z2E z2e;have:=HN.o;rw[if_pos (by omega),if_pos (by omega)];exact⟨rfl,rfl⟩);obtain⟨iw,b0⟩:=zN (i+width);have aW:i+width<=N:=by omega
 go_wp2_with fail;clear d1 d2 aL aT aS aO y0 y1 hN1 hN2;go_loopw[1,2,8] (fun fv kv vv wr=>∃k d:Nat,fv= .int .i64 ((i+d:Nat):Int)/\kv= .int .i64 k/\vv= .int .u64 ((z2N ((l.drop i).take d):Nat):Int)/\d+k=width/\Hid (Below W1.heap.size W1 wr)) (fun _ kv _ _=>match kv with | .int _ j=>j.toNat|_=>0)
 case atStart=>exact⟨width,0,rfl,rfl,by simp[z2N],by omega,a4⟩
 case round=>
  obtain⟨k,d,rfl,rfl,rfl,aY,hb⟩:=hrel;obtain⟨V,hV⟩:=zN (z2N ((l.drop i).take d));rw[<-hV];by_cases h0:k=0
  ·subst h0;obtain rfl:d=width:=by omega
   have HV:=z7 hV;clear hV;go_wp2;go_ret2;rw[HG.o.1,HG.o.2,HV.o];exact⟨rfl,B.o.trans (hb.o.mono B.o.size)⟩
  ·have d0:(0:Int)<k:=(by omega);have aI:V<2^d:=by
    have:=z5P ((l.drop i).take d);rw[<-hV]at this;exact Nat.lt_of_lt_of_le this (Nat.pow_le_pow_right (by decide) (by simp;omega))
   obtain⟨y,hy⟩:=zN (z5z l (i+d));have aF:y<256:=(by rw[hy];exact(z3V l (i+d)).1);have Y:Hid (∀m,m<=8->m<=k->bits .or .u64 (IntKind.u64.wrap ((V:Int)*2^m)) ((y:Int)/2^(8 - m))=((z2N ((l.drop i).take (d+m)):Nat):Int)):=z7 fun m hm aE=>by
    have aG:y/2^(8 - m)<2^m:=by
     rw[Nat.div_lt_iff_lt_mul (Nat.two_pow_pos _),<-Nat.pow_add,show m+(8 - m)=8 by omega];exact aF
    have aJ:V*2^m<2^64:=by
     have:V*2^m<2^d*2^m:=Nat.mul_lt_mul_of_pos_right aI (Nat.two_pow_pos _);rw[<-Nat.pow_add]at this;exact Nat.lt_of_lt_of_le this (Nat.pow_le_pow_right (by decide) (by omega))
    have e1:IntKind.u64.wrap ((V:Int)*2^m)=((V*2^m:Nat):Int):=by
     rw[IntKind.wrap_u64,show((V:Int)*2^m)=((V*2^m:Nat):Int) by simp];omega
    have e2:((y:Int)/2^(8 - m))=((y/2^(8 - m):Nat):Int):=(by simp);rw[e1,e2,u64_or_nat _ _ aJ (Nat.lt_of_lt_of_le aG (Nat.pow_le_pow_right (by decide) (by omega):2^m<=2^64)),q2n aG,hV,hy,q0E hm (by have:=HN.o;omega)]
   have HY:=z7 hy;have HV:=z7 hV;have hid:i+d<l.length:=(by have:=HN.o;omega);clear hy hV;have aB:Hid (∀w',Below wr.heap.size wr w'->w'.cell? ⟨w.heap.size,0,none⟩=some (.slice a n c)/\w'.cell? ⟨w.heap.size,1,none⟩=some (.int .i64 (N:Nat))):=z7 fun w' aN=>a8.o w' (hb.o.trans (aN.mono hb.o.size));obtain⟨m,hm⟩:=zN (min k 8);have aM:m<=8:=by omega
   have aE:m<=k:=(by omega);have a3:=Y.o m aM aE;have b3:IntKind.i64.wrap (((i+d:Nat):Int)+m)=((i+(d+m):Nat):Int):=(by rw[z0n (by omega) (by omega)];omega);have b4:IntKind.i64.wrap ((k:Int) - m)=((k - m:Nat):Int):=(by rw[z0n (by omega) (by omega)];omega);have b2:IntKind.i64.wrap (8 - (m:Int))=8 - (m:Int):=z0n (by omega) (by omega);obtain⟨wb,aR⟩:=zN wr;clear aR;obtain⟨R,hR⟩:=zN (z2N ((l.drop i).take (d+m)));rw[<-hR]at a3;have HR:=z7 hR;have HM:=z7 hm;clear hR Y;have aU:y/2^(8 - m)<256:=Nat.lt_of_le_of_lt (Nat.div_le_self _ _) aF;have aZ:IntKind.u64.wrap ((y:Int)/2^(8 - m))=(y:Int)/2^(8 - m):=by
    have e:((y:Int)/2^(8 - m))=((y/2^(8 - m):Nat):Int):=(by simp);rw[IntKind.wrap_u64,e]
    generalize y/2^(8 - m)=t at aU ⊢
    omega
   by_cases h8:k<=8
   ·obtain rfl:m=k:=by omega
    have aH:(m:Int)<=8:=(by omega);clear hm;go_wp2_with fail;refine q6 12 54 (fun D v w'=>Below wr.heap.size wr w') (Below.refl _ _).drew ?_;simp only[z0v];iterate 5 (refine q8.rd (e:=?_) (fun D v w' L A=>?_) ?_;rotate_left;(obtain⟨x0,x1⟩:=aB.o w' A;clear A L;go_simp;try with_reducible rfl);go_simp)
    refine q8.ca (.int .u8 (y:Nat)) (fun D v w' L A=>?_) ?_
    ·have J:=z7 A;clear A L;go_simp;go_at_call 106;have O:=y3x a n c l b (i+d) w' (HX.o.low (hb.o.trans (J.o.mono hb.o.size))) hid (by have:=HN.o;omega);rw[<-HN.o,<-HY.o]at O;refine O.mono ?_;rintro e w'' ⟨rfl,a5⟩;exact⟨rfl,J.o.trans (a5.mono J.o.size)⟩
    go_simp;iterate 6 (refine q8.rd (e:=?_) (fun D v w' L A=>?_) ?_;rotate_left;(clear A L;go_simp;try with_reducible rfl);go_simp)
    refine q8.fin (fun v w5 A=>?_);have J:=z7 (hb.o.trans (A.mono hb.o.size));clear A;go_wp2;exact⟨⟨0,d+m,by first|trivial|(congr 1;omega),by trivial,by rw[HR.o],by omega,J⟩,by show(0:Int).toNat<(m:Int).toNat;omega⟩
   ·obtain rfl:m=8:=by omega
    have aH:decide ((k:Int)<=8)=false:=decide_eq_false (by omega);have b5:IntKind.i64.wrap 0=0:=(by rw[IntKind.wrap_i64];rfl);have aV:bits .or .u64 (IntKind.u64.wrap ((V:Int)*256)) (y:Int)=(R:Int):=(by simpa using a3);have aD:IntKind.u64.wrap (y:Int)=(y:Int):=(by rw[IntKind.wrap_u64];omega);clear hm;go_wp2_with fail;refine q6 12 54 (fun D v w'=>Below wr.heap.size wr w') (Below.refl _ _).drew ?_;simp only[z0v];iterate 5 (refine q8.rd (e:=?_) (fun D v w' L A=>?_) ?_;rotate_left;(obtain⟨x0,x1⟩:=aB.o w' A;clear A L;go_simp;try with_reducible rfl);go_simp)
    refine q8.ca (.int .u8 (y:Nat)) (fun D v w' L A=>?_) ?_
    ·have J:=z7 A;clear A L;go_simp;go_at_call 106;have O:=y3x a n c l b (i+d) w' (HX.o.low (hb.o.trans (J.o.mono hb.o.size))) hid (by have:=HN.o;omega);rw[<-HN.o,<-HY.o]at O;refine O.mono ?_;rintro e w'' ⟨rfl,a5⟩;exact⟨rfl,J.o.trans (a5.mono J.o.size)⟩
    go_simp;iterate 6 (refine q8.rd (e:=?_) (fun D v w' L A=>?_) ?_;rotate_left;(clear A L;go_simp;try with_reducible rfl);go_simp)
    refine q8.fin (fun v w5 A=>?_);have J:=z7 (hb.o.trans (A.mono hb.o.size));clear A;go_wp2;exact⟨⟨k - 8,d+8,by first|trivial|(congr 1;omega),by first|trivial|(congr 1;omega),by rw[HR.o],by omega,J⟩,by first|(show((k - 8:Nat):Int).toNat<(k:Int).toNat;omega)|(show((k:Int) - 8).toNat<(k:Int).toNat;omega)⟩
theorem y2Y{l:List Bool}{i n:Nat}(A:n<=8)(h:i+n<=l.length):z5C (z5z l i) n=(l.drop i).take n:=y8G (z3V l i).2 A h
theorem q2b{W Y:World}{K:List (Nat×Obj)}{w:World}{q r:Nat}{l:List Bool}{A:Option Addr}{B c4:Nat}{b4:List UInt8}(J:z9I W K Y q l A B c4 b4)(I:Below w.heap.size w W)(a0:w.heap.size<=r)(R:r<W.heap.size)(hg:W.heap[r]? =some (.cells #[.slice none 0 0,.int .i64 0] 49 (0,0))){fn:Func}{t u:Tmp}(hf:fn.results= #[.cell t 49,.tmp u]){tmps:Array Value}(h1:tmps.getD t undef= .pointer (some ⟨r,0,none⟩))(h2:tmps.getD u undef= .int .u16 0):
  bodyPost prog fn (z7S w l) .ret ⟨tmps, []⟩ ((Y.setCell ⟨r,0,none⟩ (.slice A B c4)).setCell ⟨r,1,none⟩ (.int .i64 l.length)):=by
 have O:=(J.low.block r R).trans hg;have U:((Y.setCell ⟨r,0,none⟩ (.slice A B c4)).setCell ⟨r,1,none⟩ (.int .i64 l.length)).heap[r]? =some (.cells #[.slice A B c4,.int .i64 l.length] 49 (0,0)):=by
  have:=z0a (z0a O 0 (.slice A B c4)) 1 (.int .i64 l.length);simpa using this
 have N:∀k,(Value.slice A B c4).ownBlock=some k->k≠r:=fun k L e=>by have:=(J.row.lt k L).1;omega
 refine bodyPost_ret (z6F hf tmps _ r (.slice A B c4) (.int .i64 l.length) h1 U rfl rfl) rfl ?_;rw[h2];refine⟨A,B,c4,b4,rfl,?_,J.len,J.bits,?_⟩
 ·exact z0c (j7 (j7 J.row fun k L=>q7 (N k L)) fun k L=>q7 (N k L)) I.size
 ·exact((I.trans (J.low.mono I.size)).setCell (by show w.heap.size<=r;omega) _).setCell (by show w.heap.size<=r;omega) _
theorem z3i.then{W w w':World}{K:List (Nat×Obj)}{q:Nat}{l:List Bool}(h:z3i W K w q l)(hb:Below w.heap.size w w'):z3i W K w' q l:=by
 obtain⟨a,m,c,b,h⟩:=h;exact⟨a,m,c,b,h.then hb⟩
theorem q0s{W w:World}(h:Below W.heap.size W w):z3i W [] (w.alloc (.cells #[.slice none 0 0,.int .i64 0] 203)) w.heap.size []:=
 ⟨none,0,0, [],j8 _ _,World.ownsRow_nil _ _ _ _,rfl,z0R.nil,(fun e=>by cases e),h.size,h.trans ((q5 w _).mono h.size),fun p A=>by cases A⟩
theorem q0k(a:Option Addr)(n c:Nat)(l:List Bool)(b:List UInt8)(i j:Nat)(w:World)(h:z0r w a n c l b)(hl:l.length<=549755813888)(aR:i<=j)(hj:j<=l.length):
  Calls prog 57 #[.agg #[.slice a n c,.int .i64 l.length],.int .i64 i,.int .i64 (j:Nat)] w (z7S w ((l.drop i).take (j - i))):=by
 obtain⟨N,hN⟩:=zN l.length;rw[<-hN];obtain⟨w1,a0⟩:=zN (w.alloc (.cells #[.slice a n c,.int .i64 (N:Nat)] 49));obtain⟨A,O⟩:=zN (w1.alloc (.cells #[.slice none 0 0,.int .i64 0] 49));have a5:Below w.heap.size w w1:=by rw[a0];exact q5 _ _
 have B:Below w1.heap.size w1 A:=by rw[O];exact q5 _ _
 have aA:w1.heap.size=w.heap.size+1:=by rw[a0];simp
 have aI:A.heap.size=w.heap.size+2:=by rw[O];simp[aA]
 have aG:A.heap[w.heap.size]? =some (.cells #[.slice a n c,.int .i64 (N:Nat)] 49 (0,0)):=(B.block _ (by omega)).trans (by rw[a0];exact j8 _ _);have aH:A.heap[w.heap.size+1]? =some (.cells #[.slice none 0 0,.int .i64 0] 49 (0,0)):=by rw[O,<-aA];exact j8 _ _
 have a6:Below w.heap.size w A:=a5.trans (B.mono a5.size);have a7:Hid (∀w',Below A.heap.size A w'->w'.cell? ⟨w.heap.size,0,none⟩=some (.slice a n c)/\w'.cell? ⟨w.heap.size,1,none⟩=some (.int .i64 (N:Nat))):=z7 fun w' hw=>by
  have h1:=(hw.block w.heap.size (by omega)).trans aG;constructor<;>simp[World.cell?,h1]
 have HW:Hid ((w.alloc (.cells #[.slice a n c,.int .i64 (N:Nat)] 49)).alloc (.cells #[.slice none 0 0,.int .i64 0] 49)=A):=z7 (by rw[O,a0]);have HN:=z7 hN;have aL:=z7 a6;have aC:=z7 aH;have hX:=h.low a6;have HX:=z7 hX;obtain⟨x0,x1⟩:=a7.o A (Below.refl _ _);have a2:=h.len;have HS:=z7 aI;have Y:=z2q h.bits;rw[<-hN]at Y;have aE:=z7 Y;have b1:n<=137438953473:=by have:=h.bits.len;omega
 have aZ:N<=549755813888:=by omega
 have aD:j<=N:=by omega
 have L:=z7 a2;clear a0 O a5 B aA aI aG aH a6 h hN hX a2 Y hl hj;have d1:decide ((i:Int)<0)=false:=decide_eq_false (by omega);have d2:decide ((j:Int)<i)=false:=decide_eq_false (by omega);have d3:decide ((N:Int)<j)=false:=decide_eq_false (by omega);have aX:decide (j<i)=false:=decide_eq_false (by omega);have aY:decide (N<j)=false:=decide_eq_false (by omega);go_enter func57,ntmps57;go_upto_region 1 with fail
 rw[HW.o];go_wp2_with fail;have aB:=z2M a c b N A (by have:=HX.o.rd;rw[L.o]at this;exact this) (by have:=L.o;omega) (by omega) (by omega);rw[<-L.o,aE.o]at aB;refine aB.mono ?_;rintro e w2 ⟨rfl,B⟩;obtain⟨y0,y1⟩:=a7.o w2 B;have HQ:=z7 (q0s B);clear aB x0 x1;obtain⟨q,hq⟩:=zN w2.heap.size;rw[<-hq]at HQ;have aN:=z7 hq;clear hq B;go_wp2_with fail;rw[<-aN.o];clear y0 y1;go_loopw[1] (fun fv wr=>∃p:Nat,fv= .int .i64 p/\i<=p/\p<=j/\Hid (z3i A [] wr q ((l.drop i).take (p - i)))) (fun fv _=>match fv with | .int _ x=>j - x.toNat|_=>0)
 case atStart=>exact⟨i,rfl,Nat.le_refl _,aR,by simpa using HQ⟩
 case round=>
  obtain⟨p,rfl,b2,b3,hb⟩:=hrel;clear HQ;by_cases h0:p<j
  ·have d0:(p:Int)<j:=(by omega);obtain⟨r,hr⟩:=zN (j - p);obtain⟨m,hm⟩:=zN (min r 8);have a9:m<=8:=(by omega);have aW:0<m:=(by omega);have b0:p+m<=j:=(by omega);have b5:IntKind.i64.wrap ((j:Int) - p)=(r:Int):=(by rw[z0n (by omega) (by omega)];omega);obtain⟨p',aS⟩:=zN (p+m);have I:p<p'/\p'<=j/\i<=p':=(by omega);have aU:IntKind.i64.wrap ((p:Int)+m)=(p':Int):=(by rw[z0n (by omega) (by omega)];omega);obtain⟨y0,y1⟩:=a7.o wr hb.o.low;obtain⟨y,hy⟩:=zN (z5z l p);have aJ:y<256:=(by rw[hy];exact(z3V l p).1);have aF:Hid (∀w',Below A.heap.size A w'->Calls prog 106 #[.agg #[.slice a n c,.int .i64 (N:Nat)],.int .i64 p] w' fun e w''=>e= .returned (.int .u8 (y:Nat))/\Below w'.heap.size w' w''):=z7 fun w' aT=>by
    have:=y3x a n c l b p w' (HX.o.low aT) (by have:=HN.o;omega) (by have:=HN.o;omega);rw[<-HN.o,<-hy]at this;exact this
   have U:Hid (∀w',z3i A [] w' q ((l.drop i).take (p - i)++z5C y m)->z3i A [] w' q ((l.drop i).take (p' - i))):=z7 fun w' h=>by
    have e:l.drop p=(l.drop i).drop (p - i):=(by rw[List.drop_drop];congr 1;omega);rw[hy,y2Y a9 (by have:=HN.o;omega),e,<-List.take_add,show p - i+m=p' - i by omega]at h;exact h
   have a8:((l.drop i).take (p - i)).length<=1099511627776:=(by simp;have:=HN.o;omega);have HM:=z7 hm;have HR:=z7 hr;obtain⟨l',J⟩:=zN ((l.drop i).take (p - i));rw[<-J]at U a8 hb;clear hy J hr aS;by_cases h8:r<=8
   ·obtain rfl:m=r:=by omega
    have aO:(m:Int)<=8:=(by omega);clear hm;go_wp2_with fail;refine(aF.o wr hb.o.low).mono ?_;rintro e w3 ⟨rfl,R⟩;have a3:=z7 (z3i.then hb.o R);clear R y0 y1;go_wp2_with fail;refine(z9x q y m l' A [] w3 a3.o aJ a9 a8).mono ?_;rintro e w4 ⟨rfl,h4⟩;have HF:=z7 (U.o w4 h4);clear h4;go_wp2;exact⟨⟨p',rfl,I.2.2,I.2.1,HF⟩,by show j - (p':Int).toNat<j - (p:Int).toNat;omega⟩
   ·obtain rfl:m=8:=by omega
    have aO:decide ((r:Int)<=8)=false:=decide_eq_false (by omega);have aV:IntKind.i64.wrap ((p:Int)+8)=(p':Int):=(by simpa using aU);clear hm;go_wp2_with fail;refine(aF.o wr hb.o.low).mono ?_;rintro e w3 ⟨rfl,R⟩;have a3:=z7 (z3i.then hb.o R);clear R y0 y1;go_wp2_with fail;refine(z9x q y 8 l' A [] w3 a3.o aJ a9 a8).mono ?_;rintro e w4 ⟨rfl,h4⟩;have HF:=z7 (U.o w4 h4);clear h4;go_wp2;exact⟨⟨p',rfl,I.2.2,I.2.1,HF⟩,by show j - (p':Int).toNat<j - (p:Int).toNat;omega⟩
  ·have d0:decide ((p:Int)<j)=false:=decide_eq_false (by omega);obtain rfl:p=j:=by omega
   obtain⟨a4,m4,c4,b4,h4⟩:=hb.o;have H4:=z7 h4;obtain⟨c0,c1,cf⟩:=h4.cells wr rfl;have a1:=(h4.low.block (w.heap.size+1) (by have:=HS.o;omega)).trans aC.o;have e0:wr.cell? ⟨w.heap.size+1,0,none⟩=some (.slice none 0 0):=(by simp[World.cell?,a1]);have e1:wr.cell? ⟨w.heap.size+1,1,none⟩=some (.int .i64 0):=(by simp[World.cell?,a1]);have ef:∀j,wr.frozen? ⟨w.heap.size+1,j,none⟩=false:=(by simp[World.frozen?,a1]);obtain⟨l',J⟩:=zN ((l.drop i).take (p - i));rw[<-J]at c1 H4;have aM:=z7 J;clear h4 hb a1 J;go_wp2_with fail;change bodyPost prog Tryz.f57 _ .ret _ _;rw[<-aM.o];exact q2b (r:=w.heap.size+1) (fn:=Tryz.f57) (t:=6) (u:=7) H4.o aL.o (by omega) (by have:=HS.o;omega) aC.o rfl rfl rfl
theorem z3i.add{W w w':World}{K:List (Nat×Obj)}{q x:Nat}{o:Obj}{l:List Bool}(h:z3i W K w q l)(hb:Below w.heap.size w w')(J:w.heap.size<=x)(I:w'.heap[x]? =some o):z3i W ((x,o)::K) w' q l:=by
 obtain⟨a,m,c,b,h⟩:=h;have A:=h.then hb
 refine⟨a,m,c,b,A.blk,A.row,A.len,A.bits,A.far,A.up,A.low,fun p B=>?_⟩;rcases List.mem_cons.1 B with rfl|B
 ·exact⟨I,by have:=h.lt;show x≠q;omega,fun e=>by have:=(h.row.lt x e).2;omega⟩
 ·exact A.kept p B
theorem z3i.less{W w:World}{K:List (Nat×Obj)}{q:Nat}{p:Nat×Obj}{l:List Bool}(h:z3i W (p::K) w q l):z3i W K w q l:=by
 obtain⟨a,m,c,b,h⟩:=h;exact⟨a,m,c,b,h.blk,h.row,h.len,h.bits,h.far,h.up,h.low,fun p A=>h.kept p (List.mem_cons_of_mem _ A)⟩
theorem z3i.got{W w:World}{K:List (Nat×Obj)}{q x:Nat}{o:Obj}{l:List Bool}(h:z3i W ((x,o)::K) w q l):w.heap[x]? =some o:=by
 obtain⟨a,m,c,b,h⟩:=h;exact(h.kept _ List.mem_cons_self).1
structure BIt where
 a:Option Addr
 n:Nat
 c:Nat
 l:List Bool
 b:List UInt8
def BIt.cells(x:BIt):List Value:= [.slice x.a x.n x.c,.int .i64 x.l.length]
def z8q(w:World)(v:Value)(xs:List BIt):Prop:=Rd w v 2 xs.length (xs.flatMap BIt.cells)/\∀x∈xs,z0r w x.a x.n x.c x.l x.b/\x.l.length<=4294967296
theorem z8q.low{w w':World}{v:Value}{B:List BIt}(h:z8q w v B)(hb:Below w.heap.size w w'):z8q w' v B:=⟨Rd.low h.1 hb,fun x A=>⟨(h.2 x A).1.low hb,(h.2 x A).2⟩⟩
theorem q2m:∀(A:List BIt) (i:Nat) (B:i<A.length) (j:Nat),j<2->(A.flatMap BIt.cells)[i*2+j]? =(A[i].cells)[j]?
 | [],i,B,j,hj=>by simp at B
 | x::A,0,B,j,hj=>by
  rw[List.flatMap_cons,List.getElem?_append_left (by simp[BIt.cells];omega),Nat.zero_mul,Nat.zero_add];rfl
 | x::A,i+1,B,j,hj=>by
  rw[List.flatMap_cons,List.getElem?_append_right (by simp[BIt.cells];omega)];have e:(i+1)*2+j - x.cells.length=i*2+j:=by simp[BIt.cells];omega
  rw[e,q2m A i (by simpa using B) j hj];rfl
theorem z8q.at{w:World}{v:Value}{B:List BIt}(h:z8q w v B){i:Nat}(J:i<B.length):∃I A c x,v= .slice (some ⟨I,A,none⟩) B.length c/\B[i]? =some x/\I<w.heap.size/\z0r w x.a x.n x.c x.l x.b/\x.l.length<=4294967296/\w.cell? ⟨I,A+i*2,none⟩=some (.slice x.a x.n x.c)/\w.cell? ⟨I,A+i*2+1,none⟩=some (.int .i64 x.l.length):=by
 obtain⟨I,A,c,rfl,L,hb⟩:=Rd.addr h.1 (by omega) (by omega);have N:=h.2 B[i] (List.getElem_mem J);refine⟨I,A,c,B[i],rfl,List.getElem?_eq_getElem J,hb,N.1,N.2,?_,?_⟩
 ·have:=L (i*2) _ (by rw[show i*2=i*2+0 by omega,q2m B i J 0 (by omega)];rfl);exact this
 ·have:=L (i*2+1) _ (by rw[q2m B i J 1 (by omega)];rfl);rw[<-Nat.add_assoc]at this;exact this
def joinL(xs:List BIt):List Bool:=xs.flatMap BIt.l
theorem y4h:∀A:List BIt,(∀y∈A,y.l.length<=4294967296)->(joinL A).length<=A.length*4294967296
 | [],_=>by simp[joinL]
 | y::A,h=>by
  have J:=h y (by simp);have B:=y4h A fun z I=>h z (by simp[I]);unfold joinL at B ⊢;rw[List.flatMap_cons,List.length_append,List.length_cons,Nat.add_mul];omega
theorem q3z(a:Option Addr)(n c:Nat)(xs:List BIt)(w:World)(h:z8q w (.slice a n c) xs)(hn:n=xs.length)(bU:n<=8):
  Calls prog 134 #[.slice a n c] w (z7S w (joinL xs)):=by
 have H:=z7 h;have HN:=z7 hn;obtain⟨O,aB⟩:=zN (w.alloc (.cells #[.slice none 0 0,.int .i64 0] 49));have b2:Below w.heap.size w O:=by rw[aB];exact q5 _ _
 have aN:O.heap[w.heap.size]? =some (.cells #[.slice none 0 0,.int .i64 0] 49 (0,0)):=by rw[aB];exact j8 _ _
 have b6:=(Array.getElem?_eq_some_iff.1 aN).1;have HW:=z7 aB;have a0:=z7 b2;have aV:=z7 aN;have aY:=z7 b6;have HQ:=z7 (q0s (Below.refl O.heap.size O));obtain⟨q,hq⟩:=zN O.heap.size;rw[<-hq]at HQ;have bF:=z7 hq;clear h hn aB b2 aN b6 hq;go_enter func134,ntmps134;go_upto_region 1 with fail
 rw[<-HW.o];go_wp2_with fail;rw[<-bF.o];go_loopw[12] (fun kv wr=>∃k:Nat,kv= .int .i64 k/\k<=n/\Hid (z3i O [] wr q (joinL (xs.take k)))) (fun kv _=>match kv with | .int _ x=>n - x.toNat|_=>0)
 case atStart=>exact⟨0,rfl,Nat.zero_le _,by simpa[joinL]using HQ⟩
 case round=>
  obtain⟨k,rfl,hk,hb⟩:=hrel;clear HQ;by_cases h0:k<n
  ·have d0:(k:Int)<n:=(by omega);have aR:=a0.o.trans (hb.o.low.mono a0.o.size);obtain⟨bb,bZ,cc,x,he,hx,bS,a9,bB,e0,e1⟩:=(H.o.low aR).at (i:=k) (by have:=HN.o;omega);simp only[Value.slice.injEq]at he;obtain⟨rfl, -,rfl⟩:=he;have bM:IntKind.i64.wrap ((k:Int)+1)=((k+1:Nat):Int):=z0n (by omega) (by omega);obtain⟨xa,xn,xc,U,xb⟩:=x;simp only at a9 bB e0 e1;obtain⟨N,hN⟩:=zN U.length;rw[<-hN]at e1;have HX:=z7 a9;have bI:=z7 hx;have B:=z7 hN;have bR:N<=4294967296:=(by omega);have b9:=(H.o.2 _ (List.mem_of_getElem? hx)).1;have bA:Hid (∀w' K' L',z3i O K' w' q L'->z0r w' xa xn xc U xb):=z7 fun w' K' L' h'=>b9.low (a0.o.trans (h'.low.mono a0.o.size));clear a9 hx hN bB b9;obtain⟨J,aA⟩:∃o:Obj,o= .cells #[.slice xa xn xc,.int .i64 (N:Nat)] 49:=⟨_,rfl⟩;obtain⟨w1,aE⟩:=zN (wr.alloc (.cells #[.slice xa xn xc,.int .i64 (N:Nat)] 49));obtain⟨Y,aF⟩:=zN wr.heap.size;obtain⟨L,hL⟩:=zN (joinL (xs.take k));rw[<-hL]at hb;have a5:Below wr.heap.size wr w1:=by rw[aE];exact q5 _ _
   have HK:=z7 (hb.o.add a5 (by rw[aF];exact Nat.le_refl _:wr.heap.size<=Y) (by rw[aA,aE,aF];exact j8 _ _:w1.heap[Y]? =some J));have R:Hid (∀w' L',z3i O [(Y,J)] w' q L'->w'.cell? ⟨Y,0,none⟩=some (.slice xa xn xc)/\w'.cell? ⟨Y,1,none⟩=some (.int .i64 (N:Nat))):=z7 fun w' L' h'=>by
    have:=h'.got;rw[aA]at this;constructor<;>simp[World.cell?,this]
   have bG:=z7 aE;have bJ:=z7 aF;have HL:=z7 hL;have b0:=HX.o.low a5;have a2:=z7 b0;have bO:L.length<=34359738368:=by
    rw[hL];have h1:=y4h (xs.take k) fun y hy=>(H.o.2 y (List.mem_of_mem_take hy)).2;rw[List.length_take]at h1;have h2:min k xs.length*4294967296<=8*4294967296:=Nat.mul_le_mul_right _ (by omega);omega
   obtain⟨x0,x1⟩:=R.o _ _ HK.o;clear aE aF hL a5 b0 aA;go_upto_region 5 with fail
   rw[<-bG.o,<-bJ.o];clear e0 e1;have a8:=z2q a2.o.bits;rw[<-B.o]at a8;have aG:=a2.o.len;have aZ:=z7 a8;have a1:=z7 aG;have bN:xn<=536870913:=(by have:=a2.o.bits.len;have:=B.o;omega);clear a8 aG;go_wp2_with fail;have aT:=z2M xa xc xb N w1 (by have:=a2.o.rd;rw[a1.o]at this;exact this) (by have:=a1.o;omega) (by omega) (by omega);rw[<-a1.o,aZ.o]at aT;refine aT.mono ?_;rintro e w2 ⟨rfl,aL⟩;have aX:=z7 (HK.o.then aL);have bH:=z7 (a2.o.low aL);clear aT aL x0 x1;go_wp2_with fail;go_loopw[7] (fun pv wi=>∃p:Nat,pv= .int .i64 p/\p<=N+8/\Hid (z3i O [(Y,J)] wi q (L++U.take p))) (fun pv _=>match pv with | .int _ x=>N+8 - x.toNat|_=>0)
   case atStart=>exact⟨0,rfl,Nat.zero_le _,by simpa using aX⟩
   case round=>
    obtain⟨p,rfl,hp,aM⟩:=hrel;clear aX bH;have a3:=aM;have a9:=z7 (bA.o _ _ _ aM.o);have a6:Hid (∀w',Below wr.heap.size wr w'->w'.cell? ⟨Y,0,none⟩=some (.slice xa xn xc)/\w'.cell? ⟨Y,1,none⟩=some (.int .i64 (N:Nat))):=z7 fun w' aU=>R.o _ _ (a3.o.then aU);obtain⟨y0,y1⟩:=a6.o wr (Below.refl _ _);clear aM;by_cases hpN:p<N
    ·have d1:(p:Int)<N:=(by omega);obtain⟨r,hr⟩:=zN (N - p);obtain⟨m,hm⟩:=zN (min r 8);obtain⟨p',b8⟩:=zN (p+8);have aH:p'<=N+8:=(by omega);have bV:p<p':=(by omega);have aS:m<=8:=(by omega);have bY:IntKind.i64.wrap ((N:Int) - p)=(r:Int):=(by rw[z0n (by omega) (by omega)];omega);have bX:IntKind.i64.wrap ((p:Int)+8)=(p':Int):=(by rw[z0n (by omega) (by omega)];omega);obtain⟨y,hy⟩:=zN (z5z U p);have bC:y<256:=(by rw[hy];exact(z3V U p).1);have b1:Hid (∀w',Below wr.heap.size wr w'->Calls prog 106 #[.agg #[.slice xa xn xc,.int .i64 (N:Nat)],.int .i64 p] w' fun e w''=>e= .returned (.int .u8 (y:Nat))/\Below w'.heap.size w' w''):=z7 fun w' aU=>by
      have:=y3x xa xn xc U xb p w' (a9.o.low aU) (by have:=B.o;omega) (by have:=B.o;omega);rw[<-B.o,<-hy]at this;exact this
     have a7:Hid (∀w',z3i O [(Y,J)] w' q ((L++U.take p)++z5C y m)->z3i O [(Y,J)] w' q (L++U.take p')):=z7 fun w' h'=>by
      have e:(U.drop p).take m=(U.drop p).take 8:=by
       by_cases h9:r<=8
       ·rw[List.take_of_length_le (by simp;have:=B.o;omega),List.take_of_length_le (by simp;have:=B.o;omega)]
       ·rw[show m=8 by omega]
      rw[hy,y2Y aS (by have:=B.o;omega),e,List.append_assoc,<-List.take_add,<-b8]at h';exact h'
     have aO:(L++U.take p).length<=1099511627776:=(by simp;omega);obtain⟨L',aD⟩:=zN (L++U.take p);rw[<-aD]at a7 aO a3;have HM:=z7 hm;have HR:=z7 hr;clear hy aD hr b8;by_cases h8:r<=8
     ·obtain rfl:m=r:=by omega
      have bL:(m:Int)<=8:=(by omega);clear hm;go_wp2_with fail;refine q6 9 41 (fun D v w'=>Below wr.heap.size wr w') (Below.refl _ _).drew ?_;simp only[z0v];iterate 3 (refine q8.rd (e:=?_) (fun D v w' hD A=>?_) ?_;rotate_left;(obtain⟨y0,y1⟩:=a6.o w' A;clear A hD;go_simp;try with_reducible rfl);go_simp)
      refine q8.ca (.int .u8 (y:Nat)) (fun D v w' hD A=>?_) ?_
      ·have I:=z7 A;clear A hD;go_simp;go_at_call 106;refine(b1.o w' I.o).mono ?_;rintro e w'' ⟨rfl,aJ⟩;exact⟨rfl,I.o.trans (aJ.mono I.o.size)⟩
      go_simp;iterate 5 (refine q8.rd (e:=?_) (fun D v w' hD A=>?_) ?_;rotate_left;(obtain⟨y0,y1⟩:=a6.o w' A;clear A hD;go_simp;try with_reducible rfl);go_simp)
      refine q8.fin (fun v w5 A=>?_);have aI:=z7 (a3.o.then A);clear A;go_wp2_with fail;refine(z9x q y m L' O [(Y,J)] w5 aI.o bC aS aO).mono ?_;rintro e w6 ⟨rfl,h6⟩;have HF:=z7 (a7.o w6 h6);clear h6;go_wp2;exact⟨⟨p',rfl,aH,HF⟩,by show N+8 - (p':Int).toNat<N+8 - (p:Int).toNat;omega⟩
     ·obtain rfl:m=8:=by omega
      have bL:decide ((r:Int)<=8)=false:=decide_eq_false (by omega);clear hm;go_wp2_with fail;refine q6 9 41 (fun D v w'=>Below wr.heap.size wr w') (Below.refl _ _).drew ?_;simp only[z0v];iterate 3 (refine q8.rd (e:=?_) (fun D v w' hD A=>?_) ?_;rotate_left;(obtain⟨y0,y1⟩:=a6.o w' A;clear A hD;go_simp;try with_reducible rfl);go_simp)
      refine q8.ca (.int .u8 (y:Nat)) (fun D v w' hD A=>?_) ?_
      ·have I:=z7 A;clear A hD;go_simp;go_at_call 106;refine(b1.o w' I.o).mono ?_;rintro e w'' ⟨rfl,aJ⟩;exact⟨rfl,I.o.trans (aJ.mono I.o.size)⟩
      go_simp;iterate 5 (refine q8.rd (e:=?_) (fun D v w' hD A=>?_) ?_;rotate_left;(obtain⟨y0,y1⟩:=a6.o w' A;clear A hD;go_simp;try with_reducible rfl);go_simp)
      refine q8.fin (fun v w5 A=>?_);have aI:=z7 (a3.o.then A);clear A;go_wp2_with fail;refine(z9x q y 8 L' O [(Y,J)] w5 aI.o bC aS aO).mono ?_;rintro e w6 ⟨rfl,h6⟩;have HF:=z7 (a7.o w6 h6);clear h6;go_wp2;exact⟨⟨p',rfl,aH,HF⟩,by show N+8 - (p':Int).toNat<N+8 - (p:Int).toNat;omega⟩
    ·have d1:decide ((p:Int)<N)=false:=decide_eq_false (by omega);have b7:Hid (z3i O [] wr q (joinL (xs.take (k+1)))):=z7 (by
      have h9:=a3.o.less;rw[List.take_of_length_le (by have:=B.o;omega),HL.o]at h9;rw[List.take_add_one,bI.o];unfold joinL at h9 ⊢;rw[List.flatMap_append];simpa using h9)
     have b5:k+1<=n:=h0;obtain⟨k',b3⟩:=zN (k+1);rw[<-b3]at b7 b5 bM;have bT:k<k':=(by omega);clear b3;go_wp2;exact⟨⟨k',rfl,b5,b7⟩,by show n - (k':Int).toNat<n - (k:Int).toNat;omega⟩
  ·have d0:decide ((k:Int)<n)=false:=decide_eq_false (by omega);obtain rfl:k=n:=by omega
   obtain⟨a4,m4,c4,b4,h4⟩:=hb.o;have H4:=z7 h4;obtain⟨c0,c1,cf⟩:=h4.cells wr rfl;have aC:=(h4.low.block w.heap.size aY.o).trans aV.o;have e0:wr.cell? ⟨w.heap.size,0,none⟩=some (.slice none 0 0):=(by simp[World.cell?,aC]);have e1:wr.cell? ⟨w.heap.size,1,none⟩=some (.int .i64 0):=(by simp[World.cell?,aC]);have ef:∀j,wr.frozen? ⟨w.heap.size,j,none⟩=false:=(by simp[World.frozen?,aC]);have aW:joinL (xs.take k)=joinL xs:=(by rw[List.take_of_length_le (by have:=HN.o;omega)]);rw[aW]at c1 H4;obtain⟨L,hL⟩:=zN (joinL xs);rw[<-hL]at c1 H4;have bE:=z7 hL;clear h4 hb aC hL aW;go_wp2_with fail;change bodyPost prog Tryz.f134 _ .ret _ _;rw[<-bE.o];exact q2b (r:=w.heap.size) (fn:=Tryz.f134) (t:=2) (u:=3) H4.o a0.o (Nat.le_refl _) aY.o aV.o rfl rfl rfl
structure Loc (w0:World) (K:List (Nat×Obj)) (w:World):Prop where
 low:Below w0.heap.size w0 w
 blk:∀p∈K,w.heap[p.1]? =some p.2/\w0.heap.size<=p.1
 nodup:(K.map Prod.fst).Nodup
theorem Loc.start(w:World):Loc w [] w:=⟨Below.refl _ _,(fun p A=>by cases A),List.nodup_nil⟩
theorem Loc.lts{w0 w:World}{K:List (Nat×Obj)}(h:Loc w0 K w){p:Nat×Obj}(A:p∈K):p.1<w.heap.size:=(Array.getElem?_eq_some_iff.1 (h.blk p A).1).1
theorem Loc.new{w0 w:World}{K:List (Nat×Obj)}(h:Loc w0 K w)(o:Obj):Loc w0 ((w.heap.size,o)::K) (w.alloc o):=by
 have B:=q5 w o;refine⟨h.low.trans (B.mono h.low.size),fun p A=>?_,?_⟩
 ·rcases List.mem_cons.1 A with rfl|A
  ·exact⟨j8 _ _,h.low.size⟩
  ·exact⟨(B.block p.1 (h.lts A)).trans (h.blk p A).1,(h.blk p A).2⟩
 ·rw[List.map_cons,List.nodup_cons];refine⟨fun I=>?_,h.nodup⟩;obtain⟨p,A,J⟩:=List.mem_map.1 I;have:=h.lts A;omega
theorem Loc.new'{w0 w:World}{K:List (Nat×Obj)}(h:Loc w0 K w)(o:Obj){n:Nat}(A:n=w.heap.size):Loc w0 ((n,o)::K) (w.alloc o):=by
 subst A;exact h.new o
theorem Loc.call{w0 w w':World}{K:List (Nat×Obj)}(h:Loc w0 K w)(hb:Below w.heap.size w w'):Loc w0 K w':=
 ⟨h.low.trans (hb.mono h.low.size),fun p A=>⟨(hb.block p.1 (h.lts A)).trans (h.blk p A).1,(h.blk p A).2⟩,h.nodup⟩
theorem Loc.add{w0 w w':World}{K:List (Nat×Obj)}(h:Loc w0 K w)(hb:Below w.heap.size w w'){g:Nat}{o:Obj}(J:w'.heap[g]? =some o)(B:w.heap.size<=g):Loc w0 ((g,o)::K) w':=by
 have I:=h.call hb;refine⟨I.low,fun p A=>?_,?_⟩
 ·rcases List.mem_cons.1 A with rfl|A
  ·exact⟨J,Nat.le_trans h.low.size B⟩
  ·exact I.blk p A
 ·rw[List.map_cons,List.nodup_cons];refine⟨fun L=>?_,h.nodup⟩;obtain⟨p,A,N⟩:=List.mem_map.1 L;have:=h.lts A;omega
theorem Loc.named{w0 w:World}{K:List (Nat×Obj)}(h:Loc w0 K w):∃W,W=w/\Loc w0 K W:=⟨w,rfl,h⟩
theorem Loc.drew{w0 w:World}{K:List (Nat×Obj)}(h:Loc w0 K w):Loc w0 K w.drew:=⟨h.low.drew,h.blk,h.nodup⟩
theorem Loc.less{w0 w:World}{p:Nat×Obj}{K:List (Nat×Obj)}(h:Loc w0 (p::K) w):Loc w0 K w:=
 ⟨h.low,fun q A=>h.blk q (List.mem_cons_of_mem _ A),by have:=h.nodup;rw[List.map_cons,List.nodup_cons]at this;exact this.2⟩
theorem Loc.get{w0 w:World}{K:List (Nat×Obj)}(h:Loc w0 K w)(i:Nat){b:Nat}{o:Obj}(A:K[i]? =some (b,o)):w.heap[b]? =some o:=(h.blk _ (List.mem_of_getElem? A)).1
theorem Loc.lt{w0 w:World}{K:List (Nat×Obj)}(h:Loc w0 K w)(i:Nat){b:Nat}{o:Obj}(A:K[i]? =some (b,o)):b<w.heap.size:=h.lts (List.mem_of_getElem? A)
theorem Loc.ge{w0 w:World}{K:List (Nat×Obj)}(h:Loc w0 K w)(i:Nat){b:Nat}{o:Obj}(A:K[i]? =some (b,o)):w0.heap.size<=b:=(h.blk _ (List.mem_of_getElem? A)).2
theorem Loc.set{w0 w:World}{K:List (Nat×Obj)}(h:Loc w0 K w)(i:Nat){b:Nat}{cs:Array Value}{t:TypeId}{fr:Nat×Nat}(L:K[i]? =some (b,.cells cs t fr))(j:Nat)(v:Value):
  Loc w0 (K.set i (b,.cells (cs.setIfInBounds j v) t fr)) (w.setCell ⟨b,j,none⟩ v):=by
 have N:=List.mem_of_getElem? L;have B:i<K.length:=(List.getElem?_eq_some_iff.1 L).1;have R:K[i]=(b,Obj.cells cs t fr):=(List.getElem?_eq_some_iff.1 L).2;have I:(K.set i (b,Obj.cells (cs.setIfInBounds j v) t fr)).map Prod.fst=K.map Prod.fst:=by
  rw[List.map_set];have:(K.map Prod.fst)[i]'(by simpa using B)=b:=by rw[List.getElem_map,R]
  simp only[<-this,List.set_getElem_self]
 refine⟨h.low.setCell (h.blk _ N).2 _,fun p Y=>?_,by rw[I];exact h.nodup⟩;obtain⟨n,O,A⟩:=List.getElem_of_mem Y;rw[List.length_set]at O;rw[List.getElem_set]at A;split at A
 ·subst A;exact⟨z0a (h.blk _ N).1 j v,(h.blk _ N).2⟩
 ·rename_i U;subst A;have J:K[n]∈K:=List.getElem_mem O;have hb:K[n].1≠b:=fun e=>by
   have h1:=(List.getElem_inj (i:=n) (j:=i) (h₀:=by simpa using O) (h₁:=by simpa using B) h.nodup).1 (by rw[List.getElem_map,List.getElem_map,R];exact e);omega
  exact⟨(q7 hb).trans (h.blk _ J).1,(h.blk _ J).2⟩
theorem Loc.far{w0 w:World}{K:List (Nat×Obj)}{b:Nat}{j:Nat}{v:Value}(h:Loc w0 K w)(hb:w0.heap.size<=b)(B:∀p∈K,p.1≠b):Loc w0 K (w.setCell ⟨b,j,none⟩ v):=
 ⟨h.low.setCell hb _,fun p A=>⟨(q7 (B p A)).trans (h.blk p A).1,(h.blk p A).2⟩,h.nodup⟩
structure SlS (W:World) (t:TypeId) (n i j:Nat) (cs:Array Value) (D:Nat->Bool) (v:Nat->Value) (w':World):Prop where
 low:Below W.heap.size W w'
 made:D i=true->∃g,v i= .slice (some ⟨g,0,none⟩) n n/\W.heap.size<=g/\w'.heap[g]? =some (.cells cs t (0,0))
 asg:D j=true->D i=true/\v j=v i
section
variable {W w' w'':World} {t n i j:Nat} {cs:Array Value} {D:Nat->Bool} {v:Nat->Value}
theorem SlS.start(W:World)(t n i j:Nat)(cs:Array Value):SlS W t n i j cs (fun _=>false) (fun _=>undef) W.drew:=⟨(Below.refl _ _).drew,(fun h=>by cases h),fun h=>by cases h⟩
theorem SlS.call(h:SlS W t n i j cs D v w')(k:Nat)(B:k≠i)(L:k≠j)(hb:Below w'.heap.size w' w''):SlS W t n i j cs (mark D k) v w'':=
 ⟨h.low.trans (hb.mono h.low.size),(fun e=>by
  rw[q9 B]at e;obtain⟨g,I,J,A⟩:=h.made e;exact⟨g,I,J,(hb.block g (Array.getElem?_eq_some_iff.1 A).1).trans A⟩),fun e=>by rw[q9 L]at e;rw[q9 B];exact h.asg e⟩
theorem SlS.make(A:i≠j)(h:SlS W t n i j cs D v w')(B:D j=false):SlS W t n i j cs (mark D i) (z2O v i (.slice (some ⟨w'.heap.size,0,none⟩) n n)) (w'.alloc (.cells cs t)):=
 ⟨h.low.trans ((q5 w' _).mono h.low.size),(fun _=>⟨w'.heap.size,z0p _ _ _,h.low.size,j8 _ _⟩),fun e=>by rw[q9 A,B]at e;cases e⟩
theorem SlS.assign(A:i≠j)(h:SlS W t n i j cs D v w')(B:D i=true):SlS W t n i j cs (mark D j) (z2O v j (v i)) w':=
 ⟨h.low,(fun e=>by
  obtain⟨g,I,J,L⟩:=h.made B;exact⟨g,(by rw[z0d (Ne.symm A)];exact I),J,L⟩),fun _=>⟨by rw[q9 (Ne.symm A)];exact B,by rw[z0p,z0d (Ne.symm A)]⟩⟩
end
theorem y0t(w:World)(cs:Array Value)(e:TypeId)(n m size:Nat)(A:n=w.heap.size)(B:0<m)(h:cs.size=m*size):Rd (w.alloc (.cells cs e)) (.slice (some ⟨n,0,none⟩) m m) size m cs.toList:=by
 subst A;exact z3z w cs e m size B h
theorem z5l{w:World}{B:Nat}{l:List Bool}{a:Option Addr}{n c:Nat}{b:List UInt8}(A:w.ownsRow B 5 1 (.slice a n c) n (z0b b))(I:n=b.length)(hb:z0R b l):z0r w a n c l b:=
 ⟨by subst I;exact z0e A,I,hb⟩
theorem q2q{w J w':World}{B:Nat}{l:List Bool}{a:Option Addr}{n c:Nat}{b:List UInt8}(A:J.ownsRow B 5 1 (.slice a n c) n (z0b b))(N:w.heap.size<=B)(O:n=b.length)(hb:z0R b l)(I:Below w.heap.size w w')
  (R:∀k,B<=k->k<J.heap.size->w'.heap[k]? =J.heap[k]?):z7S w l (.returned (.tuple #[.agg #[.slice a n c,.int .i64 l.length],.int .u16 0])) w':=
 ⟨a,n,c,b,rfl,z0c (j7 A fun k L=>R k (A.lt k L).1 (A.lt k L).2) N,O,hb,I⟩
theorem z0i{w:World}{b:Nat}{x0 x1:Value}{t:TypeId}(h:w.heap[b]? =some (.cells #[x0,x1] t (0,0))):w.cell? ⟨b,0,none⟩=some x0/\w.cell? ⟨b,1,none⟩=some x1/\∀j,w.frozen? ⟨b,j,none⟩=false:=by
 refine⟨?_,?_,?_⟩<;>simp[World.cell?,World.frozen?,h]
theorem cells3{w:World}{b:Nat}{x0 x1 x2:Value}{t:TypeId}(h:w.heap[b]? =some (.cells #[x0,x1,x2] t (0,0))):w.cell? ⟨b,0,none⟩=some x0/\w.cell? ⟨b,1,none⟩=some x1/\w.cell? ⟨b,2,none⟩=some x2/\∀j,w.frozen? ⟨b,j,none⟩=false:=by
 refine⟨?_,?_,?_,?_⟩<;>simp[World.cell?,World.frozen?,h]
theorem z0x{w:World}{b:Nat}{x0 x1 x2 x3:Value}{t:TypeId}(h:w.heap[b]? =some (.cells #[x0,x1,x2,x3] t (0,0))):w.cell? ⟨b,0,none⟩=some x0/\w.cell? ⟨b,1,none⟩=some x1/\w.cell? ⟨b,2,none⟩=some x2/\w.cell? ⟨b,3,none⟩=some x3/\∀j,w.frozen? ⟨b,j,none⟩=false:=by
 refine⟨?_,?_,?_,?_,?_⟩<;>simp[World.cell?,World.frozen?,h]
theorem y6D{w:World}{b:Nat}{x0 x1 x2 x3 x4 x5:Value}{t:TypeId}(h:w.heap[b]? =some (.cells #[x0,x1,x2,x3,x4,x5] t (0,0))):w.cell? ⟨b,0,none⟩=some x0/\w.cell? ⟨b,1,none⟩=some x1/\w.cell? ⟨b,2,none⟩=some x2/\w.cell? ⟨b,3,none⟩=some x3/\w.cell? ⟨b,4,none⟩=some x4/\w.cell? ⟨b,5,none⟩=some x5/\∀j,w.frozen? ⟨b,j,none⟩=false:=by
 refine⟨?_,?_,?_,?_,?_,?_,?_⟩<;>simp[World.cell?,World.frozen?,h]
theorem z2X{w:World}{b:Nat}{x0 x1 x2 x3 x4 x5 x6:Value}{t:TypeId}(h:w.heap[b]? =some (.cells #[x0,x1,x2,x3,x4,x5,x6] t (0,0))):w.cell? ⟨b,0,none⟩=some x0/\w.cell? ⟨b,1,none⟩=some x1/\w.cell? ⟨b,2,none⟩=some x2/\w.cell? ⟨b,3,none⟩=some x3/\w.cell? ⟨b,4,none⟩=some x4/\w.cell? ⟨b,5,none⟩=some x5/\w.cell? ⟨b,6,none⟩=some x6/\∀j,w.frozen? ⟨b,j,none⟩=false:=by
 refine⟨?_,?_,?_,?_,?_,?_,?_,?_⟩<;>simp[World.cell?,World.frozen?,h]
theorem z0o{w:World}{b:Nat}{x0 x1 x2 x3 x4 x5 x6 B I J A:Value}{t:TypeId}(h:w.heap[b]? =some (.cells #[x0,x1,x2,x3,x4,x5,x6,B,I,J,A] t (0,0))):w.cell? ⟨b,0,none⟩=some x0/\w.cell? ⟨b,1,none⟩=some x1/\w.cell? ⟨b,2,none⟩=some x2/\w.cell? ⟨b,3,none⟩=some x3/\w.cell? ⟨b,4,none⟩=some x4/\w.cell? ⟨b,5,none⟩=some x5/\w.cell? ⟨b,6,none⟩=some x6/\w.cell? ⟨b,7,none⟩=some B/\w.cell? ⟨b,8,none⟩=some I/\w.cell? ⟨b,9,none⟩=some J/\w.cell? ⟨b,10,none⟩=some A/\∀j,w.frozen? ⟨b,j,none⟩=false:=by
 refine⟨?_,?_,?_,?_,?_,?_,?_,?_,?_,?_,?_,?_⟩<;>simp[World.cell?,World.frozen?,h]

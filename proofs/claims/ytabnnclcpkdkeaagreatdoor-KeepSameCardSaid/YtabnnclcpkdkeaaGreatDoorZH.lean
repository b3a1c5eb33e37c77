/- The walks of bit's begin. -/
import Derived.Test.YtabnnclcpkdkeaaGreatDoorZG
import Derived.Deep.DeepCutAuto
namespace Go.Proofs.YtabnnclcpkdkeaaGreatDoor
open Go.Proofs.Tryz
set_option linter.all false
set_option maxRecDepth 100000
set_option maxHeartbeats 0
open Go.RowKit
theorem y5x(a:Option Addr)(n c:Nat)(b:List UInt8)(w:World)(J:RdB w (.slice a n c) b)(I:n=b.length)(N:n<=70368744177664):
  Calls prog 78 #[.slice a n c] w fun e w'=>∃a c,e= .returned (.slice a n c)/\w'.ownsRow w.heap.size 5 1 (.slice a n c) n (z0c b)/\Below w.heap.size w w':=by
 cases a with
 | some L=>
  subst I;exact y5G L b c w J N
 | none=>
  obtain⟨rfl,rfl⟩:n=0/\c=0:=by
   rcases J.2 with⟨A,O⟩|⟨L,c',A,O⟩
   .simp only[wO]at A;exact⟨A.2.1,A.2.2⟩
   simp at A
  obtain rfl:b= []:=wT I.symm;have R:=fun(w:World)=>iq (P:=prog) w 47 5 none 0 0 0 0 underlying47;clear J I N;go_enter func78,ntmps78;go_wp2;go_ret;exact⟨none,0,rfl,uN _ _ _ _,by first|exact wN _ _|exact q5 _ _⟩
theorem q3a(a:Option Addr)(n c:Nat)(l:List Bool)(b:List UInt8)(W w:World)(hW:Below W.heap.size W w)(h:z0r w a n c l b)(hl:l.length<=1099511627776):
  Calls prog 134 #[.agg #[.slice a n c,.int .i64 l.length]] w fun e w'=>∃q,e= .returned (.pointer (some ⟨q,0,none⟩))/\z3y W [] w' q l:=by
 obtain⟨N,hN⟩:=zN l.length;rw[<-hN];obtain⟨O,J⟩:=zN (w.alloc (.cells #[.slice a n c,.int .i64 (N:Nat)] 49));have U:Below w.heap.size w O:=by rw[J];exact q5 _ _
 have L:=j8 w (.cells #[.slice a n c,.int .i64 (N:Nat)] 49);rw[<-J]at L;have a2:w.heap.size<O.heap.size:=(wI.1 L).1;have Y:Hid (∀w',Below O.heap.size O w'->w'.cell? ⟨w.heap.size,0,none⟩=some (.slice a n c)/\w'.cell? ⟨w.heap.size,1,none⟩=some (.int .i64 (N:Nat))):=z7 fun w' hw=>by
  have h1:=(hw.block w.heap.size a2).trans L;constructor<;>simp[World.cell?,h1]
 have HW:=z7 J;have HN:=z7 hN;have a0:=z7 (hW.trans (U.mono hW.size));have HX:=z7 (h.low U);have a3:n<=70368744177664:=by have:=h.bits.len;have:=h.len;omega
 have a5:=hW.size;obtain⟨x0,x1⟩:=Y.o O wD;clear J h hN U L hW;go_enter func134,ntmps134;go_upto_region 1 with fail
 rw[<-HW.o];clear x0 x1;refine q6 5 11 (fun D v w'=>Below O.heap.size O w'/\(D 2=true->∃a' c',v 2= .slice a' n c'/\w'.ownsRow O.heap.size 5 1 (.slice a' n c') n (z0c b))) ⟨wD.drew,fun h=>by cases h⟩ ?_;simp only[z0C];iterate 2 (refine q8.rd ?_ (fun D v w' hD I=>?_) ?_;rotate_left;(obtain⟨x0,x1⟩:=Y.o w' I.1;clear I hD;go_simp;try rfl);go_simp)
 refine q8.re (fun D v w' hD I=>?_) ?_
 .have R:=z7 I.1;clear I hD;go_simp;go_at_call 78;refine(y5x a n c b w' (HX.o.rd.low R.o) HX.o.len a3).mono ?_;rintro e w'' ⟨a',c',rfl,A,hb⟩;exact⟨R.o.trans (hb.mono R.o.size),fun _=>⟨a',c',rfl,z0f A R.o.size⟩⟩
 go_simp;iterate 2 (refine q8.rd ?_ (fun D v w' hD I=>?_) ?_;rotate_left;(obtain⟨x0,x1⟩:=Y.o w' I.1;clear I hD;go_simp;try rfl);go_simp)
 refine q8.fin (fun v w5 I=>?_);obtain⟨a',c',hv,A⟩:=I.2 rfl;rw[hv];have R:=z7 I.1;have HO:=z7 A;clear I hv A;go_wp2;go_ret;have a1:=q5 w5 (.cells #[.slice a' n c',.int .i64 (N:Nat)] 173);have a6:=R.o.size;have a4:=a0.o.size;refine⟨w5.heap.size,rfl,a',n,c',b,?_,z0f (ownsRow_below HO.o a1 wE) a4,HX.o.len,HX.o.bits,fun e=>?_,wF,?_,fun p hp=>by cases hp⟩
 .rw[<-HN.o];exact j8 _ _
 .have:=(HO.o.lt _ e).2;omega
 exact(a0.o.trans (R.o.mono a4)).trans (a1.mono wF)
theorem z7A{fn:Func}{t u:Tmp}(h:fn.results= #[.cell t 49,.tmp u])(tmps:Array Value)(w:World)(r:Nat)(x y:Value)(A:tmps.getD t undef= .pointer (some ⟨r,0,none⟩))(I:w.heap[r]? =some (.cells #[x,y] 49 (0,0)))(J:x.oneCell'=true)(L:y.oneCell'=true):
  (results fn tmps).run prog w= .ok (.tuple #[.agg #[x,y],tmps.getD u undef]) w:=by
 have c0:w.cell? ⟨r,0,none⟩=some x:=by simp[World.cell?,I]
 have c1:w.cell? ⟨r,1,none⟩=some y:=by simp[World.cell?,I]
 simp only[uP]at A;simp[results,h,go_sem,A,c0,c1]
def z8u(W:World)(l:List Bool)(e:Ending)(w':World):Prop:=
 ∃a n c b,e= .returned (.tuple #[.agg #[.slice a n c,.int .i64 l.length],.int .u16 0])/\w'.ownsRow W.heap.size 5 1 (.slice a n c) n (z0c b)/\n=b.length/\z0S b l/\Below W.heap.size W w'
theorem y5d(a:Option Addr)(n c:Nat)(l:List Bool)(b:List UInt8)(v width:Nat)(w:World)(h:z0r w a n c l b)(hl:l.length<=549755813888)(hv:v<18446744073709551616)(hw:width<=64):
  Calls prog 99 #[.agg #[.slice a n c,.int .i64 l.length],.int .u64 v,.int .i64 width] w (z8u w (l++z3o v width)):=by
 obtain⟨N,hN⟩:=zN l.length;rw[<-hN];obtain⟨w1,U⟩:=zN (w.alloc (.cells #[.slice a n c,.int .i64 (N:Nat)] 49));obtain⟨I,L⟩:=zN (w1.alloc (.cells #[.slice none 0 0,.int .i64 0] 49));have a0:Below w.heap.size w w1:=by rw[U];exact q5 _ _
 have A:Below w1.heap.size w1 I:=by rw[L];exact q5 _ _
 have a3:w1.heap.size=w.heap.size+1:=by rw[U];simp
 have aF:I.heap.size=w.heap.size+2:=by rw[L];simp[a3]
 have aB:I.heap[w.heap.size]? =some (.cells #[.slice a n c,.int .i64 (N:Nat)] 49 (0,0)):=(A.block _ wF).trans (by rw[U];exact j8 _ _);have aC:I.heap[w.heap.size+1]? =some (.cells #[.slice none 0 0,.int .i64 0] 49 (0,0)):=by rw[L,<-a3];exact j8 _ _
 have a1:Below w.heap.size w I:=a0.trans (A.mono a0.size);have aA:Hid (∀w',Below I.heap.size I w'->w'.cell? ⟨w.heap.size,0,none⟩=some (.slice a n c)/\w'.cell? ⟨w.heap.size,1,none⟩=some (.int .i64 (N:Nat))):=z7 fun w' hw=>by
  have h1:=(hw.block w.heap.size wF).trans aB;constructor<;>simp[World.cell?,h1]
 have HW:Hid ((w.alloc (.cells #[.slice a n c,.int .i64 (N:Nat)] 49)).alloc (.cells #[.slice none 0 0,.int .i64 0] 49)=I):=z7 (by rw[L,U]);have HN:=z7 hN;have a7:=z7 a1;have aG:=z7 aC;have hX:=h.low a1;have HX:=z7 hX;obtain⟨x0,x1⟩:=aA.o I wD;have Y:=h.len;have HS:=z7 aF;have R:=z2V h.bits;rw[<-hN]at R;have a8:=z7 R;have aJ:n<=137438953473:=by have:=h.bits.len;omega
 have J:=z7 Y;clear U L a0 A a3 aF aB aC a1 h hN hX Y R;have aM:decide ((width:Int)<0)=false:=wC;have aL:decide ((64:Int)<width)=false:=wC;go_enter func99,ntmps99;go_upto_region 1 with fail
 rw[HW.o];go_wp2_with fail;have a5:=z2X a c b N I (by have:=HX.o.rd;rw[J.o]at this;exact this) (by have:=J.o;omega) wF (by have:=HN.o;omega);rw[<-J.o,a8.o]at a5;refine a5.mono ?_;rintro e w2 ⟨rfl,A⟩;obtain⟨y0,y1⟩:=aA.o w2 A;have a6:=z7 A;clear a5 A x0 x1;go_wp2_with fail;have a2:=q3a a n c l b I w2 a6.o (HX.o.low a6.o) wF;rw[<-HN.o]at a2;refine a2.mono ?_;rintro e w3 ⟨q,rfl,hq⟩;clear a2 y0 y1;go_wp2_with fail;refine(q1u q v width l I [] w3 hq hv hw hl).mono ?_;rintro e w4 ⟨rfl,a4,m4,c4,b4,h4⟩;have H4:=z7 h4;obtain⟨c0,c1,cf⟩:=h4.cells w4 rfl;obtain⟨M,hM⟩:=zN ((l++z3o v width).length);rw[<-hM]at c1;have O:=(h4.low.block (w.heap.size+1) (by have:=HS.o;omega)).trans aG.o;have d0:w4.cell? ⟨w.heap.size+1,0,none⟩=some (.slice none 0 0):=by simp[World.cell?,O]
 have d1:w4.cell? ⟨w.heap.size+1,1,none⟩=some (.int .i64 0):=by simp[World.cell?,O]
 have df:∀j,w4.frozen? ⟨w.heap.size+1,j,none⟩=false:=by simp[World.frozen?,O]
 have HM:=z7 hM;have aH:=z7 O;clear h4 hq hM O;go_wp2_with fail;have aI:((w4.setCell ⟨w.heap.size+1,0,none⟩ (.slice a4 m4 c4)).setCell ⟨w.heap.size+1,1,none⟩ (.int .i64 (M:Nat))).heap[w.heap.size+1]? =some (.cells #[.slice a4 m4 c4,.int .i64 (M:Nat)] 49 (0,0)):=by
  have:=z0a (z0a aH.o 0 (.slice a4 m4 c4)) 1 (.int .i64 (M:Nat));simpa using this
 refine wU (z7A rfl _ _ (w.heap.size+1) (.slice a4 m4 c4) (.int .i64 (M:Nat)) rfl aI rfl rfl) rfl ?_;have hs:=HS.o;have a9:=a7.o.size;have aE:∀k,(Value.slice a4 m4 c4).ownBlock=some k->k≠w.heap.size+1:=fun k hk e=>by have:=(H4.o.row.lt k hk).1;omega
 refine⟨a4,m4,c4,b4,by rw[<-HM.o];rfl,?_,H4.o.len,H4.o.bits,?_⟩
 .refine z0f (j7 (j7 H4.o.row fun k hk=>q7 (aE k hk)) fun k hk=>q7 (aE k hk)) a9
 exact((a7.o.trans (H4.o.low.mono a9)).setCell (by show w.heap.size<=w.heap.size+1;omega) _).setCell (by show w.heap.size<=w.heap.size+1;omega) _
def z6b(l:List Bool)(i:Nat):Nat:=z3R ((List.range 8).map fun j=>l.getD (i+j) false)
theorem z4r(l:List Bool)(i:Nat):z6b l i<256/\∀j,j<8->(z6b l i).testBit (7 - j)=l.getD (i+j) false:=by
 have J:=z7w ((List.range 8).map fun j=>l.getD (i+j) false);refine⟨by unfold z6b;simpa using J,fun j I=>?_⟩;have A:=z9L ((List.range 8).map fun j=>l.getD (i+j) false) j (by simpa using I);simp only[we,List.length_range]at A;rw[show 8 - 1 - j=7 - j by omega]at A;unfold z6b;rw[A];simp[wu,I]
theorem y4F{y:Nat}{l:List Bool}{i:Nat}(L:y<256)(h:∀j,j<8->y.testBit (7 - j)=l.getD (i+j) false):y=z6b l i:=by
 obtain⟨I,J⟩:=z4r l i;apply gP;intro k;by_cases N:k<8
 .have:=(h (7 - k) wF).trans (J (7 - k) wF).symm
  rwa [show 7 - (7 - k)=k by omega]at this
 have A:(256:Nat)<=2^k:=by rw[show(256:Nat)=2^8 from rfl];exact uU wG wF
 rw[pJ (wS L A),pJ (wS I A)]
theorem y4U(a:Option Addr)(n c:Nat)(l:List Bool)(b:List UInt8)(i:Nat)(w:World)(h:z0r w a n c l b)(A:i<l.length)(I:l.length<=1099511627776):
  Calls prog 70 #[.agg #[.slice a n c,.int .i64 l.length],.int .i64 i] w fun e w'=>e= .returned (.int .u8 (z6b l i:Nat))/\Below w.heap.size w w':=by
 refine(q8q a n c l b i w h A I).mono ?_;rintro e w' ⟨y,rfl,L,hb,J⟩;exact⟨by rw[y4F L hb],J⟩
def z2Z(l:List Bool)(i width:Nat):Nat:=if i+width<=l.length then z3R ((l.drop i).take width)else 0
def z2D(l:List Bool)(i width:Nat):Nat:=if i+width<=l.length then 0 else 10
theorem y9s{a b n:Nat}(h:b<2^n):a*2^n ||| b=a*2^n+b:=by
 rw[dP];exact(Nat.two_pow_add_eq_or_of_lt h a).symm
theorem q3Z{l:List Bool}{i d n:Nat}(J:n<=8)(h:i+(d+n)<=l.length):z3R ((l.drop i).take d)*2^n+z6b l (i+d)/2^(8 - n)=z3R ((l.drop i).take (d+n)):=by
 obtain⟨A,I⟩:=z4r l (i+d);rw[q2f A I J wF,qe,z7R,oe];simp only[uR,uE];rw[ku wF]
theorem y2z(a:Option Addr)(n c:Nat)(l:List Bool)(b:List UInt8)(i width:Nat)(w:World)(h:z0r w a n c l b)(hl:l.length<=549755813888)(hi:i<=1099511627776)(hw:width<=64):
  Calls prog 180 #[.agg #[.slice a n c,.int .i64 l.length],.int .i64 i,.int .i64 width] w fun e w'=>e= .returned (.tuple #[.int .u64 (z2Z l i width:Nat),.int .u16 (z2D l i width:Nat)])/\Below w.heap.size w w':=by
 obtain⟨N,hN⟩:=zN l.length;rw[<-hN];obtain⟨W1,a1⟩:=zN (w.alloc (.cells #[.slice a n c,.int .i64 (N:Nat)] 49));have a7:Below w.heap.size w W1:=by rw[a1];exact q5 _ _
 have a2:=j8 w (.cells #[.slice a n c,.int .i64 (N:Nat)] 49);rw[<-a1]at a2;have aF:w.heap.size<W1.heap.size:=(wI.1 a2).1;have a9:Hid (∀w',Below W1.heap.size W1 w'->w'.cell? ⟨w.heap.size,0,none⟩=some (.slice a n c)/\w'.cell? ⟨w.heap.size,1,none⟩=some (.int .i64 (N:Nat))):=z7 fun w' hw=>by
  have h1:=(hw.block w.heap.size aF).trans a2;constructor<;>simp[World.cell?,h1]
 have HW:=z7 a1;have HN:=z7 hN;have I:=z7 a7;have HX:=z7 (h.low a7);have a3:=h.len;have Y:=z2V h.bits;rw[<-hN]at Y;have aB:=z7 Y;have b4:n<=137438953473:=by have:=h.bits.len;omega
 have aD:N<=549755813888:=wF
 have J:=z7 a3;obtain⟨x0,x1⟩:=a9.o W1 wD;clear a1 h hN a7 a2 a3 Y hl;have aX:decide ((width:Int)<0)=false:=wC;have aV:decide ((64:Int)<width)=false:=wC;have aO:decide ((i:Int)<0)=false:=wC;go_enter func180,ntmps180;go_upto_region 1 with fail
 rw[<-HW.o];go_wp2_with fail;have aA:=z2X a c b N W1 (by have:=HX.o.rd;rw[J.o]at this;exact this) (by have:=J.o;omega) wF wF;rw[<-J.o,aB.o]at aA;refine aA.mono ?_;rintro e w2 ⟨rfl,a8⟩;obtain⟨y0,y1⟩:=a9.o w2 a8;have a5:=z7 a8;have aT:IntKind.i64.wrap ((N:Int) - i)=(N:Int) - i:=z0l wF wF;clear aA a8 x0 x1;by_cases aJ:N<i
 .have HG:Hid (z2Z l i width=0/\z2D l i width=10):=z7 (by unfold z2Z z2D;have:=HN.o;rw[wR wF,wR wF];exact⟨rfl,rfl⟩);go_wp2;go_ret2;rw[HG.o.1,HG.o.2];exact⟨rfl,I.o.trans (a5.o.mono I.o.size)⟩
 by_cases aL:N<i+width
 .have d2:decide ((N:Int) - i<width)=true:=hQ;have HG:Hid (z2Z l i width=0/\z2D l i width=10):=z7 (by unfold z2Z z2D;have:=HN.o;rw[wR wF,wR wF];exact⟨rfl,rfl⟩);go_wp2;go_ret2;rw[HG.o.1,HG.o.2];exact⟨rfl,I.o.trans (a5.o.mono I.o.size)⟩
 have d2:decide ((N:Int) - i<width)=false:=wC;have HG:Hid (z2Z l i width=z3R ((l.drop i).take width)/\z2D l i width=0):=z7 (by unfold z2Z z2D;have:=HN.o;rw[wZ wF,wZ wF];exact⟨rfl,rfl⟩);obtain⟨iw,b3⟩:=zN (i+width);have b2:i+width<=N:=wF
 go_wp2_with fail;clear d2 aO aX aV aT y0 y1 aJ aL;go_loopw[1,2,8] (fun fv kv vv wr=>∃k d:Nat,fv= .int .i64 ((i+d:Nat):Int)/\kv= .int .i64 k/\vv= .int .u64 ((z3R ((l.drop i).take d):Nat):Int)/\d+k=width/\Hid (Below W1.heap.size W1 wr)) (fun _ kv _ _=>match kv with | .int _ j=>j.toNat|_=>0)
 case atStart=>exact⟨width,0,rfl,rfl,by simp[z3R],wF,a5⟩
 case round=>
  obtain⟨k,d,rfl,rfl,rfl,aW,hb⟩:=hrel;obtain⟨V,hV⟩:=zN (z3R ((l.drop i).take d));rw[<-hV];by_cases h0:k=0
  .subst h0;obtain rfl:d=width:=wF
   have HV:=z7 hV;clear hV;go_wp2;go_ret2;rw[HG.o.1,HG.o.2,HV.o];exact⟨rfl,I.o.trans (hb.o.mono I.o.size)⟩
  have d0:(0:Int)<k:=wF;have aM:V<2^d:=by
   have:=z7w ((l.drop i).take d);rw[<-hV]at this;exact wS this (uU wG (by simp;omega))
  obtain⟨y,hy⟩:=zN (z6b l (i+d));have aH:y<256:=(by rw[hy];exact(z4r l (i+d)).1);have a0:Hid (∀m,m<=8->m<=k->bits .or .u64 (IntKind.u64.wrap ((V:Int)*2^m)) ((y:Int)/2^(8 - m))=((z3R ((l.drop i).take (d+m)):Nat):Int)):=z7 fun m hm aG=>by
   have aI:y/2^(8 - m)<2^m:=by
    rw[ix (pV _),<-ke,show m+(8 - m)=8 by omega];exact aH
   have aN:V*2^m<2^64:=by
    have:V*2^m<2^d*2^m:=dz aM (pV _);rw[<-ke]at this;exact wS this (uU wG wF)
   have e1:IntKind.u64.wrap ((V:Int)*2^m)=((V*2^m:Nat):Int):=by
    rw[wq,show((V:Int)*2^m)=((V*2^m:Nat):Int) by simp];omega
   have e2:((y:Int)/2^(8 - m))=((y/2^(8 - m):Nat):Int):=wH;rw[e1,e2,rp _ _ aN (wS aI (uU wG wF:2^m<=2^64)),y9s aI,hV,hy,q3Z hm (by have:=HN.o;omega)]
  have HY:=z7 hy;have aE:i+d<l.length:=(by have:=HN.o;omega);clear hy hV;have aC:Hid (∀w',Below wr.heap.size wr w'->w'.cell? ⟨w.heap.size,0,none⟩=some (.slice a n c)/\w'.cell? ⟨w.heap.size,1,none⟩=some (.int .i64 (N:Nat))):=z7 fun w' aS=>a9.o w' (hb.o.trans (aS.mono hb.o.size));obtain⟨m,hm⟩:=zN (min k 8);have aR:m<=8:=wF
  have aG:m<=k:=wF;have a4:=a0.o m aR aG;have b6:IntKind.i64.wrap (((i+d:Nat):Int)+m)=((i+(d+m):Nat):Int):=(by rw[z0l wF wF];omega);have b7:IntKind.i64.wrap ((k:Int) - m)=((k - m:Nat):Int):=(by rw[z0l wF wF];omega);have b5:IntKind.i64.wrap (8 - (m:Int))=8 - (m:Int):=z0l wF wF;obtain⟨wb,aU⟩:=zN wr;clear aU;obtain⟨R,hR⟩:=zN (z3R ((l.drop i).take (d+m)));rw[<-hR]at a4;have HR:=z7 hR;have HM:=z7 hm;clear hR a0;have aY:y/2^(8 - m)<256:=pS (dd _ _) aH;have b0:IntKind.u64.wrap ((y:Int)/2^(8 - m))=(y:Int)/2^(8 - m):=by
   have e:((y:Int)/2^(8 - m))=((y/2^(8 - m):Nat):Int):=wH;rw[wq,e]
   generalize y/2^(8 - m)=t at aY ⊢
   omega
  by_cases h8:k<=8
  .obtain rfl:m=k:=wF
   clear hm;go_wp2_with fail;refine q6 12 54 (fun D v w'=>Below wr.heap.size wr w') wD.drew ?_;simp only[z0C];iterate 5 (refine q8.rd ?_ (fun D v w' O A=>?_) ?_;rotate_left;(obtain⟨x0,x1⟩:=aC.o w' A;clear A O;go_simp;try rfl);go_simp)
   refine q8.ca (.int .u8 (y:Nat)) (fun D v w' O A=>?_) ?_
   .have L:=z7 A;clear A O;go_simp;go_at_call 70;have U:=y4U a n c l b (i+d) w' (HX.o.low (hb.o.trans (L.o.mono hb.o.size))) aE (by have:=HN.o;omega);rw[<-HN.o,<-HY.o]at U;refine U.mono ?_;rintro e w'' ⟨rfl,a6⟩;exact⟨rfl,L.o.trans (a6.mono L.o.size)⟩
   go_simp;iterate 6 (refine q8.rd ?_ (fun D v w' O A=>?_) ?_;rotate_left;(clear A O;go_simp;try rfl);go_simp)
   refine q8.fin (fun v w5 A=>?_);have L:=z7 (hb.o.trans (A.mono hb.o.size));clear A;go_wp2;exact⟨⟨0,d+m,by first|trivial|(congr 1;omega),by trivial,by rw[HR.o],wF,L⟩,by show(0:Int).toNat<(m:Int).toNat;omega⟩
  obtain rfl:m=8:=wF
  have b8:IntKind.i64.wrap 0=0:=(by rw[uL];rfl);have aZ:bits .or .u64 (IntKind.u64.wrap ((V:Int)*256)) (y:Int)=(R:Int):=(by simpa using a4);have b1:IntKind.u64.wrap (y:Int)=(y:Int):=(by rw[wq];omega);clear hm;go_wp2_with fail;refine q6 12 54 (fun D v w'=>Below wr.heap.size wr w') wD.drew ?_;simp only[z0C];iterate 5 (refine q8.rd ?_ (fun D v w' O A=>?_) ?_;rotate_left;(obtain⟨x0,x1⟩:=aC.o w' A;clear A O;go_simp;try rfl);go_simp)
  refine q8.ca (.int .u8 (y:Nat)) (fun D v w' O A=>?_) ?_
  .have L:=z7 A;clear A O;go_simp;go_at_call 70;have U:=y4U a n c l b (i+d) w' (HX.o.low (hb.o.trans (L.o.mono hb.o.size))) aE (by have:=HN.o;omega);rw[<-HN.o,<-HY.o]at U;refine U.mono ?_;rintro e w'' ⟨rfl,a6⟩;exact⟨rfl,L.o.trans (a6.mono L.o.size)⟩
  go_simp;iterate 6 (refine q8.rd ?_ (fun D v w' O A=>?_) ?_;rotate_left;(clear A O;go_simp;try rfl);go_simp)
  refine q8.fin (fun v w5 A=>?_);have L:=z7 (hb.o.trans (A.mono hb.o.size));clear A;go_wp2;exact⟨⟨k - 8,d+8,by first|trivial|(congr 1;omega),by first|trivial|(congr 1;omega),by rw[HR.o],wF,L⟩,by first|(show((k - 8:Nat):Int).toNat<(k:Int).toNat;omega)|(show((k:Int) - 8).toNat<(k:Int).toNat;omega)⟩
theorem y4B{l:List Bool}{i n:Nat}(A:n<=8)(h:i+n<=l.length):z5X (z6b l i) n=(l.drop i).take n:=q1P (z4r l i).2 A h
theorem q4I{W w4:World}{K:List (Nat×Obj)}{w:World}{q r:Nat}{l:List Bool}{A:Option Addr}{I c4:Nat}{b4:List UInt8}(L:y0r W K w4 q l A I c4 b4)(J:Below w.heap.size w W)(a0:w.heap.size<=r)(U:r<W.heap.size)(hg:W.heap[r]? =some (.cells #[.slice none 0 0,.int .i64 0] 49 (0,0))){fn:Func}{t u:Tmp}(hf:fn.results= #[.cell t 49,.tmp u]){tmps:Array Value}(h1:tmps.getD t undef= .pointer (some ⟨r,0,none⟩))(h2:tmps.getD u undef= .int .u16 0):
  bodyPost prog fn (z8u w l) .ret ⟨tmps, []⟩ ((w4.setCell ⟨r,0,none⟩ (.slice A I c4)).setCell ⟨r,1,none⟩ (.int .i64 l.length)):=by
 have R:=(L.low.block r U).trans hg;have Y:((w4.setCell ⟨r,0,none⟩ (.slice A I c4)).setCell ⟨r,1,none⟩ (.int .i64 l.length)).heap[r]? =some (.cells #[.slice A I c4,.int .i64 l.length] 49 (0,0)):=by
  have:=z0a (z0a R 0 (.slice A I c4)) 1 (.int .i64 l.length);simpa using this
 have O:∀k,(Value.slice A I c4).ownBlock=some k->k≠r:=fun k N e=>by have:=(L.row.lt k N).1;omega
 refine wU (z7A hf tmps _ r (.slice A I c4) (.int .i64 l.length) h1 Y rfl rfl) rfl ?_;rw[h2];refine⟨A,I,c4,b4,rfl,?_,L.len,L.bits,?_⟩
 .exact z0f (j7 (j7 L.row fun k N=>q7 (O k N)) fun k N=>q7 (O k N)) J.size
 exact((J.trans (L.low.mono J.size)).setCell (by show w.heap.size<=r;omega) _).setCell (by show w.heap.size<=r;omega) _
theorem z3y.then{W w w':World}{K:List (Nat×Obj)}{q:Nat}{l:List Bool}(h:z3y W K w q l)(hb:Below w.heap.size w w'):z3y W K w' q l:=by
 obtain⟨a,m,c,b,h⟩:=h;exact⟨a,m,c,b,h.then hb⟩
theorem q3s{W w:World}(h:Below W.heap.size W w):z3y W [] (w.alloc (.cells #[.slice none 0 0,.int .i64 0] 173)) w.heap.size []:=
 ⟨none,0,0, [],j8 _ _,uN _ _ _ _,rfl,z0S.nil,(fun e=>by cases e),h.size,h.trans ((q5 w _).mono h.size),fun p A=>by cases A⟩
theorem q2D(a:Option Addr)(n c:Nat)(l:List Bool)(b:List UInt8)(i j:Nat)(w:World)(h:z0r w a n c l b)(hl:l.length<=549755813888)(aR:i<=j)(hj:j<=l.length):
  Calls prog 32 #[.agg #[.slice a n c,.int .i64 l.length],.int .i64 i,.int .i64 (j:Nat)] w (z8u w ((l.drop i).take (j - i))):=by
 obtain⟨N,hN⟩:=zN l.length;rw[<-hN];obtain⟨w1,a1⟩:=zN (w.alloc (.cells #[.slice a n c,.int .i64 (N:Nat)] 49));obtain⟨A,R⟩:=zN (w1.alloc (.cells #[.slice none 0 0,.int .i64 0] 49));have a6:Below w.heap.size w w1:=by rw[a1];exact q5 _ _
 have I:Below w1.heap.size w1 A:=by rw[R];exact q5 _ _
 have aB:w1.heap.size=w.heap.size+1:=by rw[a1];simp
 have aJ:A.heap.size=w.heap.size+2:=by rw[R];simp[aB]
 have aH:A.heap[w.heap.size]? =some (.cells #[.slice a n c,.int .i64 (N:Nat)] 49 (0,0)):=(I.block _ wF).trans (by rw[a1];exact j8 _ _);have aI:A.heap[w.heap.size+1]? =some (.cells #[.slice none 0 0,.int .i64 0] 49 (0,0)):=by rw[R,<-aB];exact j8 _ _
 have a7:Below w.heap.size w A:=a6.trans (I.mono a6.size);have a8:Hid (∀w',Below A.heap.size A w'->w'.cell? ⟨w.heap.size,0,none⟩=some (.slice a n c)/\w'.cell? ⟨w.heap.size,1,none⟩=some (.int .i64 (N:Nat))):=z7 fun w' hw=>by
  have h1:=(hw.block w.heap.size wF).trans aH;constructor<;>simp[World.cell?,h1]
 have HW:Hid ((w.alloc (.cells #[.slice a n c,.int .i64 (N:Nat)] 49)).alloc (.cells #[.slice none 0 0,.int .i64 0] 49)=A):=z7 (by rw[R,a1]);have HN:=z7 hN;have aM:=z7 a7;have aE:=z7 aI;have hX:=h.low a7;have HX:=z7 hX;obtain⟨x0,x1⟩:=a8.o A wD;have a3:=h.len;have HS:=z7 aJ;have a0:=z2V h.bits;rw[<-hN]at a0;have aF:=z7 a0;have b1:n<=137438953473:=by have:=h.bits.len;omega
 have aZ:N<=549755813888:=wF
 have aD:j<=N:=wF
 have O:=z7 a3;clear a1 R a6 I aB aJ aH aI a7 h hN hX a3 a0 hl hj;have d1:decide ((i:Int)<0)=false:=wC;have d2:decide ((j:Int)<i)=false:=wC;have d3:decide ((N:Int)<j)=false:=wC;have aX:decide (j<i)=false:=wC;have aY:decide (N<j)=false:=wC;go_enter func32,ntmps32;go_upto_region 1 with fail
 rw[HW.o];go_wp2_with fail;have aC:=z2X a c b N A (by have:=HX.o.rd;rw[O.o]at this;exact this) (by have:=O.o;omega) wF wF;rw[<-O.o,aF.o]at aC;refine aC.mono ?_;rintro e w2 ⟨rfl,I⟩;obtain⟨y0,y1⟩:=a8.o w2 I;have HQ:=z7 (q3s I);clear aC x0 x1;obtain⟨q,hq⟩:=zN w2.heap.size;rw[<-hq]at HQ;have aO:=z7 hq;clear hq I;go_wp2_with fail;rw[<-aO.o];clear y0 y1;go_loopw[1] (fun fv wr=>∃p:Nat,fv= .int .i64 p/\i<=p/\p<=j/\Hid (z3y A [] wr q ((l.drop i).take (p - i)))) (fun fv _=>match fv with | .int _ x=>j - x.toNat|_=>0)
 case atStart=>exact⟨i,rfl,wJ _,aR,by simpa using HQ⟩
 case round=>
  obtain⟨p,rfl,b2,b3,hb⟩:=hrel;clear HQ;by_cases h0:p<j
  .have d0:(p:Int)<j:=wF;obtain⟨r,hr⟩:=zN (j - p);obtain⟨m,hm⟩:=zN (min r 8);have aA:m<=8:=wF;have aW:0<m:=wF;have b0:p+m<=j:=wF;have b5:IntKind.i64.wrap ((j:Int) - p)=(r:Int):=(by rw[z0l wF wF];omega);obtain⟨p',aS⟩:=zN (p+m);have J:p<p'/\p'<=j/\i<=p':=wF;have aU:IntKind.i64.wrap ((p:Int)+m)=(p':Int):=(by rw[z0l wF wF];omega);obtain⟨y0,y1⟩:=a8.o wr hb.o.low;obtain⟨y,hy⟩:=zN (z6b l p);have aL:y<256:=(by rw[hy];exact(z4r l p).1);have aG:Hid (∀w',Below A.heap.size A w'->Calls prog 70 #[.agg #[.slice a n c,.int .i64 (N:Nat)],.int .i64 p] w' fun e w''=>e= .returned (.int .u8 (y:Nat))/\Below w'.heap.size w' w''):=z7 fun w' aT=>by
    have:=y4U a n c l b p w' (HX.o.low aT) (by have:=HN.o;omega) (by have:=HN.o;omega);rw[<-HN.o,<-hy]at this;exact this
   have Y:Hid (∀w',z3y A [] w' q ((l.drop i).take (p - i)++z5X y m)->z3y A [] w' q ((l.drop i).take (p' - i))):=z7 fun w' h=>by
    have e:l.drop p=(l.drop i).drop (p - i):=(by rw[oe];congr 1;omega);rw[hy,y4B aA (by have:=HN.o;omega),e,<-qe,show p - i+m=p' - i by omega]at h;exact h
   have a9:((l.drop i).take (p - i)).length<=1099511627776:=(by simp;have:=HN.o;omega);have HM:=z7 hm;have HR:=z7 hr;obtain⟨l',L⟩:=zN ((l.drop i).take (p - i));rw[<-L]at Y a9 hb;clear hy L hr aS;by_cases h8:r<=8
   .obtain rfl:m=r:=wF
    clear hm;go_wp2_with fail;refine(aG.o wr hb.o.low).mono ?_;rintro e w3 ⟨rfl,U⟩;have a5:=z7 (z3y.then hb.o U);clear U y0 y1;go_wp2_with fail;refine(y0K q y m l' A [] w3 a5.o aL aA a9).mono ?_;rintro e w4 ⟨rfl,h4⟩;have HF:=z7 (Y.o w4 h4);clear h4;go_wp2;exact⟨⟨p',rfl,J.2.2,J.2.1,HF⟩,by show j - (p':Int).toNat<j - (p:Int).toNat;omega⟩
   obtain rfl:m=8:=wF
   have aV:IntKind.i64.wrap ((p:Int)+8)=(p':Int):=(by simpa using aU);clear hm;go_wp2_with fail;refine(aG.o wr hb.o.low).mono ?_;rintro e w3 ⟨rfl,U⟩;have a5:=z7 (z3y.then hb.o U);clear U y0 y1;go_wp2_with fail;refine(y0K q y 8 l' A [] w3 a5.o aL aA a9).mono ?_;rintro e w4 ⟨rfl,h4⟩;have HF:=z7 (Y.o w4 h4);clear h4;go_wp2;exact⟨⟨p',rfl,J.2.2,J.2.1,HF⟩,by show j - (p':Int).toNat<j - (p:Int).toNat;omega⟩
  have d0:decide ((p:Int)<j)=false:=wC;obtain rfl:p=j:=wF
  obtain⟨a4,m4,c4,b4,h4⟩:=hb.o;have H4:=z7 h4;obtain⟨c0,c1,cf⟩:=h4.cells wr rfl;have a2:=(h4.low.block (w.heap.size+1) (by have:=HS.o;omega)).trans aE.o;have e0:wr.cell? ⟨w.heap.size+1,0,none⟩=some (.slice none 0 0):=(by simp[World.cell?,a2]);have e1:wr.cell? ⟨w.heap.size+1,1,none⟩=some (.int .i64 0):=(by simp[World.cell?,a2]);have ef:∀j,wr.frozen? ⟨w.heap.size+1,j,none⟩=false:=(by simp[World.frozen?,a2]);obtain⟨l',L⟩:=zN ((l.drop i).take (p - i));rw[<-L]at c1 H4;have aN:=z7 L;clear h4 hb a2 L;go_wp2_with fail;change bodyPost prog Tryz.f32 _ .ret _ _;rw[<-aN.o];exact q4I (r:=w.heap.size+1) (fn:=Tryz.f32) (t:=6) (u:=7) H4.o aM.o wF (by have:=HS.o;omega) aE.o rfl rfl rfl
theorem z3y.add{W w w':World}{K:List (Nat×Obj)}{q x:Nat}{o:Obj}{l:List Bool}(h:z3y W K w q l)(hb:Below w.heap.size w w')(L:w.heap.size<=x)(J:w'.heap[x]? =some o):z3y W ((x,o)::K) w' q l:=by
 obtain⟨a,m,c,b,h⟩:=h;have A:=h.then hb
 refine⟨a,m,c,b,A.blk,A.row,A.len,A.bits,A.far,A.up,A.low,fun p I=>?_⟩;rcases wy.1 I with rfl|I
 .exact⟨J,by have:=h.lt;show x≠q;omega,fun e=>by have:=(h.row.lt x e).2;omega⟩
 exact A.kept p I
theorem z3y.less{W w:World}{K:List (Nat×Obj)}{q:Nat}{p:Nat×Obj}{l:List Bool}(h:z3y W (p::K) w q l):z3y W K w q l:=by
 obtain⟨a,m,c,b,h⟩:=h;exact⟨a,m,c,b,h.blk,h.row,h.len,h.bits,h.far,h.up,h.low,fun p A=>h.kept p (uJ _ A)⟩
theorem z3y.got{W w:World}{K:List (Nat×Obj)}{q x:Nat}{o:Obj}{l:List Bool}(h:z3y W ((x,o)::K) w q l):w.heap[x]? =some o:=by
 obtain⟨a,m,c,b,h⟩:=h;exact(h.kept _ uK).1
structure BIt where
 a:Option Addr
 n:Nat
 c:Nat
 l:List Bool
 b:List UInt8
def BIt.cells(x:BIt):List Value:= [.slice x.a x.n x.c,.int .i64 x.l.length]
def z9h(w:World)(v:Value)(xs:List BIt):Prop:=Rd w v 2 xs.length (xs.flatMap BIt.cells)/\∀x∈xs,z0r w x.a x.n x.c x.l x.b/\x.l.length<=4294967296
theorem z9h.low{w w':World}{v:Value}{I:List BIt}(h:z9h w v I)(hb:Below w.heap.size w w'):z9h w' v I:=⟨Rd.low h.1 hb,fun x A=>⟨(h.2 x A).1.low hb,(h.2 x A).2⟩⟩
theorem q4p:∀(A:List BIt) (i:Nat) (I:i<A.length) (j:Nat),j<2->(A.flatMap BIt.cells)[i*2+j]? =(A[i].cells)[j]?
 | [],i,I,j,hj=>by simp at I
 | x::A,0,I,j,hj=>by
  rw[uH,uX (by simp[BIt.cells];omega),gd,uZ];rfl
 | x::A,i+1,I,j,hj=>by
  rw[uH,uO (by simp[BIt.cells];omega)];have e:(i+1)*2+j - x.cells.length=i*2+j:=by simp[BIt.cells];omega
  rw[e,q4p A i (by simpa using I) j hj];rfl
theorem z9h.at{w:World}{v:Value}{I:List BIt}(h:z9h w v I){i:Nat}(L:i<I.length):∃J A c x,v= .slice (some ⟨J,A,none⟩) I.length c/\I[i]? =some x/\J<w.heap.size/\z0r w x.a x.n x.c x.l x.b/\x.l.length<=4294967296/\w.cell? ⟨J,A+i*2,none⟩=some (.slice x.a x.n x.c)/\w.cell? ⟨J,A+i*2+1,none⟩=some (.int .i64 x.l.length):=by
 obtain⟨J,A,c,rfl,N,hb⟩:=Rd.addr h.1 wF wF;have O:=h.2 I[i] (ug L);refine⟨J,A,c,I[i],rfl,wL L,hb,O.1,O.2,?_,?_⟩
 .have:=N (i*2) _ (by rw[show i*2=i*2+0 by omega,q4p I i L 0 wF];rfl);exact this
 have:=N (i*2+1) _ (by rw[q4p I i L 1 wF];rfl);rw[<-im]at this;exact this
def joinL(xs:List BIt):List Bool:=xs.flatMap BIt.l
theorem y7v:∀A:List BIt,(∀y∈A,y.l.length<=4294967296)->(joinL A).length<=A.length*4294967296
 | [],_=>by simp[joinL]
 | y::A,h=>by
  have L:=h y wH;have I:=y7v A fun z J=>h z (by simp[J]);unfold joinL at I ⊢;rw[uH,wP,wW,ic];omega
theorem q5L(a:Option Addr)(n c:Nat)(xs:List BIt)(w:World)(h:z9h w (.slice a n c) xs)(hn:n=xs.length)(bS:n<=8):
  Calls prog 144 #[.slice a n c] w (z8u w (joinL xs)):=by
 have H:=z7 h;have HN:=z7 hn;obtain⟨R,aB⟩:=zN (w.alloc (.cells #[.slice none 0 0,.int .i64 0] 49));have b2:Below w.heap.size w R:=by rw[aB];exact q5 _ _
 have aM:R.heap[w.heap.size]? =some (.cells #[.slice none 0 0,.int .i64 0] 49 (0,0)):=by rw[aB];exact j8 _ _
 have b6:=(wI.1 aM).1;have HW:=z7 aB;have a0:=z7 b2;have aU:=z7 aM;have aX:=z7 b6;have HQ:=z7 (q3s (wN R.heap.size R));obtain⟨q,hq⟩:=zN R.heap.size;rw[<-hq]at HQ;have bF:=z7 hq;clear h hn aB b2 aM b6 hq;go_enter func144,ntmps144;go_upto_region 1 with fail
 rw[<-HW.o];go_wp2_with fail;rw[<-bF.o];go_loopw[12] (fun kv wr=>∃k:Nat,kv= .int .i64 k/\k<=n/\Hid (z3y R [] wr q (joinL (xs.take k)))) (fun kv _=>match kv with | .int _ x=>n - x.toNat|_=>0)
 case atStart=>exact⟨0,rfl,uA _,by simpa[joinL]using HQ⟩
 case round=>
  obtain⟨k,rfl,hk,hb⟩:=hrel;clear HQ;by_cases h0:k<n
  .have d0:(k:Int)<n:=wF;have aO:=a0.o.trans (hb.o.low.mono a0.o.size);obtain⟨bb,bY,cc,x,he,hx,bO,a8,bB,e0,e1⟩:=(H.o.low aO).at (i:=k) (by have:=HN.o;omega);simp only[wO]at he;obtain⟨rfl, -,rfl⟩:=he;have bJ:IntKind.i64.wrap ((k:Int)+1)=((k+1:Nat):Int):=z0l wF wF;obtain⟨xa,xn,xc,Y,xb⟩:=x;simp only at a8 bB e0 e1;obtain⟨N,hN⟩:=zN Y.length;rw[<-hN]at e1;have HX:=z7 a8;have bH:=z7 hx;have I:=z7 hN;have bN:N<=4294967296:=wF;have b9:=(H.o.2 _ (wX hx)).1;have bA:Hid (∀w' K' L',z3y R K' w' q L'->z0r w' xa xn xc Y xb):=z7 fun w' K' L' h'=>b9.low (a0.o.trans (h'.low.mono a0.o.size));clear a8 hx hN bB b9;obtain⟨O,a9⟩:∃o:Obj,o= .cells #[.slice xa xn xc,.int .i64 (N:Nat)] 49:=⟨_,rfl⟩;obtain⟨w1,aE⟩:=zN (wr.alloc (.cells #[.slice xa xn xc,.int .i64 (N:Nat)] 49));obtain⟨xo,aF⟩:=zN wr.heap.size;obtain⟨L,hL⟩:=zN (joinL (xs.take k));rw[<-hL]at hb;have a3:Below wr.heap.size wr w1:=by rw[aE];exact q5 _ _
   have HK:=z7 (hb.o.add a3 (by rw[aF];exact wJ _:wr.heap.size<=xo) (by rw[a9,aE,aF];exact j8 _ _:w1.heap[xo]? =some O));have U:Hid (∀w' L',z3y R [(xo,O)] w' q L'->w'.cell? ⟨xo,0,none⟩=some (.slice xa xn xc)/\w'.cell? ⟨xo,1,none⟩=some (.int .i64 (N:Nat))):=z7 fun w' L' h'=>by
    have:=h'.got;rw[a9]at this;constructor<;>simp[World.cell?,this]
   have bG:=z7 aE;have bI:=z7 aF;have HL:=z7 hL;have aW:=HX.o.low a3;have aA:=z7 aW;have bM:L.length<=34359738368:=by
    rw[hL];have h1:=y7v (xs.take k) fun y hy=>(H.o.2 y (mx hy)).2;rw[uR]at h1;have h2:min k xs.length*4294967296<=8*4294967296:=pF _ wF;omega
   obtain⟨x0,x1⟩:=U.o _ _ HK.o;clear aE aF hL a3 aW a9;go_upto_region 5 with fail
   rw[<-bG.o,<-bI.o];clear e0 e1;have a7:=z2V aA.o.bits;rw[<-I.o]at a7;have aG:=aA.o.len;have aY:=z7 a7;have a1:=z7 aG;have bL:xn<=536870913:=(by have:=aA.o.bits.len;have:=I.o;omega);clear a7 aG;go_wp2_with fail;have aS:=z2X xa xc xb N w1 (by have:=aA.o.rd;rw[a1.o]at this;exact this) (by have:=a1.o;omega) wF wF;rw[<-a1.o,aY.o]at aS;refine aS.mono ?_;rintro e w2 ⟨rfl,b1⟩;have aV:=z7 (HK.o.then b1);clear aS b1 x0 x1;go_wp2_with fail;go_loopw[7] (fun pv wi=>∃p:Nat,pv= .int .i64 p/\p<=N+8/\Hid (z3y R [(xo,O)] wi q (L++Y.take p))) (fun pv _=>match pv with | .int _ x=>N+8 - x.toNat|_=>0)
   case atStart=>exact⟨0,rfl,uA _,by simpa using aV⟩
   case round=>
    obtain⟨p,rfl,hp,aL⟩:=hrel;clear aV;have a2:=aL;have a8:=z7 (bA.o _ _ _ aL.o);have a5:Hid (∀w',Below wr.heap.size wr w'->w'.cell? ⟨xo,0,none⟩=some (.slice xa xn xc)/\w'.cell? ⟨xo,1,none⟩=some (.int .i64 (N:Nat))):=z7 fun w' aT=>U.o _ _ (a2.o.then aT);obtain⟨y0,y1⟩:=a5.o wr wD;clear aL;by_cases bT:p<N
    .have d1:(p:Int)<N:=wF;obtain⟨r,hr⟩:=zN (N - p);obtain⟨m,hm⟩:=zN (min r 8);obtain⟨p',b8⟩:=zN (p+8);have aH:p'<=N+8:=wF;have bU:p<p':=wF;have aR:m<=8:=wF;have bX:IntKind.i64.wrap ((N:Int) - p)=(r:Int):=(by rw[z0l wF wF];omega);have bV:IntKind.i64.wrap ((p:Int)+8)=(p':Int):=(by rw[z0l wF wF];omega);obtain⟨y,hy⟩:=zN (z6b Y p);have bC:y<256:=(by rw[hy];exact(z4r Y p).1);have b0:Hid (∀w',Below wr.heap.size wr w'->Calls prog 70 #[.agg #[.slice xa xn xc,.int .i64 (N:Nat)],.int .i64 p] w' fun e w''=>e= .returned (.int .u8 (y:Nat))/\Below w'.heap.size w' w''):=z7 fun w' aT=>by
      have:=y4U xa xn xc Y xb p w' (a8.o.low aT) (by have:=I.o;omega) (by have:=I.o;omega);rw[<-I.o,<-hy]at this;exact this
     have a6:Hid (∀w',z3y R [(xo,O)] w' q ((L++Y.take p)++z5X y m)->z3y R [(xo,O)] w' q (L++Y.take p')):=z7 fun w' h'=>by
      have e:(Y.drop p).take m=(Y.drop p).take 8:=by
       by_cases h9:r<=8
       .rw[wt (by simp;have:=I.o;omega),wt (by simp;have:=I.o;omega)]
       rw[show m=8 by omega]
      rw[hy,y4B aR (by have:=I.o;omega),e,wj,<-qe,<-b8]at h';exact h'
     have aN:(L++Y.take p).length<=1099511627776:=(by simp;omega);obtain⟨L',aZ⟩:=zN (L++Y.take p);rw[<-aZ]at a6 aN a2;have HM:=z7 hm;have HR:=z7 hr;clear hy aZ hr b8;by_cases h8:r<=8
     .obtain rfl:m=r:=wF
      clear hm;go_wp2_with fail;refine q6 9 41 (fun D v w'=>Below wr.heap.size wr w') wD.drew ?_;simp only[z0C];iterate 3 (refine q8.rd ?_ (fun D v w' hD A=>?_) ?_;rotate_left;(obtain⟨y0,y1⟩:=a5.o w' A;clear A hD;go_simp;try rfl);go_simp)
      refine q8.ca (.int .u8 (y:Nat)) (fun D v w' hD A=>?_) ?_
      .have J:=z7 A;clear A hD;go_simp;go_at_call 70;refine(b0.o w' J.o).mono ?_;rintro e w'' ⟨rfl,aJ⟩;exact⟨rfl,J.o.trans (aJ.mono J.o.size)⟩
      go_simp;iterate 5 (refine q8.rd ?_ (fun D v w' hD A=>?_) ?_;rotate_left;(obtain⟨y0,y1⟩:=a5.o w' A;clear A hD;go_simp;try rfl);go_simp)
      refine q8.fin (fun v w5 A=>?_);have aI:=z7 (a2.o.then A);clear A;go_wp2_with fail;refine(y0K q y m L' R [(xo,O)] w5 aI.o bC aR aN).mono ?_;rintro e w6 ⟨rfl,h6⟩;have HF:=z7 (a6.o w6 h6);clear h6;go_wp2;exact⟨⟨p',rfl,aH,HF⟩,by show N+8 - (p':Int).toNat<N+8 - (p:Int).toNat;omega⟩
     obtain rfl:m=8:=wF
     clear hm;go_wp2_with fail;refine q6 9 41 (fun D v w'=>Below wr.heap.size wr w') wD.drew ?_;simp only[z0C];iterate 3 (refine q8.rd ?_ (fun D v w' hD A=>?_) ?_;rotate_left;(obtain⟨y0,y1⟩:=a5.o w' A;clear A hD;go_simp;try rfl);go_simp)
     refine q8.ca (.int .u8 (y:Nat)) (fun D v w' hD A=>?_) ?_
     .have J:=z7 A;clear A hD;go_simp;go_at_call 70;refine(b0.o w' J.o).mono ?_;rintro e w'' ⟨rfl,aJ⟩;exact⟨rfl,J.o.trans (aJ.mono J.o.size)⟩
     go_simp;iterate 5 (refine q8.rd ?_ (fun D v w' hD A=>?_) ?_;rotate_left;(obtain⟨y0,y1⟩:=a5.o w' A;clear A hD;go_simp;try rfl);go_simp)
     refine q8.fin (fun v w5 A=>?_);have aI:=z7 (a2.o.then A);clear A;go_wp2_with fail;refine(y0K q y 8 L' R [(xo,O)] w5 aI.o bC aR aN).mono ?_;rintro e w6 ⟨rfl,h6⟩;have HF:=z7 (a6.o w6 h6);clear h6;go_wp2;exact⟨⟨p',rfl,aH,HF⟩,by show N+8 - (p':Int).toNat<N+8 - (p:Int).toNat;omega⟩
    have b7:Hid (z3y R [] wr q (joinL (xs.take (k+1)))):=z7 (by
     have h9:=a2.o.less;rw[wt (by have:=I.o;omega),HL.o]at h9;rw[uG,bH.o];unfold joinL at h9 ⊢;rw[uk];simpa using h9)
    have b5:k+1<=n:=h0;obtain⟨k',b3⟩:=zN (k+1);rw[<-b3]at b7 b5 bJ;have bR:k<k':=wF;clear b3;go_wp2;exact⟨⟨k',rfl,b5,b7⟩,by show n - (k':Int).toNat<n - (k:Int).toNat;omega⟩
  have d0:decide ((k:Int)<n)=false:=wC;obtain rfl:k=n:=wF
  obtain⟨a4,m4,c4,b4,h4⟩:=hb.o;have H4:=z7 h4;obtain⟨c0,c1,cf⟩:=h4.cells wr rfl;have aC:=(h4.low.block w.heap.size aX.o).trans aU.o;have e0:wr.cell? ⟨w.heap.size,0,none⟩=some (.slice none 0 0):=(by simp[World.cell?,aC]);have e1:wr.cell? ⟨w.heap.size,1,none⟩=some (.int .i64 0):=(by simp[World.cell?,aC]);have ef:∀j,wr.frozen? ⟨w.heap.size,j,none⟩=false:=(by simp[World.frozen?,aC]);have aD:joinL (xs.take k)=joinL xs:=(by rw[wt (by have:=HN.o;omega)]);rw[aD]at c1 H4;obtain⟨L,hL⟩:=zN (joinL xs);rw[<-hL]at c1 H4;have bE:=z7 hL;clear h4 hb aC hL aD;go_wp2_with fail;change bodyPost prog Tryz.f144 _ .ret _ _;rw[<-bE.o];exact q4I (r:=w.heap.size) (fn:=Tryz.f144) (t:=2) (u:=3) H4.o a0.o wE aX.o aU.o rfl rfl rfl
theorem z8E{fn:Func}{t0 t1:Tmp}(h:fn.results= #[.tmp t0,.cell t1 256])(tmps:Array Value)(w:World)(U:Nat)(A I J:Value)(h1:tmps.getD t1 undef= .pointer (some ⟨U,0,none⟩))(L:w.heap[U]? =some (.cells #[A,I,J] 256 (0,0)))(Y:([A,I,J].all Value.oneCell')=true):
  (results fn tmps).run prog w= .ok (.tuple #[tmps.getD t0 undef,.agg #[A,I,J]]) w:=by
 simp only[pU,pd,ow,uh]at Y;have N:w.cell? ⟨U,0,none⟩=some A:=by simp[World.cell?,L]
 have O:w.cell? ⟨U,1,none⟩=some I:=by simp[World.cell?,L]
 have R:w.cell? ⟨U,2,none⟩=some J:=by simp[World.cell?,L]
 simp only[uP]at h1;simp[results,h,go_sem,N,O,R,h1]
theorem y7M{fn:Func}{Y:Tmp}(h:fn.results= #[.cell Y 298])(tmps:Array Value)(w:World)(O:Nat)(A I:Value)(U:tmps.getD Y undef= .pointer (some ⟨O,0,none⟩))(N:w.heap[O]? =some (.cells #[A,I] 298 (0,0)))(R:([A,I].all Value.oneCell')=true):
  (results fn tmps).run prog w= .ok (.agg #[A,I]) w:=by
 simp only[pU,pd,ow,uh]at R;have J:w.cell? ⟨O,0,none⟩=some A:=by simp[World.cell?,N]
 have L:w.cell? ⟨O,1,none⟩=some I:=by simp[World.cell?,N]
 simp only[uP]at U;simp[results,h,go_sem,J,L,U]
theorem z9C{fn:Func}{t0 t1:Tmp}(h:fn.results= #[.tmp t0,.cell t1 104])(tmps:Array Value)(w:World)(O:Nat)(A I J L:Value)(h1:tmps.getD t1 undef= .pointer (some ⟨O,0,none⟩))(N:w.heap[O]? =some (.cells #[A,I,J,L] 104 (0,0)))(a1:([A,I,J,L].all Value.oneCell')=true):
  (results fn tmps).run prog w= .ok (.tuple #[tmps.getD t0 undef,.agg #[A,I,J,L]]) w:=by
 simp only[pU,pd,ow,uh]at a1;have R:w.cell? ⟨O,0,none⟩=some A:=by simp[World.cell?,N]
 have U:w.cell? ⟨O,1,none⟩=some I:=by simp[World.cell?,N]
 have Y:w.cell? ⟨O,2,none⟩=some J:=by simp[World.cell?,N]
 have a0:w.cell? ⟨O,3,none⟩=some L:=by simp[World.cell?,N]
 simp only[uP]at h1;simp[results,h,go_sem,R,U,Y,a0,h1]
theorem q4d{fn:Func}{t0 t1 t2:Tmp}(h:fn.results= #[.cell t0 49,.cell t1 104,.tmp t2])(tmps:Array Value)(w:World)(r0:Nat)(A I:Value)(h0:tmps.getD t0 undef= .pointer (some ⟨r0,0,none⟩))(a5:w.heap[r0]? =some (.cells #[A,I] 49 (0,0)))(a6:([A,I].all Value.oneCell')=true)(U:Nat)(J L N O:Value)(h1:tmps.getD t1 undef= .pointer (some ⟨U,0,none⟩))(R:w.heap[U]? =some (.cells #[J,L,N,O] 104 (0,0)))(a7:([J,L,N,O].all Value.oneCell')=true):
  (results fn tmps).run prog w= .ok (.tuple #[.agg #[A,I],.agg #[J,L,N,O],tmps.getD t2 undef]) w:=by
 simp only[pU,pd,ow,uh]at a6;have Y:w.cell? ⟨r0,0,none⟩=some A:=by simp[World.cell?,a5]
 have a0:w.cell? ⟨r0,1,none⟩=some I:=by simp[World.cell?,a5]
 simp only[uP]at h0;simp only[pU,pd,ow,uh]at a7;have a1:w.cell? ⟨U,0,none⟩=some J:=by simp[World.cell?,R]
 have a2:w.cell? ⟨U,1,none⟩=some L:=by simp[World.cell?,R]
 have a3:w.cell? ⟨U,2,none⟩=some N:=by simp[World.cell?,R]
 have a4:w.cell? ⟨U,3,none⟩=some O:=by simp[World.cell?,R]
 simp only[uP]at h1;simp[results,h,go_sem,Y,a0,h0,a1,a2,a3,a4,h1]
theorem z7m{fn:Func}{Y t1 t2:Tmp}(h:fn.results= #[.tmp Y,.cell t1 298,.tmp t2])(tmps:Array Value)(w:World)(O:Nat)(A I:Value)(U:tmps.getD t1 undef= .pointer (some ⟨O,0,none⟩))(N:w.heap[O]? =some (.cells #[A,I] 298 (0,0)))(R:([A,I].all Value.oneCell')=true):
  (results fn tmps).run prog w= .ok (.tuple #[tmps.getD Y undef,.agg #[A,I],tmps.getD t2 undef]) w:=by
 simp only[pU,pd,ow,uh]at R;have J:w.cell? ⟨O,0,none⟩=some A:=by simp[World.cell?,N]
 have L:w.cell? ⟨O,1,none⟩=some I:=by simp[World.cell?,N]
 simp only[uP]at U;simp[results,h,go_sem,J,L,U]
theorem z5k{fn:Func}{t0 t1 t2 t3:Tmp}(h:fn.results= #[.tmp t0,.tmp t1,.cell t2 104,.tmp t3])(tmps:Array Value)(w:World)(O:Nat)(A I J L:Value)(h2:tmps.getD t2 undef= .pointer (some ⟨O,0,none⟩))(N:w.heap[O]? =some (.cells #[A,I,J,L] 104 (0,0)))(a1:([A,I,J,L].all Value.oneCell')=true):
  (results fn tmps).run prog w= .ok (.tuple #[tmps.getD t0 undef,tmps.getD t1 undef,.agg #[A,I,J,L],tmps.getD t3 undef]) w:=by
 simp only[pU,pd,ow,uh]at a1;have R:w.cell? ⟨O,0,none⟩=some A:=by simp[World.cell?,N]
 have U:w.cell? ⟨O,1,none⟩=some I:=by simp[World.cell?,N]
 have Y:w.cell? ⟨O,2,none⟩=some J:=by simp[World.cell?,N]
 have a0:w.cell? ⟨O,3,none⟩=some L:=by simp[World.cell?,N]
 simp only[uP]at h2;simp[results,h,go_sem,R,U,Y,a0,h2]
theorem y7p{fn:Func}{t0 t1 t2:Tmp}(h:fn.results= #[.cell t0 49,.cell t1 106,.tmp t2])(tmps:Array Value)(w:World)(r0:Nat)(I J:Value)(h0:tmps.getD t0 undef= .pointer (some ⟨r0,0,none⟩))(aA:w.heap[r0]? =some (.cells #[I,J] 49 (0,0)))(aB:([I,J].all Value.oneCell')=true)(r1:Nat)(L N O R U Y a0:Value)(h1:tmps.getD t1 undef= .pointer (some ⟨r1,0,none⟩))(A:w.heap[r1]? =some (.cells #[L,N,O,R,U,Y,a0] 106 (0,0)))(aC:([L,N,O,R,U,Y,a0].all Value.oneCell')=true):
  (results fn tmps).run prog w= .ok (.tuple #[.agg #[I,J],.agg #[L,N,O,R,U,Y,a0],tmps.getD t2 undef]) w:=by
 simp only[pU,pd,ow,uh]at aB;have a1:w.cell? ⟨r0,0,none⟩=some I:=by simp[World.cell?,aA]
 have a2:w.cell? ⟨r0,1,none⟩=some J:=by simp[World.cell?,aA]
 simp only[uP]at h0;simp only[pU,pd,ow,uh]at aC;have a3:w.cell? ⟨r1,0,none⟩=some L:=by simp[World.cell?,A]
 have a4:w.cell? ⟨r1,1,none⟩=some N:=by simp[World.cell?,A]
 have a5:w.cell? ⟨r1,2,none⟩=some O:=by simp[World.cell?,A]
 have a6:w.cell? ⟨r1,3,none⟩=some R:=by simp[World.cell?,A]
 have a7:w.cell? ⟨r1,4,none⟩=some U:=by simp[World.cell?,A]
 have a8:w.cell? ⟨r1,5,none⟩=some Y:=by simp[World.cell?,A]
 have a9:w.cell? ⟨r1,6,none⟩=some a0:=by simp[World.cell?,A]
 simp only[uP]at h1;simp[results,h,go_sem,a1,a2,h0,a3,a4,a5,a6,a7,a8,a9,h1]
theorem y1R{fn:Func}{t0 t1 t2 t3:Tmp}(h:fn.results= #[.cell t0 79,.tmp t1,.cell t2 106,.tmp t3])(tmps:Array Value)(w:World)(r0:Nat)(I J:Value)(h0:tmps.getD t0 undef= .pointer (some ⟨r0,0,none⟩))(aA:w.heap[r0]? =some (.cells #[I,J] 79 (0,0)))(aB:([I,J].all Value.oneCell')=true)(r2:Nat)(L N O R U Y a0:Value)(h2:tmps.getD t2 undef= .pointer (some ⟨r2,0,none⟩))(A:w.heap[r2]? =some (.cells #[L,N,O,R,U,Y,a0] 106 (0,0)))(aC:([L,N,O,R,U,Y,a0].all Value.oneCell')=true):
  (results fn tmps).run prog w= .ok (.tuple #[.agg #[I,J],tmps.getD t1 undef,.agg #[L,N,O,R,U,Y,a0],tmps.getD t3 undef]) w:=by
 simp only[pU,pd,ow,uh]at aB;have a1:w.cell? ⟨r0,0,none⟩=some I:=by simp[World.cell?,aA]
 have a2:w.cell? ⟨r0,1,none⟩=some J:=by simp[World.cell?,aA]
 simp only[uP]at h0;simp only[pU,pd,ow,uh]at aC;have a3:w.cell? ⟨r2,0,none⟩=some L:=by simp[World.cell?,A]
 have a4:w.cell? ⟨r2,1,none⟩=some N:=by simp[World.cell?,A]
 have a5:w.cell? ⟨r2,2,none⟩=some O:=by simp[World.cell?,A]
 have a6:w.cell? ⟨r2,3,none⟩=some R:=by simp[World.cell?,A]
 have a7:w.cell? ⟨r2,4,none⟩=some U:=by simp[World.cell?,A]
 have a8:w.cell? ⟨r2,5,none⟩=some Y:=by simp[World.cell?,A]
 have a9:w.cell? ⟨r2,6,none⟩=some a0:=by simp[World.cell?,A]
 simp only[uP]at h2;simp[results,h,go_sem,a1,a2,h0,a3,a4,a5,a6,a7,a8,a9,h2]
theorem y6e{fn:Func}{t0 t1 t2:Tmp}(h:fn.results= #[.tmp t0,.cell t1 106,.tmp t2])(tmps:Array Value)(w:World)(Y:Nat)(I J L N O R U:Value)(h1:tmps.getD t1 undef= .pointer (some ⟨Y,0,none⟩))(A:w.heap[Y]? =some (.cells #[I,J,L,N,O,R,U] 106 (0,0)))(a7:([I,J,L,N,O,R,U].all Value.oneCell')=true):
  (results fn tmps).run prog w= .ok (.tuple #[tmps.getD t0 undef,.agg #[I,J,L,N,O,R,U],tmps.getD t2 undef]) w:=by
 simp only[pU,pd,ow,uh]at a7;have a0:w.cell? ⟨Y,0,none⟩=some I:=by simp[World.cell?,A]
 have a1:w.cell? ⟨Y,1,none⟩=some J:=by simp[World.cell?,A]
 have a2:w.cell? ⟨Y,2,none⟩=some L:=by simp[World.cell?,A]
 have a3:w.cell? ⟨Y,3,none⟩=some N:=by simp[World.cell?,A]
 have a4:w.cell? ⟨Y,4,none⟩=some O:=by simp[World.cell?,A]
 have a5:w.cell? ⟨Y,5,none⟩=some R:=by simp[World.cell?,A]
 have a6:w.cell? ⟨Y,6,none⟩=some U:=by simp[World.cell?,A]
 simp only[uP]at h1;simp[results,h,go_sem,a0,a1,a2,a3,a4,a5,a6,h1]
structure Loc (w0:World) (K:List (Nat×Obj)) (w:World):Prop where
 low:Below w0.heap.size w0 w
 blk:∀p∈K,w.heap[p.1]? =some p.2/\w0.heap.size<=p.1
 nodup:(K.map Prod.fst).Nodup
theorem Loc.start(w:World):Loc w [] w:=⟨wN _ _,(fun p A=>by cases A),List.nodup_nil⟩
theorem Loc.lts{w0 w:World}{K:List (Nat×Obj)}(h:Loc w0 K w){p:Nat×Obj}(A:p∈K):p.1<w.heap.size:=(wI.1 (h.blk p A).1).1
theorem Loc.new{w0 w:World}{K:List (Nat×Obj)}(h:Loc w0 K w)(o:Obj):Loc w0 ((w.heap.size,o)::K) (w.alloc o):=by
 have I:=q5 w o;refine⟨h.low.trans (I.mono h.low.size),fun p A=>?_,?_⟩
 .rcases wy.1 A with rfl|A
  .exact⟨j8 _ _,h.low.size⟩
  exact⟨(I.block p.1 (h.lts A)).trans (h.blk p A).1,(h.blk p A).2⟩
 rw[uI,ew];refine⟨fun J=>?_,h.nodup⟩;obtain⟨p,A,L⟩:=uC.1 J;have:=h.lts A;omega
theorem Loc.new'{w0 w:World}{K:List (Nat×Obj)}(h:Loc w0 K w)(o:Obj){n:Nat}(A:n=w.heap.size):Loc w0 ((n,o)::K) (w.alloc o):=by
 subst A;exact h.new o
theorem Loc.call{w0 w w':World}{K:List (Nat×Obj)}(h:Loc w0 K w)(hb:Below w.heap.size w w'):Loc w0 K w':=
 ⟨h.low.trans (hb.mono h.low.size),fun p A=>⟨(hb.block p.1 (h.lts A)).trans (h.blk p A).1,(h.blk p A).2⟩,h.nodup⟩
theorem Loc.add{w0 w w':World}{K:List (Nat×Obj)}(h:Loc w0 K w)(hb:Below w.heap.size w w'){g:Nat}{o:Obj}(L:w'.heap[g]? =some o)(I:w.heap.size<=g):Loc w0 ((g,o)::K) w':=by
 have J:=h.call hb;refine⟨J.low,fun p A=>?_,?_⟩
 .rcases wy.1 A with rfl|A
  .exact⟨L,wV h.low.size I⟩
  exact J.blk p A
 rw[uI,ew];refine⟨fun N=>?_,h.nodup⟩;obtain⟨p,A,O⟩:=uC.1 N;have:=h.lts A;omega
theorem Loc.named{w0 w:World}{K:List (Nat×Obj)}(h:Loc w0 K w):∃W,W=w/\Loc w0 K W:=⟨w,rfl,h⟩
theorem Loc.drew{w0 w:World}{K:List (Nat×Obj)}(h:Loc w0 K w):Loc w0 K w.drew:=⟨h.low.drew,h.blk,h.nodup⟩
theorem Loc.less{w0 w:World}{p:Nat×Obj}{K:List (Nat×Obj)}(h:Loc w0 (p::K) w):Loc w0 K w:=
 ⟨h.low,fun q A=>h.blk q (uJ _ A),by have:=h.nodup;rw[uI,ew]at this;exact this.2⟩
theorem Loc.get{w0 w:World}{K:List (Nat×Obj)}(h:Loc w0 K w)(i:Nat){b:Nat}{o:Obj}(A:K[i]? =some (b,o)):w.heap[b]? =some o:=(h.blk _ (wX A)).1
theorem Loc.lt{w0 w:World}{K:List (Nat×Obj)}(h:Loc w0 K w)(i:Nat){b:Nat}{o:Obj}(A:K[i]? =some (b,o)):b<w.heap.size:=h.lts (wX A)
theorem Loc.ge{w0 w:World}{K:List (Nat×Obj)}(h:Loc w0 K w)(i:Nat){b:Nat}{o:Obj}(A:K[i]? =some (b,o)):w0.heap.size<=b:=(h.blk _ (wX A)).2
theorem Loc.set{w0 w:World}{K:List (Nat×Obj)}(h:Loc w0 K w)(i:Nat){b:Nat}{cs:Array Value}{t:TypeId}{fr:Nat×Nat}(N:K[i]? =some (b,.cells cs t fr))(j:Nat)(v:Value):
  Loc w0 (K.set i (b,.cells (cs.setIfInBounds j v) t fr)) (w.setCell ⟨b,j,none⟩ v):=by
 have O:=wX N;have I:i<K.length:=(wY.1 N).1;have U:K[i]=(b,Obj.cells cs t fr):=(wY.1 N).2;have J:(K.set i (b,Obj.cells (cs.setIfInBounds j v) t fr)).map Prod.fst=K.map Prod.fst:=by
  rw[qs];have:(K.map Prod.fst)[i]'(by simpa using I)=b:=by rw[gy,U]
  simp only[<-this,iu]
 refine⟨h.low.setCell (h.blk _ O).2 _,fun p hp=>?_,by rw[J];exact h.nodup⟩;obtain⟨n,R,A⟩:=pO hp;rw[pj]at R;rw[ql]at A;split at A
 .subst A;exact⟨z0a (h.blk _ O).1 j v,(h.blk _ O).2⟩
 rename_i Y;subst A;have L:K[n]∈K:=ug R;have hb:K[n].1≠b:=fun e=>by
  have h1:=(List.getElem_inj (i:=n) (j:=i) (h₀:=by simpa using R) (h₁:=by simpa using I) h.nodup).1 (by rw[gy,gy,U];exact e);omega
 exact⟨(q7 hb).trans (h.blk _ L).1,(h.blk _ L).2⟩
theorem Loc.far{w0 w:World}{K:List (Nat×Obj)}{b:Nat}{j:Nat}{v:Value}(h:Loc w0 K w)(hb:w0.heap.size<=b)(I:∀p∈K,p.1≠b):Loc w0 K (w.setCell ⟨b,j,none⟩ v):=
 ⟨h.low.setCell hb _,fun p A=>⟨(q7 (I p A)).trans (h.blk p A).1,(h.blk p A).2⟩,h.nodup⟩
structure SlS (W:World) (t:TypeId) (n i j:Nat) (cs:Array Value) (D:Nat->Bool) (v:Nat->Value) (w':World):Prop where
 low:Below W.heap.size W w'
 made:D i=true->∃g,v i= .slice (some ⟨g,0,none⟩) n n/\W.heap.size<=g/\w'.heap[g]? =some (.cells cs t (0,0))
 asg:D j=true->D i=true/\v j=v i
section
variable {W w' w'':World} {t n i j:Nat} {cs:Array Value} {D:Nat->Bool} {v:Nat->Value}
theorem SlS.start(W:World)(t n i j:Nat)(cs:Array Value):SlS W t n i j cs (fun _=>false) (fun _=>undef) W.drew:=⟨wD.drew,(fun h=>by cases h),fun h=>by cases h⟩
theorem SlS.call(h:SlS W t n i j cs D v w')(k:Nat)(I:k≠i)(N:k≠j)(hb:Below w'.heap.size w' w''):SlS W t n i j cs (mark D k) v w'':=
 ⟨h.low.trans (hb.mono h.low.size),(fun e=>by
  rw[q9 I]at e;obtain⟨g,J,L,A⟩:=h.made e;exact⟨g,J,L,(hb.block g (wI.1 A).1).trans A⟩),fun e=>by rw[q9 N]at e;rw[q9 I];exact h.asg e⟩
theorem SlS.make(A:i≠j)(h:SlS W t n i j cs D v w')(I:D j=false):SlS W t n i j cs (mark D i) (z3d v i (.slice (some ⟨w'.heap.size,0,none⟩) n n)) (w'.alloc (.cells cs t)):=
 ⟨h.low.trans ((q5 w' _).mono h.low.size),(fun _=>⟨w'.heap.size,z0q _ _ _,h.low.size,j8 _ _⟩),fun e=>by rw[q9 A,I]at e;cases e⟩
theorem SlS.assign(A:i≠j)(h:SlS W t n i j cs D v w')(I:D i=true):SlS W t n i j cs (mark D j) (z3d v j (v i)) w':=
 ⟨h.low,(fun e=>by
  obtain⟨g,J,L,N⟩:=h.made I;exact⟨g,(by rw[z0g (pz A)];exact J),L,N⟩),fun _=>⟨by rw[q9 (pz A)];exact I,by rw[z0q,z0g (pz A)]⟩⟩
end
theorem y1x(w:World)(cs:Array Value)(e:TypeId)(n m A:Nat)(I:n=w.heap.size)(J:0<m)(h:cs.size=m*A):Rd (w.alloc (.cells cs e)) (.slice (some ⟨n,0,none⟩) m m) A m cs.toList:=by
 subst I;exact z3t w cs e m A J h
theorem z5F{w:World}{B:Nat}{l:List Bool}{a:Option Addr}{n c:Nat}{b:List UInt8}(A:w.ownsRow B 5 1 (.slice a n c) n (z0c b))(I:n=b.length)(hb:z0S b l):z0r w a n c l b:=
 ⟨by subst I;exact z0d A,I,hb⟩
theorem q4K{w J w':World}{B:Nat}{l:List Bool}{a:Option Addr}{n c:Nat}{b:List UInt8}(A:J.ownsRow B 5 1 (.slice a n c) n (z0c b))(N:w.heap.size<=B)(O:n=b.length)(hb:z0S b l)(I:Below w.heap.size w w')
  (R:∀k,B<=k->k<J.heap.size->w'.heap[k]? =J.heap[k]?):z8u w l (.returned (.tuple #[.agg #[.slice a n c,.int .i64 l.length],.int .u16 0])) w':=
 ⟨a,n,c,b,rfl,z0f (j7 A fun k L=>R k (A.lt k L).1 (A.lt k L).2) N,O,hb,I⟩
theorem z0m{w:World}{b:Nat}{x0 x1:Value}{t:TypeId}(h:w.heap[b]? =some (.cells #[x0,x1] t (0,0))):w.cell? ⟨b,0,none⟩=some x0/\w.cell? ⟨b,1,none⟩=some x1/\∀j,w.frozen? ⟨b,j,none⟩=false:=by
 refine⟨?_,?_,?_⟩<;>simp[World.cell?,World.frozen?,h]
theorem cells3{w:World}{b:Nat}{x0 x1 x2:Value}{t:TypeId}(h:w.heap[b]? =some (.cells #[x0,x1,x2] t (0,0))):w.cell? ⟨b,0,none⟩=some x0/\w.cell? ⟨b,1,none⟩=some x1/\w.cell? ⟨b,2,none⟩=some x2/\∀j,w.frozen? ⟨b,j,none⟩=false:=by
 refine⟨?_,?_,?_,?_⟩<;>simp[World.cell?,World.frozen?,h]
theorem z1y{w:World}{b:Nat}{x0 x1 x2 x3:Value}{t:TypeId}(h:w.heap[b]? =some (.cells #[x0,x1,x2,x3] t (0,0))):w.cell? ⟨b,0,none⟩=some x0/\w.cell? ⟨b,1,none⟩=some x1/\w.cell? ⟨b,2,none⟩=some x2/\w.cell? ⟨b,3,none⟩=some x3/\∀j,w.frozen? ⟨b,j,none⟩=false:=by
 refine⟨?_,?_,?_,?_,?_⟩<;>simp[World.cell?,World.frozen?,h]
theorem y2B{w:World}{b:Nat}{x0 x1 x2 x3 x4 x5:Value}{t:TypeId}(h:w.heap[b]? =some (.cells #[x0,x1,x2,x3,x4,x5] t (0,0))):w.cell? ⟨b,0,none⟩=some x0/\w.cell? ⟨b,1,none⟩=some x1/\w.cell? ⟨b,2,none⟩=some x2/\w.cell? ⟨b,3,none⟩=some x3/\w.cell? ⟨b,4,none⟩=some x4/\w.cell? ⟨b,5,none⟩=some x5/\∀j,w.frozen? ⟨b,j,none⟩=false:=by
 refine⟨?_,?_,?_,?_,?_,?_,?_⟩<;>simp[World.cell?,World.frozen?,h]
theorem z3s{w:World}{b:Nat}{x0 x1 x2 x3 x4 x5 x6:Value}{t:TypeId}(h:w.heap[b]? =some (.cells #[x0,x1,x2,x3,x4,x5,x6] t (0,0))):w.cell? ⟨b,0,none⟩=some x0/\w.cell? ⟨b,1,none⟩=some x1/\w.cell? ⟨b,2,none⟩=some x2/\w.cell? ⟨b,3,none⟩=some x3/\w.cell? ⟨b,4,none⟩=some x4/\w.cell? ⟨b,5,none⟩=some x5/\w.cell? ⟨b,6,none⟩=some x6/\∀j,w.frozen? ⟨b,j,none⟩=false:=by
 refine⟨?_,?_,?_,?_,?_,?_,?_,?_⟩<;>simp[World.cell?,World.frozen?,h]
theorem z0t{w:World}{b:Nat}{x0 x1 x2 x3 x4 x5 x6 I J L A:Value}{t:TypeId}(h:w.heap[b]? =some (.cells #[x0,x1,x2,x3,x4,x5,x6,I,J,L,A] t (0,0))):w.cell? ⟨b,0,none⟩=some x0/\w.cell? ⟨b,1,none⟩=some x1/\w.cell? ⟨b,2,none⟩=some x2/\w.cell? ⟨b,3,none⟩=some x3/\w.cell? ⟨b,4,none⟩=some x4/\w.cell? ⟨b,5,none⟩=some x5/\w.cell? ⟨b,6,none⟩=some x6/\w.cell? ⟨b,7,none⟩=some I/\w.cell? ⟨b,8,none⟩=some J/\w.cell? ⟨b,9,none⟩=some L/\w.cell? ⟨b,10,none⟩=some A/\∀j,w.frozen? ⟨b,j,none⟩=false:=by
 refine⟨?_,?_,?_,?_,?_,?_,?_,?_,?_,?_,?_,?_⟩<;>simp[World.cell?,World.frozen?,h]
def z1g:Fr:=⟨0,0,0,0,0,0,0,false,0, [],0⟩
def num(b:List UInt8)(k:Nat):Nat:=unB ((b.drop k).take 4)
def fieldsB(b:List UInt8):Fr:=
 {kind:=(b.getD 2 0).toNat,epoch:=num b 3,series:=num b 7,chunk:=num b 11,bits:=num b 15,cnt:=num b 19,count:=num b 23,closed:=(b.getD 27 0).toNat==1,
  sum:=num b 28*4294967296+num b 32,b:=(b.take (b.length - 4)).drop 40,n:=num b 36}
def y9b(b:List UInt8):Bool:=z2l (fieldsB b)&&(z0L (fieldsB b)==b)
def goF(b:List UInt8):Fr:=if y9b b then fieldsB b else z1g
def goE(b:List UInt8):Int:=if y9b b then 0 else 70
theorem z2N.store{w:World}{r:Nat}{A:Fr}{x0:Value}(h:z2N w r A x0)(f:Fr)(x:Value):z2N (w.setCells r 0 (z0b f x).toList) r f x:=by
 unfold z2N at h ⊢;rw[z0Y _ 0 _ _ h (by simp[z0b])];simp[laid,z0b]
theorem z6z(tmps:Array Value)(r:Nat)(I:Int)(f:Fr)(x:Value)(W:World)(J:tmps.getD 2 undef= .pointer (some ⟨r,0,none⟩))(L:tmps.getD 3 undef= .int .u16 I)(hA:z2N W r f x):
  (results Tryz.f37 tmps).run prog W= .ok (.tuple #[frV f x,.int .u16 I]) W:=by
 obtain⟨c0,c1,c2,c3,c4,N,O,R,U,Y,A⟩:=hA.cells;simp only[uP]at J L;simp[results,Tryz.results37,go_sem,J,L,c0,c1,c2,c3,c4,N,O,R,U,Y,A,frV,z0b]
theorem z4v{B r o:Nat}{w w':World}(h:Below B w w')(I:B<=w'.heap.size)(J:B<=r)(A:List Value):Below B w (w'.setCells r o A):=
 h.trans ((Chg.setCells (b:=r) A o w').below I (by simpa using J))
def Told(w:World)(f:Fr)(en:Int)(e:Ending)(w':World):Prop:=
 ∃a c,e= .returned (.tuple #[frV f (.slice a f.b.length c),.int .u16 en])/\RdB w' (.slice a f.b.length c) f.b/\Below w.heap.size w w'/\∀k,(Value.slice a f.b.length c).ownBlock=some k->w.heap.size<=k
theorem y3p(a:Option Addr)(c:Nat)(b:List UInt8)(w:World)(O:b.length<=9223372036854775807)(L:b.length<44\/4096<b.length):
  Calls prog 37 #[.slice a b.length c] w (Told w z1g 70):=by
 have A:∀w',Below w.heap.size w w'->Told w z1g 70 (.returned (.tuple #[.agg #[.int .u8 0,.int .u32 0,.int .u32 0,.int .u32 0,.int .u32 0,.int .u32 0,.int .u32 0,.bool false,.int .u64 0,.slice none 0 0,.int .i64 0],.int .u16 70])) w':=
  fun w' h=>⟨none,0,rfl,RdB.nil w',h,fun k J=>by cases J⟩
 have I:=z7 A;clear A;by_cases N:b.length<44
 .go_enter func37,ntmps37;go_wp2;refine wU (v:= .tuple #[.agg #[.int .u8 0,.int .u32 0,.int .u32 0,.int .u32 0,.int .u32 0,.int .u32 0,.int .u32 0,.bool false,.int .u64 0,.slice none 0 0,.int .i64 0],.int .u16 70]) (by simp[results,Tryz.results37,go_sem]) rfl ?_;exact I.o _ ((q5 _ _).alloc wH _)
 go_enter func37,ntmps37;go_wp2;refine wU (v:= .tuple #[.agg #[.int .u8 0,.int .u32 0,.int .u32 0,.int .u32 0,.int .u32 0,.int .u32 0,.int .u32 0,.bool false,.int .u64 0,.slice none 0 0,.int .i64 0],.int .u16 70]) (by simp[results,Tryz.results37,go_sem]) rfl ?_;exact I.o _ ((q5 _ _).alloc wH _)
theorem y3r(a:Option Addr)(c:Nat)(b:List UInt8)(w:World)(hx:RdB w (.slice a b.length c) b)(h1:44<=b.length)(h2:b.length<=4096)(hc:b.length<=c)(aF:c<=9223372036854775807)(hs:unB (b.drop (b.length - 4))≠z3e (b.take (b.length - 4))):
  Calls prog 37 #[.slice a b.length c] w (Told w z1g 71):=by
 have L:∀w',Below w.heap.size w w'->Told w z1g 71 (.returned (.tuple #[frV z1g (.slice none 0 0),.int .u16 71])) w':=
  fun w' h=>⟨none,0,rfl,RdB.nil w',h,fun k hk=>by cases hk⟩
 have HF:=z7 L;have HX:=z7 hx;have HS:=z7 hs;clear L hx hs;go_enter func37,ntmps37;go_wp2;go_quiet (fail)
 have J:RdB (((w.alloc (.cells #[.slice a b.length c] 47)).alloc (.cells #[.int .u8 0,.int .u32 0,.int .u32 0,.int .u32 0,.int .u32 0,.int .u32 0,.int .u32 0,.bool false,.int .u64 0,.slice none 0 0,.int .i64 0] 51)).drewN nq) (.slice a b.length c) b:=
  HX.o.low (z0j ((q5 _ _).alloc wH _))
 have I:z2N (((w.alloc (.cells #[.slice a b.length c] 47)).alloc (.cells #[.int .u8 0,.int .u32 0,.int .u32 0,.int .u32 0,.int .u32 0,.int .u32 0,.int .u32 0,.bool false,.int .u64 0,.slice none 0 0,.int .i64 0] 51)).drewN nq) (w.heap.size+1) z1g (.slice none 0 0):=by
  exact z3C (w:=w.alloc (.cells #[.slice a b.length c] 47)) _ wH
 have Y:(((w.alloc (.cells #[.slice a b.length c] 47)).alloc (.cells #[.int .u8 0,.int .u32 0,.int .u32 0,.int .u32 0,.int .u32 0,.int .u32 0,.int .u32 0,.bool false,.int .u64 0,.slice none 0 0,.int .i64 0] 51)).drewN nq).heap[w.heap.size]? =some (.cells #[.slice a b.length c] 47 (0,0)):=
  (heap_alloc_old _ _ wH).trans (j8 w _)
 have O:Below w.heap.size w (((w.alloc (.cells #[.slice a b.length c] 47)).alloc (.cells #[.int .u8 0,.int .u32 0,.int .u32 0,.int .u32 0,.int .u32 0,.int .u32 0,.int .u32 0,.bool false,.int .u64 0,.slice none 0 0,.int .i64 0] 51)).drewN nq):=
  z0j ((q5 _ _).alloc wH _)
 generalize ((w.alloc (.cells #[.slice a b.length c] 47)).alloc (.cells #[.int .u8 0,.int .u32 0,.int .u32 0,.int .u32 0,.int .u32 0,.int .u32 0,.int .u32 0,.bool false,.int .u64 0,.slice none 0 0,.int .i64 0] 51)).drewN nq=W1 at J I Y O
 have hd:=J.drop (b.length - 4) wF (c - (b.length - 4));have e:b.length - (b.length - 4)=(b.drop (b.length - 4)).length:=wH
 rw[e]at hd;have HD:=z7 hd;have HE:=z7 e;have a1:=z7 J;have a0:=z7 I;have aB:=z7 Y;have N:=z7 O;have aC:=I.lt;clear hd e J I Y O;go_wp2_with fail;rw[HE.o];refine(y8W _ _ (b.drop (b.length - 4)) _ HD.o (by simp;omega) (by simp;omega) wF).mono ?_;rintro e w' ⟨rfl,rfl⟩;rw[show(b.drop (b.length - 4)).take 4=b.drop (b.length - 4)from wt (by simp;omega)];go_wp2_with fail;refine(z9v W1).mono ?_;rintro e w2 ⟨rfl,hT,a4,a7⟩;have U:=q5h (wN _ W1) hT a4;obtain⟨tb,a8⟩:=zN W1.heap.size;rw[<-a8]at U a7 ⊢;have HC:=z7 U;clear hT a4 U HE HD a8;have a9:=z7 (a1.o.take (b.length - 4) wF wF);have a6:Hid ((b.take (b.length - 4)).length=b.length - 4):=z7 wH;go_wp2_with fail;refine(z7W tb false _ (b.take (b.length - 4)) _ _ (HC.o.alloc _).tab (z3C _ wH) wF (fun w' hc=>(HC.o.alloc _).rd hc a9.o) (by have:=a6.o;omega)).mono ?_;rintro e w5 ⟨rfl,a3,a5⟩;have R:=((HC.o.alloc _).sum a3 a5).low;have A:=z7 (a0.o.low R);have aA:Hid (Below w.heap.size w w5):=z7 (N.o.trans (R.mono N.o.size));have aE:=A.o.lt;clear a3 a5 R HC a1 a0 aB N a9 a6 a7 aC;obtain⟨c0,c1,c2,c3,c4,c5,c6,c7,c8,c9,a2⟩:=A.o.cells;have zf:∀o,w5.frozen? ⟨w.heap.size+1,o,none⟩=false:=fun o=>by simp[World.frozen?,show w5.heap[w.heap.size+1]? =_ from A.o]
 have ht:((unB (b.drop (b.length - 4)):Int) !=(z3e (b.take (b.length - 4)):Int))=true:=by rw[gn];have:=HS.o;omega
 unfold z1g at c0 c1 c2 c3 c4 c5 c6 c7 c8 a2;simp only at c0 c1 c2 c3 c4 c5 c6 c7 c8 a2;go_wp2;refine wU (z6z _ (w.heap.size+1) 71 z1g (.slice none 0 0) _ wH wH (A.o.store z1g (.slice none 0 0))) rfl ?_;exact HF.o _ (z4v (w':=w5) (r:=w.heap.size+1) (o:=0) aA.o wF wF (z0b z1g (.slice none 0 0)).toList)

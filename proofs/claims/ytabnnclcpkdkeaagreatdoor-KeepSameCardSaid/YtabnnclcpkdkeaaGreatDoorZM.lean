/- The walk of xor's differs. -/
import Derived.Test.YtabnnclcpkdkeaaGreatDoorZL
import Derived.Deep.DeepCutAuto
namespace Go.Proofs.YtabnnclcpkdkeaaGreatDoor
open Go.Proofs.Tryz
set_option linter.all false
set_option maxRecDepth 100000
set_option maxHeartbeats 0
open Go.RowKit
def y9S(l:List Bool)(p e:Nat):Nat×Nat×Nat×Bool×Nat×Nat:=
 let ld:=tkN e l p 5
 let e3:=tkE e l p 5
 let p3:=tkP e p 5
 let z:=tkN e3 l p3 6+1
 let e4:=tkE e3 l p3 6
 let p4:=tkP e3 p3 6
 let e5:=if e4=0/\64<ld+z then 30 else e4
 (tkN e5 l p4 z*2^(64 - ld - z)%18446744073709551616,ld,z,true,tkP e5 p4 z,tkE e5 l p4 z)
def z7H(l:List Bool)(p lead width:Nat):Nat×Nat×Nat×Bool×Nat×Nat:=
 if z2Z l p 1=0 then(0,lead,width,false,p+1,z2D l p 1)
 else
  let e1:=z2D l p 1
  let p1:=p+1
  let e2:=tkE e1 l p1 1
  let p2:=tkP e1 p1 1
  if tkN e1 l p1 1=0 then(tkN e2 l p2 width*2^(64 - lead - width)%18446744073709551616,lead,width,false,tkP e2 p2 width,tkE e2 l p2 width)
  else y9S l p2 e2
structure SwS (w0:World) (K1 K2:List (Nat×Obj)) (i:Nat) (D:Nat->Bool) (v:Nat->Value) (w':World):Prop where
 no:D i=false->Loc w0 K1 w'
 yes:D i=true->Loc w0 K2 w'
section
variable {w0 w' w'':World} {K1 K2:List (Nat×Obj)} {i:Nat} {D:Nat->Bool} {v:Nat->Value}
theorem SwS.start{w:World}(h:Loc w0 K1 w):SwS w0 K1 K2 i (fun _=>false) v w.drew:=⟨fun _=>h.drew,fun h=>by cases h⟩
theorem SwS.call(h:SwS w0 K1 K2 i D v w')(k:Nat)(A:k≠i)(hb:Below w'.heap.size w' w''):SwS w0 K1 K2 i (mark D k) v w'':=
 ⟨fun e=>by rw[q9 A]at e;exact(h.no e).call hb,fun e=>by rw[q9 A]at e;exact(h.yes e).call hb⟩
theorem SwS.turn(h:Loc w0 K2 w''):SwS w0 K1 K2 i (mark D i) v w'':=⟨fun e=>(by rw[z1T]at e;cases e),fun _=>h⟩
theorem SwS.get(h:SwS w0 K1 K2 i D v w'){j b:Nat}{o:Obj}(A:K1[j]? =some (b,o))(I:K2[j]? =some (b,o)):w'.heap[b]? =some o:=by
 cases hD:D i with
 | false=>exact(h.no hD).get j A
 | true=>exact(h.yes hD).get j I
end
theorem y2n(e p w:Nat):tkP e p w<=p+w:=by unfold tkP;split<;>omega
theorem y5i{e:Nat}(l:List Bool)(p w:Nat)(A:e<100):tkE e l p w<100:=by
 unfold tkE;split
 .exact z6t l p w
 exact A
theorem z7P{R:Nat×Nat×Nat×Bool×Nat×Nat}{d ld sz I A:Nat}{fr:Bool}{q n c N:Nat}{a:Option Addr}{w0 w':World}{K:List (Nat×Obj)}{i:Nat}{x y z:Nat×Obj}(J:R=(d,ld,sz,fr,I,A))(h:Loc w0 (x::y::z::K.set i (q,z0k a n c N I A)) w'):
  Ending.returned (.tuple #[.int .u64 d,.agg #[.int .i64 ld,.int .i64 sz],.bool fr])=Ending.returned (.tuple #[.int .u64 (R.1:Nat),.agg #[.int .i64 (R.2.1:Nat),.int .i64 (R.2.2.1:Nat)],.bool R.2.2.2.1])/\
   Loc w0 (K.set i (q,z0k a n c N R.2.2.2.2.1 R.2.2.2.2.2)) w':=by
 subst J;exact⟨rfl,h.less.less.less⟩
abbrev XK (w1 w:World) (has:Bool) (prev lead width x y:Nat) (K:List (Nat×Obj)):List (Nat×Obj):=
 (w1.heap.size,.cells #[.int .i64 x,.int .i64 y] 298 (0,0))::(w.heap.size+1,.cells #[.int .i64 0,.int .i64 0] 298 (0,0))::(w.heap.size,.cells #[.bool has,.int .u64 prev,.int .u8 lead,.int .u8 width] 104 (0,0))::K
theorem y8S(q:Nat)(a:Option Addr)(n c:Nat)(l:List Bool)(b:List UInt8)(p:Nat)(J:Bool)(prev A width:Nat)(w0:World)(K:List (Nat×Obj))(i:Nat)(w:World)(hL:Loc w0 K w)(hi:K[i]? =some (q,z0k a n c l.length p 0))(h:z0r w0 a n c l b)(hl:l.length<=549755813888)(hp:p<=1099511626000)(bZ:A<=31/\width<=64/\A+width<=64):
  Calls prog 184 #[.pointer (some ⟨q,0,none⟩),.agg #[.bool J,.int .u64 prev,.int .u8 A,.int .u8 width]] w fun e w'=>
   e= .returned (.tuple #[.int .u64 ((z7H l p A width).1:Nat),.agg #[.int .i64 ((z7H l p A width).2.1:Nat),.int .i64 ((z7H l p A width).2.2.1:Nat)],.bool (z7H l p A width).2.2.2.1])/\
   Loc w0 (K.set i (q,z0k a n c l.length (z7H l p A width).2.2.2.2.1 (z7H l p A width).2.2.2.2.2)) w':=by
 obtain⟨N,hN⟩:=zN l.length;have aB:Hid (∀w' K' i' p' e' wd,Loc w0 K' w'->K'[i']? =some (q,z0k a n c N p' e')->p'<=1099511627000->e'<100->wd<=64->Calls prog 182 #[.pointer (some ⟨q,0,none⟩),.int .i64 (wd:Nat)] w' fun e w''=>e= .returned (.int .u64 (tkN e' l p' wd:Nat))/\Loc w0 (K'.set i' (q,z0k a n c N (tkP e' p' wd) (tkE e' l p' wd))) w''):=z7 fun w' K' i' p' e' wd bA bX c9 c7 cB=>by
  have:=y9W q a n c l b p' e' wd w' (h.low bA.low) hl c9 c7 cB (by rw[<-hN];exact bA.get i' bX);rw[<-hN]at this;refine this.mono ?_;rintro e w'' ⟨rfl,cA⟩;exact⟨rfl,cA w0 K' i' bA bX⟩
 rw[<-hN]at hi ⊢;have c5:=z7 (q4X J prev A width wF wF);have bD:=z7 ((hL.new (.cells #[.bool J,.int .u64 prev,.int .u8 A,.int .u8 width] 104)).new' (.cells #[.int .i64 0,.int .i64 0] 298) (n:=w.heap.size+1) wH);have HI:=z7 hi;obtain⟨R,hR⟩:=zN (z7H l p A width);rw[<-hR];have HR:=z7 hR;clear hL hi h hl hR hN;go_enter func184,ntmps184;go_wp2_with fail;refine(c5.o _).mono ?_;rintro e w1 ⟨rfl,bV⟩;have bW:=z7 ((bD.o.call bV).new (.cells #[.int .i64 A,.int .i64 width] 298));clear bV;go_wp2_with fail;refine(aB.o _ _ (i+3) p 0 1 bW.o HI.o wF wG wG).mono ?_;rintro e w2 ⟨rfl,bL⟩;obtain⟨E1,aM⟩:=zN (z2D l p 1);obtain⟨P1,aV⟩:=zN (p+1);have aS:=z7 (show Loc w0 (XK w1 w J prev A width A width<| K.set i (q,z0k a n c N (p+1) (z2D l p 1))) w2 from bL);rw[<-aM,<-aV]at aS;have b7:E1<100:=by rw[aM];exact z6t l p 1
 have bY:(K.set i (q,z0k a n c N P1 E1))[i]? =some (q,z0k a n c N P1 E1):=uo (wY.1 HI.o).1;have bH:=z7 bY;clear bL bY;have e1:tkN 0 l p 1=z2Z l p 1:=rfl;rw[e1];clear e1;obtain⟨n1,aN⟩:=zN (z2Z l p 1);rw[<-aN];have cL:=z7 aN;obtain⟨b0,b1,bf⟩:=z0m (aS.o.get 0 rfl);obtain⟨r0,r1,rf⟩:=z0m (aS.o.get 1 rfl);by_cases h1:n1=0
 .have a5:Hid (R=(0,A,width,false,P1,E1)):=z7 (by rw[HR.o,aV,aM];unfold z7H;rw[wZ (by rw[<-aN];exact h1)]);subst h1;clear aN aM aV;go_wp2_with fail;go_region
  go_wp2;have a1:=((aS.o.set 1 rfl 0 (.int .i64 A)).set 1 rfl 1 (.int .i64 width)).drew;refine wU (z7m rfl _ _ (w.heap.size+1) _ _ rfl (a1.get 1 rfl) rfl) rfl ?_;exact z7P a5.o a1
 have d1:((n1:Int)==0)=false:=by simp;omega
 go_wp2_with fail;refine(aB.o _ _ (i+3) P1 E1 1 aS.o bH.o wF b7 wG).mono ?_;rintro e w3 ⟨rfl,bM⟩;obtain⟨E2,aZ⟩:=zN (tkE E1 l P1 1);obtain⟨P2,bB⟩:=zN (tkP E1 P1 1);obtain⟨n2,bG⟩:=zN (tkN E1 l P1 1);have a8:=z7 (show Loc w0 (XK w1 w J prev A width A width<| (K.set i (q,z0k a n c N P1 E1)).set i (q,z0k a n c N (tkP E1 P1 1) (tkE E1 l P1 1))) w3 from bM);rw[gK,<-aZ,<-bB]at a8;rw[<-bG];have aU:E2<100:=by rw[aZ];exact y5i l P1 1 b7
 have cH:P2<=1099511626002:=by have:=y2n E1 P1 1;omega
 have aL:Hid (R=if n2=0 then(tkN E2 l P2 width*2^(64 - A - width)%18446744073709551616,A,width,false,tkP E2 P2 width,tkE E2 l P2 width)else y9S l P2 E2):=z7 (by
  rw[HR.o];unfold z7H;rw[wR (by rw[<-aN];exact h1),bG,aZ,bB,aM,aV])
 have aO:=z7 (show(K.set i (q,z0k a n c N P2 E2))[i]? =some (q,z0k a n c N P2 E2)from uo (wY.1 HI.o).1);clear aN aM aV bM bH b0 b1 bf r0 r1 rf;obtain⟨b0,b1,bf⟩:=z0m (a8.o.get 0 rfl);obtain⟨r0,r1,rf⟩:=z0m (a8.o.get 1 rfl);have l2:=a8.o.lt 0 rfl;have l3:=a8.o.lt 1 rfl;clear aZ bB bG;by_cases h2:n2=0
 .subst h2;have a6:=z7 (y1D A width bZ.2.2);obtain⟨D0,aH⟩:=zN (64 - A - width);rw[<-aH]at a6 aL;obtain⟨V,hV⟩:=zN (tkN E2 l P2 width);have bI:D0<=64:=wF;obtain⟨X,hX⟩:=zN (V*2^D0%18446744073709551616);have bE:IntKind.u64.wrap ((V:Int)*2^D0)=(X:Int):=by
   rw[wq,hX,show((V:Int)*2^D0)=((V*2^D0:Nat):Int) by simp];omega
  obtain⟨E3,aC⟩:=zN (tkE E2 l P2 width);obtain⟨P3,aI⟩:=zN (tkP E2 P2 width);have a5:Hid (R=(X,A,width,false,P3,E3)):=z7 (by rw[aL.o,wZ rfl,hX,hV,aC,aI]);have aF:Hid (∀w',Loc w0 (XK w1 w J prev A width A width<| K.set i (q,z0k a n c N P2 E2)) w'->Calls prog 182 #[.pointer (some ⟨q,0,none⟩),.int .i64 width] w' fun e w''=>e= .returned (.int .u64 (V:Nat))/\Loc w0 (XK w1 w J prev A width A width<| K.set i (q,z0k a n c N P3 E3)) w''):=z7 fun w' h'=>by
   refine(aB.o _ _ (i+3) P2 E2 width h' aO.o wF aU bZ.2.1).mono ?_;rintro e w'' ⟨rfl,aG⟩;refine⟨by rw[hV],?_⟩;have:=(show Loc w0 (XK w1 w J prev A width A width<| (K.set i (q,z0k a n c N P2 E2)).set i (q,z0k a n c N (tkP E2 P2 width) (tkE E2 l P2 width))) w'' from aG);rw[gK,<-aC,<-aI]at this;exact this
  clear hX hV aC aI aL aH b0 b1 bf;go_wp2_with fail;refine q6 9 58 (fun D v w'=>SwS w0 (XK w1 w J prev A width A width<| K.set i (q,z0k a n c N P2 E2)) (XK w1 w J prev A width A width<| K.set i (q,z0k a n c N P3 E3)) 3 D v w') (SwS.start a8.o) ?_;simp only[z0C];iterate 3 (refine q8.rl ?_ (fun D v w h=>⟨h.no,h.yes⟩) (fun D v w' L I=>?_) ?_;rotate_left;(obtain⟨b0,b1,bf⟩:=z0m (I.get (j:=0) rfl rfl);clear I L;go_simp;try rfl);go_simp)
  refine q8.ca (.int .u64 (V:Nat)) (fun D v w' L I=>?_) ?_
  .have HS:=z7 (I.no L.self);clear I L;go_simp;go_at_call 182;refine(aF.o w' HS.o).mono ?_;rintro e w'' ⟨rfl,a0⟩;exact⟨rfl,SwS.turn a0⟩
  go_simp;(refine q8.rl ?_ (fun D v w h=>⟨h.no,h.yes⟩) (fun D v w' L I=>?_) ?_;rotate_left;(obtain⟨b0,b1,bf⟩:=z0m (I.get (j:=0) rfl rfl);clear I L;go_simp;try rfl);go_simp)
  refine q8.ca (.int .i64 D0) (fun D v w' L I=>?_) ?_
  .have HS:=z7 I;clear I L;go_simp;go_at_call 168;refine(a6.o w').mono ?_;rintro e w'' ⟨rfl,a0⟩;exact⟨rfl,HS.o.call 5 wG a0⟩
  go_simp;iterate 3 (refine q8.rl ?_ (fun D v w h=>⟨h.no,h.yes⟩) (fun D v w' L I=>?_) ?_;rotate_left;(obtain⟨b0,b1,bf⟩:=z0m (I.get (j:=0) rfl rfl);clear I L;go_simp;try rfl);go_simp)
  refine q8.fin (fun v w5 I=>?_);have aE:=z7 (I.yes rfl);clear I r0 r1 rf;obtain⟨r0,r1,rf⟩:=z0m (aE.o.get 1 rfl);go_wp2;have a1:=(aE.o.set 1 rfl 0 (.int .i64 A)).set 1 rfl 1 (.int .i64 width);refine wU (z7m rfl _ _ (w.heap.size+1) _ _ rfl (a1.get 1 rfl) rfl) rfl ?_;exact z7P a5.o a1
 have d2:((n2:Int)==0)=false:=(by simp;omega);rw[wR h2]at aL;clear h2;go_wp2_with fail;refine(aB.o _ _ (i+3) P2 E2 5 a8.o aO.o wF aU wG).mono ?_;rintro e w4 ⟨rfl,bN⟩;obtain⟨E3,aC⟩:=zN (tkE E2 l P2 5);obtain⟨P3,aI⟩:=zN (tkP E2 P2 5);obtain⟨O,aW⟩:=zN (tkN E2 l P2 5);have aY:=z7 (show Loc w0 (XK w1 w J prev A width A width<| (K.set i (q,z0k a n c N P2 E2)).set i (q,z0k a n c N (tkP E2 P2 5) (tkE E2 l P2 5))) w4 from bN);rw[gK,<-aC,<-aI]at aY;rw[<-aW];have b8:E3<100:=(by rw[aC];exact y5i l P2 5 aU);have cI:P3<=1099511626010:=(by have:=y2n E2 P2 5;omega);have cG:O<32:=by rw[aW];exact z8F E2 l P2 5
 have b5:=z7 (show(K.set i (q,z0k a n c N P3 E3))[i]? =some (q,z0k a n c N P3 E3)from uo (wY.1 HI.o).1);have cC:IntKind.i64.wrap (O:Int)=(O:Int):=z0l wF wF;have b3:=z7 aW;have b2:=z7 aC;have b4:=z7 aI;clear bN aW aC aI aO b0 b1 bf r0 r1 rf;obtain⟨b0,b1,bf⟩:=z0m (aY.o.get 0 rfl);go_wp2_with fail;have b6:=z7 (show Loc w0 (XK w1 w J prev A width O width<| K.set i (q,z0k a n c N P3 E3)) _ from aY.o.set 0 rfl 0 (.int .i64 O));refine(aB.o _ _ (i+3) P3 E3 6 b6.o b5.o wF b8 wG).mono ?_;rintro e w5 ⟨rfl,bO⟩;obtain⟨E4,aD⟩:=zN (tkE E3 l P3 6);obtain⟨U,bC⟩:=zN (tkP E3 P3 6);obtain⟨Y,hY⟩:=zN (tkN E3 l P3 6);have aE:=z7 (show Loc w0 (XK w1 w J prev A width O width<| (K.set i (q,z0k a n c N P3 E3)).set i (q,z0k a n c N (tkP E3 P3 6) (tkE E3 l P3 6))) w5 from bO);rw[gK,<-aD,<-bC]at aE;rw[<-hY];have bJ:E4<100:=(by rw[aD];exact y5i l P3 6 b8);have cJ:U<=1099511626020:=(by have:=y2n E3 P3 6;omega);have c6:Y<64:=(by rw[hY];exact z8F E3 l P3 6);obtain⟨Z,hZ⟩:=zN (Y+1);have bF:Z<=64/\0<Z:=wF;have cE:IntKind.i64.wrap (Y:Int)=(Y:Int):=z0l wF wF;have cF:IntKind.i64.wrap ((Y:Int)+1)=(Z:Int):=(by rw[z0l wF wF];omega);have aJ:Hid (∀E5,E5=(if E4=0/\64<O+Z then 30 else E4)->R=(tkN E5 l U Z*2^(64 - O - Z)%18446744073709551616,O,Z,true,tkP E5 U Z,tkE E5 l U Z)):=z7 (fun E5 h5=>by
  rw[aL.o];unfold y9S;simp only;rw[<-b2.o,<-b4.o,<-b3.o,<-aD,<-bC,<-hY,<-hZ,<-h5])
 have aR:=z7 (show(K.set i (q,z0k a n c N U E4))[i]? =some (q,z0k a n c N U E4)from uo (wY.1 HI.o).1);have a6:=z7 (q3w (O:Int) (Z:Int) wF wF wF wF);clear bO aD bC hY b5 b6 aY a8 aL b0 b1 bf hZ b3 b2 b4;obtain⟨b0,b1,bf⟩:=z0m (aE.o.get 0 rfl);go_upto_region 8 with fail
 obtain⟨W6,bT,bR⟩:=(show Loc w0 (XK w1 w J prev A width O Z<| K.set i (q,z0k a n c N U E4)) _ from aE.o.set 0 rfl 1 (.int .i64 (Z:Nat))).named;rw[<-bT];have aT:=z7 bR;clear bR bT b0 b1 bf aE cE cF cC c6;obtain⟨b0,b1,bf⟩:=z0m (aT.o.get 0 rfl);obtain⟨q0,q1,q2,q3,qf⟩:=z1y (aT.o.get (i+3) aR.o);have c8:max (64 - (O:Int) - Z) 0=((64 - O - Z:Nat):Int):=wF;obtain⟨D0,aH⟩:=zN (64 - O - Z);rw[<-aH]at c8 aJ;have bI:D0<=64:=wF;by_cases h4:E4=0
 .subst h4;have cM:decide ((0:Int)=0)=true:=wG;by_cases h5:64<O+Z
  .have d5:decide (64 - (O:Int) - Z<0)=true:=hQ;go_wp2_with fail;refine(a6.o _).mono ?_;rintro e w7 ⟨rfl,aX⟩;have b9:=z7 (aT.o.call aX);clear aX b0 b1 bf q0 q1 q2 q3 qf;obtain⟨b0,b1,bf⟩:=z0m (b9.o.get 0 rfl);obtain⟨q0,q1,q2,q3,qf⟩:=z1y (b9.o.get (i+3) aR.o);have aA:=z7 (aJ.o 30 (by simp[h5]));go_upto_region 10 with fail
   obtain⟨W8,bU,bS⟩:=(b9.o.set (i+3) aR.o 3 (.int .u16 30)).named;rw[<-bU];have a4:=z7 (show Loc w0 (XK w1 w J prev A width O Z<| (K.set i (q,z0k a n c N U 0)).set i (q,z0k a n c N U 30)) W8 from bS);rw[gK]at a4;clear bS bU b0 b1 bf q0 q1 q2 q3 qf;obtain⟨b0,b1,bf⟩:=z0m (a4.o.get 0 rfl);have a7:=z7 (show(K.set i (q,z0k a n c N U 30))[i]? =some (q,z0k a n c N U 30)from uo (wY.1 HI.o).1);obtain⟨V,hV⟩:=zN (tkN 30 l U Z);obtain⟨X,hX⟩:=zN (V*2^D0%18446744073709551616);have bE:IntKind.u64.wrap ((V:Int)*2^D0)=(X:Int):=by
    rw[wq,hX,show((V:Int)*2^D0)=((V*2^D0:Nat):Int) by simp];omega
   obtain⟨E6,a2⟩:=zN (tkE 30 l U Z);obtain⟨P6,a3⟩:=zN (tkP 30 U Z);have a5:Hid (R=(X,O,Z,true,P6,E6)):=z7 (by rw[aA.o,hX,hV,a2,a3]);have aF:Hid (∀w',Loc w0 (XK w1 w J prev A width O Z<| K.set i (q,z0k a n c N U 30)) w'->Calls prog 182 #[.pointer (some ⟨q,0,none⟩),.int .i64 (Z:Nat)] w' fun e w''=>e= .returned (.int .u64 (V:Nat))/\Loc w0 (XK w1 w J prev A width O Z<| K.set i (q,z0k a n c N P6 E6)) w''):=z7 fun w' h'=>by
    refine(aB.o _ _ (i+3) U 30 Z h' a7.o wF wG bF.1).mono ?_;rintro e w'' ⟨rfl,aG⟩;refine⟨by rw[hV],?_⟩;have:=(show Loc w0 (XK w1 w J prev A width O Z<| (K.set i (q,z0k a n c N U 30)).set i (q,z0k a n c N (tkP 30 U Z) (tkE 30 l U Z))) w'' from aG);rw[gK,<-a2,<-a3]at this;exact this
   clear hX hV a2 a3 aH b0 b1 bf;refine q6 10 58 (fun D v w'=>SwS w0 (XK w1 w J prev A width O Z<| K.set i (q,z0k a n c N U 30)) (XK w1 w J prev A width O Z<| K.set i (q,z0k a n c N P6 E6)) 3 D v w') (SwS.start a4.o) ?_;simp only[z0C];iterate 3 (refine q8.rl ?_ (fun D v w h=>⟨h.no,h.yes⟩) (fun D v w' L I=>?_) ?_;rotate_left;(obtain⟨b0,b1,bf⟩:=z0m (I.get (j:=0) rfl rfl);clear I L;go_simp;try rfl);go_simp)
   refine q8.ca (.int .u64 (V:Nat)) (fun D v w' L I=>?_) ?_
   .have HS:=z7 (I.no L.self);clear I L;go_simp;go_at_call 182;refine(aF.o w' HS.o).mono ?_;rintro e w'' ⟨rfl,a0⟩;exact⟨rfl,SwS.turn a0⟩
   go_simp;(refine q8.rl ?_ (fun D v w h=>⟨h.no,h.yes⟩) (fun D v w' L I=>?_) ?_;rotate_left;(obtain⟨b0,b1,bf⟩:=z0m (I.get (j:=0) rfl rfl);clear I L;go_simp;try rfl);go_simp)
   refine q8.ca (.int .i64 (64 - (O:Int) - Z)) (fun D v w' L I=>?_) ?_
   .have HS:=z7 I;clear I L;go_simp;go_at_call 168;refine(a6.o w').mono ?_;rintro e w'' ⟨rfl,a0⟩;exact⟨rfl,HS.o.call 5 wG a0⟩
   go_simp;iterate 4 (refine q8.rl ?_ (fun D v w h=>⟨h.no,h.yes⟩) (fun D v w' L I=>?_) ?_;rotate_left;(obtain⟨b0,b1,bf⟩:=z0m (I.get (j:=0) rfl rfl);clear I L;go_simp;try rfl);go_simp)
   refine q8.fin (fun v w9 I=>?_);have a9:=z7 (I.yes rfl);clear I;obtain⟨r0,r1,rf⟩:=z0m (a9.o.get 1 rfl);go_wp2;have a1:=(a9.o.set 1 rfl 0 (.int .i64 O)).set 1 rfl 1 (.int .i64 (Z:Nat));refine wU (z7m rfl _ _ (w.heap.size+1) _ _ rfl (a1.get 1 rfl) rfl) rfl ?_;exact z7P a5.o a1
  have d5:decide (64 - (O:Int) - Z<0)=false:=wC;go_wp2_with fail;refine(a6.o _).mono ?_;rintro e w7 ⟨rfl,aX⟩;have a4:=z7 (aT.o.call aX);clear aX b0 b1 bf q0 q1 q2 q3 qf;have aA:=z7 (aJ.o 0 (by rw[wR wF]));go_upto_region 10 with fail
  obtain⟨b0,b1,bf⟩:=z0m (a4.o.get 0 rfl);have a7:=z7 (show(K.set i (q,z0k a n c N U 0))[i]? =some (q,z0k a n c N U 0)from uo (wY.1 HI.o).1);obtain⟨V,hV⟩:=zN (tkN 0 l U Z);obtain⟨X,hX⟩:=zN (V*2^D0%18446744073709551616);have bE:IntKind.u64.wrap ((V:Int)*2^D0)=(X:Int):=by
   rw[wq,hX,show((V:Int)*2^D0)=((V*2^D0:Nat):Int) by simp];omega
  obtain⟨E6,a2⟩:=zN (tkE 0 l U Z);obtain⟨P6,a3⟩:=zN (tkP 0 U Z);have a5:Hid (R=(X,O,Z,true,P6,E6)):=z7 (by rw[aA.o,hX,hV,a2,a3]);have aF:Hid (∀w',Loc w0 (XK w1 w J prev A width O Z<| K.set i (q,z0k a n c N U 0)) w'->Calls prog 182 #[.pointer (some ⟨q,0,none⟩),.int .i64 (Z:Nat)] w' fun e w''=>e= .returned (.int .u64 (V:Nat))/\Loc w0 (XK w1 w J prev A width O Z<| K.set i (q,z0k a n c N P6 E6)) w''):=z7 fun w' h'=>by
   refine(aB.o _ _ (i+3) U 0 Z h' a7.o wF wG bF.1).mono ?_;rintro e w'' ⟨rfl,aG⟩;refine⟨by rw[hV],?_⟩;have:=(show Loc w0 (XK w1 w J prev A width O Z<| (K.set i (q,z0k a n c N U 0)).set i (q,z0k a n c N (tkP 0 U Z) (tkE 0 l U Z))) w'' from aG);rw[gK,<-a2,<-a3]at this;exact this
  clear hX hV a2 a3 aH b0 b1 bf;refine q6 10 58 (fun D v w'=>SwS w0 (XK w1 w J prev A width O Z<| K.set i (q,z0k a n c N U 0)) (XK w1 w J prev A width O Z<| K.set i (q,z0k a n c N P6 E6)) 3 D v w') (SwS.start a4.o) ?_;simp only[z0C];iterate 3 (refine q8.rl ?_ (fun D v w h=>⟨h.no,h.yes⟩) (fun D v w' L I=>?_) ?_;rotate_left;(obtain⟨b0,b1,bf⟩:=z0m (I.get (j:=0) rfl rfl);clear I L;go_simp;try rfl);go_simp)
  refine q8.ca (.int .u64 (V:Nat)) (fun D v w' L I=>?_) ?_
  .have HS:=z7 (I.no L.self);clear I L;go_simp;go_at_call 182;refine(aF.o w' HS.o).mono ?_;rintro e w'' ⟨rfl,a0⟩;exact⟨rfl,SwS.turn a0⟩
  go_simp;(refine q8.rl ?_ (fun D v w h=>⟨h.no,h.yes⟩) (fun D v w' L I=>?_) ?_;rotate_left;(obtain⟨b0,b1,bf⟩:=z0m (I.get (j:=0) rfl rfl);clear I L;go_simp;try rfl);go_simp)
  refine q8.ca (.int .i64 (64 - (O:Int) - Z)) (fun D v w' L I=>?_) ?_
  .have HS:=z7 I;clear I L;go_simp;go_at_call 168;refine(a6.o w').mono ?_;rintro e w'' ⟨rfl,a0⟩;exact⟨rfl,HS.o.call 5 wG a0⟩
  go_simp;iterate 4 (refine q8.rl ?_ (fun D v w h=>⟨h.no,h.yes⟩) (fun D v w' L I=>?_) ?_;rotate_left;(obtain⟨b0,b1,bf⟩:=z0m (I.get (j:=0) rfl rfl);clear I L;go_simp;try rfl);go_simp)
  refine q8.fin (fun v w9 I=>?_);have a9:=z7 (I.yes rfl);clear I;obtain⟨r0,r1,rf⟩:=z0m (a9.o.get 1 rfl);go_wp2;have a1:=(a9.o.set 1 rfl 0 (.int .i64 O)).set 1 rfl 1 (.int .i64 (Z:Nat));refine wU (z7m rfl _ _ (w.heap.size+1) _ _ rfl (a1.get 1 rfl) rfl) rfl ?_;exact z7P a5.o a1
 have d4:((E4:Int)==0)=false:=(by simp;omega);have aA:=z7 (aJ.o E4 (by rw[wR wF]));have a4:=aT;clear h4;go_upto_region 10 with fail
 clear b0 b1 bf q0 q1 q2 q3 qf;obtain⟨b0,b1,bf⟩:=z0m (a4.o.get 0 rfl);have a7:=z7 (show(K.set i (q,z0k a n c N U E4))[i]? =some (q,z0k a n c N U E4)from uo (wY.1 HI.o).1);obtain⟨V,hV⟩:=zN (tkN E4 l U Z);obtain⟨X,hX⟩:=zN (V*2^D0%18446744073709551616);have bE:IntKind.u64.wrap ((V:Int)*2^D0)=(X:Int):=by
  rw[wq,hX,show((V:Int)*2^D0)=((V*2^D0:Nat):Int) by simp];omega
 obtain⟨E6,a2⟩:=zN (tkE E4 l U Z);obtain⟨P6,a3⟩:=zN (tkP E4 U Z);have a5:Hid (R=(X,O,Z,true,P6,E6)):=z7 (by rw[aA.o,hX,hV,a2,a3]);have aF:Hid (∀w',Loc w0 (XK w1 w J prev A width O Z<| K.set i (q,z0k a n c N U E4)) w'->Calls prog 182 #[.pointer (some ⟨q,0,none⟩),.int .i64 (Z:Nat)] w' fun e w''=>e= .returned (.int .u64 (V:Nat))/\Loc w0 (XK w1 w J prev A width O Z<| K.set i (q,z0k a n c N P6 E6)) w''):=z7 fun w' h'=>by
  refine(aB.o _ _ (i+3) U E4 Z h' a7.o wF (by exact bJ) bF.1).mono ?_;rintro e w'' ⟨rfl,aG⟩;refine⟨by rw[hV],?_⟩;have:=(show Loc w0 (XK w1 w J prev A width O Z<| (K.set i (q,z0k a n c N U E4)).set i (q,z0k a n c N (tkP E4 U Z) (tkE E4 l U Z))) w'' from aG);rw[gK,<-a2,<-a3]at this;exact this
 clear hX hV a2 a3 aH b0 b1 bf;refine q6 10 58 (fun D v w'=>SwS w0 (XK w1 w J prev A width O Z<| K.set i (q,z0k a n c N U E4)) (XK w1 w J prev A width O Z<| K.set i (q,z0k a n c N P6 E6)) 3 D v w') (SwS.start a4.o) ?_;simp only[z0C];iterate 3 (refine q8.rl ?_ (fun D v w h=>⟨h.no,h.yes⟩) (fun D v w' L I=>?_) ?_;rotate_left;(obtain⟨b0,b1,bf⟩:=z0m (I.get (j:=0) rfl rfl);clear I L;go_simp;try rfl);go_simp)
 refine q8.ca (.int .u64 (V:Nat)) (fun D v w' L I=>?_) ?_
 .have HS:=z7 (I.no L.self);clear I L;go_simp;go_at_call 182;refine(aF.o w' HS.o).mono ?_;rintro e w'' ⟨rfl,a0⟩;exact⟨rfl,SwS.turn a0⟩
 go_simp;(refine q8.rl ?_ (fun D v w h=>⟨h.no,h.yes⟩) (fun D v w' L I=>?_) ?_;rotate_left;(obtain⟨b0,b1,bf⟩:=z0m (I.get (j:=0) rfl rfl);clear I L;go_simp;try rfl);go_simp)
 refine q8.ca (.int .i64 (64 - (O:Int) - Z)) (fun D v w' L I=>?_) ?_
 .have HS:=z7 I;clear I L;go_simp;go_at_call 168;refine(a6.o w').mono ?_;rintro e w'' ⟨rfl,a0⟩;exact⟨rfl,HS.o.call 5 wG a0⟩
 go_simp;iterate 4 (refine q8.rl ?_ (fun D v w h=>⟨h.no,h.yes⟩) (fun D v w' L I=>?_) ?_;rotate_left;(obtain⟨b0,b1,bf⟩:=z0m (I.get (j:=0) rfl rfl);clear I L;go_simp;try rfl);go_simp)
 refine q8.fin (fun v w9 I=>?_);have a9:=z7 (I.yes rfl);clear I;obtain⟨r0,r1,rf⟩:=z0m (a9.o.get 1 rfl);go_wp2;have a1:=(a9.o.set 1 rfl 0 (.int .i64 O)).set 1 rfl 1 (.int .i64 (Z:Nat));refine wU (z7m rfl _ _ (w.heap.size+1) _ _ rfl (a1.get 1 rfl) rfl) rfl ?_;exact z7P a5.o a1
theorem z2s{l:List Bool}{p w:Nat}:z2D l p w=0↔p+w<=l.length:=by
 unfold z2D;split
 .simp;assumption
 simp;omega
theorem z5v{l:List Bool}{p w:Nat}(h:z2D l p w=0):rdN w (l.drop p)=some (z2Z l p w,l.drop (p+w)):=by
 have A:=z2s.1 h;unfold rdN z2Z;rw[wZ (by rw[uE];omega),wZ A,oe]
theorem rd_not{l:List Bool}{p w:Nat}(J:p<=l.length)(h:z2D l p w≠0):rdN w (l.drop p)=none:=by
 have I:¬p+w<=l.length:=fun A=>h (z2s.2 A);unfold rdN;rw[wR (by rw[uE];omega)]
theorem z9W{l:List Bool}{p:Nat}(h:p<l.length):l.drop p=l.getD p false::l.drop (p+1):=by
 rw[pG h];simp[wu,h]
theorem y4y{v width A:Nat}(J:v<2^width)(h:A+width<=64):v*2^(64 - A - width)%18446744073709551616=v*2^(64 - A - width)/\v*2^(64 - A - width)<18446744073709551616:=by
 have I:v*2^(64 - A - width)<2^64:=by
  have:v*2^(64 - A - width)<2^width*2^(64 - A - width):=dz J (pV _);rw[<-ke]at this;exact wS this (uU wG wF)
 exact⟨dh I,I⟩
theorem z9E{v k:Nat}:v*2^k=0↔v=0:=by
 rw[Nat.mul_eq_zero];exact⟨fun h=>h.resolve_right (Nat.ne_of_gt (pV _)),.inl⟩
structure q7X (l:List Bool) (p:Nat) (prev lead width:Nat) (d ld sz:Nat) (fr:Bool) (p' e':Nat):Prop where
 bad:e'≠0->z3K ⟨true,prev,lead,width⟩ (l.drop p)=none
 same:e'=0->z2Z l p 1=0->d=0/\fr=false/\z3K ⟨true,prev,lead,width⟩ (l.drop p)=some (prev,⟨true,prev,lead,width⟩,l.drop p')
 nought:e'=0->z2Z l p 1≠0->d=0->z3K ⟨true,prev,lead,width⟩ (l.drop p)=none
 within:e'=0->z2Z l p 1≠0->d≠0->fr=false->z3K ⟨true,prev,lead,width⟩ (l.drop p)=some (prev^^^d,⟨true,prev^^^d,lead,width⟩,l.drop p')
 held:e'=0->d≠0->fr=true->(z5s lead width d=true\/ld≠z3E d\/sz≠z2n d)->z3K ⟨true,prev,lead,width⟩ (l.drop p)=none
 anew:e'=0->d≠0->fr=true->z5s lead width d=false->ld=z3E d->sz=z2n d->z3K ⟨true,prev,lead,width⟩ (l.drop p)=some (prev^^^d,⟨true,prev^^^d,ld,sz⟩,l.drop p')
 le:e'=0->p'<=l.length
 lt:d<18446744073709551616/\ld<256/\sz<256/\e'<100/\p'<=p+80
 fresh:fr=true->z2Z l p 1≠0
theorem q5X{l:List Bool}{p prev N width:Nat}(aF:N<=31/\width<=64/\N+width<=64)(hp:p<=l.length){d ld sz p' e':Nat}{fr:Bool}(A:z7H l p N width=(d,ld,sz,fr,p',e')):q7X l p prev N width d ld sz fr p' e':=by
 unfold z7H at A;by_cases Y:z2Z l p 1=0
 .rw[wZ Y]at A;simp only[wk]at A;obtain⟨rfl,rfl,rfl,rfl,rfl,rfl⟩:=A;have hx:=z9P (l:=l) (i:=p);refine⟨fun L=>?_,fun L _=>?_,fun _ h=>absurd Y h,fun _ h=>absurd Y h,fun _ h=>absurd rfl h,fun _ h=>absurd rfl h,fun L=>z2s.1 L,⟨wG,wF,wF,z6t _ _ _,wF⟩,fun h=>by cases h⟩
  .have:¬p+1<=l.length:=fun h=>L (z2s.2 h);rw[ig wF];rfl
  have h2:=z2s.1 L;refine⟨rfl,rfl,?_⟩;rw[z9W wF];have:l.getD p false=false:=by
   cases hb:l.getD p false with
   | false=>rfl
   | true=>rw[hb]at hx;rw[Y]at hx;simp at hx
  rw[this];rfl
 rw[wR Y]at A;have hx:=z9P (l:=l) (i:=p);have aJ:p<l.length:=by
  by_cases h:p<l.length
  .exact h
  exfalso;apply Y;unfold z2Z;rw[wR wF]
 have hb:l.getD p false=true:=by
  cases hb:l.getD p false with
  | true=>rfl
  | false=>rw[hb]at hx;exact absurd hx.1 Y
 have aA:z2D l p 1=0:=z2s.2 wF;have a7:l.drop p=true::l.drop (p+1):=by rw[z9W aJ,hb]
 simp only[aA]at A;have t1:∀q w,tkN 0 l q w=z2Z l q w:=fun q w=>rfl;have t2:∀q w,tkE 0 l q w=z2D l q w:=fun q w=>rfl;have t3:∀q w,tkP 0 q w=q+w:=fun q w=>rfl;rw[t1,t2,t3]at A;have a4:=z9P (l:=l) (i:=p+1);by_cases h2:z2Z l (p+1) 1=0
 .rw[wZ h2]at A;simp only[wk]at A;obtain⟨rfl,rfl,rfl,rfl,rfl,rfl⟩:=A;have a0:=z8F (z2D l (p+1) 1) l (p+1+1) width;have U:=y4y a0 aF.2.2;rw[U.1];have a8:tkP (z2D l (p+1) 1) (p+1+1) width<=p+80:=(by have:=y2n (z2D l (p+1) 1) (p+1+1) width;omega);have a2:tkE (z2D l (p+1) 1) l (p+1+1) width<100:=y5i _ _ _ (z6t _ _ _);by_cases O:z2D l (p+1) 1=0
  .have aG:=z2s.1 O;have a6:l.getD (p+1) false=false:=by
    cases hb:l.getD (p+1) false with
    | false=>rfl
    | true=>rw[hb,h2]at a4;simp at a4
   have R:l.drop p=true::false::l.drop (p+2):=(by rw[a7,z9W wF,a6]);have e3:p+1+1=p+2:=rfl;simp only[O,e3,t1,t2,t3]at a0 U a8 a2 ⊢;refine⟨fun L=>?_,fun _ h=>absurd h Y,fun L _ h0=>?_,fun L _ h0 _=>?_,(fun _ _ h=>by cases h),(fun _ _ h=>by cases h),fun L=>z2s.1 L,⟨U.2,wF,wF,a2,a8⟩,fun h=>by cases h⟩
   .rw[R];unfold z3K;simp only[qL,ei];rw[rd_not aG L]
   .rw[R];unfold z3K;simp only[qL,ei];rw[z5v L];simp only;rw[wZ (z9E.1 h0)]
   rw[R];unfold z3K;simp only[qL,ei];rw[z5v L];simp only;rw[wR (fun h=>h0 (z9E.2 h))]
  have e6:tkE (z2D l (p+1) 1) l (p+1+1) width=z2D l (p+1) 1:=wR O;rw[e6]at a2 ⊢;have a5:¬p+1<l.length:=fun h=>O (z2s.2 wF);have R:l.drop p= [true]:=by rw[a7,ig wF]
  exact⟨fun L=>by rw[R];rfl,fun h=>absurd h O,fun h=>absurd h O,fun h=>absurd h O,fun h=>absurd h O,fun h=>absurd h O,fun h=>absurd h O,⟨U.2,wF,wF,a2,a8⟩,fun h=>by cases h⟩
 rw[wR h2]at A;have a5:p+1<l.length:=by
  by_cases h:p+1<l.length
  .exact h
  exfalso;apply h2;unfold z2Z;rw[wR wF]
 have a6:l.getD (p+1) false=true:=by
  cases hb:l.getD (p+1) false with
  | true=>rfl
  | false=>rw[hb]at a4;exact absurd a4.1 h2
 have R:l.drop p=true::true::l.drop (p+2):=(by rw[a7,z9W a5,a6]);have O:z2D l (p+1) 1=0:=z2s.2 wF;rw[O]at A;have e3:p+1+1=p+2:=rfl;rw[e3]at A;unfold y9S at A;simp only[t1,t2,t3]at A;have aE:z2Z l (p+2) 5<32:=(by have:=z8F 0 l (p+2) 5;exact this);have a1:∀X,z3K ⟨true,prev,N,width⟩ (true::true::X)=(match rdN 5 X with
  | none=>none
  | some (ld,r1)=>match rdN 6 r1 with
   | none=>none
   | some (z,r2)=>if 64<ld+(z+1)then none else match rdN (z+1) r2 with
    | none=>none
    | some (d,r3)=>
     if d=0\/z5s N width (d*2^(64 - ld - (z+1)))=true\/ld≠z3E (d*2^(64 - ld - (z+1)))\/z+1≠z2n (d*2^(64 - ld - (z+1)))then none
     else some (prev^^^(d*2^(64 - ld - (z+1))),⟨true,prev^^^(d*2^(64 - ld - (z+1))),ld,z+1⟩,r3)):=fun X=>rfl
 by_cases I:z2D l (p+2) 5=0
 .simp only[I,t1,t2,t3]at A;have aH:=z2s.1 I;have aL:z2Z l (p+2+5) 6<64:=(by have:=z8F 0 l (p+2+5) 6;exact this);obtain⟨z,hz⟩:=zN (z2Z l (p+2+5) 6);obtain⟨g,hg⟩:=zN (z2Z l (p+2) 5);rw[<-hz]at A aL;rw[<-hg]at A aE;by_cases J:z2D l (p+2+5) 6=0
  .have aI:=z2s.1 J;by_cases a3:64<g+(z+1)
   .rw[wZ ⟨J,a3⟩]at A;have f1:∀q w,tkN 30 l q w=0:=fun q w=>rfl;have f2:∀q w,tkE 30 l q w=30:=fun q w=>rfl;have f3:∀q w,tkP 30 q w=q:=fun q w=>rfl;rw[f1,f2,f3]at A;simp only[wk,gd,tH]at A;obtain⟨rfl,rfl,rfl,rfl,rfl,rfl⟩:=A;refine⟨fun _=>?_,(fun h=>by cases h),(fun h=>by cases h),(fun h=>by cases h),(fun h=>by cases h),(fun h=>by cases h),(fun h=>by cases h),⟨wG,wF,wF,wG,wF⟩,fun _=>Y⟩;rw[R,a1,z5v I];simp only;rw[z5v J];simp only;rw[<-hz,<-hg,wZ a3]
   rw[wR wF]at A;simp only[J,t1,t2,t3]at A;have a0:z2Z l (p+2+5+6) (z+1)<2^(z+1):=z8F 0 l (p+2+5+6) (z+1);have U:=y4y a0 (by omega:g+(z+1)<=64);simp only[wk]at A;obtain⟨rfl,rfl,rfl,rfl,rfl,rfl⟩:=A;rw[U.1];obtain⟨v,hv⟩:=zN (z2Z l (p+2+5+6) (z+1));rw[<-hv]at U a0 ⊢;have key:z2D l (p+2+5+6) (z+1)=0->z3K ⟨true,prev,N,width⟩ (l.drop p)=(if v=0\/z5s N width (v*2^(64 - g - (z+1)))=true\/g≠z3E (v*2^(64 - g - (z+1)))\/z+1≠z2n (v*2^(64 - g - (z+1)))then none
    else some (prev^^^(v*2^(64 - g - (z+1))),⟨true,prev^^^(v*2^(64 - g - (z+1))),g,z+1⟩,l.drop (p+2+5+6+(z+1)))):=fun L=>by
    rw[R,a1,z5v I];simp only;rw[z5v J];simp only;rw[<-hz,<-hg,wR a3,z5v L];simp only;rw[<-hv]
   refine⟨fun L=>?_,fun _ h=>absurd h Y,fun L _ h0=>?_,(fun _ _ _ h=>by cases h),fun L h0 _ hh=>?_,fun L h0 _ a9 aB aC=>?_,fun L=>z2s.1 L,⟨U.2,wF,wF,z6t _ _ _,wF⟩,fun _=>Y⟩
   .rw[R,a1,z5v I];simp only;rw[z5v J];simp only;rw[<-hz,<-hg,wR a3,rd_not aI L]
   .rw[key L,wZ (.inl (z9E.1 h0))]
   .rw[key L,wZ (.inr hh)]
   rw[key L,wR (fun h=>?_)];rcases h with h|h|h|h
   .exact h0 (z9E.2 h)
   .rw[h]at a9;cases a9
   .exact h aB
   exact h aC
  rw[wR wF]at A;have f1:∀q w,tkN (z2D l (p+2+5) 6) l q w=0:=fun q w=>wR J;have f2:∀q w,tkE (z2D l (p+2+5) 6) l q w=z2D l (p+2+5) 6:=fun q w=>wR J;have f3:∀q w,tkP (z2D l (p+2+5) 6) q w=q:=fun q w=>wR J;rw[f1,f2,f3]at A;simp only[wk,gd,tH]at A;obtain⟨rfl,rfl,rfl,rfl,rfl,rfl⟩:=A;refine⟨fun _=>?_,fun h=>absurd h J,fun h=>absurd h J,fun h=>absurd h J,fun h=>absurd h J,fun h=>absurd h J,fun h=>absurd h J,⟨wG,wF,wF,z6t _ _ _,wF⟩,fun _=>Y⟩;rw[R,a1,z5v I];simp only;rw[rd_not aH J]
 have f1:∀q w,tkN (z2D l (p+2) 5) l q w=0:=fun q w=>wR I;have f2:∀q w,tkE (z2D l (p+2) 5) l q w=z2D l (p+2) 5:=fun q w=>wR I;have f3:∀q w,tkP (z2D l (p+2) 5) q w=q:=fun q w=>wR I;simp only[f1,f2,f3]at A;rw[wR wF]at A;simp only[f1,f2,f3,wk,gd,tH]at A;obtain⟨rfl,rfl,rfl,rfl,rfl,rfl⟩:=A;refine⟨fun _=>?_,fun h=>absurd h I,fun h=>absurd h I,fun h=>absurd h I,fun h=>absurd h I,fun h=>absurd h I,fun h=>absurd h I,⟨wG,wF,wF,z6t _ _ _,by have:=y2n (z2D l (p+2) 5) (p+2) 5;omega⟩,fun _=>Y⟩;rw[R,a1,rd_not wF I]
def z7B(l:List Bool)(i:Nat)(s:z4N)(w:World)(e:Ending)(w':World):Prop:=
 Below w.heap.size w w'/\((∃v s' r,z3K s (l.drop i)=some (v,s',r)/\r=l.drop (l.length - r.length)/\r.length<=l.length/\e= .returned (.tuple #[.int .u64 (v:Nat),.int .i64 ((l.length - r.length:Nat):Int),.agg #[.bool s'.has,.int .u64 (s'.prev:Nat),.int .u8 (s'.lead:Nat),.int .u8 (s'.width:Nat)],.int .u16 0]))\/
  (z3K s (l.drop i)=none/\∃x:Nat,0<x/\x<100/\e= .returned (.tuple #[.int .u64 0,.int .i64 0,.agg #[.bool false,.int .u64 0,.int .u8 0,.int .u8 0],.int .u16 x])))
theorem y5O{l:List Bool}{i v p ld wd:Nat}{s:z4N}{A:Bool}{I:Nat}{w w':World}(h:z3K s (l.drop i)=some (v,⟨A,I,ld,wd⟩,l.drop p))(J:p<=l.length)(hb:Below w.heap.size w w'):
  z7B l i s w (.returned (.tuple #[.int .u64 v,.int .i64 p,.agg #[.bool A,.int .u64 I,.int .u8 ld,.int .u8 wd],.int .u16 0])) w':=by
 have e:l.length - (l.drop p).length=p:=by rw[uE];omega
 refine⟨hb,.inl ⟨v,_,_,h,by rw[e],by rw[uE];omega,by rw[e]⟩⟩
theorem y7Q{l:List Bool}{i x:Nat}{s:z4N}{w w':World}(h:z3K s (l.drop i)=none)(I:0<x)(A:x<100)(hb:Below w.heap.size w w'):
  z7B l i s w (.returned (.tuple #[.int .u64 0,.int .i64 0,.agg #[.bool false,.int .u64 0,.int .u8 0,.int .u8 0],.int .u16 x])) w':=⟨hb,.inr ⟨h,x,I,A,rfl⟩⟩
def z8M(l:List Bool)(p:Nat)(s:z4N)(w:World)(V p' a b E:Nat):Prop:=
 (E=0->∀w',Below w.heap.size w w'->z7B l p s w (.returned (.tuple #[.int .u64 V,.int .i64 p',.agg #[.bool true,.int .u64 V,.int .u8 a,.int .u8 b],.int .u16 0])) w')/\
 (E≠0->∀w',Below w.heap.size w w'->z7B l p s w (.returned (.tuple #[.int .u64 0,.int .i64 0,.agg #[.bool false,.int .u64 0,.int .u8 0,.int .u8 0],.int .u16 E])) w')
theorem z8M.ok{l:List Bool}{p:Nat}{s:z4N}{w:World}{V A a b:Nat}(h:z3K s (l.drop p)=some (V,⟨true,V,a,b⟩,l.drop A))(I:A<=l.length):Hid (z8M l p s w V A a b 0):=
 ⟨fun _ _ hb=>y5O h I hb,fun h=>absurd rfl h⟩
theorem z8M.bad{l:List Bool}{p:Nat}{s:z4N}{w:World}{V J a b E:Nat}(h:z3K s (l.drop p)=none)(A:0<E)(I:E<100):Hid (z8M l p s w V J a b E):=
 ⟨fun h=>absurd h wF,fun _ _ hb=>y7Q h A I hb⟩
theorem q7y(a:Option Addr)(n c:Nat)(l:List Bool)(b:List UInt8)(p:Nat)(aC:Bool)(prev I width:Nat)(w:World)(h:z0r w a n c l b)(hl:l.length<=549755813000)(hp:p<=l.length)(hs:z1x ⟨aC,prev,I,width⟩=true)(bE:prev<18446744073709551616)(hT:z1H w):
  Calls prog 152 #[.agg #[.slice a n c,.int .i64 l.length],.int .i64 p,.agg #[.bool aC,.int .u64 prev,.int .u8 I,.int .u8 width]] w (z7B l p ⟨aC,prev,I,width⟩ w):=by
 have aD:I<=31/\width<=64/\I+width<=64:=by
  cases aC with
  | false=>
   have:z1x ⟨false,prev,I,width⟩=decide (prev=0/\I=0/\width=0):=(by unfold z1x zeroV;simp);rw[this]at hs;have:=ua hs;omega
  | true=>
   unfold z1x at hs;simp only[de]at hs;have:=ua hs;omega
 obtain⟨N,hN⟩:=zN l.length;have b5:=z7 (fun w' (hb:z0r w' a n c l b)=>y6O a n c l b aC prev I width wF wF hs w' hb wF);rw[<-hN]at b5 ⊢;have bG:N<=549755813000:=wF
 have bI:p<=N:=wF
 have aA:=z7 ((((Loc.start w).new (.cells #[.slice a n c,.int .i64 (N:Nat)] 49)).new' (.cells #[.bool aC,.int .u64 prev,.int .u8 I,.int .u8 width] 104) (n:=w.heap.size+1) wH).new' (.cells #[.bool false,.int .u64 0,.int .u8 0,.int .u8 0] 104) (n:=w.heap.size+1+1) wH);have H:=z7 h;have HN:=z7 hN;have HS:=z7 hs;have HT:=z7 (fun w' (hb:Below w.heap.size w w')=>hT.low hb);clear h hN hs hT hl hp;go_enter func152,ntmps152;go_wp2_with fail;refine(b5.o _ (H.o.low aA.o.low)).mono ?_;rintro e w2 ⟨rfl,aE⟩;have aI:=z7 ((aA.o.call aE).new (.cells #[.slice a n c,.int .i64 (N:Nat),.int .i64 p,.int .u16 0] 318));have bF:w.heap.size+1<w2.heap.size:=(aA.o.call aE).lt 1 rfl;have l4:=(aA.o.call aE).lt 2 rfl;obtain⟨c0,c1,cf⟩:=z0m ((aA.o.call aE).get 2 rfl);obtain⟨v0,v1,v2,v3,vf⟩:=z1y ((aA.o.call aE).get 1 rfl);obtain⟨r0,r1,r2,r3,rf⟩:=z1y ((aA.o.call aE).get 0 rfl);clear aE;cases aC with
 | false=>
  have hz:prev=0/\I=0/\width=0:=by
   have h9:=HS.o;have:z1x ⟨false,prev,I,width⟩=decide (prev=0/\I=0/\width=0):=(by unfold z1x zeroV;simp);rw[this]at h9;exact ua h9
  go_wp2_with fail;have aY:=y9W w2.heap.size a n c l b p 0 64 _ (H.o.low aI.o.low) (by have:=HN.o;omega) wF wG wG (by rw[<-HN.o];exact aI.o.get 0 rfl);rw[<-HN.o]at aY;refine aY.mono ?_;rintro e w3 ⟨rfl,b9⟩;have aG:=z7 (show Loc w ((w2.heap.size,z0k a n c N (p+64) (z2D l p 64))::_) w3 from b9 w _ 0 aI.o rfl);have e1:tkN 0 l p 64=z2Z l p 64:=rfl;rw[e1];obtain⟨V,hV⟩:=zN (z2Z l p 64);obtain⟨E,hE⟩:=zN (z2D l p 64);rw[<-hE]at aG;rw[<-hV];have aO:E<100:=by rw[hE];exact z6t _ _ _
  have bA:Hid (E=0->∀w',Below w.heap.size w w'->z7B l p ⟨false,prev,I,width⟩ w (.returned (.tuple #[.int .u64 (V:Nat),.int .i64 ((p+64:Nat):Int),.agg #[.bool true,.int .u64 (V:Nat),.int .u8 0,.int .u8 0],.int .u16 0])) w'):=z7 fun h0 w' hb=>
   y5O (ld:=0) (wd:=0) (by unfold z3K;simp only[de];rw[z5v (by rw[<-hE];exact h0),hV];rfl) (z2s.1 (by rw[<-hE];exact h0)) hb
  have b2:Hid (E≠0->∀w',Below w.heap.size w w'->z7B l p ⟨false,prev,I,width⟩ w (.returned (.tuple #[.int .u64 0,.int .i64 0,.agg #[.bool false,.int .u64 0,.int .u8 0,.int .u8 0],.int .u16 E])) w'):=z7 fun h0 w' hb=>
   y7Q (by unfold z3K;simp only[de];rw[rd_not (by have:=HN.o;omega) (by rw[<-hE];exact h0)];rfl) wF aO hb
  clear hV hE b9 aY e1 c0 c1 cf v0 v1 v2 v3 vf r0 r1 r2 r3 rf hz;go_wp2_with fail;refine(y8x w2.heap.size a n c N (p+64) E V true V 0 0 _ aO (aG.o.get 0 rfl)).mono ?_;rintro e w4 ⟨h0,h1,b8⟩;have a4:=z7 (aG.o.call b8);clear b8;obtain⟨r0,r1,r2,r3,rf⟩:=z1y (a4.o.get 1 rfl);by_cases aN:E=0
  .rw[h0 aN];clear h0 h1;have HF:=z7 (bA.o aN);go_wp2;have L:=(((a4.o.set 1 rfl 0 (.bool true)).set 1 rfl 1 (.int .u64 (V:Nat))).set 1 rfl 2 (.int .u8 0)).set 1 rfl 3 (.int .u8 0);refine wU (z5k rfl _ _ (w.heap.size+1+1) _ _ _ _ rfl (L.get 1 rfl) rfl) rfl ?_;exact HF.o _ L.low
  rw[h1 aN];clear h0 h1;have HF:=z7 (b2.o aN);clear aN;go_wp2;have L:=(((a4.o.set 1 rfl 0 (.bool false)).set 1 rfl 1 (.int .u64 0)).set 1 rfl 2 (.int .u8 0)).set 1 rfl 3 (.int .u8 0);refine wU (z5k rfl _ _ (w.heap.size+1+1) _ _ _ _ rfl (L.get 1 rfl) rfl) rfl ?_;exact HF.o _ L.low
 | true=>
  have HG:=z7 (y2z a n c l b p 1);rw[<-HN.o]at HG;go_wp2_with fail;refine(HG.o _ (H.o.low aI.o.low) (by have:=HN.o;omega) wF wG).mono ?_;rintro e w3 ⟨rfl,b7⟩;have aG:=z7 (aI.o.call b7);obtain⟨n1,aW⟩:=zN (z2Z l p 1);rw[<-aW];have b4:=z7 aW;clear aW b7 c0 c1 cf v0 v1 v2 v3 vf r0 r1 r2 r3 rf;obtain⟨v0,v1,v2,v3,vf⟩:=z1y (aG.o.get 2 rfl);go_wp2_with fail;have aU:=y8S w2.heap.size a n c l b p true prev I width w _ 0 w3 aG.o (by rw[<-HN.o];rfl) H.o (by have:=HN.o;omega) wF aD;obtain⟨⟨d,ld,sz,fr,p',e'⟩,hR⟩:∃R,R=z7H l p I width:=⟨_,rfl⟩;have a3:=z7 (q5X (prev:=prev) aD (by have:=HN.o;omega) hR.symm);rw[<-hR,<-HN.o]at aU;simp only at aU;refine aU.mono ?_;rintro e w4 ⟨rfl,b6⟩;have a4:=z7 (show Loc w [(w2.heap.size,z0k a n c N p' e'),(w.heap.size+1+1,.cells #[.bool false,.int .u64 0,.int .u8 0,.int .u8 0] 104 (0,0)),(w.heap.size+1,.cells #[.bool true,.int .u64 prev,.int .u8 I,.int .u8 width] 104 (0,0)),(w.heap.size,.cells #[.slice a n c,.int .i64 (N:Nat)] 49 (0,0))] w4 from b6);have aT:=a3.o.lt;have hx:bits .xor .u64 (prev:Int) (d:Int)=((prev^^^d:Nat):Int):=rR _ _ bE aT.1;obtain⟨V,hV⟩:=zN (prev^^^d);rw[<-hV]at hx;have HV:=z7 hV;clear b6 aU hR v0 v1 v2 v3 vf hV l4;have l2:=a4.o.lt 1 rfl;have l3:=a4.o.lt 2 rfl;have l5:=a4.o.lt 0 rfl;obtain⟨v0,v1,v2,v3,vf⟩:=z1y (a4.o.get 2 rfl);obtain⟨q0,q1,q2,q3,qf⟩:=z1y (a4.o.get 0 rfl)
  have a1:=z7 (a4.o.new (.cells #[.int .i64 ld,.int .i64 sz] 298))
  go_upto_if 61 with fail
  go_cut[] (fun wx=>∃E:Nat,E<100/\Hid (Loc w [(w4.heap.size,.cells #[.int .i64 ld,.int .i64 sz] 298 (0,0)),(w2.heap.size,z0k a n c N p' E),(w.heap.size+1+1,.cells #[.bool false,.int .u64 0,.int .u8 0,.int .u8 0] 104 (0,0)),(w.heap.size+1,.cells #[.bool true,.int .u64 prev,.int .u8 I,.int .u8 width] 104 (0,0)),(w.heap.size,.cells #[.slice a n c,.int .i64 (N:Nat)] 49 (0,0))] wx)/\Hid (z8M l p ⟨true,prev,I,width⟩ w V p' (if fr then ld else I) (if fr then sz else width) E))
  case first=>
   by_cases he:e'=0
   .have bC:n1=0\/n1≠0:=wF;have aM:=z7 (q4X true prev I width wF wF);subst he;rcases bC with h1|h1
    .obtain⟨a0,bB,O⟩:=a3.o.same rfl (by rw[<-b4.o];exact h1);subst bB;have HF:=z8M.ok (w:=w) (show z3K ⟨true,prev,I,width⟩ (l.drop p)=some (V,⟨true,V,I,width⟩,l.drop p') by rw[O,HV.o,a0,qK]) (a3.o.le rfl);subst h1;clear a0 O;go_wp2_with fail;refine(aM.o _).mono ?_;rintro e w6 ⟨rfl,Y⟩;have a5:=z7 (a1.o.call Y);clear Y v0 v1 v2 v3 vf q0 q1 q2 q3 qf a1;go_wp2;go_meet
     exact⟨0,wG,z7 (a5.o.call (q5 _ (.cells #[.int .i64 I,.int .i64 width] 298))),HF⟩
    have d1:((n1:Int)==0)=false:=(by simp;omega);have aH:z2Z l p 1≠0:=(by rw[<-b4.o];exact h1);by_cases a0:d=0
    .have O:=a3.o.nought rfl aH a0;have HF:∀a b,Hid (z8M l p ⟨true,prev,I,width⟩ w V p' a b 30):=fun a b=>z8M.bad O wG wG;subst a0;clear O h1 aH;go_wp2_with fail;refine(aM.o _).mono ?_;rintro e w6 ⟨rfl,Y⟩;have a5:=z7 (a1.o.call Y);clear Y v0 v1 v2 v3 vf q0 q1 q2 q3 qf a1;cases fr<;>(obtain⟨q0,q1,q2,q3,qf⟩:=z1y (a5.o.get 1 rfl);have m1:=a5.o.lt 1 rfl;go_wp2;go_meet;exact⟨30,wG,z7 ((a5.o.set 1 rfl 3 (.int .u16 30)).call (q5 _ (.cells #[.int .i64 I,.int .i64 width] 298))),HF _ _⟩)
    have d2:((d:Int)==0)=false:=(by simp;omega);cases fr with
    | false=>
     have O:=a3.o.within rfl aH a0 rfl;have HF:=z8M.ok (w:=w) (show z3K ⟨true,prev,I,width⟩ (l.drop p)=some (V,⟨true,V,I,width⟩,l.drop p') by rw[O,<-HV.o]) (a3.o.le rfl);clear O h1 aH a0;go_wp2_with fail;refine(aM.o _).mono ?_;rintro e w6 ⟨rfl,Y⟩;have a5:=z7 (a1.o.call Y);clear Y v0 v1 v2 v3 vf q0 q1 q2 q3 qf a1;go_upto_region 14 with fail
     obtain⟨W7,a7,a8⟩:=(a5.o.call (q5 _ (.cells #[.int .i64 I,.int .i64 width] 298))).named;rw[<-a7];have a2:=z7 a8;clear a8 a7;refine q6 12 108 (fun D v w'=>Below W7.heap.size W7 w') wD.drew ?_;simp only[z0C];iterate 2 (refine q8.rd ?_ (fun D v w' U J=>?_) ?_;rotate_left;(clear J U;go_simp;try rfl);go_simp)
     iterate 9 (refine q8.sk (fun D v w h=>h) ?_;go_simp)
     (refine q8.rd ?_ (fun D v w' U J=>?_) ?_;rotate_left;(clear J U;go_simp;try rfl);go_simp)
     refine q8.fin (fun v w8 J=>?_);have a6:=z7 (a2.o.call J);clear J;go_wp2;go_meet
     exact⟨0,wG,z7 (a6.o),HF⟩
    | true=>
     have aF:=z7 (q3G I width d aD.2.2 aT.1);cases hin:z5s I width d with
     | true=>
      rw[hin]at aF;have O:=a3.o.held rfl a0 rfl (.inl hin);have HF:∀a b,Hid (z8M l p ⟨true,prev,I,width⟩ w V p' a b 30):=fun a b=>z8M.bad O wG wG;clear O h1 aH a0 hin;go_wp2_with fail;refine(aM.o _).mono ?_;rintro e w6 ⟨rfl,Y⟩;have a5:=z7 (a1.o.call Y);clear Y v0 v1 v2 v3 vf q0 q1 q2 q3 qf a1;go_upto_region 14 with fail
      obtain⟨W7,a7,a8⟩:=(a5.o.call (q5 _ (.cells #[.int .i64 I,.int .i64 width] 298))).named;rw[<-a7];have aV:Hid (∀w',Below W7.heap.size W7 w'->w'.cell? ⟨w6.heap.size,0,none⟩=some (.int .i64 I)/\w'.cell? ⟨w6.heap.size,1,none⟩=some (.int .i64 width)):=z7 fun w' hb=>by
       have hg:W7.heap[w6.heap.size]? =some (.cells #[.int .i64 I,.int .i64 width] 298 (0,0)):=(by rw[a7];exact j8 _ _);obtain⟨x0,x1,xf⟩:=z0m ((hb.block _ (wI.1 hg).1).trans hg);exact⟨x0,x1⟩
      have a2:=z7 a8;clear a8 a7;refine q6 12 108 (fun D v w'=>Below W7.heap.size W7 w') wD.drew ?_;simp only[z0C];iterate 2 (refine q8.rd ?_ (fun D v w' U J=>?_) ?_;rotate_left;(clear J U;go_simp;try rfl);go_simp)
      iterate 2 (refine q8.rd ?_ (fun D v w' U J=>?_) ?_;rotate_left;(obtain⟨b0,b1,bf⟩:=z0m ((a2.o.call J).get 0 rfl);obtain⟨k0,k1⟩:=aV.o w' J;clear J U;go_simp;try rfl);go_simp)
      refine q8.ca (.bool true) (fun D v w' U J=>?_) ?_
      .have HS:=z7 J;clear J U;go_simp;go_at_call 167;refine(aF.o w' (HT.o w' (a2.o.call HS.o).low)).mono ?_;rintro e w'' ⟨rfl,aR⟩;exact⟨rfl,HS.o.trans (aR.mono HS.o.size)⟩
      go_simp;(refine q8.rd ?_ (fun D v w' U J=>?_) ?_;rotate_left;(clear J U;go_simp;try rfl);go_simp)
      iterate 4 (refine q8.sk (fun D v w h=>h) ?_;go_simp)
      iterate 2 (refine q8.rd ?_ (fun D v w' U J=>?_) ?_;rotate_left;(clear J U;go_simp;try rfl);go_simp)
      refine q8.fin (fun v w8 J=>?_);have a6:=z7 (a2.o.call J);clear J;obtain⟨q0,q1,q2,q3,qf⟩:=z1y (a6.o.get 1 rfl);go_wp2;go_meet
      exact⟨30,wG,z7 ((a6.o.set 1 rfl 3 (.int .u16 30))),HF _ _⟩
     | false=>
      rw[hin]at aF;have aX:=z7 (y3A d aT.1 a0);obtain⟨A,hA⟩:=zN (z3E d);obtain⟨S,J⟩:=zN (z2n d);rw[<-hA,<-J]at aX;have b3:Hid ((ld=A/\sz=S->Hid (z8M l p ⟨true,prev,I,width⟩ w V p' ld sz 0))/\(¬(ld=A/\sz=S)->z3K ⟨true,prev,I,width⟩ (l.drop p)=none)):=z7 ⟨fun⟨hAl,hSs⟩=>z8M.ok (by rw[a3.o.anew rfl a0 rfl hin (by rw[<-hA];exact hAl) (by rw[<-J];exact hSs),<-HV.o]) (a3.o.le rfl),fun bH=>a3.o.held rfl a0 rfl (.inr (by rw[<-hA,<-J];omega))⟩;clear h1 aH a0 hin hA J;go_wp2_with fail;refine(aM.o _).mono ?_;rintro e w6 ⟨rfl,Y⟩;have a5:=z7 (a1.o.call Y);clear Y v0 v1 v2 v3 vf q0 q1 q2 q3 qf a1;go_upto_region 14 with fail
      obtain⟨W7,a7,a8⟩:=(a5.o.call (q5 _ (.cells #[.int .i64 I,.int .i64 width] 298))).named;rw[<-a7];have aV:Hid (∀w',Below W7.heap.size W7 w'->w'.cell? ⟨w6.heap.size,0,none⟩=some (.int .i64 I)/\w'.cell? ⟨w6.heap.size,1,none⟩=some (.int .i64 width)):=z7 fun w' hb=>by
       have hg:W7.heap[w6.heap.size]? =some (.cells #[.int .i64 I,.int .i64 width] 298 (0,0)):=(by rw[a7];exact j8 _ _);obtain⟨x0,x1,xf⟩:=z0m ((hb.block _ (wI.1 hg).1).trans hg);exact⟨x0,x1⟩
      have a2:=z7 a8;clear a8 a7;refine q6 12 108 (fun D v w'=>Below W7.heap.size W7 w') wD.drew ?_;simp only[z0C];iterate 2 (refine q8.rd ?_ (fun D v w' U J=>?_) ?_;rotate_left;(clear J U;go_simp;try rfl);go_simp)
      iterate 2 (refine q8.rd ?_ (fun D v w' U J=>?_) ?_;rotate_left;(obtain⟨b0,b1,bf⟩:=z0m ((a2.o.call J).get 0 rfl);obtain⟨k0,k1⟩:=aV.o w' J;clear J U;go_simp;try rfl);go_simp)
      refine q8.ca (.bool false) (fun D v w' U J=>?_) ?_
      .have HS:=z7 J;clear J U;go_simp;go_at_call 167;refine(aF.o w' (HT.o w' (a2.o.call HS.o).low)).mono ?_;rintro e w'' ⟨rfl,aR⟩;exact⟨rfl,HS.o.trans (aR.mono HS.o.size)⟩
      go_simp;(refine q8.rd ?_ (fun D v w' U J=>?_) ?_;rotate_left;(clear J U;go_simp;try rfl);go_simp)
      iterate 2 (refine q8.rd ?_ (fun D v w' U J=>?_) ?_;rotate_left;(obtain⟨b0,b1,bf⟩:=z0m ((a2.o.call J).get 0 rfl);obtain⟨k0,k1⟩:=aV.o w' J;clear J U;go_simp;try rfl);go_simp)
      refine q8.ca (.agg #[.int .i64 (A:Nat),.int .i64 S]) (fun D v w' U J=>?_) ?_
      .have HS:=z7 J;clear J U;go_simp;go_at_call 169;refine(aX.o w' (HT.o w' (a2.o.call HS.o).low)).mono ?_;rintro e w'' ⟨rfl,aR⟩;exact⟨rfl,HS.o.trans (aR.mono HS.o.size)⟩
      go_simp;by_cases aZ:ld=A/\sz=S
      .have HF:=b3.o.1 aZ;obtain⟨rfl,rfl⟩:=aZ;iterate 3 (refine q8.rd ?_ (fun D v w' U J=>?_) ?_;rotate_left;(clear J U;go_simp;try rfl);go_simp)
       refine q8.fin (fun v w8 J=>?_);have a6:=z7 (a2.o.call J);clear J;go_wp2;go_meet
       exact⟨0,wG,z7 (a6.o),HF⟩
      have O:=b3.o.2 aZ;have HF:∀a b,Hid (z8M l p ⟨true,prev,I,width⟩ w V p' a b 30):=fun a b=>z8M.bad O wG wG;clear O;have d4:((ld:Int)==A)=false\/ld=A/\((sz:Int)==S)=false:=by
       by_cases h:ld=A
       .exact .inr ⟨h,by simp;omega⟩
       exact .inl (by simp;omega)
      rcases d4 with d4|⟨rfl,d4⟩<;>((iterate 3 (refine q8.rd ?_ (fun D v w' U J=>?_) ?_;rotate_left;(clear J U;go_simp;try rfl);go_simp));refine q8.fin (fun v w8 J=>?_);have a6:=z7 (a2.o.call J);clear J;obtain⟨q0,q1,q2,q3,qf⟩:=z1y (a6.o.get 1 rfl);have m1:=a6.o.lt 1 rfl;go_wp2;go_meet;exact⟨30,wG,z7 ((a6.o.set 1 rfl 3 (.int .u16 30))),HF _ _⟩)
   have O:=a3.o.bad he;have d0:((e':Int)==0)=false:=(by simp;omega);go_wp2;go_meet
   exact⟨e',aT.2.2.2.1,a1,z8M.bad O wF aT.2.2.2.1⟩
  case rest=>
  obtain⟨E,aO,aJ,HF⟩:=hcut;clear v0 v1 v2 v3 vf q0 q1 q2 q3 qf a1 a4;obtain⟨b0,b1,bf⟩:=z0m (aJ.o.get 0 rfl);obtain⟨q0,q1,q2,q3,qf⟩:=z1y (aJ.o.get 1 rfl);obtain⟨v0,v1,v2,v3,vf⟩:=z1y (aJ.o.get 3 rfl);cases fr
  .go_wp2_with fail;have aL:=z7 (aJ.o.set 3 rfl 1 (.int .u64 (V:Nat)));refine(y8x w2.heap.size a n c N p' E V true V I width _ aO (aL.o.get 1 rfl)).mono ?_;rintro e w9 ⟨h0,h1,aS⟩;have aB:=z7 (aL.o.call aS);clear aS v0 v1 v2 v3 vf q0 q1 q2 q3 qf b0 b1 bf;obtain⟨r0,r1,r2,r3,rf⟩:=z1y (aB.o.get 2 rfl);by_cases hE:E=0
   .rw[h0 hE];have a9:=z7 (HF.o.1 hE);clear h0 h1 HF;go_wp2;have L:=(((aB.o.set 2 rfl 0 (.bool true)).set 2 rfl 1 (.int .u64 (V:Nat))).set 2 rfl 2 (.int .u8 I)).set 2 rfl 3 (.int .u8 width);refine wU (z5k rfl _ _ (w.heap.size+1+1) _ _ _ _ rfl (L.get 2 rfl) rfl) rfl ?_;exact a9.o _ L.low
   rw[h1 hE];have a9:=z7 (HF.o.2 hE);clear h0 h1 HF;go_wp2;have L:=(((aB.o.set 2 rfl 0 (.bool false)).set 2 rfl 1 (.int .u64 0)).set 2 rfl 2 (.int .u8 0)).set 2 rfl 3 (.int .u8 0);refine wU (z5k rfl _ _ (w.heap.size+1+1) _ _ _ _ rfl (L.get 2 rfl) rfl) rfl ?_;exact a9.o _ L.low
  go_wp2_with fail;go_region
  go_wp2_with fail;have aL:=z7 (((aJ.o.set 3 rfl 1 (.int .u64 (V:Nat))).set 3 rfl 2 (.int .u8 ld)).set 3 rfl 3 (.int .u8 sz)).drew;refine(y8x w2.heap.size a n c N p' E V true V ld sz _ aO (aL.o.get 1 rfl)).mono ?_;rintro e w9 ⟨h0,h1,aS⟩;have aB:=z7 (aL.o.call aS);clear aS v0 v1 v2 v3 vf q0 q1 q2 q3 qf b0 b1 bf;obtain⟨r0,r1,r2,r3,rf⟩:=z1y (aB.o.get 2 rfl);by_cases hE:E=0
  .rw[h0 hE];have a9:=z7 (HF.o.1 hE);clear h0 h1 HF;go_wp2;have L:=(((aB.o.set 2 rfl 0 (.bool true)).set 2 rfl 1 (.int .u64 (V:Nat))).set 2 rfl 2 (.int .u8 ld)).set 2 rfl 3 (.int .u8 sz);refine wU (z5k rfl _ _ (w.heap.size+1+1) _ _ _ _ rfl (L.get 2 rfl) rfl) rfl ?_;exact a9.o _ L.low
  rw[h1 hE];have a9:=z7 (HF.o.2 hE);clear h0 h1 HF;go_wp2;have L:=(((aB.o.set 2 rfl 0 (.bool false)).set 2 rfl 1 (.int .u64 0)).set 2 rfl 2 (.int .u8 0)).set 2 rfl 3 (.int .u8 0);refine wU (z5k rfl _ _ (w.heap.size+1+1) _ _ _ _ rfl (L.get 2 rfl) rfl) rfl ?_;exact a9.o _ L.low

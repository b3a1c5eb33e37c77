/- A block of a call's own written whole. -/
import Derived.Test.YtabnnclcpkdkeaaGreatDoorZM
import Derived.Deep.CutBlock
import Derived.Deep.DeepCutAuto
namespace Go.Proofs.YtabnnclcpkdkeaaGreatDoor
open Go.Proofs.Tryz
set_option linter.all false
set_option maxRecDepth 100000
set_option maxHeartbeats 0
open Go.RowKit
theorem z0M{w:World}{base e A n b j:Nat}{v u:Value}{I:List Value}(h:w.ownsRow base e A v n I)(hb:b<base):(w.setCell ⟨b,j,none⟩ u).ownsRow base e A v n I:=
 j7 h fun q J=>q7 (by have:=(h.lt q J).1;omega)
theorem z1B{α:Type}(l:List α)(i:Nat)(a b:α):(l.set i a).set i b=l.set i b:=wH
theorem z4R{K:List (Nat×Obj)}{i b:Nat}{o A:Obj}(I:K[i]? =some (b,o)):(K.set i (b,A))[i]? =some (b,A):=uo (wY.1 I).1
theorem Loc.set2{w0 w:World}{K:List (Nat×Obj)}(h:Loc w0 K w)(i:Nat){b:Nat}{t:TypeId}{fr:Nat×Nat}{L N:Value}(I:K[i]? =some (b,.cells #[L,N] t fr))(x0 x1:Value):
  Loc w0 (K.set i (b,.cells #[x0,x1] t fr)) ((w.setCell ⟨b,0,none⟩ x0).setCell ⟨b,1,none⟩ x1):=by
 have J:=h.set i I 0 x0;have A:=J.set i (z4R I) 1 x1;rw[z1B]at A;simpa using A
theorem z5I{w:World}{base e A n b:Nat}{v x0 x1:Value}{I:List Value}(h:w.ownsRow base e A v n I)(hb:b<base):((w.setCell ⟨b,0,none⟩ x0).setCell ⟨b,1,none⟩ x1).ownsRow base e A v n I:=z0M (z0M h hb) hb
theorem Loc.set3{w0 w:World}{K:List (Nat×Obj)}(h:Loc w0 K w)(i:Nat){b:Nat}{t:TypeId}{fr:Nat×Nat}{N O R:Value}(A:K[i]? =some (b,.cells #[N,O,R] t fr))(x0 x1 x2:Value):
  Loc w0 (K.set i (b,.cells #[x0,x1,x2] t fr)) (((w.setCell ⟨b,0,none⟩ x0).setCell ⟨b,1,none⟩ x1).setCell ⟨b,2,none⟩ x2):=by
 have L:=h.set i A 0 x0;have I:=L.set i (z4R A) 1 x1;rw[z1B]at I;have J:=I.set i (z4R A) 2 x2;rw[z1B]at J;simpa using J
theorem Loc.set7{w0 w:World}{K:List (Nat×Obj)}(h:Loc w0 K w)(i:Nat){b:Nat}{t:TypeId}{fr:Nat×Nat}{Y y1 y2 y3 y4 y5 y6:Value}(A:K[i]? =some (b,.cells #[Y,y1,y2,y3,y4,y5,y6] t fr))(x0 x1 x2 x3 x4 x5 x6:Value):
  Loc w0 (K.set i (b,.cells #[x0,x1,x2,x3,x4,x5,x6] t fr)) (((((((w.setCell ⟨b,0,none⟩ x0).setCell ⟨b,1,none⟩ x1).setCell ⟨b,2,none⟩ x2).setCell ⟨b,3,none⟩ x3).setCell ⟨b,4,none⟩ x4).setCell ⟨b,5,none⟩ x5).setCell ⟨b,6,none⟩ x6):=by
 have U:=h.set i A 0 x0;have I:=U.set i (z4R A) 1 x1;rw[z1B]at I;have J:=I.set i (z4R A) 2 x2;rw[z1B]at J;have L:=J.set i (z4R A) 3 x3;rw[z1B]at L;have N:=L.set i (z4R A) 4 x4;rw[z1B]at N;have O:=N.set i (z4R A) 5 x5;rw[z1B]at O;have R:=O.set i (z4R A) 6 x6;rw[z1B]at R;simpa using R
theorem z7q{w:World}{base e A n b:Nat}{v x0 x1 x2 x3 x4 x5 x6:Value}{I:List Value}(h:w.ownsRow base e A v n I)(hb:b<base):(((((((w.setCell ⟨b,0,none⟩ x0).setCell ⟨b,1,none⟩ x1).setCell ⟨b,2,none⟩ x2).setCell ⟨b,3,none⟩ x3).setCell ⟨b,4,none⟩ x4).setCell ⟨b,5,none⟩ x5).setCell ⟨b,6,none⟩ x6).ownsRow base e A v n I:=z0M (z0M (z0M (z0M (z0M (z0M (z0M h hb) hb) hb) hb) hb) hb) hb
theorem Loc.set7_3_4{w0 w:World}{K:List (Nat×Obj)}(h:Loc w0 K w)(i:Nat){b:Nat}{t:TypeId}{fr:Nat×Nat}{N O R Y y4 y5 y6:Value}(A:K[i]? =some (b,.cells #[N,O,R,Y,y4,y5,y6] t fr))(x0 x1 x2 x3:Value):
  Loc w0 (K.set i (b,.cells #[N,O,R,x0,x1,x2,x3] t fr)) ((((w.setCell ⟨b,3,none⟩ x0).setCell ⟨b,4,none⟩ x1).setCell ⟨b,5,none⟩ x2).setCell ⟨b,6,none⟩ x3):=by
 have U:=h.set i A 3 x0;have I:=U.set i (z4R A) 4 x1;rw[z1B]at I;have J:=I.set i (z4R A) 5 x2;rw[z1B]at J;have L:=J.set i (z4R A) 6 x3;rw[z1B]at L;simpa using L
theorem z7h{w:World}{base e A n b:Nat}{v x0 x1 x2 x3:Value}{I:List Value}(h:w.ownsRow base e A v n I)(hb:b<base):((((w.setCell ⟨b,3,none⟩ x0).setCell ⟨b,4,none⟩ x1).setCell ⟨b,5,none⟩ x2).setCell ⟨b,6,none⟩ x3).ownsRow base e A v n I:=z0M (z0M (z0M (z0M h hb) hb) hb) hb
theorem y5a{I:Bool}{prev A width:Nat}(J:z1x ⟨I,prev,A,width⟩=true):A<256/\width<256:=by
 cases I with
 | false=>
  have:z1x ⟨false,prev,A,width⟩=decide (prev=0/\A=0/\width=0):=by unfold z1x zeroV;simp
  rw[this]at J;have:=ua J;omega
 | true=>
  unfold z1x at J;simp only[de]at J;have:=ua J;omega
theorem q2r(I:Nat)(el U:Int)(J:Bool)(prev A width:Nat)(O:z2g.Ok ⟨I,el,U,⟨J,prev,A,width⟩⟩)(w:World):
  Calls prog 133 #[.agg #[.int .i64 I,.int .i64 el,.int .i64 U,.bool J,.int .u64 prev,.int .u8 A,.int .u8 width]] w fun e w'=>e= .returned (.bool true)/\Below w.heap.size w w':=by
 have HL:=z7 ((Loc.start w).new (.cells #[.int .i64 I,.int .i64 el,.int .i64 U,.bool J,.int .u64 prev,.int .u8 A,.int .u8 width] 106));by_cases Y:I=0
 .have hz:=O.zero Y;simp only[z0i,zeroV,z2g.mk.injEq,z4N.mk.injEq]at hz;obtain⟨rfl,rfl,rfl,rfl,rfl,rfl,rfl⟩:=hz;clear O Y;go_enter func133,ntmps133;go_wp2;go_ret;exact⟨rfl,HL.o.low⟩
 have hh:=O.has (by show 0<I;omega);simp only at hh;subst hh;have hv:=O.val;have L:=y5a hv;have HS:=z7 (y5A true prev A width L.1 L.2);rw[hv]at HS;have d0:((I:Int)==0)=false:=by simp;omega
 have d1:decide ((I:Int)<0)=false:=wC;clear O hv L Y;go_enter func133,ntmps133;go_wp2_with fail;refine(HS.o _).mono ?_;rintro e w2 ⟨rfl,N⟩;have R:=z7 (HL.o.call N);clear N;go_wp2;go_ret;exact⟨rfl,R.o.low⟩
theorem y7t(a:Option Addr)(n c:Nat)(l:List Bool)(b:List UInt8)(en:Nat)(el ed:Int)(J:Bool)(prev A width:Nat)(he:z2g.Ok ⟨en,el,ed,⟨J,prev,A,width⟩⟩)(w:World)(h:z0r w a n c l b)(hl:l.length<=549755813888):
  Calls prog 98 #[.agg #[.slice a n c,.int .i64 l.length],.agg #[.int .i64 en,.int .i64 el,.int .i64 ed,.bool J,.int .u64 prev,.int .u8 A,.int .u8 width]] w fun e w'=>e= .returned (.int .u16 0)/\Below w.heap.size w w':=by
 obtain⟨N,hN⟩:=zN l.length;rw[<-hN];have a1:=z7 (z2V h.bits);have I:=z7 h.len;have a3:n<=70368744177665:=by have:=h.bits.len;have:=h.len;omega
 have a2:N<=549755813888:=wF
 have HS:=z7 (q2r en el ed J prev A width he);have H:=z7 h;have HN:=z7 hN;clear h hN he hl;have O:=z7 (((Loc.start w).new (.cells #[.slice a n c,.int .i64 (N:Nat)] 49)).new' (.cells #[.int .i64 en,.int .i64 el,.int .i64 ed,.bool J,.int .u64 prev,.int .u8 A,.int .u8 width] 106) (n:=w.heap.size+1) wH);go_enter func98,ntmps98;go_wp2_with fail;have L:=z2X a c b N _ (by have:=(H.o.low O.o.low).rd;rw[I.o]at this;exact this) (by have:=I.o;omega) wF wF;rw[<-I.o,HN.o,a1.o,<-HN.o]at L;refine L.mono ?_;rintro e w2 ⟨rfl,U⟩;have R:=z7 (O.o.call U);clear U L;obtain⟨c0,c1,c2,c3,c4,c5,c6,cf⟩:=z3s (R.o.get 0 rfl);go_wp2_with fail;refine(HS.o _).mono ?_;rintro e w3 ⟨rfl,Y⟩;have a0:=z7 (R.o.call Y);clear Y;go_wp2;go_ret;exact⟨rfl,a0.o.low⟩
def y2Z(W:World)(l:List Bool)(x:z2g)(e:Ending)(w':World):Prop:=
 ∃a n c b,e= .returned (.tuple #[.agg #[.slice a n c,.int .i64 l.length],.agg #[.int .i64 (x.n:Nat),.int .i64 x.last,.int .i64 x.delta,.bool x.val.has,.int .u64 (x.val.prev:Nat),.int .u8 (x.val.lead:Nat),.int .u8 (x.val.width:Nat)],.int .u16 0])/\w'.ownsRow W.heap.size 5 1 (.slice a n c) n (z0c b)/\n=b.length/\z0S b l/\Below W.heap.size W w'
theorem y6R(v:Int):(y0P v).length<=69:=by
 unfold y0P;rw[wP,z1h];have A:(y0s (z0W (z4Q v))).length<=5:=by unfold y0s;split<;>simp;omega
 have I:=(z6m (z5R (z4Q v))).2.2.2;omega
theorem q7d(a:Option Addr)(n c:Nat)(l:List Bool)(b:List UInt8)(en:Nat)(el ed:Int)(a2:Bool)(prev I width:Nat)(t:Int)(v:Nat)(he:z2g.Ok ⟨en,el,ed,⟨a2,prev,I,width⟩⟩)(hs:z1m.Ok ⟨t,v⟩)(ht:0<en->el<t)(b1:en<=1099511627776)(w:World)(h:z0r w a n c l b)(hl:l.length<=549755812000)(hT:z1H w):
  Calls prog 51 #[.agg #[.slice a n c,.int .i64 l.length],.agg #[.int .i64 en,.int .i64 el,.int .i64 ed,.bool a2,.int .u64 prev,.int .u8 I,.int .u8 width],.agg #[.int .i64 t,.int .u64 v]] w (y2Z w (l++(z3p ⟨en,el,ed,⟨a2,prev,I,width⟩⟩ ⟨t,v⟩).1) (z3p ⟨en,el,ed,⟨a2,prev,I,width⟩⟩ ⟨t,v⟩).2):=by
 obtain⟨N,hN⟩:=zN l.length;have aD:=z7 (fun w' (hb:z0r w' a n c l b)=>y7t a n c l b en el ed a2 prev I width he w' hb wF);rw[<-hN]at aD ⊢;have bB:N<=549755812000:=wF
 have HX:=z7 (fun(a':Option Addr) n' c' l' b' w' (h':z0r w' a' n' c' l' b') (b8:l'.length<=549755813000) (b7:z1H w')=>q7v a' n' c' l' b' a2 prev I width v he.val he.prev hs.2.2 w' h' b8 b7);obtain⟨X,hX⟩:=zN (z5r ⟨a2,prev,I,width⟩ v);rw[<-hX]at HX;obtain⟨Xl,⟨xh,xp,xl,xw⟩⟩:=X;unfold y2X at HX;simp only at HX;have aT:=z7 ((((((Loc.start w).new (.cells #[.slice a n c,.int .i64 (N:Nat)] 49)).new' (.cells #[.int .i64 en,.int .i64 el,.int .i64 ed,.bool a2,.int .u64 prev,.int .u8 I,.int .u8 width] 106) (n:=w.heap.size+1) wH).new' (.cells #[.int .i64 t,.int .u64 v] 79) (n:=w.heap.size+1+1) wH).new' (.cells #[.slice none 0 0,.int .i64 0] 49) (n:=w.heap.size+1+1+1) wH).new' (.cells #[.int .i64 0,.int .i64 0,.int .i64 0,.bool false,.int .u64 0,.int .u8 0,.int .u8 0] 106) (n:=w.heap.size+1+1+1+1) wH);have H:=z7 h;have HN:=z7 hN;have HT:=z7 (fun w' (hb:Below w.heap.size w w')=>hT.low hb);have b9:IntKind.i64.wrap ((en:Int)+1)=((en+1:Nat):Int):=z0l wF wF;have hu:IntKind.u64.wrap t=(y5h t:Int):=by rw[wq];unfold y5h;omega
 by_cases h0:en=0
 .have hz:=he.zero h0;simp only[z0i,zeroV,z2g.mk.injEq,z4N.mk.injEq]at hz;obtain⟨rfl,rfl,rfl,rfl,rfl,rfl,rfl⟩:=hz;have bA:IntKind.i64.wrap 1=1:=by rw[uL];rfl
  obtain⟨U,hU⟩:=zN (y5h t);have aW:U<18446744073709551616:=by rw[hU];exact q0u t
  rw[<-hU]at hu;have aF:Hid (z3p z0i ⟨t,v⟩=(z3o U 64++Xl,⟨1,t,0,⟨xh,xp,xl,xw⟩⟩)):=z7 (by
   have h9:z3p z0i ⟨t,v⟩=(z3o (y5h t) 64++(z5r ⟨false,0,0,0⟩ v).1,⟨1,t,0,(z5r ⟨false,0,0,0⟩ v).2⟩):=rfl;rw[h9,<-hX,<-hU])
  have aO:z3p ⟨0,0,0,⟨false,0,0,0⟩⟩ ⟨t,v⟩=(z3o U 64++Xl,⟨1,t,0,⟨xh,xp,xl,xw⟩⟩):=aF.o;rw[aO];simp only;obtain⟨R,aC⟩:=zN (l++(z3o U 64++Xl));rw[<-aC];have aZ:=z7 aC;clear aC aO aF he hs ht h0 h hN hl hT hX hU b1;go_enter func51,ntmps51;go_wp2_with fail;refine(aD.o _ (H.o.low aT.o.low)).mono ?_;rintro e w2 ⟨rfl,aL⟩;have L:=z7 (aT.o.call aL);clear aL;obtain⟨c0,c1,cf⟩:=z0m (L.o.get 4 rfl);obtain⟨e0,e1,e2,e3,e4,e5,e6,ef⟩:=z3s (L.o.get 3 rfl);obtain⟨s0,s1,sf⟩:=z0m (L.o.get 2 rfl);go_wp2_with fail;have hP:=y5d a n c l b U 64 w2 (H.o.low L.o.low) (by have:=HN.o;omega) aW wG;rw[<-HN.o]at hP;refine hP.mono ?_;rintro e w3 ⟨a3,n3,c3,b3,rfl,a0,aR,A,aM⟩;obtain⟨l3,a6⟩:=zN (l++z3o U 64);have b2:l3.length<=549755812100:=by rw[a6,wP,z1h];have:=HN.o;omega
  have aH:Hid (R=l3++Xl):=z7 (by rw[aZ.o,a6,wj]);rw[<-a6]at A ⊢;obtain⟨N3,aA⟩:=zN l3.length;rw[<-aA];have aX:=z7 aA;have a4:=z7 (L.o.call aM);have b4:w.heap.size+1+1+1+1<w2.heap.size:=L.o.lt 0 rfl;have a7:=z7 (z0M (b:=w.heap.size+1) (j:=1) (u:= .int .i64 t) (z0M (b:=w.heap.size+1) (j:=0) (u:=(.int .i64 1)) (z0M (b:=w.heap.size) (j:=1) (u:= .int .i64 N3) (z0M (b:=w.heap.size) (j:=0) (u:= .slice a3 n3 c3) a0 wF) wF) wF) wF);have aV:=z7 aR;have aU:=z7 A;clear a0 aR A aM a6 aA hP c0 c1 cf e0 e1 e2 e3 e4 e5 e6 ef s0 s1 sf;obtain⟨c0,c1,cf⟩:=z0m (a4.o.get 4 rfl);obtain⟨e0,e1,e2,e3,e4,e5,e6,ef⟩:=z3s (a4.o.get 3 rfl);obtain⟨s0,s1,sf⟩:=z0m (a4.o.get 2 rfl);go_upto_region 13 with fail
  obtain⟨W4,aJ,aI⟩:=(show Loc w [(w.heap.size+1+1+1+1,.cells #[.int .i64 0,.int .i64 0,.int .i64 0,.bool false,.int .u64 0,.int .u8 0,.int .u8 0] 106 (0,0)),(w.heap.size+1+1+1,.cells #[.slice none 0 0,.int .i64 0] 49 (0,0)),(w.heap.size+1+1,.cells #[.int .i64 t,.int .u64 v] 79 (0,0)),(w.heap.size+1,.cells #[(.int .i64 1),.int .i64 t,.int .i64 0,.bool false,.int .u64 0,.int .u8 0,.int .u8 0] 106 (0,0)),(w.heap.size,.cells #[.slice a3 n3 c3,.int .i64 N3] 49 (0,0))] _ from(((a4.o.set2 4 rfl (.slice a3 n3 c3) (.int .i64 N3)).set 3 rfl 0 (.int .i64 1)).set 3 rfl 1 (.int .i64 t))).named;rw[<-aJ]at a7 ⊢;have O:=z7 aI;clear aI aJ c0 c1 cf e0 e1 e2 e3 e4 e5 e6 ef s0 s1 sf;obtain⟨c0,c1,cf⟩:=z0m (O.o.get 4 rfl);obtain⟨e0,e1,e2,e3,e4,e5,e6,ef⟩:=z3s (O.o.get 3 rfl);obtain⟨s0,s1,sf⟩:=z0m (O.o.get 2 rfl);go_wp2_with fail;have hX:=HX.o a3 n3 c3 l3 b3 W4 (z5F a7.o aV.o aU.o) wF (HT.o _ O.o.low);rw[<-aX.o,<-aH.o]at hX;refine hX.mono ?_;rintro e w5 ⟨a5,n5,c5,b5,rfl,a1,aS,J,aN⟩;obtain⟨N5,aB⟩:=zN R.length;rw[<-aB];have Y:=z7 (O.o.call aN);have b6:w.heap.size+1+1+1+1<W4.heap.size:=O.o.lt 0 rfl;have a9:=z7 a1;have aG:=z7 aS;have aE:=z7 J;have aY:=z7 aB;clear a1 aS J aN aB hX c0 c1 cf e0 e1 e2 e3 e4 e5 e6 ef s0 s1 sf;obtain⟨c0,c1,cf⟩:=z0m (Y.o.get 4 rfl);obtain⟨e0,e1,e2,e3,e4,e5,e6,ef⟩:=z3s (Y.o.get 3 rfl)
  obtain⟨r0,r1,rf⟩:=z0m (Y.o.get 1 rfl);obtain⟨x0,x1,x2,x3,x4,x5,x6,xf⟩:=z3s (Y.o.get 0 rfl);go_wp2_with fail;go_region
  go_wp2;have a8:=((((Y.o.set2 4 rfl (.slice a5 n5 c5) (.int .i64 N5)).set7_3_4 3 rfl (.bool xh) (.int .u64 xp) (.int .u8 xl) (.int .u8 xw)).set2 1 rfl (.slice a5 n5 c5) (.int .i64 N5)).set7 0 rfl (.int .i64 1) (.int .i64 t) (.int .i64 0) (.bool xh) (.int .u64 xp) (.int .u8 xl) (.int .u8 xw)).drew;refine wU (y7p rfl _ _ (w.heap.size+1+1+1) _ _ rfl (a8.get 1 rfl) rfl (w.heap.size+1+1+1+1) _ _ _ _ _ _ _ rfl (a8.get 0 rfl) rfl) rfl ?_;refine⟨a5,n5,c5,b5,by rw[<-aY.o];rfl,?_,aG.o,aE.o,a8.low⟩;have g0:=a9.o;have g1:=z7h (b:=w.heap.size+1) (x0:= .bool xh) (x1:= .int .u64 xp) (x2:= .int .u8 xl) (x3:= .int .u8 xw) (z5I (b:=w.heap.size) (x0:= .slice a5 n5 c5) (x1:= .int .i64 N5) g0 wF) wF;have g2:=z7q (b:=w.heap.size+1+1+1+1) (x0:= .int .i64 1) (x1:= .int .i64 t) (x2:= .int .i64 0) (x3:= .bool xh) (x4:= .int .u64 xp) (x5:= .int .u8 xl) (x6:= .int .u8 xw) (z5I (b:=w.heap.size+1+1+1) (x0:= .slice a5 n5 c5) (x1:= .int .i64 N5) g1 wF) wF;exact z0f (z5M g2) (by omega:w.heap.size<=W4.heap.size)
 have d0:((en:Int)==0)=false:=by simp;omega
 have n1:decide (0<en)=true:=hQ;have d2:decide (t<=el)=false:=wM (by have:=ht wF;omega);obtain⟨D,hD⟩:=zN (w64 (t - el));obtain⟨Z,hZ⟩:=zN (w64 (D - ed));have b0: -9223372036854775808<=Z/\Z<=9223372036854775807:=by rw[hZ];exact z2Q _
 have bC:IntKind.i64.wrap (t - el)=D:=hD.symm;have bE:IntKind.i64.wrap (D - ed)=Z:=hZ.symm;obtain⟨M,hM⟩:=zN (en+1);rw[<-hM]at b9;have aF:Hid (z3p ⟨en,el,ed,⟨a2,prev,I,width⟩⟩ ⟨t,v⟩=(y0P Z++Xl,⟨M,t,D,⟨xh,xp,xl,xw⟩⟩)):=z7 (by unfold z3p;simp only;rw[wR h0,<-hX,<-hD,<-hZ,<-hM]);rw[aF.o];simp only;obtain⟨R,aC⟩:=zN (l++(y0P Z++Xl));rw[<-aC];have aZ:=z7 aC;clear aC hM aF he hs ht h0 h hN hl hT hX hD hZ b1;go_enter func51,ntmps51;go_wp2_with fail;refine(aD.o _ (H.o.low aT.o.low)).mono ?_;rintro e w2 ⟨rfl,aL⟩;have L:=z7 (aT.o.call aL);clear aL;obtain⟨c0,c1,cf⟩:=z0m (L.o.get 4 rfl);obtain⟨e0,e1,e2,e3,e4,e5,e6,ef⟩:=z3s (L.o.get 3 rfl);obtain⟨s0,s1,sf⟩:=z0m (L.o.get 2 rfl);go_wp2_with fail;have hP:=q7F a n c l b Z w2 (H.o.low L.o.low) (by have:=HN.o;omega) b0.1 b0.2;rw[<-HN.o]at hP;refine hP.mono ?_;rintro e w3 ⟨a3,n3,c3,b3,rfl,a0,aR,A,aM⟩;obtain⟨l3,a6⟩:=zN (l++y0P Z);have b2:l3.length<=549755812100:=by rw[a6,wP];have:=y6R Z;have:=HN.o;omega
 have aH:Hid (R=l3++Xl):=z7 (by rw[aZ.o,a6,wj]);rw[<-a6]at A ⊢;obtain⟨N3,aA⟩:=zN l3.length;rw[<-aA];have aX:=z7 aA;have a4:=z7 (L.o.call aM);have b4:w.heap.size+1+1+1+1<w2.heap.size:=L.o.lt 0 rfl;have a7:=z7 (z0M (b:=w.heap.size+1) (j:=1) (u:= .int .i64 t) (z0M (b:=w.heap.size+1) (j:=0) (u:=(.int .i64 (M:Nat))) (z0M (b:=w.heap.size+1) (j:=2) (u:= .int .i64 D) (z0M (b:=w.heap.size) (j:=1) (u:= .int .i64 N3) (z0M (b:=w.heap.size) (j:=0) (u:= .slice a3 n3 c3) a0 wF) wF) wF) wF) wF);have aV:=z7 aR;have aU:=z7 A;clear a0 aR A aM a6 aA hP c0 c1 cf e0 e1 e2 e3 e4 e5 e6 ef s0 s1 sf;obtain⟨c0,c1,cf⟩:=z0m (a4.o.get 4 rfl);obtain⟨e0,e1,e2,e3,e4,e5,e6,ef⟩:=z3s (a4.o.get 3 rfl);obtain⟨s0,s1,sf⟩:=z0m (a4.o.get 2 rfl);go_upto_region 13 with fail
 obtain⟨W4,aJ,aI⟩:=(show Loc w [(w.heap.size+1+1+1+1,.cells #[.int .i64 0,.int .i64 0,.int .i64 0,.bool false,.int .u64 0,.int .u8 0,.int .u8 0] 106 (0,0)),(w.heap.size+1+1+1,.cells #[.slice none 0 0,.int .i64 0] 49 (0,0)),(w.heap.size+1+1,.cells #[.int .i64 t,.int .u64 v] 79 (0,0)),(w.heap.size+1,.cells #[(.int .i64 (M:Nat)),.int .i64 t,.int .i64 D,.bool a2,.int .u64 prev,.int .u8 I,.int .u8 width] 106 (0,0)),(w.heap.size,.cells #[.slice a3 n3 c3,.int .i64 N3] 49 (0,0))] _ from((((a4.o.set2 4 rfl (.slice a3 n3 c3) (.int .i64 N3)).set 3 rfl 2 (.int .i64 D)).set 3 rfl 0 (.int .i64 (M:Nat))).set 3 rfl 1 (.int .i64 t))).named;rw[<-aJ]at a7 ⊢;have O:=z7 aI;clear aI aJ c0 c1 cf e0 e1 e2 e3 e4 e5 e6 ef s0 s1 sf;obtain⟨c0,c1,cf⟩:=z0m (O.o.get 4 rfl);obtain⟨e0,e1,e2,e3,e4,e5,e6,ef⟩:=z3s (O.o.get 3 rfl);obtain⟨s0,s1,sf⟩:=z0m (O.o.get 2 rfl);go_wp2_with fail;have hX:=HX.o a3 n3 c3 l3 b3 W4 (z5F a7.o aV.o aU.o) wF (HT.o _ O.o.low);rw[<-aX.o,<-aH.o]at hX;refine hX.mono ?_;rintro e w5 ⟨a5,n5,c5,b5,rfl,a1,aS,J,aN⟩;obtain⟨N5,aB⟩:=zN R.length;rw[<-aB];have Y:=z7 (O.o.call aN);have b6:w.heap.size+1+1+1+1<W4.heap.size:=O.o.lt 0 rfl;have a9:=z7 a1;have aG:=z7 aS;have aE:=z7 J;have aY:=z7 aB;clear a1 aS J aN aB hX c0 c1 cf e0 e1 e2 e3 e4 e5 e6 ef s0 s1 sf;obtain⟨c0,c1,cf⟩:=z0m (Y.o.get 4 rfl)
 obtain⟨e0,e1,e2,e3,e4,e5,e6,ef⟩:=z3s (Y.o.get 3 rfl);obtain⟨r0,r1,rf⟩:=z0m (Y.o.get 1 rfl);obtain⟨x0,x1,x2,x3,x4,x5,x6,xf⟩:=z3s (Y.o.get 0 rfl);go_wp2_with fail;go_region
 go_wp2;have a8:=((((Y.o.set2 4 rfl (.slice a5 n5 c5) (.int .i64 N5)).set7_3_4 3 rfl (.bool xh) (.int .u64 xp) (.int .u8 xl) (.int .u8 xw)).set2 1 rfl (.slice a5 n5 c5) (.int .i64 N5)).set7 0 rfl (.int .i64 (M:Nat)) (.int .i64 t) (.int .i64 D) (.bool xh) (.int .u64 xp) (.int .u8 xl) (.int .u8 xw)).drew;refine wU (y7p rfl _ _ (w.heap.size+1+1+1) _ _ rfl (a8.get 1 rfl) rfl (w.heap.size+1+1+1+1) _ _ _ _ _ _ _ rfl (a8.get 0 rfl) rfl) rfl ?_;refine⟨a5,n5,c5,b5,by rw[<-aY.o];rfl,?_,aG.o,aE.o,a8.low⟩;have g0:=a9.o;have g1:=z7h (b:=w.heap.size+1) (x0:= .bool xh) (x1:= .int .u64 xp) (x2:= .int .u8 xl) (x3:= .int .u8 xw) (z5I (b:=w.heap.size) (x0:= .slice a5 n5 c5) (x1:= .int .i64 N5) g0 wF) wF;have g2:=z7q (b:=w.heap.size+1+1+1+1) (x0:= .int .i64 (M:Nat)) (x1:= .int .i64 t) (x2:= .int .i64 D) (x3:= .bool xh) (x4:= .int .u64 xp) (x5:= .int .u8 xl) (x6:= .int .u8 xw) (z5I (b:=w.heap.size+1+1+1) (x0:= .slice a5 n5 c5) (x1:= .int .i64 N5) g1 wF) wF;exact z0f (z5M g2) (by omega:w.heap.size<=W4.heap.size)
theorem y2N{fn:Func}{A I J L:Tmp}(h:fn.results= #[.tmp A,.tmp I,.tmp J,.tmp L])(tmps:Array Value)(w:World):
  (results fn tmps).run prog w= .ok (.tuple #[tmps.getD A undef,tmps.getD I undef,tmps.getD J undef,tmps.getD L undef]) w:=by
 simp[results,h,go_sem]
def z7b(l:List Bool)(i:Nat)(x:z2g)(w:World)(e:Ending)(w':World):Prop:=
 Below w.heap.size w w'/\((∃t d p,z6x x (l.drop i)=some (t,d,l.drop p)/\p<=l.length/\e= .returned (.tuple #[.int .i64 t,.int .i64 d,.int .i64 (p:Nat),.bool true]))\/
  (z6x x (l.drop i)=none/\∃t d p:Int,e= .returned (.tuple #[.int .i64 t,.int .i64 d,.int .i64 p,.bool false])))
theorem q5R(a:Option Addr)(n c:Nat)(l:List Bool)(b:List UInt8)(i:Nat)(en:Nat)(el O:Int)(L:Bool)(prev I width:Nat)(w:World)(h:z0r w a n c l b)(hl:l.length<=549755813000)(hi:i<=l.length):
  Calls prog 151 #[.agg #[.slice a n c,.int .i64 l.length],.int .i64 i,.agg #[.int .i64 en,.int .i64 el,.int .i64 O,.bool L,.int .u64 prev,.int .u8 I,.int .u8 width]] w (z7b l i ⟨en,el,O,⟨L,prev,I,width⟩⟩ w):=by
 obtain⟨N,hN⟩:=zN l.length;have HB:=z7 (y2z a n c l b i 64);have HZ:=z7 (q7U a n c l b i);rw[<-hN]at HB HZ ⊢;have aB:N<=549755813000:=wF
 have aC:i<=N:=wF
 have H:=z7 h;have HN:=z7 hN;have a0:=z7 (((Loc.start w).new (.cells #[.slice a n c,.int .i64 (N:Nat)] 49)).new' (.cells #[.int .i64 en,.int .i64 el,.int .i64 O,.bool L,.int .u64 prev,.int .u8 I,.int .u8 width] 106) (n:=w.heap.size+1) wH);clear h hN hl hi;by_cases h0:en=0
 .subst h0;have aE:IntKind.i64.wrap ((i:Int)+64)=((i+64:Nat):Int):=by rw[z0l wF wF];omega
  go_enter func151,ntmps151;go_wp2_with fail;refine(HB.o _ (H.o.low a0.o.low) (by have:=HN.o;omega) wF wG).mono ?_;rintro e w2 ⟨rfl,Y⟩;have R:=z7 (a0.o.call Y);clear Y;obtain⟨V,hV⟩:=zN (z2Z l i 64);obtain⟨E,hE⟩:=zN (z2D l i 64);rw[<-hV,<-hE];have HV:=z7 hV;have HE:=z7 hE;obtain⟨T,J⟩:=zN (w64 (V:Int));have aF:IntKind.i64.wrap (V:Int)=T:=J.symm;have a6:=z7 J;clear hV hE J;by_cases a1:E=0
  .have HF:Hid (∀w',Below w.heap.size w w'->z7b l i ⟨0,el,O,⟨L,prev,I,width⟩⟩ w (.returned (.tuple #[.int .i64 T,.int .i64 0,.int .i64 ((i+64:Nat):Int),.bool true])) w'):=z7 fun w' hb=>by
    have h1:z2D l i 64=0:=(by rw[<-HE.o];exact a1);refine⟨hb,.inl ⟨T,0,i+64,?_,z2s.1 h1,rfl⟩⟩;unfold z6x;rw[wZ rfl,z5v h1,a6.o,HV.o];rfl
   subst a1;go_wp2;refine wU (y2N rfl _ _) rfl ?_;exact HF.o _ R.o.low
  have d0:((E:Int)==0)=false:=(by simp;omega);have HF:Hid (∀w',Below w.heap.size w w'->z7b l i ⟨0,el,O,⟨L,prev,I,width⟩⟩ w (.returned (.tuple #[.int .i64 T,.int .i64 0,.int .i64 ((i+64:Nat):Int),.bool false])) w'):=z7 fun w' hb=>by
   refine⟨hb,.inr ⟨?_,T,0,_,rfl⟩⟩;unfold z6x;rw[wZ rfl,rd_not (by have:=HN.o;omega) (by rw[<-HE.o];exact a1)];rfl
  clear a1;go_wp2;refine wU (y2N rfl _ _) rfl ?_;exact HF.o _ R.o.low
 have d0:((en:Int)==0)=false:=by simp;omega
 have a4:Hid (z6x ⟨en,el,O,⟨L,prev,I,width⟩⟩ (l.drop i)=match z9A (l.drop i)with
  | none=>none
  | some (d,r)=>if el<w64 (el+w64 (d+O))then some (w64 (el+w64 (d+O)),w64 (d+O),r)else none):=z7 (by unfold z6x;rw[wR h0];rfl)
 clear h0;go_enter func151,ntmps151;go_wp2_with fail;refine(HZ.o _ (H.o.low a0.o.low) (by have:=HN.o;omega) (by have:=HN.o;omega)).mono ?_;rintro e w2 ⟨Y,a3⟩;have R:=z7 (a0.o.call Y);clear Y;obtain⟨e0,e1,e2,e3,e4,e5,e6,ef⟩:=z3s (R.o.get 0 rfl);rcases a3 with⟨v,r,hz,a2,a5,rfl⟩|⟨hz,x,aA,aG,rfl⟩
 .obtain⟨p,hp⟩:=zN (l.length - r.length);rw[<-hp]at a2 ⊢;have a7:p<=l.length:=wF;obtain⟨D,hD⟩:=zN (w64 (v+O));obtain⟨T,J⟩:=zN (w64 (el+D));have a8:IntKind.i64.wrap (v+O)=D:=hD.symm;have a9:IntKind.i64.wrap (el+D)=T:=J.symm;have A:=a4.o;rw[hz]at A;simp only at A;rw[<-hD,<-J,a2]at A;by_cases U:el<T
  .have HF:Hid (∀w',Below w.heap.size w w'->z7b l i ⟨en,el,O,⟨L,prev,I,width⟩⟩ w (.returned (.tuple #[.int .i64 T,.int .i64 D,.int .i64 (p:Nat),.bool true])) w'):=z7 fun w' hb=>by
    rw[wZ U]at A;exact⟨hb,.inl ⟨T,D,p,A,a7,rfl⟩⟩
   have d1:decide (el<T)=true:=wQ U;clear A hD J hz a2 a5 hp U;go_wp2_with fail;go_quiet (fail)
   go_wp2;refine wU (y2N rfl _ _) rfl ?_;exact HF.o _ (z0j R.o.low)
  have HF:Hid (∀w',Below w.heap.size w w'->z7b l i ⟨en,el,O,⟨L,prev,I,width⟩⟩ w (.returned (.tuple #[.int .i64 T,.int .i64 D,.int .i64 (p:Nat),.bool false])) w'):=z7 fun w' hb=>by
   rw[wR U]at A;exact⟨hb,.inr ⟨A,_,_,_,rfl⟩⟩
  have d1:decide (el<T)=false:=wM U;clear A hD J hz a2 a5 hp U;go_wp2_with fail;go_quiet (fail)
  go_wp2;refine wU (y2N rfl _ _) rfl ?_;exact HF.o _ (z0j R.o.low)
 have A:=a4.o;rw[hz]at A;obtain⟨D,hD⟩:=zN (w64 (0+O));rw[qG]at hD;obtain⟨T,J⟩:=zN (w64 (el+D));have a8:IntKind.i64.wrap O=D:=hD.symm;have a9:IntKind.i64.wrap (el+D)=T:=J.symm;have d1:((x:Int)==0)=false:=(by simp;omega);have HF:Hid (∀w' (t d p:Int),Below w.heap.size w w'->z7b l i ⟨en,el,O,⟨L,prev,I,width⟩⟩ w (.returned (.tuple #[.int .i64 t,.int .i64 d,.int .i64 p,.bool false])) w'):=z7 fun w' t d p hb=>⟨hb,.inr ⟨A,t,d,p,rfl⟩⟩;clear A hD J hz aA;go_wp2_with fail;go_quiet (fail)
 go_wp2;refine wU (y2N rfl _ _) rfl ?_;exact HF.o _ _ _ _ (z0j R.o.low)
def z8s(l:List Bool)(i:Nat)(x:z2g)(w:World)(e:Ending)(w':World):Prop:=
 Below w.heap.size w w'/\((∃s y p,z1D x (l.drop i)=some (s,y,l.drop p)/\i<p/\p<=l.length/\e= .returned (.tuple #[.agg #[.int .i64 s.t,.int .u64 (s.v:Nat)],.int .i64 (p:Nat),.agg #[.int .i64 (y.n:Nat),.int .i64 y.last,.int .i64 y.delta,.bool y.val.has,.int .u64 (y.val.prev:Nat),.int .u8 (y.val.lead:Nat),.int .u8 (y.val.width:Nat)],.int .u16 0]))\/
  (z1D x (l.drop i)=none/\e= .returned (.tuple #[.agg #[.int .i64 0,.int .u64 0],.int .i64 0,.agg #[.int .i64 0,.int .i64 0,.int .i64 0,.bool false,.int .u64 0,.int .u8 0,.int .u8 0],.int .u16 61])))
theorem q3t(a:Option Addr)(n c:Nat)(l:List Bool)(b:List UInt8)(i:Nat)(R:Nat)(el Y:Int)(I:Bool)(prev A width:Nat)(he:z2g.Ok ⟨R,el,Y,⟨I,prev,A,width⟩⟩)(aF:R<=1099511627776)(w:World)(h:z0r w a n c l b)(hl:l.length<=549755813000)(hi:i<=l.length)(hT:z1H w):
  Calls prog 129 #[.agg #[.slice a n c,.int .i64 l.length],.int .i64 i,.agg #[.int .i64 R,.int .i64 el,.int .i64 Y,.bool I,.int .u64 prev,.int .u8 A,.int .u8 width]] w (z8s l i ⟨R,el,Y,⟨I,prev,A,width⟩⟩ w):=by
 obtain⟨N,hN⟩:=zN l.length;have a6:=z7 (fun w' (hb:z0r w' a n c l b)=>y7t a n c l b R el Y I prev A width he w' hb wF);have a4:=z7 (fun w' (hb:z0r w' a n c l b)=>q5R a n c l b i R el Y I prev A width w' hb hl hi);have a7:=z7 (fun w' (hb:z0r w' a n c l b) p (hp:p<=l.length) (aE:z1H w')=>q7y a n c l b p I prev A width w' hb hl hp he.val he.prev aE);rw[<-hN]at a6 a4 a7 ⊢;have aJ:IntKind.i64.wrap ((R:Int)+1)=((R+1:Nat):Int):=z0l wF wF;obtain⟨M,hM⟩:=zN (R+1);rw[<-hM]at aJ;have a3:=z7 (((((Loc.start w).new (.cells #[.slice a n c,.int .i64 (N:Nat)] 49)).new' (.cells #[.int .i64 R,.int .i64 el,.int .i64 Y,.bool I,.int .u64 prev,.int .u8 A,.int .u8 width] 106) (n:=w.heap.size+1) wH).new' (.cells #[.int .i64 0,.int .u64 0] 79) (n:=w.heap.size+1+1) wH).new' (.cells #[.int .i64 0,.int .i64 0,.int .i64 0,.bool false,.int .u64 0,.int .u8 0,.int .u8 0] 106) (n:=w.heap.size+1+1+1) wH);have H:=z7 h;have HN:=z7 hN;have HE:=z7 he;have HM:=z7 hM;have HT:=z7 (fun w' (hb:Below w.heap.size w w')=>hT.low hb);clear h hN hl hi hT he hM aF;go_enter func129,ntmps129;go_wp2_with fail;refine(a6.o _ (H.o.low a3.o.low)).mono ?_;rintro e w2 ⟨rfl,a8⟩;have a1:=z7 (a3.o.call a8);clear a8;obtain⟨c0,c1,cf⟩:=z0m (a1.o.get 3 rfl);obtain⟨e0,e1,e2,e3,e4,e5,e6,ef⟩:=z3s (a1.o.get 2 rfl);go_wp2_with fail
 refine(a4.o _ (H.o.low a1.o.low)).mono ?_;rintro e w3 ⟨a9,U⟩;have L:=z7 (a1.o.call a9);clear a9 c0 c1 cf e0 e1 e2 e3 e4 e5 e6 ef;obtain⟨c0,c1,cf⟩:=z0m (L.o.get 3 rfl);obtain⟨e0,e1,e2,e3,e4,e5,e6,ef⟩:=z3s (L.o.get 2 rfl);rcases U with⟨t,d,p,a0,aH,rfl⟩|⟨a0,t,d,p,rfl⟩
 .have a5:=z7 a0;have aG:p<=N:=by have:=HN.o;omega
  clear a0 aH;go_wp2_with fail;refine(a7.o _ (H.o.low L.o.low) p aG (HT.o _ L.o.low)).mono ?_;rintro e w4 ⟨aA,U⟩;have O:=z7 (L.o.call aA);clear aA c0 c1 cf e0 e1 e2 e3 e4 e5 e6 ef;obtain⟨e0,e1,e2,e3,e4,e5,e6,ef⟩:=z3s (O.o.get 2 rfl);obtain⟨r0,r1,rf⟩:=z0m (O.o.get 1 rfl);obtain⟨x0,x1,x2,x3,x4,x5,x6,xf⟩:=z3s (O.o.get 0 rfl);have l0:=O.o.lt 0 rfl;have l1:=O.o.lt 1 rfl;have l2:=O.o.lt 2 rfl;rcases U with⟨v,s2,r,hx,a2,aI,rfl⟩|⟨hx,x,aL,aM,rfl⟩
  .obtain⟨p2,aC⟩:=zN (l.length - r.length);rw[<-aC]at a2 ⊢;obtain⟨sh,sp,sl,sw⟩:=s2;have HF:Hid (∀w',Below w.heap.size w w'->z8s l i ⟨R,el,Y,⟨I,prev,A,width⟩⟩ w (.returned (.tuple #[.agg #[.int .i64 t,.int .u64 v],.int .i64 p2,.agg #[.int .i64 (M:Nat),.int .i64 t,.int .i64 d,.bool sh,.int .u64 sp,.int .u8 sl,.int .u8 sw],.int .u16 0])) w'):=z7 fun w' hb=>by
    have hc:z1D ⟨R,el,Y,⟨I,prev,A,width⟩⟩ (l.drop i)=some (⟨t,v⟩,⟨M,t,d,⟨sh,sp,sl,sw⟩⟩,l.drop p2):=by
     unfold z1D;rw[a5.o];simp only;rw[hx,HM.o,<-a2]
    have aB:=(z2h HE.o hc).1;simp only[uE]at aB;exact⟨hb,.inl ⟨_,_,p2,hc,wF,wF,rfl⟩⟩
   clear hx a2 aI aC;go_wp2_with fail;go_region
   go_wp2;have J:=((((O.o.set2 1 rfl (.int .i64 t) (.int .u64 v)).set7 0 rfl (.int .i64 (M:Nat)) (.int .i64 t) (.int .i64 d) (.bool sh) (.int .u64 sp) (.int .u8 sl) (.int .u8 sw))).call (q5 _ (.cells #[.bool sh,.int .u64 sp,.int .u8 sl,.int .u8 sw] 104))).drew;refine wU (y1R rfl _ _ (w.heap.size+1+1) _ _ rfl (J.get 1 rfl) rfl (w.heap.size+1+1+1) _ _ _ _ _ _ _ rfl (J.get 0 rfl) rfl) rfl ?_;exact HF.o _ J.low
  have HF:Hid (∀w',Below w.heap.size w w'->z8s l i ⟨R,el,Y,⟨I,prev,A,width⟩⟩ w (.returned (.tuple #[.agg #[.int .i64 0,.int .u64 0],.int .i64 0,.agg #[.int .i64 0,.int .i64 0,.int .i64 0,.bool false,.int .u64 0,.int .u8 0,.int .u8 0],.int .u16 61])) w'):=z7 fun w' hb=>by
   have hc:z1D ⟨R,el,Y,⟨I,prev,A,width⟩⟩ (l.drop i)=none:=by
    unfold z1D;rw[a5.o];simp only;rw[hx]
   exact⟨hb,.inr ⟨hc,rfl⟩⟩
  have d1:((x:Int)==0)=false:=(by simp;omega);clear hx aL aM;go_wp2;have J:=(((O.o.set2 1 rfl (.int .i64 0) (.int .u64 0)).set7 0 rfl (.int .i64 0) (.int .i64 0) (.int .i64 0) (.bool false) (.int .u64 0) (.int .u8 0) (.int .u8 0))).call (q5 _ (.cells #[.bool false,.int .u64 0,.int .u8 0,.int .u8 0] 104));refine wU (y1R rfl _ _ (w.heap.size+1+1) _ _ rfl (J.get 1 rfl) rfl (w.heap.size+1+1+1) _ _ _ _ _ _ _ rfl (J.get 0 rfl) rfl) rfl ?_;exact HF.o _ J.low
 have HF:Hid (∀w',Below w.heap.size w w'->z8s l i ⟨R,el,Y,⟨I,prev,A,width⟩⟩ w (.returned (.tuple #[.agg #[.int .i64 0,.int .u64 0],.int .i64 0,.agg #[.int .i64 0,.int .i64 0,.int .i64 0,.bool false,.int .u64 0,.int .u8 0,.int .u8 0],.int .u16 61])) w'):=z7 fun w' hb=>by
  have hc:z1D ⟨R,el,Y,⟨I,prev,A,width⟩⟩ (l.drop i)=none:=by
   unfold z1D;rw[a0]
  exact⟨hb,.inr ⟨hc,rfl⟩⟩
 clear a0;obtain⟨r0,r1,rf⟩:=z0m (L.o.get 1 rfl);obtain⟨x0,x1,x2,x3,x4,x5,x6,xf⟩:=z3s (L.o.get 0 rfl);go_wp2;have J:=(L.o.set2 1 rfl (.int .i64 0) (.int .u64 0)).set7 0 rfl (.int .i64 0) (.int .i64 0) (.int .i64 0) (.bool false) (.int .u64 0) (.int .u8 0) (.int .u8 0);refine wU (y1R rfl _ _ (w.heap.size+1+1) _ _ rfl (J.get 1 rfl) rfl (w.heap.size+1+1+1) _ _ _ _ _ _ _ rfl (J.get 0 rfl) rfl) rfl ?_;exact HF.o _ J.low
theorem z8N{n:Int}(A:0<=n)(I:n<18446744073709551616):IntKind.u64.wrap n=n:=by rw[wq];omega
theorem q4r:lz 2305843009213693951=3:=wG
structure y1Q (A u q r:Nat):Prop where
 sum:q*4294967295+r=A
 hi:A*4294967296+u<(q+1)*18446744073709551608
 q32:q<=4294967296
theorem y3S{A u:Nat}(I:A<18446744073709551608)(J:u<4294967296):y1Q A u (A/4294967295) (A%4294967295)/\A%4294967295<4294967296:=by
 refine⟨⟨wF,wF,wF⟩,wF⟩
theorem q0r{A u q r:Nat}(h:y1Q A u q r)(J:4294967296<=q\/4294967296*r+u<q*4294967288):0<q:=by
 rcases J with I|I
 .exact wS wG I
 exact Nat.pos_of_ne_zero fun e=>by rw[e,gd]at I;exact absurd I (Nat.not_lt_zero _)
theorem y6i{A u q N r:Nat}(h:y1Q A u q r)(L:q=N+1)(hA:A<18446744073709551608)(hu:u<4294967296)(hr:r<4294967296)(hc:4294967296<=q\/4294967296*r+u<q*4294967288):y1Q A u N (4294967295+r):=by
 obtain⟨J,R,Y⟩:=h;have I:N*4294967295+(4294967295+r)=A:=by
  rw[L,ic,Nat.one_mul]at J;rw[<-J,im]
 have O:N<=4294967296:=by clear hc hA hu hr R J I;omega
 refine⟨I,?_,O⟩;rw[<-L];rcases hc with U|U
 .have:4294967296*18446744073709551608<=q*18446744073709551608:=pF _ U;clear J R Y I O L U;omega
 clear R Y I O L;omega
theorem y0a{A u q r:Nat}(h:y1Q A u q r)(N:q*4294967288<=4294967296*r+u):q*18446744073709551608<=A*4294967296+u/\A*4294967296+u - q*18446744073709551608<18446744073709551608:=by
 obtain⟨I,J,L⟩:=h;omega
theorem q5K{N J A R O Y U L I:Nat}(hA:A=N*8+J/2305843009213693952)(hu:R*4294967296+O=J%2305843009213693952*8)(h1:Y*18446744073709551608+L=A*4294967296+R)(h2:U*18446744073709551608+I=L*4294967296+O)(hR:I<18446744073709551608):
  I/8=(N*18446744073709551616+J)%2305843009213693951:=by
 omega
theorem q5O{q:Nat}(h:4294967296<=q):decide ((4294967296:Int)<=q)=true/\decide (4294967296<=q)=true:=⟨hQ,wQ h⟩
theorem q0T{q:Nat}(h:¬4294967296<=q):decide ((4294967296:Int)<=q)=false/\decide (4294967296<=q)=false:=⟨wC,wM h⟩
theorem q8s{a b:Nat}(h:a<b):decide ((a:Int)<b)=true/\decide (a<b)=true:=⟨hQ,wQ h⟩
theorem q8h{a b:Nat}(h:¬a<b):decide ((a:Int)<b)=false/\decide (a<b)=false:=⟨wC,wM h⟩
theorem q0j{q r u:Nat}(A:q<4294967296)(I:4294967296<=r):q*4294967288<=4294967296*r+u:=wF
theorem q5u(w:World):Calls prog 191 #[.int .u64 2305843009213693951] w fun e w'=>e= .returned (.int .i64 3)/\w'=w:=by
 have:=q3j 2305843009213693951 wG w;rw[q4r]at this;exact this
theorem q4x(hi lo:Nat)(hh:hi<2305843009213693951)(hl:lo<18446744073709551616)(w:World):
  Calls prog 206 #[.int .u64 hi,.int .u64 lo,.int .u64 2305843009213693951] w fun e w'=>(∃q:Int,e= .returned (.tuple #[.int .u64 q,.int .u64 (((hi*18446744073709551616+lo)%2305843009213693951:Nat):Int)]))/\Below w.heap.size w w':=by
 by_cases h0:hi=0
 .subst h0;obtain⟨r,hr⟩:=zN (lo%2305843009213693951);have e1:(0*18446744073709551616+lo)%2305843009213693951=r:=by rw[gd,uZ,hr]
  rw[e1];have hm:(lo:Int).tmod 2305843009213693951=(r:Int):=by rw[hr];exact eh lo 2305843009213693951
  have bC:(lo:Int)%2305843009213693951=(r:Int):=by rw[hr];simp
  clear e1 hr;go_enter func206,ntmps206;go_wp2;go_quiet (fail)
  go_wp2;go_ret2;exact⟨⟨_,rfl⟩,z0j wD⟩
 have d0:((hi:Int)==0)=false:=by simp;omega
 have d1:decide ((2305843009213693951:Int)<=hi)=false:=wC;have hy:bits .and .u64 18446744073709551608 4294967295=4294967288:=wG
 obtain⟨T8,aN⟩:=zN (hi*8);obtain⟨L3,aL⟩:=zN (lo/2305843009213693952);obtain⟨A,hA⟩:=zN (hi*8+lo/2305843009213693952);obtain⟨U,hU⟩:=zN (lo%2305843009213693952*8);obtain⟨u1,bF⟩:=zN (U/4294967296);obtain⟨u0,aT⟩:=zN (U%4294967296);have bZ:IntKind.u64.wrap ((hi:Int)*8)=(T8:Int):=by rw[z8N wF wF];omega
 have bN:(lo:Int)/2305843009213693952=(L3:Int):=wF
 have bV:bits .or .u64 (T8:Int) (L3:Int)=(A:Int):=by
  rw[rp _ _ wF wF,aN,show hi*8=hi*2^3 from rfl,y9s (show L3<2^3 by omega),hA,aL]
 have bD:IntKind.u64.wrap ((lo:Int)*8)=(U:Int):=by rw[wq];omega
 have bT:(U:Int)/4294967296=(u1:Int):=wF
 have bS:bits .and .u64 (U:Int) 4294967295=(u0:Int):=by
  have:=u64_and_nat U 4294967295 wF wG;rw[Nat.and_two_pow_sub_one_eq_mod U 32]at this;rw[aT];exact this
 have aD:A<18446744073709551608:=wF
 have aV:u1<4294967296:=wF
 have aU:u0<4294967296:=wF
 have HA:=z7 hA;have aZ:Hid (u1*4294967296+u0=lo%2305843009213693952*8):=z7 wF;obtain⟨qa,aG⟩:=zN (A/4294967295);obtain⟨ra,aR⟩:=zN (A%4294967295);have aC:=y3S aD aV;rw[<-aG,<-aR]at aC;have bX:(A:Int).tdiv 4294967295=(qa:Int):=by rw[aG];exact qN A 4294967295
 have bY:(A:Int)/4294967295=(qa:Int):=wF
 obtain⟨Ma,aW⟩:=zN (qa*4294967295);have bU:IntKind.u64.wrap ((qa:Int)*4294967295)=(Ma:Int):=by rw[z8N wF wF];omega
 have bC:IntKind.u64.wrap ((A:Int) - Ma)=(ra:Int):=by rw[z8N wF wF];omega
 have aJ:=z7 aC.1;have bO:=aC.2;clear aC aN aL hA hU bF aT aG aR aW h0 hh hl;go_enter func206,ntmps206;go_wp2_with fail;refine(q5u _).mono ?_;rintro e w1 ⟨rfl,rfl⟩
 go_upto_block 0 with fail
 go_cut[15,16]from 67 to 85 (fun qv rv wx=>∃q r:Nat,qv= .int .u64 q/\rv= .int .u64 (r:Nat)/\Hid (q*18446744073709551608<=A*4294967296+u1/\A*4294967296+u1 - q*18446744073709551608<18446744073709551608)/\w1=wx)
 case first=>
  go_wp2_with fail;go_loopw[15,16] (fun qv rv wr=>∃q r:Nat,qv= .int .u64 q/\rv= .int .u64 (r:Nat)/\Hid (y1Q A u1 q r)/\r<4294967296/\q<=4294967296/\wr=w1) (fun qv _ _=>(intOf qv).toNat)
  case atStart=>exact⟨qa,ra,rfl,rfl,aJ,by assumption,aJ.o.q32,rfl⟩
  case round=>
   obtain⟨q,r,rfl,rfl,a4,aB,aO,bJ⟩:=hrel;subst wr;obtain⟨Q8,N⟩:=zN (q*4294967288);obtain⟨R8,O⟩:=zN (4294967296*r);obtain⟨S8,R⟩:=zN (R8+u1);have bG:IntKind.u64.wrap ((q:Int)*4294967288)=(Q8:Int):=(by rw[z8N wF wF];omega);have bH:IntKind.u64.wrap (4294967296*(r:Int))=(R8:Int):=(by rw[z8N wF wF];omega);have bI:IntKind.u64.wrap ((R8:Int)+u1)=(S8:Int):=(by rw[z8N wF wF];omega);by_cases I:4294967296<=q\/S8<Q8
   .have a0:4294967296<=q\/4294967296*r+u1<q*4294967288:=(by rw[<-N,<-O,<-R];exact I);obtain⟨Y,aA⟩:∃Y,q=Y+1:=⟨q - 1,by have:=q0r a4.o a0;omega⟩;have a5:=z7 (y6i a4.o aA wF wF aB a0);obtain⟨r',a7⟩:=zN (4294967295+r);rw[<-a7]at a5;have bL:IntKind.u64.wrap ((q:Int) - 1)=(Y:Int):=(by rw[z8N wF wF];omega);have bM:IntKind.u64.wrap ((r:Int)+4294967295)=(r':Int):=(by rw[z8N wF wF];omega);have L:Y<=4294967296/\Y<4294967296:=wF;have bE:Y<q:=wF;have ht:(decide ((4294967296:Int)<=q)=true/\decide (4294967296<=q)=true)\/((decide ((4294967296:Int)<=q)=false/\decide (4294967296<=q)=false)/\decide ((S8:Int)<Q8)=true/\decide (S8<Q8)=true):=by
     by_cases h:4294967296<=q
     .exact .inl (q5O h)
     exact .inr ⟨q0T h,q8s (I.resolve_left h)⟩
    clear I a0 aA N O R;by_cases J:4294967296<=r'
    .obtain⟨e3,n3⟩:=q5O J;have HD:=z7 (y0a a5.o (q0j L.2 J));clear a7 J;rcases ht with⟨e1,n1⟩|⟨⟨e1,n1⟩,e2,n2⟩<;>(go_wp2;go_meet;exact⟨Y,r',rfl,rfl,HD,rfl⟩)
    obtain⟨e3,n3⟩:=q0T J;have a8:r'<4294967296:=wF;clear a7 J;rcases ht with⟨e1,n1⟩|⟨⟨e1,n1⟩,e2,n2⟩<;>(go_wp2;exact⟨⟨Y,r',rfl,rfl,a5,a8,L.1,(by trivial)⟩,by show(Y:Int).toNat<(q:Int).toNat;omega⟩)
   obtain⟨e1,n1⟩:=q0T fun h=>I (.inl h);obtain⟨e2,n2⟩:=q8h fun h=>I (.inr h);have HD:=z7 (y0a a4.o (by rw[<-N,<-O,<-R];omega));clear I N O R;go_wp2;go_meet
   exact⟨q,r,rfl,rfl,HD,rfl⟩
 case rest=>
 obtain⟨q,r,rfl,rfl,HD,rfl⟩:=hcut;have a6:=HD.o;obtain⟨R1,b4⟩:=zN (A*4294967296+u1 - q*18446744073709551608);obtain⟨a1,b6⟩:=zN (A*4294967296%18446744073709551616);obtain⟨a2,b7⟩:=zN ((a1+u1)%18446744073709551616);obtain⟨a3,b8⟩:=zN (q*18446744073709551608%18446744073709551616);have f1:IntKind.u64.wrap ((A:Int)*4294967296)=(a1:Int):=by rw[wq];omega
 have f2:IntKind.u64.wrap ((a1:Int)+u1)=(a2:Int):=by rw[wq];omega
 have f3:IntKind.u64.wrap ((q:Int)*18446744073709551608)=(a3:Int):=by rw[wq];omega
 have f4:IntKind.u64.wrap ((a2:Int) - a3)=(R1:Int):=by rw[wq];omega
 have aM:R1<18446744073709551608:=wF
 have aX:Hid (q*18446744073709551608+R1=A*4294967296+u1):=z7 wF;obtain⟨qb,aH⟩:=zN (R1/4294967295);obtain⟨rb,aS⟩:=zN (R1%4294967295);have a9:=y3S aM aU;rw[<-aH,<-aS]at a9;have k1:(R1:Int).tdiv 4294967295=(qb:Int):=by rw[aH];exact qN R1 4294967295
 have k2:(R1:Int)/4294967295=(qb:Int):=wF
 obtain⟨Mb,b0⟩:=zN (qb*4294967295);have k3:IntKind.u64.wrap ((qb:Int)*4294967295)=(Mb:Int):=by rw[z8N wF wF];omega
 have k4:IntKind.u64.wrap ((R1:Int) - Mb)=(rb:Int):=by rw[z8N wF wF];omega
 have aE:=z7 a9.1;have bR:=a9.2;clear a9 b4 b6 b7 b8 a6 aH aS b0
 go_upto_block 2 with fail
 go_cut[18,16]from 102 to 120 (fun qv rv wx=>∃q r:Nat,qv= .int .u64 q/\rv= .int .u64 (r:Nat)/\Hid (q*18446744073709551608<=R1*4294967296+u0/\R1*4294967296+u0 - q*18446744073709551608<18446744073709551608)/\w1=wx)
 case first=>
  go_wp2_with fail;go_loopw[18,16] (fun qv rv wr=>∃q r:Nat,qv= .int .u64 q/\rv= .int .u64 (r:Nat)/\Hid (y1Q R1 u0 q r)/\r<4294967296/\q<=4294967296/\wr=w1) (fun qv _ _=>(intOf qv).toNat)
  case atStart=>exact⟨qb,rb,rfl,rfl,aE,by assumption,aE.o.q32,rfl⟩
  case round=>
   obtain⟨q,r,rfl,rfl,a4,aB,aO,bJ⟩:=hrel;subst wr;obtain⟨Q8,N⟩:=zN (q*4294967288);obtain⟨R8,O⟩:=zN (4294967296*r);obtain⟨S8,R⟩:=zN (R8+u0);have bG:IntKind.u64.wrap ((q:Int)*4294967288)=(Q8:Int):=(by rw[z8N wF wF];omega);have bH:IntKind.u64.wrap (4294967296*(r:Int))=(R8:Int):=(by rw[z8N wF wF];omega);have bI:IntKind.u64.wrap ((R8:Int)+u0)=(S8:Int):=(by rw[z8N wF wF];omega);by_cases I:4294967296<=q\/S8<Q8
   .have a0:4294967296<=q\/4294967296*r+u0<q*4294967288:=(by rw[<-N,<-O,<-R];exact I);obtain⟨Y,aA⟩:∃Y,q=Y+1:=⟨q - 1,by have:=q0r a4.o a0;omega⟩;have a5:=z7 (y6i a4.o aA wF wF aB a0);obtain⟨r',a7⟩:=zN (4294967295+r);rw[<-a7]at a5;have bL:IntKind.u64.wrap ((q:Int) - 1)=(Y:Int):=(by rw[z8N wF wF];omega);have bM:IntKind.u64.wrap ((r:Int)+4294967295)=(r':Int):=(by rw[z8N wF wF];omega);have L:Y<=4294967296/\Y<4294967296:=wF;have bE:Y<q:=wF;have ht:(decide ((4294967296:Int)<=q)=true/\decide (4294967296<=q)=true)\/((decide ((4294967296:Int)<=q)=false/\decide (4294967296<=q)=false)/\decide ((S8:Int)<Q8)=true/\decide (S8<Q8)=true):=by
     by_cases h:4294967296<=q
     .exact .inl (q5O h)
     exact .inr ⟨q0T h,q8s (I.resolve_left h)⟩
    clear I a0 aA N O R;by_cases J:4294967296<=r'
    .obtain⟨e3,n3⟩:=q5O J;have HD:=z7 (y0a a5.o (q0j L.2 J));clear a7 J;rcases ht with⟨e1,n1⟩|⟨⟨e1,n1⟩,e2,n2⟩<;>(go_wp2;go_meet;exact⟨Y,r',rfl,rfl,HD,rfl⟩)
    obtain⟨e3,n3⟩:=q0T J;have a8:r'<4294967296:=wF;clear a7 J;rcases ht with⟨e1,n1⟩|⟨⟨e1,n1⟩,e2,n2⟩<;>(go_wp2;exact⟨⟨Y,r',rfl,rfl,a5,a8,L.1,(by trivial)⟩,by show(Y:Int).toNat<(q:Int).toNat;omega⟩)
   obtain⟨e1,n1⟩:=q0T fun h=>I (.inl h);obtain⟨e2,n2⟩:=q8h fun h=>I (.inr h);have HD:=z7 (y0a a4.o (by rw[<-N,<-O,<-R];omega));clear I N O R;go_wp2;go_meet
   exact⟨q,r,rfl,rfl,HD,rfl⟩
 case rest=>
 obtain⟨q,r,rfl,rfl,HD,rfl⟩:=hcut;have a6:=HD.o;obtain⟨R2,b5⟩:=zN (R1*4294967296+u0 - q*18446744073709551608);obtain⟨b1,b9⟩:=zN (R1*4294967296%18446744073709551616);obtain⟨b2,bA⟩:=zN ((b1+u0)%18446744073709551616);obtain⟨b3,bB⟩:=zN (q*18446744073709551608%18446744073709551616);have g1:IntKind.u64.wrap ((R1:Int)*4294967296)=(b1:Int):=by rw[wq];omega
 have g2:IntKind.u64.wrap ((b1:Int)+u0)=(b2:Int):=by rw[wq];omega
 have g3:IntKind.u64.wrap ((q:Int)*18446744073709551608)=(b3:Int):=by rw[wq];omega
 have g4:IntKind.u64.wrap ((b2:Int) - b3)=(R2:Int):=by rw[wq];omega
 have aF:=q5K HA.o aZ.o aX.o (show q*18446744073709551608+R2=R1*4294967296+u0 by omega) wF;obtain⟨r9,aI⟩:=zN ((hi*18446744073709551616+lo)%2305843009213693951);have g5:(R2:Int)/8=(r9:Int):=by rw[aI,<-aF];omega
 have aY:=z7 aI;clear aI aF b5 b9 bA bB a6;go_wp2;go_ret2;rw[<-aY.o];exact⟨⟨_,rfl⟩,wN _ _⟩
def y0d(s:Nat)(one:Bool):Nat:=(s*1000000007+(if one then 2 else 1))%2305843009213693951
def z3h(s:Nat)(l:List Bool):Nat:=l.foldl y0d s
theorem q2Q(s:Nat)(A:Bool):y0d s A<2305843009213693951:=by
 unfold y0d;exact gk _ wF
theorem y8h(s:Nat)(l:List Bool)(b:Bool):z3h s (l++ [b])=y0d (z3h s l) b:=by unfold z3h;rw[ez,pg,List.foldl_nil]
theorem y9A(s:Nat)(b:Bool)(l:List Bool):z3h s (b::l)=z3h (y0d s b) l:=by unfold z3h;rw[pg]
theorem y2F(l:List Bool):∀(s:Nat),s<2305843009213693951->z3h s l<2305843009213693951:=by
 induction l with
 | nil=>intro s h;exact h
 | cons b l ih=>intro s h;rw[y9A];exact ih _ (q2Q s b)
theorem q7I(h l:Nat)(Y:h<18446744073709551616)(R:l<18446744073709551616)(w:World):
  Calls prog 194 #[.int .u64 h,.int .u64 l] w fun e w'=>e= .returned (.int .u64 (((h*18446744073709551616+l)%2305843009213693951:Nat):Int))/\Below w.heap.size w w':=by
 obtain⟨H,A⟩:=zN (h%2305843009213693951);have U:(h:Int).tmod 2305843009213693951=(H:Int):=by rw[A];exact eh h 2305843009213693951
 have I:H<2305843009213693951:=by rw[A];exact gk _ wG
 have L:(h*18446744073709551616+l)%2305843009213693951=(H*18446744073709551616+l)%2305843009213693951:=by
  rw[A]
  conv=>lhs;rw[qX,Nat.mul_mod]
  conv=>rhs;rw[qX,Nat.mul_mod,tO]
 rw[L];have J:=z7 (q4x H l I R);obtain⟨r,N⟩:=zN ((H*18446744073709551616+l)%2305843009213693951);rw[<-N]at J ⊢;clear N L A;go_enter func194,ntmps194;go_wp2_with fail;refine(J.o _).mono ?_;rintro e w1 ⟨⟨q,rfl⟩,hb⟩;have O:=z7 hb;clear hb;go_wp2;go_ret;exact⟨rfl,O.o⟩
theorem q4Q(a b:Nat)(L:a<18446744073709551616)(hb:b<18446744073709551616)(w:World):
  Calls prog 173 #[.int .u64 a,.int .u64 b] w fun e w'=>e= .returned (.int .u64 ((a*b%2305843009213693951:Nat):Int))/\Below w.heap.size w w':=by
 have J:=z7 (q7R a b L hb);have A:a*b/18446744073709551616<18446744073709551616:=by
  rw[ix wG];exact Nat.mul_lt_mul'' L hb
 have I:=z7 (q7I (a*b/18446744073709551616) (a*b%18446744073709551616) A (gk _ wG));rw[show a*b/18446744073709551616*18446744073709551616+a*b%18446744073709551616=a*b from Nat.div_add_mod' _ _]at I;obtain⟨r,R⟩:=zN (a*b%2305843009213693951);obtain⟨p,N⟩:=zN (a*b/18446744073709551616);obtain⟨q,O⟩:=zN (a*b%18446744073709551616);rw[<-R]at I ⊢;rw[<-N,<-O]at I J;clear R N O A;go_enter func173,ntmps173;go_wp2_with fail;refine(J.o _).mono ?_;rintro e Y ⟨rfl,rfl⟩;go_wp2_with fail;refine(I.o _).mono ?_;rintro e w2 ⟨rfl,hb⟩;have U:=z7 hb;clear hb;go_wp2;go_ret;exact⟨rfl,U.o⟩
theorem q5W(a b:Nat)(Y:a<18446744073709551616)(hb:b<18446744073709551616)(w:World):
  Calls prog 172 #[.int .u64 a,.int .u64 b] w fun e w'=>e= .returned (.int .u64 (((a+b)%2305843009213693951:Nat):Int))/\w'=w:=by
 obtain⟨A,J⟩:=zN (a%2305843009213693951);obtain⟨B,L⟩:=zN (b%2305843009213693951);obtain⟨S,O⟩:=zN (A+B);obtain⟨r,N⟩:=zN ((a+b)%2305843009213693951);have R:(a:Int).tmod 2305843009213693951=(A:Int):=by rw[J];exact eh a 2305843009213693951
 have U:(b:Int).tmod 2305843009213693951=(B:Int):=by rw[L];exact eh b 2305843009213693951
 have hs:IntKind.u64.wrap ((A:Int)+B)=(S:Int):=by rw[z8N wF wF];omega
 have I:r=S%2305843009213693951:=by rw[N,O,J,L,<-qX]
 have c1:(S:Int).tmod 2305843009213693951=(r:Int):=by rw[I];exact eh S 2305843009213693951
 rw[<-N];clear J L O N I;go_enter func172,ntmps172;go_wp2;go_ret;exact⟨rfl,rfl⟩
theorem q6J(s:Nat)(J:Bool)(hs:s<18446744073709551616)(w:World):
  Calls prog 146 #[.int .u64 s,.bool J] w fun e w'=>e= .returned (.int .u64 (y0d s J:Nat))/\Below w.heap.size w w':=by
 have Y:=z7 (q4Q s 1000000007 hs wG);have I:s*1000000007%2305843009213693951<18446744073709551616:=gQ (gk _ wG) wG;have U:=z7 (fun n (hn:n<18446744073709551616)=>q5W (s*1000000007%2305843009213693951) n I hn);have L:∀n,(s*1000000007%2305843009213693951+n)%2305843009213693951=(s*1000000007+n)%2305843009213693951:=fun n=>by rw[qX,tO,<-qX]
 obtain⟨t,ht⟩:=zN (s*1000000007%2305843009213693951);rw[<-ht]at Y U L;cases J with
 | true=>
  have R:Hid (y0d s true=(t+2)%2305843009213693951):=z7 (by rw[L];rfl);rw[R.o];have A:=z7 (U.o 2 wG);obtain⟨r,N⟩:=zN ((t+2)%2305843009213693951);rw[<-N]at A ⊢;have a0:IntKind.u64.wrap 2=2:=by rw[wq];rfl
  clear N L ht I;go_enter func146,ntmps146;go_wp2_with fail;refine(Y.o _).mono ?_;rintro e w1 ⟨rfl,hb⟩;have O:=z7 hb;clear hb;go_wp2_with fail;refine(A.o _).mono ?_;rintro e w2 ⟨rfl,rfl⟩;go_wp2;go_ret;exact⟨rfl,O.o⟩
 | false=>
  have R:Hid (y0d s false=(t+1)%2305843009213693951):=z7 (by rw[L];rfl);rw[R.o];have A:=z7 (U.o 1 wG);obtain⟨r,N⟩:=zN ((t+1)%2305843009213693951);rw[<-N]at A ⊢;clear N L ht I;go_enter func146,ntmps146;go_wp2_with fail;refine(Y.o _).mono ?_;rintro e w1 ⟨rfl,hb⟩;have O:=z7 hb;clear hb;go_wp2_with fail;refine(A.o _).mono ?_;rintro e w2 ⟨rfl,rfl⟩;go_wp2;go_ret;exact⟨rfl,O.o⟩
theorem q7a{b:List UInt8}{l:List Bool}(h:z0S b l){i:Nat}(L:i<l.length):(b.getD (i/8) 0).toNat/2^(7 - i%8)%2=(if l.getD i false then 1 else 0):=by
 have J:=h.len;have I:=h.at (j:=i/8) (k:=i%8) wF (gk _ wG);rw[show 8*(i/8)+i%8=i from Nat.div_add_mod i 8]at I;rw[<-I,Nat.testBit_eq_decide_div_mod_eq];have A:=qR ((b.getD (i/8) 0).toNat/2^(7 - i%8));rcases A with A|A<;>rw[A]<;>rfl
theorem y9e{l:List Bool}{i s:Nat}(A:i<l.length):z3h s (l.take (i+1))=y0d (z3h s (l.take i)) (l.getD i false):=by
 rw[uG,<-y8h]
 congr 2
 simp[wu,A]
theorem q5k(s:Nat)(a:Option Addr)(n c:Nat)(l:List Bool)(b:List UInt8)(hs:s<2305843009213693951)(w:World)(h:z0r w a n c l b)(hl:l.length<=549755813888):
  Calls prog 117 #[.int .u64 s,.agg #[.slice a n c,.int .i64 l.length]] w fun e w'=>e= .returned (.tuple #[.int .u64 (z3h s l:Nat),.int .u16 0])/\Below w.heap.size w w':=by
 obtain⟨N,hN⟩:=zN l.length;rw[<-hN];have a8:=z7 (z2V h.bits);have A:=z7 h.len;have aO:n<=70368744177665:=by have:=h.bits.len;have:=h.len;omega
 have aL:N<=549755813888:=wF
 have H:=z7 h;have HN:=z7 hN;have a3:=z7 ((Loc.start w).new (.cells #[.slice a n c,.int .i64 (N:Nat)] 49));have m1:(s:Int).tmod 2305843009213693951=(s:Int):=Int.tmod_eq_of_lt wF wF;clear h hN hl;go_enter func117,ntmps117;go_wp2_with fail;have a2:=z2X a c b N _ (by have:=(H.o.low a3.o.low).rd;rw[A.o]at this;exact this) (by have:=A.o;omega) wF wF;rw[<-A.o,HN.o,a8.o,<-HN.o]at a2;refine a2.mono ?_;rintro e w2 ⟨rfl,a4⟩;have U:=z7 (a3.o.call a4);clear a4 a2;obtain⟨c0,c1,cf⟩:=z0m (U.o.get 0 rfl);go_wp2_with fail;clear c0 c1 cf;go_loopw[0,14] (fun sv iv wr=>∃k:Nat,sv= .int .u64 (z3h s (l.take k):Nat)/\iv= .int .i64 k/\k<=N/\Hid (Loc w [(w.heap.size,.cells #[.slice a n c,.int .i64 (N:Nat)] 49 (0,0))] wr)) (fun _ iv _=>match iv with | .int _ x=>N - x.toNat|_=>0)
 case atStart=>exact⟨0,rfl,rfl,uA _,U⟩
 case round=>
  obtain⟨k,rfl,rfl,hk,hL⟩:=hrel;clear U;obtain⟨S,hS⟩:=zN (z3h s (l.take k));have a9:S<18446744073709551616:=by rw[hS];exact gQ (y2F _ _ hs) wG
  rw[<-hS];have HS:=z7 hS;clear hS;obtain⟨c0,c1,cf⟩:=z0m (hL.o.get 0 rfl);by_cases aM:k<N
  .have a1:k<l.length:=(by have:=HN.o;omega);obtain⟨g,aU,aA,cz,hg⟩:=(H.o.low hL.o.low).cell (j:=k/8) (by have:=H.o.bits.len;have:=A.o;omega);obtain⟨z,hz⟩:=zN ((b.getD (k/8) 0).toNat);have aE:z<256:=(by rw[hz];exact(b.getD (k/8) 0).toNat_lt);rw[<-hz]at cz;obtain⟨q,hq⟩:=zN (k/8);obtain⟨m,hm⟩:=zN (7 - k%8);obtain⟨kr,a7⟩:=zN (k%8);rw[<-hq]at cz;have aG:(k:Int).tdiv 8=(q:Int):=(by rw[hq];exact qN k 8);have aH:(k:Int)/8=(q:Int):=wF;have aJ:(k:Int).tmod 8=(kr:Int):=(by rw[a7];exact eh k 8);have aI:(k:Int)%8=(kr:Int):=wF;have aT:IntKind.i64.wrap (7 - (kr:Int))=(m:Int):=(by rw[z0l wF wF];omega);have aN:m<=8:=wF;obtain⟨v,hv⟩:=zN (z/2^m);have aS:(z:Int)/2^m=(v:Int):=(by rw[hv];simp);have aB:v<256:=(by rw[hv];exact pS (dd _ _) aE);obtain⟨t,ht⟩:=zN (v%2);have aF:bits .and .u8 (v:Int) 1=(t:Int):=by
    have:=rq v 1 aB wG;rw[qQ]at this;rw[ht];exact this
   have I:t=if l.getD k false then 1 else 0:=by rw[ht,hv,hz,hm];exact q7a H.o.bits a1
   obtain⟨x,hx⟩:=zN (l.getD k false);have L:=y9e (s:=s) a1;rw[<-hx]at I L;rw[<-HS.o]at L;have a0:=z7 L;have aR:q<n:=(by have:=H.o.bits.len;have:=A.o;omega);have aC:IntKind.i64.wrap ((k:Int)+1)=((k+1:Nat):Int):=z0l wF wF;obtain⟨k',a5⟩:=zN (k+1);rw[<-a5]at aC a0;have R:k'<=N/\k<k':=wF;have O:=z7 (q6J S x a9);subst aA;clear hz hq hm a7 hv ht hx L a5 a1;cases x with
   | true=>
    simp only[de]at I;subst I;go_wp2_with fail;refine(O.o _).mono ?_;rintro e w3 ⟨rfl,J⟩;have Y:=z7 (hL.o.call J);clear J;go_wp2;exact⟨⟨k',by rw[a0.o],rfl,R.1,Y⟩,by show N - (k':Int).toNat<N - (k:Int).toNat;omega⟩
   | false=>
    simp only[po,ei]at I;subst I;go_wp2_with fail;refine(O.o _).mono ?_;rintro e w3 ⟨rfl,J⟩;have Y:=z7 (hL.o.call J);clear J;go_wp2;exact⟨⟨k',by rw[a0.o],rfl,R.1,Y⟩,by show N - (k':Int).toNat<N - (k:Int).toNat;omega⟩
  have a6:k=N:=wF;go_wp2;go_ret2;refine⟨?_,hL.o.low⟩;rw[HS.o,a6,HN.o,ui];rfl
theorem q8g(a:Option Addr)(n c:Nat)(l:List Bool)(b:List UInt8)(w:World)(h:z0r w a n c l b)(U:l.length<=549755813888):
  Calls prog 67 #[.agg #[.slice a n c,.int .i64 l.length]] w fun e w'=>e= .returned (.tuple #[.int .u64 (z3h 0 l:Nat),.int .u16 0])/\Below w.heap.size w w':=by
 obtain⟨N,O⟩:=zN l.length;have L:=z7 (fun w' (Y:z0r w' a n c l b)=>q5k 0 a n c l b wG w' Y U);rw[<-O]at L ⊢;have H:=z7 h;have A:=z7 ((Loc.start w).new (.cells #[.slice a n c,.int .i64 (N:Nat)] 49));obtain⟨S,R⟩:=zN (z3h 0 l);rw[<-R]at L ⊢;clear h U O R;go_enter func67,ntmps67;go_wp2_with fail;refine(L.o _ (H.o.low A.o.low)).mono ?_;rintro e w2 ⟨rfl,I⟩;have J:=z7 (A.o.call I);clear I;go_wp2;go_ret2;exact⟨rfl,J.o.low⟩

/- The walks of send's between and. -/
import Derived.Test.YtabnnclcpkdkeaaGreatDoorZH
namespace Go.Proofs.YtabnnclcpkdkeaaGreatDoor
open Go.Proofs.Tryz
set_option linter.all false
set_option maxRecDepth 100000
set_option maxHeartbeats 0
section
open Go.RowKit
theorem y8c(n I A:Int)(w:World):
  Calls prog 54 #[.int .i64 n,.int .i64 I,.int .i64 A] w fun e w'=>e= .returned (.bool (decide (I<=n)&&decide (n<=A)))/\w'=w:=by
 cases h1:decide (I<=n)with
 | false=>
  go_enter func54,ntmps54;go_wp2;go_ret;exact⟨rfl,rfl⟩
 | true=>
  cases h2:decide (n<=A)with
  | false=>
   go_enter func54,ntmps54;go_wp2;go_ret;exact⟨rfl,rfl⟩
  | true=>
   go_enter func54,ntmps54;go_wp2;go_ret;exact⟨rfl,rfl⟩
structure y4K (s b c wi t d:Int):Prop where
 s:1<=s/\s<=64
 b:1<=b/\b<=1073741824
 c:1<=c/\c<=24
 w:1<=wi/\wi<=1048576
 t:1<=t/\t<=1000
 d:0<=d/\d<=1048576
theorem y0D{n I A:Int}(h:I<=n/\n<=A)(w:World):Calls prog 54 #[.int .i64 n,.int .i64 I,.int .i64 A] w fun e w'=>e= .returned (.bool true)/\w'=w:=by
 refine(y8c n I A w).mono ?_;rintro e w' ⟨rfl,rfl⟩;rw[wQ h.1,wQ h.2];exact⟨rfl,rfl⟩
theorem y6p(s b c I t d:Int)(h:y4K s b c I t d)(w:World):
  Calls prog 23 #[.agg #[.int .i64 s,.int .i64 b,.int .i64 c,.int .i64 I,.int .i64 t,.int .i64 d]] w fun e w'=>e= .returned (.bool true)/\Below w.heap.size w w':=by
 have J:=z7 (q5 w (.cells #[.int .i64 s,.int .i64 b,.int .i64 c,.int .i64 I,.int .i64 t,.int .i64 d] 32));have L:=z7 (y0D h.s);have N:=z7 (y0D h.b);have O:=z7 (y0D h.c);have R:=z7 (y0D h.w);have U:=z7 (y0D h.t);have Y:=z7 (y0D h.d);clear h;go_enter func23,ntmps23;go_wp2_with fail;refine(L.o _).mono ?_;rintro e A ⟨rfl,rfl⟩;go_wp2_with fail;refine(N.o _).mono ?_;rintro e A ⟨rfl,rfl⟩;go_wp2_with fail;refine(O.o _).mono ?_;rintro e A ⟨rfl,rfl⟩;go_wp2_with fail;refine(R.o _).mono ?_;rintro e A ⟨rfl,rfl⟩;go_wp2_with fail;refine(U.o _).mono ?_;rintro e A ⟨rfl,rfl⟩;go_wp2_with fail;refine(Y.o _).mono ?_;rintro e A ⟨rfl,rfl⟩;go_wp2;go_ret;exact⟨rfl,J.o⟩
def WD(w5:World)(b8:Bool)(k:Int):World:=if b8 then(w5.alloc (.cells #[.int .i64 k] 3)).alloc (.cells (z0b z1g (.slice none 0 0)) 51)else w5.alloc (.cells #[.int .i64 k] 3)
theorem WD.below(A:World)(I:Bool)(k:Int):Below A.heap.size A (WD A I k):=by
 cases I
 .exact q5 _ _
 exact(q5 _ _).alloc wH _
theorem WD.q(I:World)(A:Bool)(k:Int):(WD I A k).heap[I.heap.size]? =some (.cells #[.int .i64 k] 3 (0,0)):=by
 cases A
 .exact j8 _ _
 exact(heap_alloc_old _ _ wH).trans (j8 _ _)
theorem WD.set(A:World)(I:Bool)(k m:Int):(WD A I k).setCell ⟨A.heap.size,0,none⟩ (.int .i64 m)=WD A I m:=by
 have h:∀I,((WD A I k).setCell ⟨A.heap.size,0,none⟩ (.int .i64 m)).heap=(WD A I m).heap:=by
  intro I;apply rY;intro j;by_cases e:j=A.heap.size
  .subst e;rw[z0a (WD.q A I k),WD.q];rfl
  rw[q7 e];cases I
  .simp only[WD,po,ei];show(A.heap.push _)[j]? =(A.heap.push _)[j]?;rw[pW,pW,wR e,wR e]
  simp only[WD,de];show((A.heap.push _).push _)[j]? =((A.heap.push _).push _)[j]?;rw[pW,pW,pW,pW,wR e,wR e];simp
 have J:=h I;cases I;all_goals
  simp only[WD,po,ei,de]at J ⊢;exact uS (fun L=>({A with heap:=L}:World)) J
theorem z2N.set{w:World}{r o:Nat}{g g':Fr}{x x' v:Value}(h:z2N w r g x)(A:z0b g' x'=(z0b g x).setIfInBounds o v):z2N (w.setCell ⟨r,o,none⟩ v) r g' x':=by
 unfold z2N at h ⊢;rw[z0a h,<-A]
structure RS (w5:World) (k:Int) (g:Fr) (x:Value) (W:World):Prop where
 q:W.heap[w5.heap.size]? =some (.cells #[.int .i64 k] 3 (0,0))
 f:z2N W (w5.heap.size+1) g x
 low:Below w5.heap.size w5 W
theorem RS.qc{A W:World}{k:Int}{g:Fr}{x:Value}(h:RS A k g x W):W.cell? ⟨A.heap.size,0,none⟩=some (.int .i64 k)/\W.frozen? ⟨A.heap.size,0,none⟩=false/\∀o,W.frozen? ⟨A.heap.size+1,o,none⟩=false:=
 ⟨by simp[World.cell?,h.q],by simp[World.frozen?,h.q],fun o=>by simp[World.frozen?,show W.heap[A.heap.size+1]? =_ from h.f]⟩
theorem RS.setQ{A W:World}{k m:Int}{g:Fr}{x:Value}(h:RS A k g x W):RS A m g x (W.setCell ⟨A.heap.size,0,none⟩ (.int .i64 m)):=
 ⟨by rw[z0a h.q];rfl,(q7 wF).trans h.f,h.low.setCell wE _⟩
theorem RS.setF{A W:World}{k:Int}{g g':Fr}{x x' v:Value}{o:Nat}(h:RS A k g x W)(I:z0b g' x'=(z0b g x).setIfInBounds o v):RS A k g' x' (W.setCell ⟨A.heap.size+1,o,none⟩ v):=
 ⟨(q7 wF).trans h.q,h.f.set I,h.low.setCell wH _⟩
theorem RS.store{A W:World}{k:Int}{g:Fr}{x:Value}(h:RS A k g x W)(g':Fr)(x':Value):RS A k g' x' (W.setCells (A.heap.size+1) 0 (z0b g' x').toList):=
 ⟨(z1n wF _ _ _).trans h.q,h.f.store g' x',z4v h.low h.low.size wF _⟩
theorem RS.to{I W A:World}{k:Int}{g:Fr}{x:Value}(h:RS I k g x W)(hb:Below W.heap.size W A):RS I k g x A:=
 ⟨(hb.block _ (wI.1 h.q).1).trans h.q,h.f.low hb,h.low.trans (hb.mono h.low.size)⟩
theorem RdB.drop'{w:World}{I:Addr}{c:Nat}{l:List UInt8}(h:RdB w (.slice (some I) l.length c) l)(k:Nat)(R:k<=l.length)(c':Nat):RdB w (.slice (some (I.add k)) (l.length - k) c') (l.drop k):=by
 obtain⟨O,⟨A,U⟩|⟨J,c2,A,L⟩⟩:=h
 .cases A
 simp only[wO,wK,oP]at A;obtain⟨rfl,rfl⟩:=A;refine⟨by simp[z0c],.inr ⟨I.add k,c',wH,fun j u N=>?_⟩⟩;rw[addr_add_add];refine L (k+j) u ?_;simpa[z0c]using N
theorem RS.next{A W:World}{p c k:Nat}{a:Option Addr}{b:List UInt8}{g:Fr}{x:Value}(h:RS A k g x W)(U:p<A.heap.size)(p0:A.cell? ⟨p,0,none⟩=some (.slice a b.length c))(Y:RdB A (.slice a b.length c) b)
  (R:b.length<=4096) (N:b.length<=c) (I:c<=9223372036854775807) (O:k+4<=b.length):
  Calls prog 77 #[.pointer (some ⟨A.heap.size,0,none⟩),.pointer (some ⟨p,0,none⟩)] W fun e w'=>e= .returned (.int .u32 (num b k:Nat))/\RS A ((k:Int)+4) g x w':=by
 obtain⟨J,L,_⟩:=h.qc;refine(q0n A.heap.size p wF a c k b W (Y.low (h.setQ (m:=(k:Int)+4)).low) R N I O J L ((h.low.cell (p:=⟨p,0,none⟩) U).trans p0)).mono ?_;rintro e w' ⟨rfl,rfl⟩;exact⟨rfl,h.setQ⟩
theorem y4Z(a:Option Addr)(c:Nat)(b:List UInt8)(w:World)(hx:RdB w (.slice a b.length c) b)(h1:44<=b.length)(h2:b.length<=4096)(hc:b.length<=c)(cC:c<=9223372036854775807)(hs:unB (b.drop (b.length - 4))=z3e (b.take (b.length - 4))):
  Calls prog 37 #[.slice a b.length c] w (Told w (goF b) (goE b)):=by
 have HX:=z7 hx;have HS:=z7 hs;clear hx hs;go_enter func37,ntmps37;go_wp2;go_quiet (fail)
 have b0:RdB (((w.alloc (.cells #[.slice a b.length c] 47)).alloc (.cells #[.int .u8 0,.int .u32 0,.int .u32 0,.int .u32 0,.int .u32 0,.int .u32 0,.int .u32 0,.bool false,.int .u64 0,.slice none 0 0,.int .i64 0] 51)).drewN nq) (.slice a b.length c) b:=
  HX.o.low (z0j ((q5 _ _).alloc wH _))
 have aD:z2N (((w.alloc (.cells #[.slice a b.length c] 47)).alloc (.cells #[.int .u8 0,.int .u32 0,.int .u32 0,.int .u32 0,.int .u32 0,.int .u32 0,.int .u32 0,.bool false,.int .u64 0,.slice none 0 0,.int .i64 0] 51)).drewN nq) (w.heap.size+1) z1g (.slice none 0 0):=by
  exact z3C (w:=w.alloc (.cells #[.slice a b.length c] 47)) _ wH
 have bI:(((w.alloc (.cells #[.slice a b.length c] 47)).alloc (.cells #[.int .u8 0,.int .u32 0,.int .u32 0,.int .u32 0,.int .u32 0,.int .u32 0,.int .u32 0,.bool false,.int .u64 0,.slice none 0 0,.int .i64 0] 51)).drewN nq).heap[w.heap.size]? =some (.cells #[.slice a b.length c] 47 (0,0)):=
  (heap_alloc_old _ _ wH).trans (j8 w _)
 have bE:Below w.heap.size w (((w.alloc (.cells #[.slice a b.length c] 47)).alloc (.cells #[.int .u8 0,.int .u32 0,.int .u32 0,.int .u32 0,.int .u32 0,.int .u32 0,.int .u32 0,.bool false,.int .u64 0,.slice none 0 0,.int .i64 0] 51)).drewN nq):=
  z0j ((q5 _ _).alloc wH _)
 generalize ((w.alloc (.cells #[.slice a b.length c] 47)).alloc (.cells #[.int .u8 0,.int .u32 0,.int .u32 0,.int .u32 0,.int .u32 0,.int .u32 0,.int .u32 0,.bool false,.int .u64 0,.slice none 0 0,.int .i64 0] 51)).drewN nq=W1 at b0 aD bI bE
 have hd:=b0.drop (b.length - 4) wF (c - (b.length - 4));have e:b.length - (b.length - 4)=(b.drop (b.length - 4)).length:=wH
 rw[e]at hd;have HD:=z7 hd;have HE:=z7 e;have b9:=z7 b0;have aN:=z7 aD;have bS:=z7 bI;have b2:=z7 bE;have dM:=aD.lt;clear hd e b0 aD bI bE;go_wp2_with fail;rw[HE.o];refine(y8W _ _ (b.drop (b.length - 4)) _ HD.o (by simp;omega) (by simp;omega) wF).mono ?_;rintro e w' ⟨rfl,rfl⟩;rw[show(b.drop (b.length - 4)).take 4=b.drop (b.length - 4)from wt (by simp;omega)];go_wp2_with fail;refine(z9v W1).mono ?_;rintro e w2 ⟨rfl,hT,bD,cL⟩;have bG:=q5h (wN _ W1) hT bD;obtain⟨tb,cT⟩:=zN W1.heap.size;rw[<-cT]at bG cL ⊢;have HC:=z7 bG;clear hT bD bG HE HD cT;have cX:=z7 (b9.o.take (b.length - 4) wF wF);have cJ:Hid ((b.take (b.length - 4)).length=b.length - 4):=z7 wH;go_wp2_with fail;refine(z7W tb false _ (b.take (b.length - 4)) _ _ (HC.o.alloc _).tab (z3C _ wH) wF (fun w' hc=>(HC.o.alloc _).rd hc cX.o) (by have:=cJ.o;omega)).mono ?_;rintro e I ⟨rfl,bY,cG⟩;have aT:=((HC.o.alloc _).sum bY cG).low;have aM:=z7 (b9.o.low aT);have b7:=z7 (aN.o.low aT);have dA:Hid (I.heap[w.heap.size]? =some (.cells #[.slice a b.length c] 47 (0,0))):=z7 ((aT.block _ wF).trans bS.o);have b3:Hid (Below w.heap.size w I):=z7 (b2.o.trans (aT.mono b2.o.size));have dU:=b7.o.lt;clear bY cG aT HC b9 aN bS b2 cX cJ cL dM;obtain⟨c0,c1,c2,c3,c4,O,Y,c7,c8,c9,J⟩:=b7.o.cells
 have ht:((unB (b.drop (b.length - 4)):Int) !=(z3e (b.take (b.length - 4)):Int))=false:=by rw[km];have:=HS.o;omega
 clear c0 c1 c2 c3 c4 O Y c7 c8 c9 J;have p0:I.cell? ⟨w.heap.size,0,none⟩=some (.slice a b.length c):=by simp[World.cell?,dA.o]
 obtain⟨bb,a4,c',he,cE,cA⟩:=aM.o.at (k:=2) wF;simp only[wO,oP]at he;obtain⟨rfl,rfl⟩:=he;have dS:(2:Int)<b.length:=wF
 have aZ:w.heap.size<I.heap.size:=wF
 have pA:∀b8 k,(WD I b8 k).cell? ⟨w.heap.size,0,none⟩=some (.slice (some ⟨bb,a4,none⟩) b.length c):=fun b8 k=>((WD.below I b8 k).cell (p:=⟨w.heap.size,0,none⟩) aZ).trans p0;have bA:∀b8 k,(WD I b8 k).cell? ⟨bb,a4+2,none⟩=some (.int .u8 (b[2].toNat:Nat)):=fun b8 k=>((WD.below I b8 k).cell (p:=⟨bb,a4+2,none⟩) cA).trans cE;have XA:Hid (∀b8 k,RdB (WD I b8 k) (.slice (some ⟨bb,a4,none⟩) b.length c) b):=z7 fun b8 k=>aM.o.low (WD.below I b8 k);have NX:Hid (∀(b8:Bool) (k:Nat),k+4<=b.length->Calls prog 77 #[.pointer (some ⟨I.heap.size,0,none⟩),.pointer (some ⟨w.heap.size,0,none⟩)] (WD I b8 k).drew fun e w'=>e= .returned (.int .u32 (num b k:Nat))/\w'=(WD I b8 ((k:Int)+4)).drew):=z7 fun b8 k hk=>by
  have hq:=WD.q I b8 k;refine(q0n I.heap.size w.heap.size wF (some ⟨bb,a4,none⟩) c k b (WD I b8 k).drew ?_ h2 hc cC hk (by rw[qp];simp[World.cell?,hq]) (by rw[World.frozen?_drew];simp[World.frozen?,hq]) (by rw[qp];exact pA b8 k)).mono ?_
  .have h:=XA.o b8 ((k:Int)+4);rw[<-WD.set I b8 k]at h;exact h
  rintro e w' ⟨rfl,rfl⟩;exact⟨rfl,uS World.drew (WD.set I b8 k _)⟩
 go_wp2;refine z3z 9 96 (by kernel_rfl) (by kernel_rfl) rfl (by kernel_rfl)
  (fun D _ w'=>w'=(WD I (D 8) (if D 6 then 11 else if D 4 then 7 else 3)).drew) (fun _=>undef) rfl ?_
 simp only[z0C];iterate 4 (refine q8.rd ?_ (fun D v w' L A=>?_) ?_;rotate_left;(subst A;go_simp;try rfl);go_simp)
 refine q8.ca (.int .u32 (num b 3:Nat)) (fun D v w' L A=>?_) ?_
 .have d4:D 4=false:=L.self;have d6:D 6=false:=L.post 6 _ rfl (by kernel_rfl);simp only[d4,d6,po,ei]at A;subst A;go_simp;go_at_call 77;refine(NX.o (D 8) 3 wF).mono ?_;rintro e aF ⟨rfl,rfl⟩;have m8:mark D 4 8=D 8:=rfl;have m6:mark D 4 6=false:=d6;have m4:mark D 4 4=true:=rfl;go_simp
 (refine q8.rd ?_ (fun D v w' L A=>?_) ?_;rotate_left;(subst A;go_simp;try rfl);go_simp)
 refine q8.ca (.int .u32 (num b 7:Nat)) (fun D v w' L A=>?_) ?_
 .have d6:D 6=false:=L.self;have d4:D 4=true:=L.pre 4 (by kernel_rfl);simp only[d4,d6,po,ei,de]at A;subst A;go_simp;go_at_call 77;refine(NX.o (D 8) 7 wF).mono ?_;rintro e aF ⟨rfl,rfl⟩;have m8:mark D 6 8=D 8:=rfl;have m6:mark D 6 6=true:=rfl;go_simp
 (refine q8.rd ?_ (fun D v w' L A=>?_) ?_;rotate_left;(subst A;go_simp;try rfl);go_simp)
 refine q8.ca (.pointer (some ⟨I.heap.size+1,0,none⟩)) (fun D v w' L A=>?_) ?_
 .have d8:D 8=false:=L.self;have m8:mark D 8 8=true:=rfl;have m6:mark D 8 6=D 6:=rfl;have m4:mark D 8 4=D 4:=rfl;rw[d8]at A;subst A;unfold WD;go_simp;rfl
 refine q8.fin (fun v w' A=>?_);have dJ:w'=(WD I true 11).drew:=A;subst dJ;have aY:RS I 11 z1g (.slice none 0 0) (WD I true 11).drew:=⟨WD.q I true 11,z3C (w:=I.alloc (.cells #[.int .i64 11] 3)) _ wH,⟨(WD.below I true 11).os,(WD.below I true 11).tape,(WD.below I true 11).output,(WD.below I true 11).size,(WD.below I true 11).block⟩⟩;obtain⟨c0,c1,c2,c3,c4,O,Y,c7,c8,c9,J⟩:=aY.f.cells;obtain⟨cq,fq,ff⟩:=aY.qc;have bT:=z7 aY;clear A aY pA bA XA NX
 generalize (WD I true 11).drew=W8 at*
 unfold z1g at c0 c1 c2 c3 c4 O Y c7 c8 J;simp only at c0 c1 c2 c3 c4 O Y c7 c8 J;have aA:=fun k (W:World) (g:Fr) (x:Value) (h:RS I (k:Nat) g x W) (hk:k+4<=b.length)=>h.next aZ p0 aM.o h2 hc cC hk
 have NX:=z7 aA;clear aA;have bW:b.length>27:=wF
 obtain⟨dW,dV,e0,he,cF,_⟩:=aM.o.at (k:=27) bW;simp only[wO,wK,oh,dc,oP]at he;obtain⟨⟨rfl,rfl⟩,rfl⟩:=he
 generalize hk0:b[2]=y2 at*
 generalize hk27:b[27]=y27 at*
 have cD:=z7 hk0;have bN:=z7 hk27;clear hk0 hk27;obtain⟨g1,cI⟩:∃g1:Fr,g1={z1g with kind:=y2.toNat,epoch:=num b 3,series:=num b 7}:=⟨_,rfl⟩;have bC:=bT.o.store g1 (.slice none 0 0);rw[cI]at bC;have aN:=z7 bC;clear bC cI;go_wp2_with fail;refine(NX.o 11 _ _ _ (by exact aN.o) wF).mono ?_;rintro e W9 ⟨rfl,N⟩;have HR:=z7 N;clear N aN bT cq fq ff c0 c1 c2 c3 c4 O Y c7 c8 c9 J;go_wp2_with fail;refine(NX.o 15 _ _ _ (by exact HR.o) wF).mono ?_;rintro e dX ⟨rfl,N⟩;have bU:=z7 N;clear N HR;go_wp2_with fail;refine(NX.o 19 _ _ _ (by exact bU.o) wF).mono ?_;rintro e dY ⟨rfl,N⟩;obtain⟨c0,c1,c2,c3,c4,O,Y,c7,c8,c9,J⟩:=N.f.cells;obtain⟨cq,fq,ff⟩:=N.qc;have HR:=z7 N;clear N bU;go_wp2_with fail;refine(NX.o 23 _ {z1g with kind:=y2.toNat,epoch:=num b 3,series:=num b 7,chunk:=num b 11,bits:=num b 15,cnt:=num b 19} (.slice none 0 0) (by exact((HR.o.setF (o:=3) (g':={z1g with kind:=y2.toNat,epoch:=num b 3,series:=num b 7,chunk:=num b 11}) (by rfl)).setF (o:=4) (g':={z1g with kind:=y2.toNat,epoch:=num b 3,series:=num b 7,chunk:=num b 11,bits:=num b 15}) (by rfl)).setF (o:=5) (by rfl)) wF).mono ?_;rintro e dZ ⟨rfl,N⟩;clear c0 c1 c2 c3 c4 O Y c7 c8 c9 J cq fq ff HR;obtain⟨c0,c1,c2,c3,c4,O,Y,c7,c8,c9,J⟩:=N.f.cells;obtain⟨cq,fq,ff⟩:=N.qc;have dG:=(N.low.cell (p:=⟨bb,a4+27,none⟩) cA).trans cF;have dR:=(N.low.cell (p:=⟨w.heap.size,0,none⟩) aZ).trans p0
 have dO:∀o o',(⟨bb,o,none⟩:Addr)≠⟨I.heap.size+1,o',none⟩:=fun o o' h=>by have:=uS Addr.block h;simp at this;omega
 have HR:=z7 N;clear N dO;go_wp2_with fail;refine(NX.o 28 _ {z1g with kind:=y2.toNat,epoch:=num b 3,series:=num b 7,chunk:=num b 11,bits:=num b 15,cnt:=num b 19,count:=num b 23,closed:=((y27.toNat:Int)==1)} (.slice none 0 0) (by exact((HR.o.setF (o:=6) (g':={z1g with kind:=y2.toNat,epoch:=num b 3,series:=num b 7,chunk:=num b 11,bits:=num b 15,cnt:=num b 19,count:=num b 23}) (by rfl)).setF (o:=7) (by rfl)).setQ) wF).mono ?_;rintro e dD ⟨rfl,N⟩;clear c0 c1 c2 c3 c4 O Y c7 c8 c9 J cq fq ff HR dG dR;have HR:=z7 N;clear N;go_wp2_with fail;refine(NX.o 32 _ _ _ (by exact HR.o) wF).mono ?_;rintro e dF ⟨rfl,N⟩;obtain⟨c0,c1,c2,c3,c4,O,Y,c7,c8,c9,J⟩:=N.f.cells;obtain⟨cq,fq,ff⟩:=N.qc;have e5:num b 28<4294967296:=y2j (by simp;omega);have e6:num b 32<4294967296:=y2j (by simp;omega);have e7:num b 36<4294967296:=y2j (by simp;omega);have cS:bits .or .u64 ((num b 28:Int)*4294967296) (num b 32:Int)=((num b 28*4294967296+num b 32:Nat):Int):=by
  have:=rp (num b 28*4294967296) (num b 32) wF wF;rw[nat_join 32 _ _ wF wF]at this;simpa using this
 have bR:=z7 cS;clear HR cS;have HR:=z7 N;clear N;go_wp2;rw[bR.o];have aH:=HR.o.setF (o:=8) (v:= .int .u64 ((num b 28*4294967296+num b 32:Nat):Int)) (g':={z1g with kind:=y2.toNat,epoch:=num b 3,series:=num b 7,chunk:=num b 11,bits:=num b 15,cnt:=num b 19,count:=num b 23,closed:=((y27.toNat:Int)==1),sum:=num b 28*4294967296+num b 32}) (x':= .slice none 0 0) (by rfl);obtain⟨g4,bH⟩:∃g4:Fr,g4={z1g with kind:=y2.toNat,epoch:=num b 3,series:=num b 7,chunk:=num b 11,bits:=num b 15,cnt:=num b 19,count:=num b 23,closed:=((y27.toNat:Int)==1),sum:=num b 28*4294967296+num b 32}:=⟨_,rfl⟩;rw[<-bH]at aH;have bM:=z7 bH;clear bH c0 c1 c2 c3 c4 O Y c7 c8 c9 J cq fq ff HR
 generalize dF.setCell ⟨I.heap.size+1,8,none⟩ (.int .u64 ((num b 28*4294967296+num b 32:Nat):Int))=W15 at aH ⊢
 have aG:=z7 aH;clear aH;obtain⟨U,bX⟩:=zN (b.length - 4);have cW:=z7 bX;have l1:U<=c:=wF
 have l2:40<=U:=wF
 have l3:U<=4092:=wF
 have l4:U<b.length:=wF
 have aW:IntKind.i64.wrap ((b.length:Int) - 4)=(U:Int):=by rw[uL];omega
 have aI:(c=40)=False:=by simp;omega
 have cO:max (U:Int) 0=(U:Int):=wF
 have q2:(U:Int)<=(c:Int):=wF
 have q3:(40:Int)<=(U:Int):=wF
 obtain⟨m,hm⟩:=zN (U - 40);have cN:((b.take U).drop 40).length=m:=by simp;omega
 have HM:=z7 hm;have a6:=z7 cN;have e4:m<=4096:=wF
 have cV:=z7 aW;have bF:=z7 aI;have dT:=z7 cO;clear bX aW aI cO;have PL:Hid (∀W,Below I.heap.size I W->W.cell? ⟨w.heap.size,0,none⟩=some (.slice (some ⟨bb,a4,none⟩) b.length c)):=z7 fun W hW=>(hW.cell (p:=⟨w.heap.size,0,none⟩) aZ).trans p0;have bJ:Hid (∀W,Below I.heap.size I W->∀cc,RdB W (.slice (some ⟨bb,a4+40,none⟩) (U - 40) cc) ((b.take U).drop 40)):=z7 fun W hW cc=>by
  have h0:=(aM.o.low hW).take U wF wF;obtain⟨bt,cB⟩:=zN (b.take U);have e1:bt.length=U:=by rw[cB];simp;omega
  rw[<-cB]at h0 ⊢;rw[<-e1]at h0 ⊢;have h3:=h0.drop' 40 wF cc;simpa[Addr.add]using h3
 clear hm cN;have cU:IntKind.i64.wrap (num b 36:Int)=(num b 36:Int):=by rw[uL];omega
 have aW:=cV.o;have aI:=bF.o;refine z3z 11 96 (by kernel_rfl) (by kernel_rfl) rfl (by kernel_rfl)
  (fun D v w'=>RS I (if D 1 then 40 else 36) g4 (.slice none 0 0) w'/\(D 8=true->∃a' c',v 8= .slice a' m c'/\RdB w' (.slice a' m c') ((b.take U).drop 40)/\∀k,(Value.slice a' m c').ownBlock=some k->I.heap.size+2<=k)/\(D 9=true->D 8=true/\v 9= .agg #[v 8,.int .i64 (num b 36:Nat)])) (fun _=>undef) ⟨⟨aG.o.q,aG.o.f,aG.o.low.drew⟩,wH,wH⟩ ?_
 simp only[z0C];(refine q8.rd ?_ (fun D v w' L A=>?_) ?_;rotate_left;(clear A;go_simp;try rfl);go_simp)
 refine q8.ca (.int .u32 (num b 36:Nat)) (fun D v w' L A=>?_) ?_
 .have d1:D 1=false:=L.self;have d8:D 8=false:=L.post 8 _ rfl (by kernel_rfl);have d9:D 9=false:=by
   cases h:D 9 with
   | false=>rfl
   | true=>have:=(A.2.2 h).1;rw[d8]at this;cases this
  simp only[d1,po,ei]at A;have aA:=z7 A.1;clear A;go_simp;go_at_call 77;refine(NX.o 36 _ _ _ (by exact aA.o) wF).mono ?_;rintro e aF ⟨rfl,N⟩;have m8:mark D 1 8=false:=d8;have m9:mark D 1 9=false:=d9;refine⟨rfl,N,fun h=>?_,fun h=>?_⟩
  .rw[m8]at h;cases h
  rw[m9]at h;cases h
 go_simp;iterate 6 (refine q8.rd ?_ (fun D v w' L A=>?_) ?_;rotate_left;(have hp:=PL.o _ A.1.low;clear A;go_simp;try rfl);go_simp)
 refine q8.re (fun D v w' L A=>?_) ?_
 .have d9:D 9=false:=L.post 9 _ rfl (by kernel_rfl);have aA:=z7 A.1;have hcut:=bJ.o _ A.1.low (c - 40);have e1:U - 40=((b.take U).drop 40).length:=by rw[a6.o,HM.o]
  rw[e1]at hcut;have bL:=z7 hcut;have cZ:=z7 e1;clear A hcut e1;go_simp;go_at_call 78;rw[cZ.o];refine(y5G _ _ _ _ bL.o (by rw[a6.o];omega)).mono ?_;rintro e aF ⟨a',c',rfl,ho,hb⟩;have R:=z0d ho;rw[a6.o]at R ⊢;have aB:∀k,(Value.slice a' m c').ownBlock=some k->I.heap.size+2<=k:=fun k hk=>wV aA.o.f.lt (by rw[a6.o]at ho;exact(ho.lt k hk).1);refine⟨?_,fun _=>⟨a',c',rfl,?_,aB⟩,fun h=>?_⟩
  .exact aA.o.to hb
  .show Rd _ _ 1 _ _;rw[a6.o];exact R
  have m9:mark D 8 9=false:=d9;rw[m9]at h;cases h
 go_simp;refine q8.re (fun D v w' L A=>?_) ?_
 .have d8:D 8=true:=L.pre 8 (by kernel_rfl);obtain⟨a0,a2,a9⟩:=A;obtain⟨a',c',h8,R,aB⟩:=a2 d8;rw[h8];have H1:=z7 a0;have a7:=z7 R;have H8:=z7 h8;have aL:=z7 aB;clear a0 a2 a9 R h8 aB;go_simp;exact⟨H1.o,fun _=>⟨a',c',H8.o,a7.o,aL.o⟩,fun _=>⟨d8,uS (fun z=>Value.agg #[z,.int .i64 (num b 36:Nat)]) H8.o.symm⟩⟩
 go_simp;(refine q8.rd ?_ (fun D v w' L A=>?_) ?_;rotate_left;(clear A;go_simp;try rfl);go_simp)
 refine q8.fin (fun v w' A=>?_);obtain⟨a0,a2,a9⟩:=A;obtain⟨a',c',h8,R,aB⟩:=a2 rfl;have h9:=(a9 rfl).2;rw[h8]at h9;rw[h8,h9];have N:RS I 40 g4 (.slice none 0 0) w':=a0;obtain⟨c0,c1,c2,c3,c4,O,Y,c7,c8,c9,J⟩:=N.f.cells;obtain⟨cq,fq,ff⟩:=N.qc;have HR:=z7 N;have a7:=z7 R;have aL:=z7 aB;clear a0 a2 a9 R h8 h9 N aW aI cU aB;go_wp2;have aX:fieldsB b={g4 with b:=(b.take U).drop 40,n:=(num b 36:Nat)}:=by
  have e2:b.getD 2 0=y2:=by rw[<-cD.o];simp[List.getD,wL (show 2<b.length by omega)]
  have dH:b.getD 27 0=y27:=by rw[<-bN.o];simp[List.getD,wL (show 27<b.length by omega)]
  have dI:((y27.toNat:Int)==1)=(y27.toNat==1):=by rw[uc];simp;omega
  rw[bM.o,cW.o];unfold fieldsB;rw[e2,dH];simp only[z1g,dI]
 obtain⟨F,hF⟩:=zN (fieldsB b);rw[<-hF]at aX;have bB:F.b=(b.take U).drop 40:=by rw[aX]
 have cR:F.Ok:=by
  have hn:∀k,k+4<=b.length->num b k<4294967296:=fun k hk=>y2j (by simp;omega);rw[hF];exact⟨(b.getD 2 0).toNat_lt,hn 3 wF,hn 7 wF,hn 11 wF,hn 15 wF,hn 19 wF,hn 23 wF,by simp only[fieldsB];omega,by simp only[fieldsB];omega,by simp only[fieldsB];omega⟩
 have a3:=(HR.o.setF (o:=9) (v:= .slice a' m c') (g':={g4 with b:=(b.take U).drop 40}) (x':= .slice a' m c') (by rfl)).setF (o:=10) (v:= .int .i64 (num b 36:Nat)) (g':=F) (x':= .slice a' m c') (by rw[aX];rfl);have aC:RdB ((w'.setCell ⟨I.heap.size+1,9,none⟩ (.slice a' m c')).setCell ⟨I.heap.size+1,10,none⟩ (.int .i64 (num b 36:Nat))) (.slice a' m c') F.b:=by
  refine Rd.kept ?_ fun k hk _=>(q7 (by have:=aL.o k hk;omega)).trans (q7 (by have:=aL.o k hk;omega));have h0:=a7.o;rw[<-bB]at h0;exact h0
 have dL:F.b.length=m:=by rw[bB];exact a6.o
 subst dL
 generalize ((w'.setCell ⟨I.heap.size+1,9,none⟩ (.slice a' F.b.length c')).setCell ⟨I.heap.size+1,10,none⟩ (.int .i64 (num b 36:Nat)))=W16 at a3 aC ⊢
 clear c0 c1 c2 c3 c4 O Y c7 c8 c9 J cq fq ff HR a7 aX bB a6 HM bJ bM aG bR NX w';have aS:RS I 40 F (.slice a' F.b.length c') W16.drew:=⟨a3.q,a3.f,a3.low.drew⟩;have aJ:=aC.low (w':=W16.drew) (wD.drew);clear a3 aC;have b1:=z7 aS;have aO:=z7 aJ;have b6:=z7 cR;have b4:=z7 hF;clear aS aJ cR hF;have bZ:∀W,Below I.heap.size I W->z2N W (w.heap.size+1) z1g (.slice none 0 0)/\Below w.heap.size w W/\(∀o,W.frozen? ⟨w.heap.size+1,o,none⟩=false):=fun W hW=>by
  have h:=b7.o.low hW;exact⟨h,b3.o.trans (hW.mono b3.o.size),fun o=>by simp[World.frozen?,show W.heap[w.heap.size+1]? =_ from h]⟩
 have bV:=z7 bZ;clear bZ;by_cases hm:z2l F=true
 case neg=>
  have cM:z2l F=false:=by simpa using hm
  have bO:=z7 cM;clear hm cM;refine z3z 10 96 (by kernel_rfl) (by kernel_rfl) rfl (by kernel_rfl)
   (fun D v w'=>RS I 40 F (.slice a' F.b.length c') w'/\RdB w' (.slice a' F.b.length c') F.b) (fun _=>undef) ⟨b1.o,aO.o⟩ ?_
  simp only[z0C];refine q8.rd ?_ (fun D v w' L A=>?_) ?_;rotate_left;· (obtain⟨c0,c1,c2,c3,c4,O,Y,c7,c8,c9,J⟩:=A.1.f.cells;clear A;go_simp;try rfl)
  go_simp;refine q8.ca (.bool false) (fun D v w' L A=>?_) ?_
  .have aR:=z7 A.1;have a1:=z7 A.2;clear A;go_simp;go_at_call 79;refine(y4R F a' c' _ b6.o wF a1.o).mono ?_;rintro e aF ⟨rfl,hb⟩;rw[bO.o];exact⟨rfl,aR.o.to hb,a1.o.low hb⟩
  go_simp;iterate 2 (refine q8.rd ?_ (fun D v w' L A=>?_) ?_;rotate_left;(clear A;go_simp;try rfl);go_simp)
  iterate 5 (refine q8.sk (fun D v w h=>h) ?_;go_simp)
  (refine q8.rd ?_ (fun D v w' L A=>?_) ?_;rotate_left;(clear A;go_simp;try rfl);go_simp)
  refine q8.fin (fun v w' A=>?_);obtain⟨aE,aU,dN⟩:=bV.o w' A.1.low;obtain⟨c0,c1,c2,c3,c4,O,Y,c7,c8,c9,J⟩:=aE.cells;unfold z1g at c0 c1 c2 c3 c4 O Y c7 c8 J;simp only at c0 c1 c2 c3 c4 O Y c7 c8 J;have aV:=z7 aE;have a8:=z7 aU;clear A aE aU;have hg:goF b=z1g/\goE b=70:=by unfold goF goE y9b;rw[<-b4.o,bO.o];exact⟨rfl,rfl⟩
  have HG:=z7 hg;clear hg;go_wp2;refine wU (z6z _ (w.heap.size+1) 70 z1g (.slice none 0 0) _ wH wH (aV.o.store z1g (.slice none 0 0))) rfl ?_;show Told w (goF b) (goE b) _ _;rw[HG.o.1,HG.o.2];exact⟨none,0,rfl,RdB.nil _,z4v (w':=w') (r:=w.heap.size+1) (o:=0) a8.o (by have:=a8.o.size;omega) wF (z0b z1g (.slice none 0 0)).toList,fun k hk=>by cases hk⟩
 have b5:=z7 hm;clear hm;obtain⟨q,hq⟩:=zN (z0L F==b);have HQ:=z7 hq;clear hq;refine z3z 10 96 (by kernel_rfl) (by kernel_rfl) rfl (by kernel_rfl)
  (fun D v w'=>RS I 40 F (.slice a' F.b.length c') w'/\RdB w' (.slice a' F.b.length c') F.b/\(D 5=true->∃a5 O,v 5= .slice a5 (z0L F).length O/\RdB w' (.slice a5 (z0L F).length O) (z0L F))) (fun _=>undef) ⟨b1.o,aO.o,wH⟩ ?_
 simp only[z0C];refine q8.rd ?_ (fun D v w' L A=>?_) ?_;rotate_left;· (obtain⟨c0,c1,c2,c3,c4,O,Y,c7,c8,c9,J⟩:=A.1.f.cells;clear A;go_simp;try rfl)
 go_simp;refine q8.ca (.bool true) (fun D v w' L A=>?_) ?_
 .have aR:=z7 A.1;have a1:=z7 A.2.1;have dB:=z7 A.2.2;clear A;go_simp;go_at_call 79;refine(y4R F a' c' _ b6.o wF a1.o).mono ?_;rintro e aF ⟨rfl,hb⟩;rw[b5.o];refine⟨rfl,aR.o.to hb,a1.o.low hb,fun h=>?_⟩;obtain⟨a5,O,h5,h6⟩:=dB.o h;exact⟨a5,O,h5,h6.low hb⟩
 go_simp;iterate 2 (refine q8.rd ?_ (fun D v w' L A=>?_) ?_;rotate_left;(clear A;go_simp;try rfl);go_simp)
 refine q8.rd ?_ (fun D v w' L A=>?_) ?_;rotate_left;· (obtain⟨c0,c1,c2,c3,c4,O,Y,c7,c8,c9,J⟩:=A.1.f.cells;clear A;go_simp;try rfl)
 go_simp;refine q8.re (fun D v w' L A=>?_) ?_
 .have aR:=z7 A.1;have a1:=z7 A.2.1;clear A;go_simp;go_at_call 81;refine(y6L F a' c' _ b6.o wF a1.o).mono ?_;rintro e aF ⟨a5,O,rfl,ho,hb⟩;exact⟨aR.o.to hb,a1.o.low hb,fun _=>⟨a5,O,rfl,z0d ho⟩⟩
 go_simp;refine q8.rd ?_ (fun D v w' L A=>?_) ?_;rotate_left;· (have hp:=PL.o _ A.1.low;clear A;go_simp;try rfl)
 go_simp;refine q8.ca (.bool q) (fun D v w' L A=>?_) ?_
 .have d5:D 5=true:=L.pre 5 (by kernel_rfl);obtain⟨a0,a2,a9⟩:=A;obtain⟨a5,O,h8,R⟩:=a9 d5;rw[h8];have cY:=aM.o.low a0.low;have H1:=z7 a0;have H2:=z7 a2;have a7:=z7 R;have H8:=z7 h8;have dE:=z7 cY;clear a0 a2 a9 R h8 cY;go_simp;go_at_call 80;refine(y5T _ _ (z0L F) b _ a7.o dE.o).mono ?_;rintro e aF ⟨rfl,rfl⟩;rw[<-HQ.o];exact⟨rfl,H1.o,H2.o,fun _=>⟨a5,O,by first|exact H8.o|exact⟨rfl,rfl⟩,a7.o⟩⟩
 go_simp;iterate 2 (refine q8.rd ?_ (fun D v w' L A=>?_) ?_;rotate_left;(clear A;go_simp;try rfl);go_simp)
 refine q8.fin (fun v w' A=>?_);obtain⟨aE,aU,dN⟩:=bV.o w' A.1.low;obtain⟨c0,c1,c2,c3,c4,O,Y,c7,c8,c9,J⟩:=aE.cells;unfold z1g at c0 c1 c2 c3 c4 O Y c7 c8 J;simp only at c0 c1 c2 c3 c4 O Y c7 c8 J;obtain⟨d0,d1,d2,d3,d4,d5,d6,d7,d8,d9,e3⟩:=A.1.f.cells;have aV:=z7 aE;have a8:=z7 aU;have dC:=z7 A.2.1;clear A aE aU;cases q with
 | false=>
  have hg:goF b=z1g/\goE b=70:=by unfold goF goE y9b;rw[<-b4.o,<-HQ.o,b5.o];exact⟨rfl,rfl⟩
  have HG:=z7 hg;clear hg;go_wp2;refine wU (z6z _ (w.heap.size+1) 70 z1g (.slice none 0 0) _ wH wH (aV.o.store z1g (.slice none 0 0))) rfl ?_;show Told w (goF b) (goE b) _ _;rw[HG.o.1,HG.o.2];exact⟨none,0,rfl,RdB.nil _,z4v (w':=w') (r:=w.heap.size+1) (o:=0) a8.o (by have:=a8.o.size;omega) wF (z0b z1g (.slice none 0 0)).toList,fun k hk=>by cases hk⟩
 | true=>
  have hg:goF b=F/\goE b=0:=by unfold goF goE y9b;rw[<-b4.o,<-HQ.o,b5.o];exact⟨rfl,rfl⟩
  have HG:=z7 hg;clear hg;go_wp2;refine wU (z6z _ (w.heap.size+1) 0 F (.slice a' F.b.length c') _ wH wH (aV.o.store F (.slice a' F.b.length c'))) rfl ?_;show Told w (goF b) (goE b) _ _;rw[HG.o.1,HG.o.2];refine⟨a',c',rfl,?_,z4v (w':=w') (r:=w.heap.size+1) (o:=0) a8.o (by have:=a8.o.size;omega) wF (z0b F (.slice a' F.b.length c')).toList,fun k hk=>by have:=aL.o k hk;have:=b3.o.size;omega⟩;have cH:RdB (w'.setCells (w.heap.size+1) 0 (z0b F (.slice a' F.b.length c')).toList) (.slice a' F.b.length c') F.b:=
   Rd.kept dC.o fun k hk _=>z1n (by have:=aL.o k hk;omega) _ _ _
  exact cH
structure RF (w5:World) (g:Fr) (x:Value) (W:World):Prop where
 f:z2N W w5.heap.size g x
 low:Below w5.heap.size w5 W
theorem RF.ff{A W:World}{g:Fr}{x:Value}(h:RF A g x W):∀o,W.frozen? ⟨A.heap.size,o,none⟩=false:=fun o=>by simp[World.frozen?,show W.heap[A.heap.size]? =_ from h.f]
theorem RF.setF{A W:World}{g g':Fr}{x x' v:Value}{o:Nat}(h:RF A g x W)(I:z0b g' x'=(z0b g x).setIfInBounds o v):RF A g' x' (W.setCell ⟨A.heap.size,o,none⟩ v):=
 ⟨h.f.set I,h.low.setCell wH _⟩
theorem RF.store{A W:World}{g:Fr}{x:Value}(h:RF A g x W)(g':Fr)(x':Value):RF A g' x' (W.setCells A.heap.size 0 (z0b g' x').toList):=
 ⟨h.f.store g' x',z4v h.low h.low.size wF _⟩
theorem RF.to{I W A:World}{g:Fr}{x:Value}(h:RF I g x W)(hb:Below W.heap.size W A):RF I g x A:=
 ⟨h.f.low hb,h.low.trans (hb.mono h.low.size)⟩
def WA(w5:World)(b8:Bool):World:=if b8 then w5.alloc (.cells (z0b z1g (.slice none 0 0)) 51)else w5
theorem WA.below(A:World)(I:Bool):Below A.heap.size A (WA A I):=by
 cases I
 .exact wN _ _
 exact q5 _ _
def y1j(b:List UInt8):Bool:=decide (unB (b.drop (b.length - 4))=z3e (b.take (b.length - 4)))
def z9Y(b:List UInt8):Bool:=decide (44<=b.length)&&decide (b.length<=4096)
def y1r(b:List UInt8):Fr:=if z9Y b&&y1j b then goF b else z1g
def y3l(b:List UInt8):Int:=if z9Y b then(if y1j b then goE b else 71)else 70
theorem q0D(a:Option Addr)(c:Nat)(b:List UInt8)(w:World)(R:RdB w (.slice a b.length c) b)(U:b.length<=9223372036854775807)(O:b.length<=c)(I:c<=9223372036854775807):
  Calls prog 37 #[.slice a b.length c] w (Told w (y1r b) (y3l b)):=by
 by_cases A:44<=b.length/\b.length<=4096
 .have J:z9Y b=true:=by unfold z9Y;simp;exact A
  by_cases L:unB (b.drop (b.length - 4))=z3e (b.take (b.length - 4))
  .have N:y1j b=true:=(by unfold y1j;simpa using L);have h:=y4Z a c b w R A.1 A.2 O I L;have e:y1r b=goF b/\y3l b=goE b:=(by unfold y1r y3l;rw[J,N];exact⟨rfl,rfl⟩);rw[e.1,e.2];exact h
  have N:y1j b=false:=(by unfold y1j;simpa using L);have h:=y3r a c b w R A.1 A.2 O I L;have e:y1r b=z1g/\y3l b=71:=(by unfold y1r y3l;rw[J,N];exact⟨rfl,rfl⟩);rw[e.1,e.2];exact h
 have J:z9Y b=false:=by unfold z9Y;rw[ru];simp;omega
 have e:y1r b=z1g/\y3l b=70:=by unfold y1r y3l;rw[J];exact⟨rfl,rfl⟩
 rw[e.1,e.2];exact y3p a c b w U wF
end
section
theorem z9y(f:Fr):z0L f=z2J f++be4 (z3e (z2J f)):=rfl
theorem z6A(f:Fr):(z2J f).length=40+f.b.length:=by simp[z2J,z2w]
theorem y2v(f:Fr):(z0L f).take ((z0L f).length - 4)=z2J f:=by
 rw[z6P,z9y,pE (by rw[z6A];omega),wt (by rw[z6A];omega)]
theorem y9r(f:Fr):(z0L f).drop ((z0L f).length - 4)=be4 (z3e (z2J f)):=by
 rw[z6P,z9y,ib (by rw[z6A];omega),dK (by rw[z6A];omega),uW]
theorem y7K{f:Fr}(h:z2l f=true):z9Y (z0L f)=true:=by
 have:=(y0R h).2.2;unfold z9Y;rw[z6P];simp;omega
theorem y6b(f:Fr):y1j (z0L f)=true:=by
 unfold y1j;rw[y2v,y9r,z5f (z8t _)];simp
theorem y8u(f:Fr)(T:List UInt8):((z1S f++T).drop 3).take 4=be4 f.epoch:=by simp[z1S,be4]
theorem y8H(f:Fr)(T:List UInt8):((z1S f++T).drop 7).take 4=be4 f.series:=by simp[z1S,be4]
theorem y6I(f:Fr)(T:List UInt8):((z1S f++T).drop 11).take 4=be4 f.chunk:=by simp[z1S,be4]
theorem y6S(f:Fr)(T:List UInt8):((z1S f++T).drop 15).take 4=be4 f.bits:=by simp[z1S,be4]
theorem y7x(f:Fr)(T:List UInt8):((z1S f++T).drop 19).take 4=be4 f.cnt:=by simp[z1S,be4]
theorem y7N(f:Fr)(T:List UInt8):((z1S f++T).drop 23).take 4=be4 f.count:=by simp[z1S,be4]
theorem y5W(f:Fr)(T:List UInt8):((z1S f++T).drop 28).take 4=be4 (f.sum/4294967296):=by simp[z1S,be4]
theorem y7U(f:Fr)(T:List UInt8):((z1S f++T).drop 32).take 4=be4 (f.sum%4294967296):=by simp[z1S,be4]
theorem y5v(f:Fr)(T:List UInt8):((z1S f++T).drop 36).take 4=be4 (f.n%4294967296).toNat:=by simp[z1S,be4]
theorem y8z(f:Fr)(T:List UInt8):(z1S f++T).getD 2 0=UInt8.ofNat f.kind:=by simp[z1S,be4]
theorem y6N(f:Fr)(T:List UInt8):(z1S f++T).getD 27 0=y1J f.closed:=by simp[z1S,be4]
theorem z2z(f:Fr):z0L f=z1S f++(f.b++be4 (z3e (z2J f))):=by rw[z9y,z2J,wj]
theorem q1o(f:Fr):((z0L f).take ((z0L f).length - 4)).drop 40=f.b:=by
 rw[y2v,z2J,ib (by rw[z2w];omega),dK (by rw[z2w];omega),uW]
theorem y8q{f:Fr}(h:f.epoch<4294967296):num (z0L f) 3=f.epoch:=by unfold num;rw[z2z,y8u,z5f h]
theorem y8K{f:Fr}(h:f.series<4294967296):num (z0L f) 7=f.series:=by unfold num;rw[z2z,y8H,z5f h]
theorem y6T{f:Fr}(h:f.chunk<4294967296):num (z0L f) 11=f.chunk:=by unfold num;rw[z2z,y6I,z5f h]
theorem y5Z{f:Fr}(h:f.bits<4294967296):num (z0L f) 15=f.bits:=by unfold num;rw[z2z,y6S,z5f h]
theorem y5N{f:Fr}(h:f.cnt<4294967296):num (z0L f) 19=f.cnt:=by unfold num;rw[z2z,y7x,z5f h]
theorem y6u{f:Fr}(h:f.count<4294967296):num (z0L f) 23=f.count:=by unfold num;rw[z2z,y7N,z5f h]
theorem y7T{f:Fr}(h:f.sum<18446744073709551616):num (z0L f) 28=f.sum/4294967296:=by unfold num;rw[z2z,y5W];exact z5f wF
theorem y7D(f:Fr):num (z0L f) 32=f.sum%4294967296:=by unfold num;rw[z2z,y7U];exact z5f wF
theorem y7L{f:Fr}(A:0<=f.n)(I:f.n<4294967296):num (z0L f) 36=f.n.toNat:=by
 unfold num;rw[z2z,y5v,show(f.n%4294967296).toNat=f.n.toNat by omega];exact z5f wF
theorem fields_of{w:List UInt8}{f:Fr}(R:(w.getD 2 0).toNat=f.kind)(A:((w.getD 27 0).toNat==1)=f.closed)(U:num w 3=f.epoch)(n7:num w 7=f.series)(I:num w 11=f.chunk)(J:num w 15=f.bits)(L:num w 19=f.cnt)(N:num w 23=f.count)
  (Y:num w 28*4294967296+num w 32=f.sum) (O:((num w 36:Nat):Int)=f.n) (hb:(w.take (w.length - 4)).drop 40=f.b):fieldsB w=f:=by
 unfold fieldsB;rw[R,A,U,n7,I,J,L,N,Y,O,hb]
theorem z9I{f:Fr}(A:f.Ok)(I:0<=f.n)(J:f.n<4294967296):fieldsB (z0L f)=f:=by
 obtain⟨o1,N,O,R,U,Y,o7,o8,o9,L⟩:=A;refine fields_of ?_ ?_ (y8q N) (y8K O) (y6T R) (y5Z U) (y5N Y) (y6u o7) ?_ ?_ (q1o f)
 .rw[z2z,y8z,oo];omega
 .rw[z2z,y6N];cases f.closed<;>rfl
 .rw[y7T o8,y7D];omega
 rw[y7L I J];omega
theorem y8d{f:Fr}(A:f.Ok)(h:z2l f=true):y9b (z0L f)=true:=by
 unfold y9b;rw[z9I A (y0R h).1 (y0R h).2.1,h];simp
theorem y3H{f:Fr}(A:f.Ok)(h:z2l f=true):y3l (z0L f)=0/\y1r (z0L f)=f:=by
 unfold y3l y1r goE goF;rw[y7K h,y6b,y8d A h,z9I A (y0R h).1 (y0R h).2.1];exact⟨rfl,rfl⟩
theorem z7C{b:List UInt8}{k:Nat}(h:k+4<=b.length):num b k<4294967296:=y2j (by simp;omega)
theorem q7r(b:List UInt8):(y1r b).Ok:=by
 have A:z1g.Ok:=by constructor<;>decide
 unfold y1r;split
 .rename_i J;have I:44<=b.length:=by
   have:=(mu.1 J).1;unfold z9Y at this;simp at this;omega
  unfold goF;split
  .have L:=z7C (b:=b) (k:=28) wF;have N:=z7C (b:=b) (k:=32) wF;have O:=z7C (b:=b) (k:=36) wF;exact⟨(b.getD 2 0).toNat_lt,z7C wF,z7C wF,z7C wF,z7C wF,z7C wF,z7C wF,by simp only[fieldsB];omega,by simp only[fieldsB];omega,by simp only[fieldsB];omega⟩
  exact A
 exact A
end
section
open Go.RowKit
def z7Y(f:Fr):List UInt8:=if z2l f then z0L f else []
def q7P(f:Fr):Int:=if z2l f then 0 else 70
theorem y3m(f:Fr)(a:Option Addr)(c:Nat)(w:World)(A:f.Ok)(I:f.b.length<=1000000)(J:RdB w (.slice a f.b.length c) f.b):
  Calls prog 85 #[frV f (.slice a f.b.length c)] w fun e w'=>∃a n c,e= .returned (.tuple #[.slice a n c,.int .u16 (q7P f)])/\w'.ownsRow w.heap.size 5 1 (.slice a n c) n (z0c (z7Y f))/\n=(z7Y f).length/\Below w.heap.size w w':=by
 unfold z7Y q7P;cases hm:z2l f with
 | true=>
  refine(q1w f a c w A I J hm).mono ?_;rintro e w' ⟨a,c,rfl,L,hb⟩;exact⟨a,_,c,rfl,L,rfl,hb⟩
 | false=>
  refine(y4O f a c w A I J hm).mono ?_;rintro e w' ⟨rfl,hb⟩;exact⟨none,0,0,rfl,uN _ _ _ _,rfl,hb⟩
end

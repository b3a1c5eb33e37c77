/-
  Walks over package frame: Decode of bytes whose sum is right.
-/
import Derived.Test.YtpocjegemokjgaaGreatDoorZFrDFrEFrSFrG
namespace Go.Proofs.YtpocjegemokjgaaGreatDoor
open Go.Proofs.Tryz
set_option linter.all false
set_option maxRecDepth 100000
set_option maxHeartbeats 12800000
open Go.RowKit
def WD(w5:World)(b8:Bool)(k:Int):World:=if b8 then(w5.alloc (.cells #[.int .i64 k] 3)).alloc (.cells (j9 z0W (.slice none 0 0)) 51)else w5.alloc (.cells #[.int .i64 k] 3)
theorem WD.below(A:World)(B:Bool)(k:Int):Below A.heap.size A (WD A B k):=by
 cases B
 ·exact q5 _ _
 ·exact(q5 _ _).alloc (by simp) _
theorem WD.q(B:World)(A:Bool)(k:Int):(WD B A k).heap[B.heap.size]? =some (.cells #[.int .i64 k] 3 (0,0)):=by
 cases A
 ·exact j8 _ _
 ·exact(heap_alloc_old _ _ (by simp)).trans (j8 _ _)
theorem WD.set(A:World)(B:Bool)(k m:Int):(WD A B k).setCell ⟨A.heap.size,0,none⟩ (.int .i64 m)=WD A B m:=by
 have h:∀B,((WD A B k).setCell ⟨A.heap.size,0,none⟩ (.int .i64 m)).heap=(WD A B m).heap:=by
  intro B;apply Array.ext_getElem?;intro j;by_cases e:j=A.heap.size
  ·subst e;rw[z0a (WD.q A B k),WD.q];rfl
  ·rw[q7 e];cases B
   ·simp only[WD,Bool.false_eq_true,if_false];show(A.heap.push _)[j]? =(A.heap.push _)[j]?;rw[Array.getElem?_push,Array.getElem?_push,if_neg e,if_neg e]
   ·simp only[WD,if_true];show((A.heap.push _).push _)[j]? =((A.heap.push _).push _)[j]?;rw[Array.getElem?_push,Array.getElem?_push,Array.getElem?_push,Array.getElem?_push,if_neg e,if_neg e];simp
 have I:=h B;cases B;all_goals
  simp only[WD,Bool.false_eq_true,if_false,if_true]at I ⊢;exact congrArg (fun J=>({A with heap:=J}:World)) I
theorem z2t.set{w:World}{r o:Nat}{g g':Fr}{x x' v:Value}(h:z2t w r g x)(A:j9 g' x'=(j9 g x).setIfInBounds o v):z2t (w.setCell ⟨r,o,none⟩ v) r g' x':=by
 unfold z2t at h ⊢;rw[z0a h,<-A]
structure RS (w5:World) (k:Int) (g:Fr) (x:Value) (W:World):Prop where
 q:W.heap[w5.heap.size]? =some (.cells #[.int .i64 k] 3 (0,0))
 f:z2t W (w5.heap.size+1) g x
 low:Below w5.heap.size w5 W
theorem RS.qc{A W:World}{k:Int}{g:Fr}{x:Value}(h:RS A k g x W):W.cell? ⟨A.heap.size,0,none⟩=some (.int .i64 k)/\W.frozen? ⟨A.heap.size,0,none⟩=false/\∀o,W.frozen? ⟨A.heap.size+1,o,none⟩=false:=
 ⟨by simp[World.cell?,h.q],by simp[World.frozen?,h.q],fun o=>by simp[World.frozen?,show W.heap[A.heap.size+1]? =_ from h.f]⟩
theorem RS.setQ{A W:World}{k m:Int}{g:Fr}{x:Value}(h:RS A k g x W):RS A m g x (W.setCell ⟨A.heap.size,0,none⟩ (.int .i64 m)):=
 ⟨by rw[z0a h.q];rfl,(q7 (by omega)).trans h.f,h.low.setCell (Nat.le_refl _) _⟩
theorem RS.setF{A W:World}{k:Int}{g g':Fr}{x x' v:Value}{o:Nat}(h:RS A k g x W)(B:j9 g' x'=(j9 g x).setIfInBounds o v):RS A k g' x' (W.setCell ⟨A.heap.size+1,o,none⟩ v):=
 ⟨(q7 (by omega)).trans h.q,h.f.set B,h.low.setCell (by simp) _⟩
theorem RS.store{A W:World}{k:Int}{g:Fr}{x:Value}(h:RS A k g x W)(g':Fr)(x':Value):RS A k g' x' (W.setCells (A.heap.size+1) 0 (j9 g' x').toList):=
 ⟨(z0Z (by omega) _ _ _).trans h.q,h.f.store g' x',z3T h.low h.low.size (by omega) _⟩
theorem RS.to{B W A:World}{k:Int}{g:Fr}{x:Value}(h:RS B k g x W)(hb:Below W.heap.size W A):RS B k g x A:=
 ⟨(hb.block _ (Array.getElem?_eq_some_iff.1 h.q).1).trans h.q,h.f.low hb,h.low.trans (hb.mono h.low.size)⟩
theorem RdB.drop'{w:World}{B:Addr}{c:Nat}{l:List UInt8}(h:RdB w (.slice (some B) l.length c) l)(k:Nat)(O:k<=l.length)(c':Nat):RdB w (.slice (some (B.add k)) (l.length - k) c') (l.drop k):=by
 obtain⟨N,⟨A,R⟩|⟨I,c2,A,J⟩⟩:=h
 ·cases A
 ·simp only[Value.slice.injEq,Option.some.injEq,true_and]at A;obtain⟨rfl,rfl⟩:=A;refine⟨by simp[z0b],.inr ⟨B.add k,c',by simp,fun j u L=>?_⟩⟩;rw[addr_add_add];refine J (k+j) u ?_;simpa[z0b]using L
theorem RS.next{A W:World}{p c k:Nat}{a:Option Addr}{b:List UInt8}{g:Fr}{x:Value}(h:RS A k g x W)(R:p<A.heap.size)(Y:A.cell? ⟨p,0,none⟩=some (.slice a b.length c))(U:RdB A (.slice a b.length c) b)
  (O:b.length<=4096) (L:b.length<=c) (B:c<=9223372036854775807) (N:k+4<=b.length):
  Calls prog 65 #[.pointer (some ⟨A.heap.size,0,none⟩),.pointer (some ⟨p,0,none⟩)] W fun e w'=>e= .returned (.int .u32 (num b k:Nat))/\RS A ((k:Int)+4) g x w':=by
 obtain⟨I,J,_⟩:=h.qc;refine(y8f A.heap.size p (by omega) a c k b W (U.low (h.setQ (m:=(k:Int)+4)).low) O L B N I J ((h.low.cell (p:=⟨p,0,none⟩) R).trans Y)).mono ?_;rintro e w' ⟨rfl,rfl⟩;exact⟨rfl,h.setQ⟩
theorem y3T(a:Option Addr)(c:Nat)(b:List UInt8)(w:World)(hx:RdB w (.slice a b.length c) b)(h1:44<=b.length)(h2:b.length<=4096)(hc:b.length<=c)(cF:c<=9223372036854775807)(hs:unB (b.drop (b.length - 4))=z2J (b.take (b.length - 4))):
  Calls prog 29 #[.slice a b.length c] w (Told w (goF b) (goE b)):=by
 have HX:=z7 hx;have HS:=z7 hs;clear hx hs;have i0:(0:Int)<=(b.length:Int) - 4:=by omega
 have i1:(b.length:Int) - 4<=b.length:=by omega
 go_enter func29,ntmps29;go_wp2;go_quiet (fail)
 have b2:RdB (((w.alloc (.cells #[.slice a b.length c] 47)).alloc (.cells #[.int .u8 0,.int .u32 0,.int .u32 0,.int .u32 0,.int .u32 0,.int .u32 0,.int .u32 0,.bool false,.int .u64 0,.slice none 0 0,.int .i64 0] 51)).drewN nq) (.slice a b.length c) b:=
  HX.o.low (z0k ((q5 _ _).alloc (by simp) _))
 have b0:z2t (((w.alloc (.cells #[.slice a b.length c] 47)).alloc (.cells #[.int .u8 0,.int .u32 0,.int .u32 0,.int .u32 0,.int .u32 0,.int .u32 0,.int .u32 0,.bool false,.int .u64 0,.slice none 0 0,.int .i64 0] 51)).drewN nq) (w.heap.size+1) z0W (.slice none 0 0):=by
  exact z3n (w:=w.alloc (.cells #[.slice a b.length c] 47)) _ (by simp)
 have bL:(((w.alloc (.cells #[.slice a b.length c] 47)).alloc (.cells #[.int .u8 0,.int .u32 0,.int .u32 0,.int .u32 0,.int .u32 0,.int .u32 0,.int .u32 0,.bool false,.int .u64 0,.slice none 0 0,.int .i64 0] 51)).drewN nq).heap[w.heap.size]? =some (.cells #[.slice a b.length c] 47 (0,0)):=
  (heap_alloc_old _ _ (by simp)).trans (j8 w _)
 have bF:Below w.heap.size w (((w.alloc (.cells #[.slice a b.length c] 47)).alloc (.cells #[.int .u8 0,.int .u32 0,.int .u32 0,.int .u32 0,.int .u32 0,.int .u32 0,.int .u32 0,.bool false,.int .u64 0,.slice none 0 0,.int .i64 0] 51)).drewN nq):=
  z0k ((q5 _ _).alloc (by simp) _)
 generalize ((w.alloc (.cells #[.slice a b.length c] 47)).alloc (.cells #[.int .u8 0,.int .u32 0,.int .u32 0,.int .u32 0,.int .u32 0,.int .u32 0,.int .u32 0,.bool false,.int .u64 0,.slice none 0 0,.int .i64 0] 51)).drewN nq=W1 at b2 b0 bL bF
 have hd:=b2.drop (b.length - 4) (by omega) (c - (b.length - 4));have e:b.length - (b.length - 4)=(b.drop (b.length - 4)).length:=by simp
 rw[e]at hd;have HD:=z7 hd;have HE:=z7 e;have bB:=z7 b2;have aN:=z7 b0;have bU:=z7 bL;have b4:=z7 bF;have dO:=b0.lt;clear hd e b2 b0 bL bF;go_wp2_with fail;rw[HE.o];refine(y7E _ _ (b.drop (b.length - 4)) _ HD.o (by simp;omega) (by simp;omega) (by omega)).mono ?_;rintro e w' ⟨rfl,rfl⟩;rw[show(b.drop (b.length - 4)).take 4=b.drop (b.length - 4)from List.take_of_length_le (by simp;omega)];go_wp2_with fail;refine(z8p W1).mono ?_;rintro e w2 ⟨rfl,hT,cB,cN⟩;have bI:=q1g (Below.refl _ W1) hT cB;obtain⟨tb,cV⟩:=zN W1.heap.size;rw[<-cV]at bI cN ⊢;have HC:=z7 bI;clear hT cB bI HE HD cV;have cZ:=z7 (bB.o.take (b.length - 4) (by omega) (by omega));have cM:Hid ((b.take (b.length - 4)).length=b.length - 4):=z7 (by simp);go_wp2_with fail;refine(z7m tb false _ (b.take (b.length - 4)) _ _ (HC.o.alloc _).tab (z3n _ (by simp)) (by omega) (fun w' hc=>(HC.o.alloc _).rd hc cZ.o) (by have:=cM.o;omega)).mono ?_;rintro e B ⟨rfl,bW,cI⟩;have aT:=((HC.o.alloc _).sum bW cI).low;have aM:=z7 (bB.o.low aT);have aX:=z7 (aN.o.low aT);have dE:Hid (B.heap[w.heap.size]? =some (.cells #[.slice a b.length c] 47 (0,0))):=z7 ((aT.block _ (by omega)).trans bU.o);have b5:Hid (Below w.heap.size w B):=z7 (b4.o.trans (aT.mono b4.o.size));have dX:=aX.o.lt;clear bW cI aT HC bB aN bU b4 cZ cM cN dO;obtain⟨c0,c1,c2,c3,c4,N,U,Y,c8,c9,I⟩:=aX.o.cells
 have zf:∀o,B.frozen? ⟨w.heap.size+1,o,none⟩=false:=fun o=>by simp[World.frozen?,show B.heap[w.heap.size+1]? =_ from aX.o]
 have ht:((unB (b.drop (b.length - 4)):Int) !=(z2J (b.take (b.length - 4)):Int))=false:=by rw[bne_eq_false_iff_eq];have:=HS.o;omega
 clear c0 c1 c2 c3 c4 N U Y c8 c9 I;have e8:∀(fn:Fn) (first cap:Array Value) (w:World),(Instr.makeFunc fn first cap).run prog w= .ok (.func fn first cap) w:=fun _ _ _ _=>rfl;have p0:B.cell? ⟨w.heap.size,0,none⟩=some (.slice a b.length c):=by simp[World.cell?,dE.o]
 obtain⟨bb,a6,c',he,cG,bG⟩:=aM.o.at (k:=2) (by omega);simp only[Value.slice.injEq,true_and]at he;obtain⟨rfl,rfl⟩:=he;have dV:(2:Int)<b.length:=by omega
 have dU:bb<B.heap.size:=bG;have aU:w.heap.size<B.heap.size:=by omega
 have pA:∀b8 k,(WD B b8 k).cell? ⟨w.heap.size,0,none⟩=some (.slice (some ⟨bb,a6,none⟩) b.length c):=fun b8 k=>((WD.below B b8 k).cell (p:=⟨w.heap.size,0,none⟩) aU).trans p0;have bA:∀b8 k,(WD B b8 k).cell? ⟨bb,a6+2,none⟩=some (.int .u8 (b[2].toNat:Nat)):=fun b8 k=>((WD.below B b8 k).cell (p:=⟨bb,a6+2,none⟩) bG).trans cG;have XA:Hid (∀b8 k,RdB (WD B b8 k) (.slice (some ⟨bb,a6,none⟩) b.length c) b):=z7 fun b8 k=>aM.o.low (WD.below B b8 k);have NX:Hid (∀(b8:Bool) (k:Nat),k+4<=b.length->Calls prog 65 #[.pointer (some ⟨B.heap.size,0,none⟩),.pointer (some ⟨w.heap.size,0,none⟩)] (WD B b8 k).drew fun e w'=>e= .returned (.int .u32 (num b k:Nat))/\w'=(WD B b8 ((k:Int)+4)).drew):=z7 fun b8 k hk=>by
  have hq:=WD.q B b8 k;refine(y8f B.heap.size w.heap.size (by omega) (some ⟨bb,a6,none⟩) c k b (WD B b8 k).drew ?_ h2 hc cF hk (by rw[World.cell?_drew];simp[World.cell?,hq]) (by rw[World.frozen?_drew];simp[World.frozen?,hq]) (by rw[World.cell?_drew];exact pA b8 k)).mono ?_
  ·have h:=XA.o b8 ((k:Int)+4);rw[<-WD.set B b8 k]at h;exact h
  ·rintro e w' ⟨rfl,rfl⟩;exact⟨rfl,congrArg World.drew (WD.set B b8 k _)⟩
 go_wp2;refine z3k 9 96 (by kernel_rfl) (by kernel_rfl) rfl (by kernel_rfl)
  (fun D _ w'=>w'=(WD B (D 8) (if D 6 then 11 else if D 4 then 7 else 3)).drew) (fun _=>undef) rfl ?_
 simp only[z0v];iterate 4 (refine q8.rd (e:=?_) (fun D v w' J A=>?_) ?_;rotate_left;(subst A;go_simp;try with_reducible rfl);go_simp)
 refine q8.ca (.int .u32 (num b 3:Nat)) (fun D v w' J A=>?_) ?_
 ·have d4:D 4=false:=J.self;have d6:D 6=false:=J.post 6 _ rfl (by kernel_rfl);simp only[d4,d6,Bool.false_eq_true,if_false]at A;subst A;go_simp;go_at_call 65;refine(NX.o (D 8) 3 (by omega)).mono ?_;rintro e aF ⟨rfl,rfl⟩;have m8:mark D 4 8=D 8:=rfl;have m6:mark D 4 6=false:=d6;have m4:mark D 4 4=true:=rfl;go_simp
 iterate 1 (refine q8.rd (e:=?_) (fun D v w' J A=>?_) ?_;rotate_left;(subst A;go_simp;try with_reducible rfl);go_simp)
 refine q8.ca (.int .u32 (num b 7:Nat)) (fun D v w' J A=>?_) ?_
 ·have d6:D 6=false:=J.self;have d4:D 4=true:=J.pre 4 (by kernel_rfl);simp only[d4,d6,Bool.false_eq_true,if_false,if_true]at A;subst A;go_simp;go_at_call 65;refine(NX.o (D 8) 7 (by omega)).mono ?_;rintro e aF ⟨rfl,rfl⟩;have m8:mark D 6 8=D 8:=rfl;have m6:mark D 6 6=true:=rfl;go_simp
 iterate 1 (refine q8.rd (e:=?_) (fun D v w' J A=>?_) ?_;rotate_left;(subst A;go_simp;try with_reducible rfl);go_simp)
 refine q8.ca (.pointer (some ⟨B.heap.size+1,0,none⟩)) (fun D v w' J A=>?_) ?_
 ·have d8:D 8=false:=J.self;have m8:mark D 8 8=true:=rfl;have m6:mark D 8 6=D 6:=rfl;have m4:mark D 8 4=D 4:=rfl;rw[d8]at A;subst A;unfold WD;go_simp;rfl
 refine q8.fin (fun v w' A=>?_);have dM:w'=(WD B true 11).drew:=A;subst dM;have aD:RS B 11 z0W (.slice none 0 0) (WD B true 11).drew:=⟨WD.q B true 11,z3n (w:=B.alloc (.cells #[.int .i64 11] 3)) _ (by simp),⟨(WD.below B true 11).os,(WD.below B true 11).tape,(WD.below B true 11).output,(WD.below B true 11).size,(WD.below B true 11).block⟩⟩;obtain⟨c0,c1,c2,c3,c4,N,U,Y,c8,c9,I⟩:=aD.f.cells;obtain⟨cq,fq,ff⟩:=aD.qc;have bV:=z7 aD;clear A aD pA bA XA NX
 generalize (WD B true 11).drew=W8 at*
 unfold z0W at c0 c1 c2 c3 c4 N U Y c8 I;simp only at c0 c1 c2 c3 c4 N U Y c8 I;have aB:=fun k (W:World) (g:Fr) (x:Value) (h:RS B (k:Nat) g x W) (hk:k+4<=b.length)=>h.next aU p0 aM.o h2 hc cF hk
 have NX:=z7 aB;clear aB;have cC:b.length>27:=by omega
 obtain⟨e4,dY,e5,he,cH,_⟩:=aM.o.at (k:=27) cC;simp only[Value.slice.injEq,Option.some.injEq,Addr.mk.injEq,and_true,true_and]at he;obtain⟨⟨rfl,rfl⟩,rfl⟩:=he
 generalize hk0:b[2]=y2 at*
 generalize hk27:b[27]=y27 at*
 have dB:=z7 hk0;have bR:=z7 hk27;clear hk0 hk27;obtain⟨g1,cL⟩:∃g1:Fr,g1={z0W with kind:=y2.toNat,epoch:=num b 3,series:=num b 7}:=⟨_,rfl⟩;have bE:=bV.o.store g1 (.slice none 0 0);rw[cL]at bE;have aN:=z7 bE;clear bE cL;go_wp2_with fail;refine(NX.o 11 _ _ _ (by exact aN.o) (by omega)).mono ?_;rintro e W9 ⟨rfl,L⟩;have HR:=z7 L;clear L aN bV cq fq ff c0 c1 c2 c3 c4 N U Y c8 c9 I;go_wp2_with fail;refine(NX.o 15 _ _ _ (by exact HR.o) (by omega)).mono ?_;rintro e dD ⟨rfl,L⟩;have bX:=z7 L;clear L HR;go_wp2_with fail;refine(NX.o 19 _ _ _ (by exact bX.o) (by omega)).mono ?_;rintro e dW ⟨rfl,L⟩;obtain⟨c0,c1,c2,c3,c4,N,U,Y,c8,c9,I⟩:=L.f.cells;obtain⟨cq,fq,ff⟩:=L.qc;have HR:=z7 L;clear L bX;go_wp2_with fail;refine(NX.o 23 _ {z0W with kind:=y2.toNat,epoch:=num b 3,series:=num b 7,chunk:=num b 11,bits:=num b 15,cnt:=num b 19} (.slice none 0 0) (by exact((HR.o.setF (o:=3) (g':={z0W with kind:=y2.toNat,epoch:=num b 3,series:=num b 7,chunk:=num b 11}) (by rfl)).setF (o:=4) (g':={z0W with kind:=y2.toNat,epoch:=num b 3,series:=num b 7,chunk:=num b 11,bits:=num b 15}) (by rfl)).setF (o:=5) (by rfl)) (by omega)).mono ?_;rintro e e0 ⟨rfl,L⟩;clear c0 c1 c2 c3 c4 N U Y c8 c9 I cq fq ff HR;obtain⟨c0,c1,c2,c3,c4,N,U,Y,c8,c9,I⟩:=L.f.cells;obtain⟨cq,fq,ff⟩:=L.qc;have dI:=(L.low.cell (p:=⟨bb,a6+27,none⟩) bG).trans cH;have dS:=(L.low.cell (p:=⟨w.heap.size,0,none⟩) aU).trans p0
 have cW:∀o o',(⟨bb,o,none⟩:Addr)≠⟨B.heap.size+1,o',none⟩:=fun o o' h=>by have:=congrArg Addr.block h;simp at this;omega
 have HR:=z7 L;have dZ:=z7 cW;clear L cW;go_wp2_with fail;refine(NX.o 28 _ {z0W with kind:=y2.toNat,epoch:=num b 3,series:=num b 7,chunk:=num b 11,bits:=num b 15,cnt:=num b 19,count:=num b 23,closed:=((y27.toNat:Int)==1)} (.slice none 0 0) (by exact((HR.o.setF (o:=6) (g':={z0W with kind:=y2.toNat,epoch:=num b 3,series:=num b 7,chunk:=num b 11,bits:=num b 15,cnt:=num b 19,count:=num b 23}) (by rfl)).setF (o:=7) (by rfl)).setQ) (by omega)).mono ?_;rintro e e3 ⟨rfl,L⟩;clear c0 c1 c2 c3 c4 N U Y c8 c9 I cq fq ff HR dI dS;have HR:=z7 L;clear L;go_wp2_with fail;refine(NX.o 32 _ _ _ (by exact HR.o) (by omega)).mono ?_;rintro e dH ⟨rfl,L⟩;obtain⟨c0,c1,c2,c3,c4,N,U,Y,c8,c9,I⟩:=L.f.cells;obtain⟨cq,fq,ff⟩:=L.qc;have dT:=(L.low.cell (p:=⟨w.heap.size,0,none⟩) aU).trans p0;have n28:num b 28<4294967296:=y1t (by simp;omega);have n32:num b 32<4294967296:=y1t (by simp;omega);have n36:num b 36<4294967296:=y1t (by simp;omega);have cU:bits .or .u64 ((num b 28:Int)*4294967296) (num b 32:Int)=((num b 28*4294967296+num b 32:Nat):Int):=by
  have:=u64_or_nat (num b 28*4294967296) (num b 32) (by omega) (by omega);rw[nat_join 32 _ _ (by omega) (by omega)]at this;simpa using this
 have bT:=z7 cU;clear HR cU;have HR:=z7 L;clear L;go_wp2;rw[bT.o];have aH:=HR.o.setF (o:=8) (v:= .int .u64 ((num b 28*4294967296+num b 32:Nat):Int)) (g':={z0W with kind:=y2.toNat,epoch:=num b 3,series:=num b 7,chunk:=num b 11,bits:=num b 15,cnt:=num b 19,count:=num b 23,closed:=((y27.toNat:Int)==1),sum:=num b 28*4294967296+num b 32}) (x':= .slice none 0 0) (by rfl);obtain⟨g4,bJ⟩:∃g4:Fr,g4={z0W with kind:=y2.toNat,epoch:=num b 3,series:=num b 7,chunk:=num b 11,bits:=num b 15,cnt:=num b 19,count:=num b 23,closed:=((y27.toNat:Int)==1),sum:=num b 28*4294967296+num b 32}:=⟨_,rfl⟩;rw[<-bJ]at aH;have bO:=z7 bJ;clear bJ c0 c1 c2 c3 c4 N U Y c8 c9 I cq fq ff HR dT
 generalize dH.setCell ⟨B.heap.size+1,8,none⟩ (.int .u64 ((num b 28*4294967296+num b 32:Nat):Int))=W15 at aH ⊢
 have aG:=z7 aH;clear aH;obtain⟨O,bD⟩:=zN (b.length - 4);have dC:=z7 bD;have l1:O<=c:=by omega
 have l2:40<=O:=by omega
 have l3:O<=4092:=by omega
 have l4:O<b.length:=by omega
 have b1:IntKind.i64.wrap ((b.length:Int) - 4)=(O:Int):=by rw[IntKind.wrap_i64];omega
 have aI:(c=40)=False:=by simp;omega
 have aW:max (O:Int) 0=(O:Int):=by omega
 have q1:(0:Int)<=(O:Int):=by omega
 have q2:(O:Int)<=(c:Int):=by omega
 have q3:(40:Int)<=(O:Int):=by omega
 obtain⟨m,hm⟩:=zN (O - 40);have cR:((b.take O).drop 40).length=m:=by simp;omega
 have HM:=z7 hm;have a7:=z7 cR;have e7:m<=4096:=by omega
 have cY:=z7 b1;have bH:=z7 aI;have cS:=z7 aW;clear bD b1 aI aW;have PL:Hid (∀W,Below B.heap.size B W->W.cell? ⟨w.heap.size,0,none⟩=some (.slice (some ⟨bb,a6,none⟩) b.length c)):=z7 fun W hW=>(hW.cell (p:=⟨w.heap.size,0,none⟩) aU).trans p0;have bM:Hid (∀W,Below B.heap.size B W->∀cc,RdB W (.slice (some ⟨bb,a6+40,none⟩) (O - 40) cc) ((b.take O).drop 40)):=z7 fun W hW cc=>by
  have h0:=(aM.o.low hW).take O (by omega) (by omega);obtain⟨bt,cE⟩:=zN (b.take O);have e1:bt.length=O:=by rw[cE];simp;omega
  rw[<-cE]at h0 ⊢;rw[<-e1]at h0 ⊢;have h3:=h0.drop' 40 (by omega) cc;simpa[Addr.add]using h3
 clear hm cR;have cX:IntKind.i64.wrap (num b 36:Int)=(num b 36:Int):=by rw[IntKind.wrap_i64];omega
 have b1:=cY.o;have aI:=bH.o;have aW:=cS.o;refine z3k 11 96 (by kernel_rfl) (by kernel_rfl) rfl (by kernel_rfl)
  (fun D v w'=>RS B (if D 1 then 40 else 36) g4 (.slice none 0 0) w'/\(D 8=true->∃a' c',v 8= .slice a' m c'/\RdB w' (.slice a' m c') ((b.take O).drop 40)/\∀k,(Value.slice a' m c').ownBlock=some k->B.heap.size+2<=k)/\(D 9=true->D 8=true/\v 9= .agg #[v 8,.int .i64 (num b 36:Nat)])) (fun _=>undef) ⟨⟨aG.o.q,aG.o.f,aG.o.low.drew⟩,by simp,by simp⟩ ?_
 simp only[z0v];iterate 1 (refine q8.rd (e:=?_) (fun D v w' J A=>?_) ?_;rotate_left;(have hp:=PL.o _ A.1.low;clear A;go_simp;try with_reducible rfl);go_simp)
 refine q8.ca (.int .u32 (num b 36:Nat)) (fun D v w' J A=>?_) ?_
 ·have d1:D 1=false:=J.self;have d8:D 8=false:=J.post 8 _ rfl (by kernel_rfl);have d9:D 9=false:=by
   cases h:D 9 with
   | false=>rfl
   | true=>have:=(A.2.2 h).1;rw[d8]at this;cases this
  simp only[d1,Bool.false_eq_true,if_false]at A;have aB:=z7 A.1;clear A;go_simp;go_at_call 65;refine(NX.o 36 _ _ _ (by exact aB.o) (by omega)).mono ?_;rintro e aF ⟨rfl,L⟩;have m1:mark D 1 1=true:=rfl;have m8:mark D 1 8=false:=d8;have m9:mark D 1 9=false:=d9;refine⟨rfl,L,fun h=>?_,fun h=>?_⟩
  ·rw[m8]at h;cases h
  ·rw[m9]at h;cases h
 go_simp;iterate 6 (refine q8.rd (e:=?_) (fun D v w' J A=>?_) ?_;rotate_left;(have hp:=PL.o _ A.1.low;clear A;go_simp;try with_reducible rfl);go_simp)
 refine q8.re (fun D v w' J A=>?_) ?_
 ·have d8:D 8=false:=J.self;have d9:D 9=false:=J.post 9 _ rfl (by kernel_rfl);have aB:=z7 A.1;have hcut:=bM.o _ A.1.low (c - 40);have e1:O - 40=((b.take O).drop 40).length:=by rw[a7.o,HM.o]
  rw[e1]at hcut;have bN:=z7 hcut;have dA:=z7 e1;clear A hcut e1;go_simp;go_at_call 66;rw[dA.o];refine(y4q _ _ _ _ bN.o (by rw[a7.o];omega)).mono ?_;rintro e aF ⟨a',c',rfl,ho,hb⟩;have R:=z0e ho;rw[a7.o]at R ⊢;have aC:∀k,(Value.slice a' m c').ownBlock=some k->B.heap.size+2<=k:=fun k hk=>Nat.le_trans aB.o.f.lt (by rw[a7.o]at ho;exact(ho.lt k hk).1);refine⟨?_,fun _=>⟨a',c',rfl,?_,aC⟩,fun h=>?_⟩
  ·exact aB.o.to hb
  ·show Rd _ _ 1 _ _;rw[a7.o];exact R
  ·have m9:mark D 8 9=false:=d9;rw[m9]at h;cases h
 go_simp;refine q8.re (fun D v w' J A=>?_) ?_
 ·have d8:D 8=true:=J.pre 8 (by kernel_rfl);obtain⟨a0,a2,aA⟩:=A;obtain⟨a',c',h8,R,aC⟩:=a2 d8;rw[h8];have H1:=z7 a0;have a8:=z7 R;have H8:=z7 h8;have aL:=z7 aC;clear a0 a2 aA R h8 aC;go_simp;exact⟨H1.o,fun _=>⟨a',c',H8.o,a8.o,aL.o⟩,fun _=>⟨d8,congrArg (fun z=>Value.agg #[z,.int .i64 (num b 36:Nat)]) H8.o.symm⟩⟩
 go_simp;iterate 1 (refine q8.rd (e:=?_) (fun D v w' J A=>?_) ?_;rotate_left;(have hp:=PL.o _ A.1.low;clear A;go_simp;try with_reducible rfl);go_simp)
 refine q8.fin (fun v w' A=>?_);obtain⟨a0,a2,aA⟩:=A;obtain⟨a',c',h8,R,aC⟩:=a2 rfl;have h9:=(aA rfl).2;rw[h8]at h9;rw[h8,h9];have L:RS B 40 g4 (.slice none 0 0) w':=a0;obtain⟨c0,c1,c2,c3,c4,N,U,Y,c8,c9,I⟩:=L.f.cells;obtain⟨cq,fq,ff⟩:=L.qc;have HR:=z7 L;have a8:=z7 R;have aL:=z7 aC;clear a0 a2 aA R h8 h9 L b1 aI aW cX aC;go_wp2;have aZ:fieldsB b={g4 with b:=(b.take O).drop 40,n:=(num b 36:Nat)}:=by
  have e2:b.getD 2 0=y2:=by rw[<-dB.o];simp[List.getD,List.getElem?_eq_getElem (show 2<b.length by omega)]
  have dJ:b.getD 27 0=y27:=by rw[<-bR.o];simp[List.getD,List.getElem?_eq_getElem (show 27<b.length by omega)]
  have dL:((y27.toNat:Int)==1)=(y27.toNat==1):=by rw[Bool.eq_iff_iff];simp;omega
  rw[bO.o,dC.o];unfold fieldsB;rw[e2,dJ];simp only[z0W,dL]
 obtain⟨F,hF⟩:=zN (fieldsB b);rw[<-hF]at aZ;have bC:F.b=(b.take O).drop 40:=by rw[aZ]
 have cT:F.Ok:=by
  have hn:∀k,k+4<=b.length->num b k<4294967296:=fun k hk=>y1t (by simp;omega);rw[hF];exact⟨(b.getD 2 0).toNat_lt,hn 3 (by omega),hn 7 (by omega),hn 11 (by omega),hn 15 (by omega),hn 19 (by omega),hn 23 (by omega),by simp only[fieldsB];omega,by simp only[fieldsB];omega,by simp only[fieldsB];omega⟩
 have a3:=(HR.o.setF (o:=9) (v:= .slice a' m c') (g':={g4 with b:=(b.take O).drop 40}) (x':= .slice a' m c') (by rfl)).setF (o:=10) (v:= .int .i64 (num b 36:Nat)) (g':=F) (x':= .slice a' m c') (by rw[aZ];rfl);have aE:RdB ((w'.setCell ⟨B.heap.size+1,9,none⟩ (.slice a' m c')).setCell ⟨B.heap.size+1,10,none⟩ (.int .i64 (num b 36:Nat))) (.slice a' m c') F.b:=by
  refine Rd.kept ?_ fun k hk _=>(q7 (by have:=aL.o k hk;omega)).trans (q7 (by have:=aL.o k hk;omega));have h0:=a8.o;rw[<-bC]at h0;exact h0
 have dN:F.b.length=m:=by rw[bC];exact a7.o
 subst dN
 generalize ((w'.setCell ⟨B.heap.size+1,9,none⟩ (.slice a' F.b.length c')).setCell ⟨B.heap.size+1,10,none⟩ (.int .i64 (num b 36:Nat)))=W16 at a3 aE ⊢
 clear c0 c1 c2 c3 c4 N U Y c8 c9 I cq fq ff HR a8 aZ bC a7 HM bM bO aG bT NX w';have aS:RS B 40 F (.slice a' F.b.length c') W16.drew:=⟨a3.q,a3.f,a3.low.drew⟩;have aJ:=aE.low (w':=W16.drew) ((Below.refl _ _).drew);clear a3 aE;have b3:=z7 aS;have aO:=z7 aJ;have b9:=z7 cT;have b6:=z7 hF;clear aS aJ cT hF;have cA:∀W,Below B.heap.size B W->z2t W (w.heap.size+1) z0W (.slice none 0 0)/\Below w.heap.size w W/\(∀o,W.frozen? ⟨w.heap.size+1,o,none⟩=false):=fun W hW=>by
  have h:=aX.o.low hW;exact⟨h,b5.o.trans (hW.mono b5.o.size),fun o=>by simp[World.frozen?,show W.heap[w.heap.size+1]? =_ from h]⟩
 have bZ:=z7 cA;clear cA;by_cases hm:z1D F=true
 case neg=>
  have cO:z1D F=false:=by simpa using hm
  have bS:=z7 cO;clear hm cO;refine z3k 10 96 (by kernel_rfl) (by kernel_rfl) rfl (by kernel_rfl)
   (fun D v w'=>RS B 40 F (.slice a' F.b.length c') w'/\RdB w' (.slice a' F.b.length c') F.b) (fun _=>undef) ⟨b3.o,aO.o⟩ ?_
  simp only[z0v];refine q8.rd (e:=?_) (fun D v w' J A=>?_) ?_;rotate_left;· (obtain⟨c0,c1,c2,c3,c4,N,U,Y,c8,c9,I⟩:=A.1.f.cells;clear A;go_simp;try with_reducible rfl)
  go_simp;refine q8.ca (.bool false) (fun D v w' J A=>?_) ?_
  ·have aR:=z7 A.1;have a1:=z7 A.2;clear A;go_simp;go_at_call 67;refine(y3F F a' c' _ b9.o (by omega) a1.o).mono ?_;rintro e aF ⟨rfl,hb⟩;rw[bS.o];exact⟨rfl,aR.o.to hb,a1.o.low hb⟩
  go_simp;iterate 2 (refine q8.rd (e:=?_) (fun D v w' J A=>?_) ?_;rotate_left;(clear A;go_simp;try with_reducible rfl);go_simp)
  iterate 5 (refine q8.sk (fun D v w h=>h) ?_;go_simp)
  iterate 1 (refine q8.rd (e:=?_) (fun D v w' J A=>?_) ?_;rotate_left;(clear A;go_simp;try with_reducible rfl);go_simp)
  refine q8.fin (fun v w' A=>?_);obtain⟨a4,aV,dR⟩:=bZ.o w' A.1.low;obtain⟨c0,c1,c2,c3,c4,N,U,Y,c8,c9,I⟩:=a4.cells;unfold z0W at c0 c1 c2 c3 c4 N U Y c8 I;simp only at c0 c1 c2 c3 c4 N U Y c8 I;have aY:=z7 a4;have a9:=z7 aV;clear A a4 aV;have hg:goF b=z0W/\goE b=70:=by unfold goF goE y3I;rw[<-b6.o,bS.o];exact⟨rfl,rfl⟩
  have HG:=z7 hg;clear hg;go_wp2;refine bodyPost_ret (z5L _ (w.heap.size+1) 70 z0W (.slice none 0 0) _ (by simp) (by simp) (aY.o.store z0W (.slice none 0 0))) rfl ?_;show Told w (goF b) (goE b) _ _;rw[HG.o.1,HG.o.2];exact⟨none,0,rfl,RdB.nil _,z3T (w':=w') (r:=w.heap.size+1) (o:=0) a9.o (by have:=a9.o.size;omega) (by omega) (j9 z0W (.slice none 0 0)).toList,fun k hk=>by cases hk⟩
 have b7:=z7 hm;clear hm;obtain⟨q,hq⟩:=zN (z0E F==b);have HQ:=z7 hq;clear hq;refine z3k 10 96 (by kernel_rfl) (by kernel_rfl) rfl (by kernel_rfl)
  (fun D v w'=>RS B 40 F (.slice a' F.b.length c') w'/\RdB w' (.slice a' F.b.length c') F.b/\(D 5=true->∃a5 N,v 5= .slice a5 (z0E F).length N/\RdB w' (.slice a5 (z0E F).length N) (z0E F))) (fun _=>undef) ⟨b3.o,aO.o,by simp⟩ ?_
 simp only[z0v];refine q8.rd (e:=?_) (fun D v w' J A=>?_) ?_;rotate_left;· (obtain⟨c0,c1,c2,c3,c4,N,U,Y,c8,c9,I⟩:=A.1.f.cells;clear A;go_simp;try with_reducible rfl)
 go_simp;refine q8.ca (.bool true) (fun D v w' J A=>?_) ?_
 ·have aR:=z7 A.1;have a1:=z7 A.2.1;have bY:=z7 A.2.2;clear A;go_simp;go_at_call 67;refine(y3F F a' c' _ b9.o (by omega) a1.o).mono ?_;rintro e aF ⟨rfl,hb⟩;rw[b7.o];refine⟨rfl,aR.o.to hb,a1.o.low hb,fun h=>?_⟩;obtain⟨a5,N,h5,h6⟩:=bY.o h;exact⟨a5,N,h5,h6.low hb⟩
 go_simp;iterate 2 (refine q8.rd (e:=?_) (fun D v w' J A=>?_) ?_;rotate_left;(clear A;go_simp;try with_reducible rfl);go_simp)
 refine q8.rd (e:=?_) (fun D v w' J A=>?_) ?_;rotate_left;· (obtain⟨c0,c1,c2,c3,c4,N,U,Y,c8,c9,I⟩:=A.1.f.cells;clear A;go_simp;try with_reducible rfl)
 go_simp;refine q8.re (fun D v w' J A=>?_) ?_
 ·have aR:=z7 A.1;have a1:=z7 A.2.1;have bY:=z7 A.2.2;clear A;go_simp;go_at_call 69;refine(y4R F a' c' _ b9.o (by omega) a1.o).mono ?_;rintro e aF ⟨a5,N,rfl,ho,hb⟩;exact⟨aR.o.to hb,a1.o.low hb,fun _=>⟨a5,N,rfl,z0e ho⟩⟩
 go_simp;refine q8.rd (e:=?_) (fun D v w' J A=>?_) ?_;rotate_left;· (have hp:=PL.o _ A.1.low;clear A;go_simp;try with_reducible rfl)
 go_simp;refine q8.ca (.bool q) (fun D v w' J A=>?_) ?_
 ·have d5:D 5=true:=J.pre 5 (by kernel_rfl);obtain⟨a0,a2,aA⟩:=A;obtain⟨a5,N,h8,R⟩:=aA d5;rw[h8];have cD:=aM.o.low a0.low;have H1:=z7 a0;have H2:=z7 a2;have a8:=z7 R;have H8:=z7 h8;have dG:=z7 cD;clear a0 a2 aA R h8 cD;go_simp;go_at_call 68;refine(y5K _ _ (z0E F) b _ a8.o dG.o).mono ?_;rintro e aF ⟨rfl,rfl⟩;rw[<-HQ.o];exact⟨rfl,H1.o,H2.o,fun _=>⟨a5,N,by first|exact H8.o|exact⟨rfl,rfl⟩,a8.o⟩⟩
 go_simp;iterate 2 (refine q8.rd (e:=?_) (fun D v w' J A=>?_) ?_;rotate_left;(clear A;go_simp;try with_reducible rfl);go_simp)
 refine q8.fin (fun v w' A=>?_);obtain⟨a4,aV,dR⟩:=bZ.o w' A.1.low;obtain⟨c0,c1,c2,c3,c4,N,U,Y,c8,c9,I⟩:=a4.cells;unfold z0W at c0 c1 c2 c3 c4 N U Y c8 I;simp only at c0 c1 c2 c3 c4 N U Y c8 I;obtain⟨d0,d1,d2,d3,d4,d5,d6,d7,d8,d9,e6⟩:=A.1.f.cells;have aY:=z7 a4;have a9:=z7 aV;have dF:=z7 A.2.1;have e9:=a4.lt;clear A a4 aV;cases q with
 | false=>
  have hg:goF b=z0W/\goE b=70:=by unfold goF goE y3I;rw[<-b6.o,<-HQ.o,b7.o];exact⟨rfl,rfl⟩
  have HG:=z7 hg;clear hg;go_wp2;refine bodyPost_ret (z5L _ (w.heap.size+1) 70 z0W (.slice none 0 0) _ (by simp) (by simp) (aY.o.store z0W (.slice none 0 0))) rfl ?_;show Told w (goF b) (goE b) _ _;rw[HG.o.1,HG.o.2];exact⟨none,0,rfl,RdB.nil _,z3T (w':=w') (r:=w.heap.size+1) (o:=0) a9.o (by have:=a9.o.size;omega) (by omega) (j9 z0W (.slice none 0 0)).toList,fun k hk=>by cases hk⟩
 | true=>
  have hg:goF b=F/\goE b=0:=by unfold goF goE y3I;rw[<-b6.o,<-HQ.o,b7.o];exact⟨rfl,rfl⟩
  have HG:=z7 hg;clear hg;go_wp2;refine bodyPost_ret (z5L _ (w.heap.size+1) 0 F (.slice a' F.b.length c') _ (by simp) (by simp) (aY.o.store F (.slice a' F.b.length c'))) rfl ?_;show Told w (goF b) (goE b) _ _;rw[HG.o.1,HG.o.2];refine⟨a',c',rfl,?_,z3T (w':=w') (r:=w.heap.size+1) (o:=0) a9.o (by have:=a9.o.size;omega) (by omega) (j9 F (.slice a' F.b.length c')).toList,fun k hk=>by have:=aL.o k hk;have:=b5.o.size;omega⟩;have cJ:RdB (w'.setCells (w.heap.size+1) 0 (j9 F (.slice a' F.b.length c')).toList) (.slice a' F.b.length c') F.b:=
   Rd.kept dF.o fun k hk _=>z0Z (by have:=aL.o k hk;omega) _ _ _
  exact cJ

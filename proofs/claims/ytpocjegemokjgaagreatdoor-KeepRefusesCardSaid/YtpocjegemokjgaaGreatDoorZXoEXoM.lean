/-
  The walk of xor's differs.
-/
import Derived.Test.YtpocjegemokjgaaGreatDoorZXoBXoCXoD
namespace Go.Proofs.YtpocjegemokjgaaGreatDoor
open Go.Proofs.Tryz
set_option linter.all false
set_option maxRecDepth 100000
set_option maxHeartbeats 12800000
open Go.RowKit
def y8w(l:List Bool)(p e:Nat):Nat×Nat×Nat×Bool×Nat×Nat:=
 let ld:=tkN e l p 5
 let e3:=tkE e l p 5
 let p3:=tkP e p 5
 let z:=tkN e3 l p3 6+1
 let e4:=tkE e3 l p3 6
 let p4:=tkP e3 p3 6
 let e5:=if e4=0/\64<ld+z then 30 else e4
 (tkN e5 l p4 z*2^(64 - ld - z)%18446744073709551616,ld,z,true,tkP e5 p4 z,tkE e5 l p4 z)
def z6S(l:List Bool)(p lead width:Nat):Nat×Nat×Nat×Bool×Nat×Nat:=
 if z2E l p 1=0 then(0,lead,width,false,p+1,z2e l p 1)
 else
  let e1:=z2e l p 1
  let p1:=p+1
  let e2:=tkE e1 l p1 1
  let p2:=tkP e1 p1 1
  if tkN e1 l p1 1=0 then(tkN e2 l p2 width*2^(64 - lead - width)%18446744073709551616,lead,width,false,tkP e2 p2 width,tkE e2 l p2 width)
  else y8w l p2 e2
structure SwS (w0:World) (K1 K2:List (Nat×Obj)) (i:Nat) (D:Nat->Bool) (v:Nat->Value) (w':World):Prop where
 no:D i=false->Loc w0 K1 w'
 yes:D i=true->Loc w0 K2 w'
section
variable {w0 w' w'':World} {K1 K2:List (Nat×Obj)} {i:Nat} {D:Nat->Bool} {v:Nat->Value}
theorem SwS.start{w:World}(h:Loc w0 K1 w):SwS w0 K1 K2 i (fun _=>false) v w.drew:=⟨fun _=>h.drew,fun h=>by cases h⟩
theorem SwS.call(h:SwS w0 K1 K2 i D v w')(k:Nat)(A:k≠i)(hb:Below w'.heap.size w' w''):SwS w0 K1 K2 i (mark D k) v w'':=
 ⟨fun e=>by rw[q9 A]at e;exact(h.no e).call hb,fun e=>by rw[q9 A]at e;exact(h.yes e).call hb⟩
theorem SwS.turn(h:Loc w0 K2 w''):SwS w0 K1 K2 i (mark D i) v w'':=⟨fun e=>(by rw[z1L]at e;cases e),fun _=>h⟩
theorem SwS.get(h:SwS w0 K1 K2 i D v w'){j b:Nat}{o:Obj}(A:K1[j]? =some (b,o))(B:K2[j]? =some (b,o)):w'.heap[b]? =some o:=by
 cases hD:D i with
 | false=>exact(h.no hD).get j A
 | true=>exact(h.yes hD).get j B
end
theorem y1H(e p w:Nat):tkP e p w<=p+w:=by unfold tkP;split<;>omega
theorem y3z{e:Nat}(l:List Bool)(p w:Nat)(A:e<100):tkE e l p w<100:=by
 unfold tkE;split
 ·exact z5I l p w
 ·exact A
theorem z7r{R:Nat×Nat×Nat×Bool×Nat×Nat}{d ld sz B A:Nat}{fr:Bool}{q n c N:Nat}{a:Option Addr}{w0 w':World}{K:List (Nat×Obj)}{i:Nat}{x y z:Nat×Obj}(I:R=(d,ld,sz,fr,B,A))(h:Loc w0 (x::y::z::K.set i (q,z0l a n c N B A)) w'):
  Ending.returned (.tuple #[.int .u64 d,.agg #[.int .i64 ld,.int .i64 sz],.bool fr])=Ending.returned (.tuple #[.int .u64 (R.1:Nat),.agg #[.int .i64 (R.2.1:Nat),.int .i64 (R.2.2.1:Nat)],.bool R.2.2.2.1])/\
   Loc w0 (K.set i (q,z0l a n c N R.2.2.2.2.1 R.2.2.2.2.2)) w':=by
 subst I;exact⟨rfl,h.less.less.less⟩
theorem y6V(q:Nat)(a:Option Addr)(n c:Nat)(l:List Bool)(b:List UInt8)(p:Nat)(has:Bool)(prev lead width:Nat)(w0:World)(K:List (Nat×Obj))(i:Nat)(w:World)(hL:Loc w0 K w)(hi:K[i]? =some (q,z0l a n c l.length p 0))(h:z0r w0 a n c l b)(hl:l.length<=549755813888)(hp:p<=1099511626000)(bH:lead<=31/\width<=64/\lead+width<=64):
  Calls prog 173 #[.pointer (some ⟨q,0,none⟩),.agg #[.bool has,.int .u64 prev,.int .u8 lead,.int .u8 width]] w fun e w'=>
   e= .returned (.tuple #[.int .u64 ((z6S l p lead width).1:Nat),.agg #[.int .i64 ((z6S l p lead width).2.1:Nat),.int .i64 ((z6S l p lead width).2.2.1:Nat)],.bool (z6S l p lead width).2.2.2.1])/\
   Loc w0 (K.set i (q,z0l a n c l.length (z6S l p lead width).2.2.2.2.1 (z6S l p lead width).2.2.2.2.2)) w':=by
 obtain⟨N,hN⟩:=zN l.length;have a6:Hid (∀w' K' i' p' e' wd,Loc w0 K' w'->K'[i']? =some (q,z0l a n c N p' e')->p'<=1099511627000->e'<100->wd<=64->Calls prog 171 #[.pointer (some ⟨q,0,none⟩),.int .i64 (wd:Nat)] w' fun e w''=>e= .returned (.int .u64 (tkN e' l p' wd:Nat))/\Loc w0 (K'.set i' (q,z0l a n c N (tkP e' p' wd) (tkE e' l p' wd))) w''):=z7 fun w' K' i' p' e' wd bC bD cA c8 cC=>by
  have:=y8x q a n c l b p' e' wd w' (h.low bC.low) hl cA c8 cC (by rw[<-hN];exact bC.get i' bD);rw[<-hN]at this;refine this.mono ?_;rintro e w'' ⟨rfl,cB⟩;exact⟨rfl,cB w0 K' i' bC bD⟩
 rw[<-hN]at hi ⊢;have c6:=z7 (q2U has prev lead width (by omega) (by omega));have bL:=z7 ((hL.new (.cells #[.bool has,.int .u64 prev,.int .u8 lead,.int .u8 width] 96)).new' (.cells #[.int .i64 0,.int .i64 0] 285) (n:=w.heap.size+1) (by simp));have HI:=z7 hi;have cH:=a6;obtain⟨R,hR⟩:=zN (z6S l p lead width);rw[<-hR];have HR:=z7 hR;have HN:=z7 hN;clear hL hi h hl hR hN;go_enter func173,ntmps173;go_wp2_with fail;refine(c6.o _).mono ?_;rintro e w1 ⟨rfl,bZ⟩;have c5:=z7 ((bL.o.call bZ).new (.cells #[.int .i64 lead,.int .i64 width] 285));clear bZ;have l1:=bL.o.lt 0 rfl;go_wp2_with fail;refine(a6.o _ _ (i+3) p 0 1 c5.o HI.o (by omega) (by decide) (by decide)).mono ?_;rintro e w2 ⟨rfl,bO⟩;obtain⟨E1,aN⟩:=zN (z2e l p 1);obtain⟨P1,aY⟩:=zN (p+1);have aF:=z7 (show Loc w0 ((w1.heap.size,.cells #[.int .i64 lead,.int .i64 width] 285 (0,0))::(w.heap.size+1,.cells #[.int .i64 0,.int .i64 0] 285 (0,0))::(w.heap.size,.cells #[.bool has,.int .u64 prev,.int .u8 lead,.int .u8 width] 96 (0,0))::K.set i (q,z0l a n c N (p+1) (z2e l p 1))) w2 from bO);rw[<-aN,<-aY]at aF;have b9:E1<100:=by rw[aN];exact z5I l p 1
 have cJ:P1<=1099511626001:=by omega
 have bW:(K.set i (q,z0l a n c N P1 E1))[i]? =some (q,z0l a n c N P1 E1):=List.getElem?_set_self (List.getElem?_eq_some_iff.1 HI.o).1;have bJ:=z7 bW;clear bO bW;have e1:tkN 0 l p 1=z2E l p 1:=rfl;rw[e1];clear e1;obtain⟨n1,aR⟩:=zN (z2E l p 1);rw[<-aR];have cO:=z7 aR;obtain⟨L,O,U⟩:=z0i (aF.o.get 0 rfl);obtain⟨r0,r1,rf⟩:=z0i (aF.o.get 1 rfl);have l2:=aF.o.lt 0 rfl;have l3:=aF.o.lt 1 rfl;by_cases h1:n1=0
 ·have a5:Hid (R=(0,lead,width,false,P1,E1)):=z7 (by rw[HR.o,aY,aN];unfold z6S;rw[if_pos (by rw[<-aR];exact h1)]);subst h1;clear aR aN aY;go_wp2_with fail;go_region
  go_wp2;have a1:=((aF.o.set 1 rfl 0 (.int .i64 lead)).set 1 rfl 1 (.int .i64 width)).drew;refine bodyPost_ret (z6o rfl _ _ (w.heap.size+1) _ _ rfl (a1.get 1 rfl) rfl) rfl ?_;exact z7r a5.o a1
 ·have d1:((n1:Int)==0)=false:=by simp;omega
  go_wp2_with fail;refine(a6.o _ _ (i+3) P1 E1 1 aF.o bJ.o (by omega) b9 (by decide)).mono ?_;rintro e w3 ⟨rfl,bR⟩;obtain⟨E2,aW⟩:=zN (tkE E1 l P1 1);obtain⟨P2,bE⟩:=zN (tkP E1 P1 1);obtain⟨n2,bI⟩:=zN (tkN E1 l P1 1);have a9:=z7 (show Loc w0 ((w1.heap.size,.cells #[.int .i64 lead,.int .i64 width] 285 (0,0))::(w.heap.size+1,.cells #[.int .i64 0,.int .i64 0] 285 (0,0))::(w.heap.size,.cells #[.bool has,.int .u64 prev,.int .u8 lead,.int .u8 width] 96 (0,0))::(K.set i (q,z0l a n c N P1 E1)).set i (q,z0l a n c N (tkP E1 P1 1) (tkE E1 l P1 1))) w3 from bR);rw[List.set_set,<-aW,<-bE]at a9;rw[<-bI];have aX:E2<100:=by rw[aW];exact y3z l P1 1 b9
  have cL:P2<=1099511626002:=by have:=y1H E1 P1 1;omega
  have aM:Hid (R=if n2=0 then(tkN E2 l P2 width*2^(64 - lead - width)%18446744073709551616,lead,width,false,tkP E2 P2 width,tkE E2 l P2 width)else y8w l P2 E2):=z7 (by
   rw[HR.o];unfold z6S;rw[if_neg (by rw[<-aR];exact h1),bI,aW,bE,aN,aY])
  have aS:=z7 (show(K.set i (q,z0l a n c N P2 E2))[i]? =some (q,z0l a n c N P2 E2)from List.getElem?_set_self (List.getElem?_eq_some_iff.1 HI.o).1);clear aR aN aY bR bJ L O U r0 r1 rf l2 l3;obtain⟨L,O,U⟩:=z0i (a9.o.get 0 rfl);obtain⟨r0,r1,rf⟩:=z0i (a9.o.get 1 rfl);have l2:=a9.o.lt 0 rfl;have l3:=a9.o.lt 1 rfl;clear aW bE bI;by_cases h2:n2=0
  ·subst h2;have a7:=z7 (y0w lead width bH.2.2);obtain⟨D0,aI⟩:=zN (64 - lead - width);rw[<-aI]at a7 aM;obtain⟨V,hV⟩:=zN (tkN E2 l P2 width);have aZ:V<18446744073709551616:=(by rw[hV];exact y4d _ _ _ _ bH.2.1);have bM:D0<=64:=(by omega);obtain⟨X,hX⟩:=zN (V*2^D0%18446744073709551616);have bG:IntKind.u64.wrap ((V:Int)*2^D0)=(X:Int):=by
    rw[IntKind.wrap_u64,hX,show((V:Int)*2^D0)=((V*2^D0:Nat):Int) by simp];omega
   obtain⟨E3,aE⟩:=zN (tkE E2 l P2 width);obtain⟨P3,aJ⟩:=zN (tkP E2 P2 width);have a5:Hid (R=(X,lead,width,false,P3,E3)):=z7 (by rw[aM.o,if_pos rfl,hX,hV,aE,aJ]);have aG:Hid (∀w',Loc w0 ((w1.heap.size,.cells #[.int .i64 lead,.int .i64 width] 285 (0,0))::(w.heap.size+1,.cells #[.int .i64 0,.int .i64 0] 285 (0,0))::(w.heap.size,.cells #[.bool has,.int .u64 prev,.int .u8 lead,.int .u8 width] 96 (0,0))::K.set i (q,z0l a n c N P2 E2)) w'->Calls prog 171 #[.pointer (some ⟨q,0,none⟩),.int .i64 width] w' fun e w''=>e= .returned (.int .u64 (V:Nat))/\Loc w0 ((w1.heap.size,.cells #[.int .i64 lead,.int .i64 width] 285 (0,0))::(w.heap.size+1,.cells #[.int .i64 0,.int .i64 0] 285 (0,0))::(w.heap.size,.cells #[.bool has,.int .u64 prev,.int .u8 lead,.int .u8 width] 96 (0,0))::K.set i (q,z0l a n c N P3 E3)) w''):=z7 fun w' h'=>by
    refine(a6.o _ _ (i+3) P2 E2 width h' aS.o (by omega) aX bH.2.1).mono ?_;rintro e w'' ⟨rfl,aH⟩;refine⟨by rw[hV],?_⟩;have:=(show Loc w0 ((w1.heap.size,.cells #[.int .i64 lead,.int .i64 width] 285 (0,0))::(w.heap.size+1,.cells #[.int .i64 0,.int .i64 0] 285 (0,0))::(w.heap.size,.cells #[.bool has,.int .u64 prev,.int .u8 lead,.int .u8 width] 96 (0,0))::(K.set i (q,z0l a n c N P2 E2)).set i (q,z0l a n c N (tkP E2 P2 width) (tkE E2 l P2 width))) w'' from aH);rw[List.set_set,<-aE,<-aJ]at this;exact this
   clear hX hV aE aJ aM aI L O U;go_wp2_with fail;refine q6 9 58 (fun D v w'=>SwS w0 ((w1.heap.size,.cells #[.int .i64 lead,.int .i64 width] 285 (0,0))::(w.heap.size+1,.cells #[.int .i64 0,.int .i64 0] 285 (0,0))::(w.heap.size,.cells #[.bool has,.int .u64 prev,.int .u8 lead,.int .u8 width] 96 (0,0))::K.set i (q,z0l a n c N P2 E2)) ((w1.heap.size,.cells #[.int .i64 lead,.int .i64 width] 285 (0,0))::(w.heap.size+1,.cells #[.int .i64 0,.int .i64 0] 285 (0,0))::(w.heap.size,.cells #[.bool has,.int .u64 prev,.int .u8 lead,.int .u8 width] 96 (0,0))::K.set i (q,z0l a n c N P3 E3)) 3 D v w') (SwS.start a9.o) ?_;simp only[z0v];iterate 3 (refine q8.rl (e:=?_) (fun D v w h=>⟨h.no,h.yes⟩) (fun D v w' B A=>?_) ?_;rotate_left;(obtain⟨L,O,U⟩:=z0i (A.get (j:=0) rfl rfl);clear A B;go_simp;try with_reducible rfl);go_simp)
   refine q8.ca (.int .u64 (V:Nat)) (fun D v w' B A=>?_) ?_
   ·have HS:=z7 (A.no B.self);clear A B;go_simp;go_at_call 171;refine(aG.o w' HS.o).mono ?_;rintro e w'' ⟨rfl,a0⟩;exact⟨rfl,SwS.turn a0⟩
   go_simp;iterate 1 (refine q8.rl (e:=?_) (fun D v w h=>⟨h.no,h.yes⟩) (fun D v w' B A=>?_) ?_;rotate_left;(obtain⟨L,O,U⟩:=z0i (A.get (j:=0) rfl rfl);clear A B;go_simp;try with_reducible rfl);go_simp)
   refine q8.ca (.int .i64 D0) (fun D v w' B A=>?_) ?_
   ·have HS:=z7 A;clear A B;go_simp;go_at_call 158;refine(a7.o w').mono ?_;rintro e w'' ⟨rfl,a0⟩;exact⟨rfl,HS.o.call 5 (by decide) a0⟩
   go_simp;iterate 3 (refine q8.rl (e:=?_) (fun D v w h=>⟨h.no,h.yes⟩) (fun D v w' B A=>?_) ?_;rotate_left;(obtain⟨L,O,U⟩:=z0i (A.get (j:=0) rfl rfl);clear A B;go_simp;try with_reducible rfl);go_simp)
   refine q8.fin (fun v w5 A=>?_);have aA:=z7 (A.yes rfl);clear A r0 r1 rf;obtain⟨r0,r1,rf⟩:=z0i (aA.o.get 1 rfl);go_wp2;have a1:=(aA.o.set 1 rfl 0 (.int .i64 lead)).set 1 rfl 1 (.int .i64 width);refine bodyPost_ret (z6o rfl _ _ (w.heap.size+1) _ _ rfl (a1.get 1 rfl) rfl) rfl ?_;exact z7r a5.o a1
  ·have d2:((n2:Int)==0)=false:=(by simp;omega);rw[if_neg h2]at aM;clear h2;go_wp2_with fail;refine(a6.o _ _ (i+3) P2 E2 5 a9.o aS.o (by omega) aX (by decide)).mono ?_;rintro e w4 ⟨rfl,bS⟩;obtain⟨E3,aE⟩:=zN (tkE E2 l P2 5);obtain⟨P3,aJ⟩:=zN (tkP E2 P2 5);obtain⟨I,b3⟩:=zN (tkN E2 l P2 5);have aU:=z7 (show Loc w0 ((w1.heap.size,.cells #[.int .i64 lead,.int .i64 width] 285 (0,0))::(w.heap.size+1,.cells #[.int .i64 0,.int .i64 0] 285 (0,0))::(w.heap.size,.cells #[.bool has,.int .u64 prev,.int .u8 lead,.int .u8 width] 96 (0,0))::(K.set i (q,z0l a n c N P2 E2)).set i (q,z0l a n c N (tkP E2 P2 5) (tkE E2 l P2 5))) w4 from bS);rw[List.set_set,<-aE,<-aJ]at aU;rw[<-b3];have bA:E3<100:=(by rw[aE];exact y3z l P2 5 aX);have cM:P3<=1099511626010:=(by have:=y1H E2 P2 5;omega);have cI:I<32:=by rw[b3];exact z7F E2 l P2 5
   have b7:=z7 (show(K.set i (q,z0l a n c N P3 E3))[i]? =some (q,z0l a n c N P3 E3)from List.getElem?_set_self (List.getElem?_eq_some_iff.1 HI.o).1);have cE:IntKind.i64.wrap (I:Int)=(I:Int):=z0n (by omega) (by omega);have b5:=z7 b3;have b4:=z7 aE;have b6:=z7 aJ;clear bS b3 aE aJ aS L O U r0 r1 rf l2 l3;obtain⟨L,O,U⟩:=z0i (aU.o.get 0 rfl);have l2:=aU.o.lt 0 rfl;go_wp2_with fail;have b8:=z7 (show Loc w0 ((w1.heap.size,.cells #[.int .i64 I,.int .i64 width] 285 (0,0))::(w.heap.size+1,.cells #[.int .i64 0,.int .i64 0] 285 (0,0))::(w.heap.size,.cells #[.bool has,.int .u64 prev,.int .u8 lead,.int .u8 width] 96 (0,0))::K.set i (q,z0l a n c N P3 E3)) _ from aU.o.set 0 rfl 0 (.int .i64 I));refine(a6.o _ _ (i+3) P3 E3 6 b8.o b7.o (by omega) bA (by decide)).mono ?_;rintro e w5 ⟨rfl,bT⟩;obtain⟨E4,b2⟩:=zN (tkE E3 l P3 6);obtain⟨J,bF⟩:=zN (tkP E3 P3 6);obtain⟨Y,hY⟩:=zN (tkN E3 l P3 6);have aA:=z7 (show Loc w0 ((w1.heap.size,.cells #[.int .i64 I,.int .i64 width] 285 (0,0))::(w.heap.size+1,.cells #[.int .i64 0,.int .i64 0] 285 (0,0))::(w.heap.size,.cells #[.bool has,.int .u64 prev,.int .u8 lead,.int .u8 width] 96 (0,0))::(K.set i (q,z0l a n c N P3 E3)).set i (q,z0l a n c N (tkP E3 P3 6) (tkE E3 l P3 6))) w5 from bT);rw[List.set_set,<-b2,<-bF]at aA;rw[<-hY];have bN:E4<100:=(by rw[b2];exact y3z l P3 6 bA);have cN:J<=1099511626020:=(by have:=y1H E3 P3 6;omega);have c7:Y<64:=(by rw[hY];exact z7F E3 l P3 6);obtain⟨Z,hZ⟩:=zN (Y+1);have aO:Z<=64/\0<Z:=by omega
   have cF:IntKind.i64.wrap (Y:Int)=(Y:Int):=z0n (by omega) (by omega);have cG:IntKind.i64.wrap ((Y:Int)+1)=(Z:Int):=(by rw[z0n (by omega) (by omega)];omega);have aL:Hid (∀E5,E5=(if E4=0/\64<I+Z then 30 else E4)->R=(tkN E5 l J Z*2^(64 - I - Z)%18446744073709551616,I,Z,true,tkP E5 J Z,tkE E5 l J Z)):=z7 (fun E5 h5=>by
    rw[aM.o];unfold y8w;simp only;rw[<-b4.o,<-b6.o,<-b5.o,<-b2,<-bF,<-hY,<-hZ,<-h5])
   have aT:=z7 (show(K.set i (q,z0l a n c N J E4))[i]? =some (q,z0l a n c N J E4)from List.getElem?_set_self (List.getElem?_eq_some_iff.1 HI.o).1);have a7:=z7 (q1i (I:Int) (Z:Int) (by omega) (by omega) (by omega) (by omega));clear bT b2 bF hY b7 b8 aU a9 aM L O U l2 hZ b5 b4 b6;obtain⟨L,O,U⟩:=z0i (aA.o.get 0 rfl);have l2:=aA.o.lt 0 rfl;go_upto_region 8 with fail
   obtain⟨W6,bX,bU⟩:=(show Loc w0 ((w1.heap.size,.cells #[.int .i64 I,.int .i64 (Z:Nat)] 285 (0,0))::(w.heap.size+1,.cells #[.int .i64 0,.int .i64 0] 285 (0,0))::(w.heap.size,.cells #[.bool has,.int .u64 prev,.int .u8 lead,.int .u8 width] 96 (0,0))::K.set i (q,z0l a n c N J E4)) _ from aA.o.set 0 rfl 1 (.int .i64 (Z:Nat))).named;rw[<-bX];have aV:=z7 bU;clear bU bX L O U l2 aA cF cG cE c7;obtain⟨L,O,U⟩:=z0i (aV.o.get 0 rfl);obtain⟨q0,q1,q2,q3,qf⟩:=z0x (aV.o.get (i+3) aT.o);have c9:max (64 - (I:Int) - Z) 0=((64 - I - Z:Nat):Int):=(by omega);obtain⟨D0,aI⟩:=zN (64 - I - Z);rw[<-aI]at c9 aL;have bM:D0<=64:=(by omega);by_cases h4:E4=0
   ·subst h4;have cR:decide ((0:Int)=0)=true:=(by decide);by_cases h5:64<I+Z
    ·have d5:decide (64 - (I:Int) - Z<0)=true:=decide_eq_true (by omega);go_wp2_with fail;refine(a7.o _).mono ?_;rintro e w7 ⟨rfl,aD⟩;have bB:=z7 (aV.o.call aD);clear aD L O U q0 q1 q2 q3 qf;obtain⟨L,O,U⟩:=z0i (bB.o.get 0 rfl);obtain⟨q0,q1,q2,q3,qf⟩:=z0x (bB.o.get (i+3) aT.o);have aC:=z7 (aL.o 30 (by simp[h5]));go_upto_region 10 with fail
     obtain⟨W8,bY,bV⟩:=(bB.o.set (i+3) aT.o 3 (.int .u16 30)).named;rw[<-bY];have a4:=z7 (show Loc w0 ((w1.heap.size,.cells #[.int .i64 I,.int .i64 (Z:Nat)] 285 (0,0))::(w.heap.size+1,.cells #[.int .i64 0,.int .i64 0] 285 (0,0))::(w.heap.size,.cells #[.bool has,.int .u64 prev,.int .u8 lead,.int .u8 width] 96 (0,0))::(K.set i (q,z0l a n c N J 0)).set i (q,z0l a n c N J 30)) W8 from bV);rw[List.set_set]at a4;clear bV bY L O U q0 q1 q2 q3 qf;obtain⟨L,O,U⟩:=z0i (a4.o.get 0 rfl);have a8:=z7 (show(K.set i (q,z0l a n c N J 30))[i]? =some (q,z0l a n c N J 30)from List.getElem?_set_self (List.getElem?_eq_some_iff.1 HI.o).1);obtain⟨V,hV⟩:=zN (tkN 30 l J Z);have aZ:V<18446744073709551616:=(by rw[hV];exact y4d _ _ _ _ aO.1);obtain⟨X,hX⟩:=zN (V*2^D0%18446744073709551616);have bG:IntKind.u64.wrap ((V:Int)*2^D0)=(X:Int):=by
      rw[IntKind.wrap_u64,hX,show((V:Int)*2^D0)=((V*2^D0:Nat):Int) by simp];omega
     obtain⟨E6,a2⟩:=zN (tkE 30 l J Z);obtain⟨P6,a3⟩:=zN (tkP 30 J Z);have a5:Hid (R=(X,I,Z,true,P6,E6)):=z7 (by rw[aC.o,hX,hV,a2,a3]);have aG:Hid (∀w',Loc w0 ((w1.heap.size,.cells #[.int .i64 I,.int .i64 (Z:Nat)] 285 (0,0))::(w.heap.size+1,.cells #[.int .i64 0,.int .i64 0] 285 (0,0))::(w.heap.size,.cells #[.bool has,.int .u64 prev,.int .u8 lead,.int .u8 width] 96 (0,0))::K.set i (q,z0l a n c N J 30)) w'->Calls prog 171 #[.pointer (some ⟨q,0,none⟩),.int .i64 (Z:Nat)] w' fun e w''=>e= .returned (.int .u64 (V:Nat))/\Loc w0 ((w1.heap.size,.cells #[.int .i64 I,.int .i64 (Z:Nat)] 285 (0,0))::(w.heap.size+1,.cells #[.int .i64 0,.int .i64 0] 285 (0,0))::(w.heap.size,.cells #[.bool has,.int .u64 prev,.int .u8 lead,.int .u8 width] 96 (0,0))::K.set i (q,z0l a n c N P6 E6)) w''):=z7 fun w' h'=>by
      refine(a6.o _ _ (i+3) J 30 Z h' a8.o (by omega) (by decide) aO.1).mono ?_;rintro e w'' ⟨rfl,aH⟩;refine⟨by rw[hV],?_⟩;have:=(show Loc w0 ((w1.heap.size,.cells #[.int .i64 I,.int .i64 (Z:Nat)] 285 (0,0))::(w.heap.size+1,.cells #[.int .i64 0,.int .i64 0] 285 (0,0))::(w.heap.size,.cells #[.bool has,.int .u64 prev,.int .u8 lead,.int .u8 width] 96 (0,0))::(K.set i (q,z0l a n c N J 30)).set i (q,z0l a n c N (tkP 30 J Z) (tkE 30 l J Z))) w'' from aH);rw[List.set_set,<-a2,<-a3]at this;exact this
     clear hX hV a2 a3 aI L O U;refine q6 10 58 (fun D v w'=>SwS w0 ((w1.heap.size,.cells #[.int .i64 I,.int .i64 (Z:Nat)] 285 (0,0))::(w.heap.size+1,.cells #[.int .i64 0,.int .i64 0] 285 (0,0))::(w.heap.size,.cells #[.bool has,.int .u64 prev,.int .u8 lead,.int .u8 width] 96 (0,0))::K.set i (q,z0l a n c N J 30)) ((w1.heap.size,.cells #[.int .i64 I,.int .i64 (Z:Nat)] 285 (0,0))::(w.heap.size+1,.cells #[.int .i64 0,.int .i64 0] 285 (0,0))::(w.heap.size,.cells #[.bool has,.int .u64 prev,.int .u8 lead,.int .u8 width] 96 (0,0))::K.set i (q,z0l a n c N P6 E6)) 3 D v w') (SwS.start a4.o) ?_;simp only[z0v];iterate 3 (refine q8.rl (e:=?_) (fun D v w h=>⟨h.no,h.yes⟩) (fun D v w' B A=>?_) ?_;rotate_left;(obtain⟨L,O,U⟩:=z0i (A.get (j:=0) rfl rfl);clear A B;go_simp;try with_reducible rfl);go_simp)
     refine q8.ca (.int .u64 (V:Nat)) (fun D v w' B A=>?_) ?_
     ·have HS:=z7 (A.no B.self);clear A B;go_simp;go_at_call 171;refine(aG.o w' HS.o).mono ?_;rintro e w'' ⟨rfl,a0⟩;exact⟨rfl,SwS.turn a0⟩
     go_simp;iterate 1 (refine q8.rl (e:=?_) (fun D v w h=>⟨h.no,h.yes⟩) (fun D v w' B A=>?_) ?_;rotate_left;(obtain⟨L,O,U⟩:=z0i (A.get (j:=0) rfl rfl);clear A B;go_simp;try with_reducible rfl);go_simp)
     refine q8.ca (.int .i64 (64 - (I:Int) - Z)) (fun D v w' B A=>?_) ?_
     ·have HS:=z7 A;clear A B;go_simp;go_at_call 158;refine(a7.o w').mono ?_;rintro e w'' ⟨rfl,a0⟩;exact⟨rfl,HS.o.call 5 (by decide) a0⟩
     go_simp;iterate 4 (refine q8.rl (e:=?_) (fun D v w h=>⟨h.no,h.yes⟩) (fun D v w' B A=>?_) ?_;rotate_left;(obtain⟨L,O,U⟩:=z0i (A.get (j:=0) rfl rfl);clear A B;go_simp;try with_reducible rfl);go_simp)
     refine q8.fin (fun v w9 A=>?_);have aB:=z7 (A.yes rfl);clear A;obtain⟨r0,r1,rf⟩:=z0i (aB.o.get 1 rfl);go_wp2;have a1:=(aB.o.set 1 rfl 0 (.int .i64 I)).set 1 rfl 1 (.int .i64 (Z:Nat));refine bodyPost_ret (z6o rfl _ _ (w.heap.size+1) _ _ rfl (a1.get 1 rfl) rfl) rfl ?_;exact z7r a5.o a1
    ·have d5:decide (64 - (I:Int) - Z<0)=false:=decide_eq_false (by omega);go_wp2_with fail;refine(a7.o _).mono ?_;rintro e w7 ⟨rfl,aD⟩;have a4:=z7 (aV.o.call aD);clear aD L O U q0 q1 q2 q3 qf;have aC:=z7 (aL.o 0 (by rw[if_neg (by omega)]));go_upto_region 10 with fail
     obtain⟨L,O,U⟩:=z0i (a4.o.get 0 rfl);have a8:=z7 (show(K.set i (q,z0l a n c N J 0))[i]? =some (q,z0l a n c N J 0)from List.getElem?_set_self (List.getElem?_eq_some_iff.1 HI.o).1);obtain⟨V,hV⟩:=zN (tkN 0 l J Z);have aZ:V<18446744073709551616:=(by rw[hV];exact y4d _ _ _ _ aO.1);obtain⟨X,hX⟩:=zN (V*2^D0%18446744073709551616);have bG:IntKind.u64.wrap ((V:Int)*2^D0)=(X:Int):=by
      rw[IntKind.wrap_u64,hX,show((V:Int)*2^D0)=((V*2^D0:Nat):Int) by simp];omega
     obtain⟨E6,a2⟩:=zN (tkE 0 l J Z);obtain⟨P6,a3⟩:=zN (tkP 0 J Z);have a5:Hid (R=(X,I,Z,true,P6,E6)):=z7 (by rw[aC.o,hX,hV,a2,a3]);have aG:Hid (∀w',Loc w0 ((w1.heap.size,.cells #[.int .i64 I,.int .i64 (Z:Nat)] 285 (0,0))::(w.heap.size+1,.cells #[.int .i64 0,.int .i64 0] 285 (0,0))::(w.heap.size,.cells #[.bool has,.int .u64 prev,.int .u8 lead,.int .u8 width] 96 (0,0))::K.set i (q,z0l a n c N J 0)) w'->Calls prog 171 #[.pointer (some ⟨q,0,none⟩),.int .i64 (Z:Nat)] w' fun e w''=>e= .returned (.int .u64 (V:Nat))/\Loc w0 ((w1.heap.size,.cells #[.int .i64 I,.int .i64 (Z:Nat)] 285 (0,0))::(w.heap.size+1,.cells #[.int .i64 0,.int .i64 0] 285 (0,0))::(w.heap.size,.cells #[.bool has,.int .u64 prev,.int .u8 lead,.int .u8 width] 96 (0,0))::K.set i (q,z0l a n c N P6 E6)) w''):=z7 fun w' h'=>by
      refine(a6.o _ _ (i+3) J 0 Z h' a8.o (by omega) (by decide) aO.1).mono ?_;rintro e w'' ⟨rfl,aH⟩;refine⟨by rw[hV],?_⟩;have:=(show Loc w0 ((w1.heap.size,.cells #[.int .i64 I,.int .i64 (Z:Nat)] 285 (0,0))::(w.heap.size+1,.cells #[.int .i64 0,.int .i64 0] 285 (0,0))::(w.heap.size,.cells #[.bool has,.int .u64 prev,.int .u8 lead,.int .u8 width] 96 (0,0))::(K.set i (q,z0l a n c N J 0)).set i (q,z0l a n c N (tkP 0 J Z) (tkE 0 l J Z))) w'' from aH);rw[List.set_set,<-a2,<-a3]at this;exact this
     clear hX hV a2 a3 aI L O U;refine q6 10 58 (fun D v w'=>SwS w0 ((w1.heap.size,.cells #[.int .i64 I,.int .i64 (Z:Nat)] 285 (0,0))::(w.heap.size+1,.cells #[.int .i64 0,.int .i64 0] 285 (0,0))::(w.heap.size,.cells #[.bool has,.int .u64 prev,.int .u8 lead,.int .u8 width] 96 (0,0))::K.set i (q,z0l a n c N J 0)) ((w1.heap.size,.cells #[.int .i64 I,.int .i64 (Z:Nat)] 285 (0,0))::(w.heap.size+1,.cells #[.int .i64 0,.int .i64 0] 285 (0,0))::(w.heap.size,.cells #[.bool has,.int .u64 prev,.int .u8 lead,.int .u8 width] 96 (0,0))::K.set i (q,z0l a n c N P6 E6)) 3 D v w') (SwS.start a4.o) ?_;simp only[z0v];iterate 3 (refine q8.rl (e:=?_) (fun D v w h=>⟨h.no,h.yes⟩) (fun D v w' B A=>?_) ?_;rotate_left;(obtain⟨L,O,U⟩:=z0i (A.get (j:=0) rfl rfl);clear A B;go_simp;try with_reducible rfl);go_simp)
     refine q8.ca (.int .u64 (V:Nat)) (fun D v w' B A=>?_) ?_
     ·have HS:=z7 (A.no B.self);clear A B;go_simp;go_at_call 171;refine(aG.o w' HS.o).mono ?_;rintro e w'' ⟨rfl,a0⟩;exact⟨rfl,SwS.turn a0⟩
     go_simp;iterate 1 (refine q8.rl (e:=?_) (fun D v w h=>⟨h.no,h.yes⟩) (fun D v w' B A=>?_) ?_;rotate_left;(obtain⟨L,O,U⟩:=z0i (A.get (j:=0) rfl rfl);clear A B;go_simp;try with_reducible rfl);go_simp)
     refine q8.ca (.int .i64 (64 - (I:Int) - Z)) (fun D v w' B A=>?_) ?_
     ·have HS:=z7 A;clear A B;go_simp;go_at_call 158;refine(a7.o w').mono ?_;rintro e w'' ⟨rfl,a0⟩;exact⟨rfl,HS.o.call 5 (by decide) a0⟩
     go_simp;iterate 4 (refine q8.rl (e:=?_) (fun D v w h=>⟨h.no,h.yes⟩) (fun D v w' B A=>?_) ?_;rotate_left;(obtain⟨L,O,U⟩:=z0i (A.get (j:=0) rfl rfl);clear A B;go_simp;try with_reducible rfl);go_simp)
     refine q8.fin (fun v w9 A=>?_);have aB:=z7 (A.yes rfl);clear A;obtain⟨r0,r1,rf⟩:=z0i (aB.o.get 1 rfl);go_wp2;have a1:=(aB.o.set 1 rfl 0 (.int .i64 I)).set 1 rfl 1 (.int .i64 (Z:Nat));refine bodyPost_ret (z6o rfl _ _ (w.heap.size+1) _ _ rfl (a1.get 1 rfl) rfl) rfl ?_;exact z7r a5.o a1
   ·have d4:((E4:Int)==0)=false:=(by simp;omega);have aC:=z7 (aL.o E4 (by rw[if_neg (by omega)]));have a4:=aV;clear h4;go_upto_region 10 with fail
    clear L O U q0 q1 q2 q3 qf;obtain⟨L,O,U⟩:=z0i (a4.o.get 0 rfl);have a8:=z7 (show(K.set i (q,z0l a n c N J E4))[i]? =some (q,z0l a n c N J E4)from List.getElem?_set_self (List.getElem?_eq_some_iff.1 HI.o).1);obtain⟨V,hV⟩:=zN (tkN E4 l J Z);have aZ:V<18446744073709551616:=(by rw[hV];exact y4d _ _ _ _ aO.1);obtain⟨X,hX⟩:=zN (V*2^D0%18446744073709551616);have bG:IntKind.u64.wrap ((V:Int)*2^D0)=(X:Int):=by
     rw[IntKind.wrap_u64,hX,show((V:Int)*2^D0)=((V*2^D0:Nat):Int) by simp];omega
    obtain⟨E6,a2⟩:=zN (tkE E4 l J Z);obtain⟨P6,a3⟩:=zN (tkP E4 J Z);have a5:Hid (R=(X,I,Z,true,P6,E6)):=z7 (by rw[aC.o,hX,hV,a2,a3]);have aG:Hid (∀w',Loc w0 ((w1.heap.size,.cells #[.int .i64 I,.int .i64 (Z:Nat)] 285 (0,0))::(w.heap.size+1,.cells #[.int .i64 0,.int .i64 0] 285 (0,0))::(w.heap.size,.cells #[.bool has,.int .u64 prev,.int .u8 lead,.int .u8 width] 96 (0,0))::K.set i (q,z0l a n c N J E4)) w'->Calls prog 171 #[.pointer (some ⟨q,0,none⟩),.int .i64 (Z:Nat)] w' fun e w''=>e= .returned (.int .u64 (V:Nat))/\Loc w0 ((w1.heap.size,.cells #[.int .i64 I,.int .i64 (Z:Nat)] 285 (0,0))::(w.heap.size+1,.cells #[.int .i64 0,.int .i64 0] 285 (0,0))::(w.heap.size,.cells #[.bool has,.int .u64 prev,.int .u8 lead,.int .u8 width] 96 (0,0))::K.set i (q,z0l a n c N P6 E6)) w''):=z7 fun w' h'=>by
     refine(a6.o _ _ (i+3) J E4 Z h' a8.o (by omega) (by exact bN) aO.1).mono ?_;rintro e w'' ⟨rfl,aH⟩;refine⟨by rw[hV],?_⟩;have:=(show Loc w0 ((w1.heap.size,.cells #[.int .i64 I,.int .i64 (Z:Nat)] 285 (0,0))::(w.heap.size+1,.cells #[.int .i64 0,.int .i64 0] 285 (0,0))::(w.heap.size,.cells #[.bool has,.int .u64 prev,.int .u8 lead,.int .u8 width] 96 (0,0))::(K.set i (q,z0l a n c N J E4)).set i (q,z0l a n c N (tkP E4 J Z) (tkE E4 l J Z))) w'' from aH);rw[List.set_set,<-a2,<-a3]at this;exact this
    clear hX hV a2 a3 aI L O U;refine q6 10 58 (fun D v w'=>SwS w0 ((w1.heap.size,.cells #[.int .i64 I,.int .i64 (Z:Nat)] 285 (0,0))::(w.heap.size+1,.cells #[.int .i64 0,.int .i64 0] 285 (0,0))::(w.heap.size,.cells #[.bool has,.int .u64 prev,.int .u8 lead,.int .u8 width] 96 (0,0))::K.set i (q,z0l a n c N J E4)) ((w1.heap.size,.cells #[.int .i64 I,.int .i64 (Z:Nat)] 285 (0,0))::(w.heap.size+1,.cells #[.int .i64 0,.int .i64 0] 285 (0,0))::(w.heap.size,.cells #[.bool has,.int .u64 prev,.int .u8 lead,.int .u8 width] 96 (0,0))::K.set i (q,z0l a n c N P6 E6)) 3 D v w') (SwS.start a4.o) ?_;simp only[z0v];iterate 3 (refine q8.rl (e:=?_) (fun D v w h=>⟨h.no,h.yes⟩) (fun D v w' B A=>?_) ?_;rotate_left;(obtain⟨L,O,U⟩:=z0i (A.get (j:=0) rfl rfl);clear A B;go_simp;try with_reducible rfl);go_simp)
    refine q8.ca (.int .u64 (V:Nat)) (fun D v w' B A=>?_) ?_
    ·have HS:=z7 (A.no B.self);clear A B;go_simp;go_at_call 171;refine(aG.o w' HS.o).mono ?_;rintro e w'' ⟨rfl,a0⟩;exact⟨rfl,SwS.turn a0⟩
    go_simp;iterate 1 (refine q8.rl (e:=?_) (fun D v w h=>⟨h.no,h.yes⟩) (fun D v w' B A=>?_) ?_;rotate_left;(obtain⟨L,O,U⟩:=z0i (A.get (j:=0) rfl rfl);clear A B;go_simp;try with_reducible rfl);go_simp)
    refine q8.ca (.int .i64 (64 - (I:Int) - Z)) (fun D v w' B A=>?_) ?_
    ·have HS:=z7 A;clear A B;go_simp;go_at_call 158;refine(a7.o w').mono ?_;rintro e w'' ⟨rfl,a0⟩;exact⟨rfl,HS.o.call 5 (by decide) a0⟩
    go_simp;iterate 4 (refine q8.rl (e:=?_) (fun D v w h=>⟨h.no,h.yes⟩) (fun D v w' B A=>?_) ?_;rotate_left;(obtain⟨L,O,U⟩:=z0i (A.get (j:=0) rfl rfl);clear A B;go_simp;try with_reducible rfl);go_simp)
    refine q8.fin (fun v w9 A=>?_);have aB:=z7 (A.yes rfl);clear A;obtain⟨r0,r1,rf⟩:=z0i (aB.o.get 1 rfl);go_wp2;have a1:=(aB.o.set 1 rfl 0 (.int .i64 I)).set 1 rfl 1 (.int .i64 (Z:Nat));refine bodyPost_ret (z6o rfl _ _ (w.heap.size+1) _ _ rfl (a1.get 1 rfl) rfl) rfl ?_;exact z7r a5.o a1
theorem z1Y{l:List Bool}{p w:Nat}:z2e l p w=0↔p+w<=l.length:=by
 unfold z2e;split
 ·simp;assumption
 ·simp;omega
theorem z5c{l:List Bool}{p w:Nat}(h:z2e l p w=0):rdN w (l.drop p)=some (z2E l p w,l.drop (p+w)):=by
 have A:=z1Y.1 h;unfold rdN z2E;rw[if_pos (by rw[List.length_drop];omega),if_pos A,List.drop_drop]
theorem rd_not{l:List Bool}{p w:Nat}(I:p<=l.length)(h:z2e l p w≠0):rdN w (l.drop p)=none:=by
 have B:¬p+w<=l.length:=fun A=>h (z1Y.2 A);unfold rdN;rw[if_neg (by rw[List.length_drop];omega)]
theorem z8U{l:List Bool}{p:Nat}(h:p<l.length):l.drop p=l.getD p false::l.drop (p+1):=by
 rw[List.drop_eq_getElem_cons h];simp[List.getD_eq_getElem?_getD,h]
theorem y2p{v width lead:Nat}(B:v<2^width)(h:lead+width<=64):v*2^(64 - lead - width)%18446744073709551616=v*2^(64 - lead - width)/\v*2^(64 - lead - width)<18446744073709551616:=by
 have A:v*2^(64 - lead - width)<2^64:=by
  have:v*2^(64 - lead - width)<2^width*2^(64 - lead - width):=Nat.mul_lt_mul_of_pos_right B (Nat.two_pow_pos _);rw[<-Nat.pow_add]at this;exact Nat.lt_of_lt_of_le this (Nat.pow_le_pow_right (by decide) (by omega))
 exact⟨Nat.mod_eq_of_lt A,A⟩
theorem z9b{v k:Nat}:v*2^k=0↔v=0:=by
 rw[Nat.mul_eq_zero];exact⟨fun h=>h.resolve_right (Nat.ne_of_gt (Nat.two_pow_pos _)),.inl⟩
structure q5m (l:List Bool) (p:Nat) (prev lead width:Nat) (d ld sz:Nat) (fr:Bool) (p' e':Nat):Prop where
 bad:e'≠0->z3P ⟨true,prev,lead,width⟩ (l.drop p)=none
 same:e'=0->z2E l p 1=0->d=0/\fr=false/\z3P ⟨true,prev,lead,width⟩ (l.drop p)=some (prev,⟨true,prev,lead,width⟩,l.drop p')
 nought:e'=0->z2E l p 1≠0->d=0->z3P ⟨true,prev,lead,width⟩ (l.drop p)=none
 within:e'=0->z2E l p 1≠0->d≠0->fr=false->z3P ⟨true,prev,lead,width⟩ (l.drop p)=some (prev^^^d,⟨true,prev^^^d,lead,width⟩,l.drop p')
 held:e'=0->d≠0->fr=true->(z5b lead width d=true\/ld≠z3q d\/sz≠z1S d)->z3P ⟨true,prev,lead,width⟩ (l.drop p)=none
 anew:e'=0->d≠0->fr=true->z5b lead width d=false->ld=z3q d->sz=z1S d->z3P ⟨true,prev,lead,width⟩ (l.drop p)=some (prev^^^d,⟨true,prev^^^d,ld,sz⟩,l.drop p')
 le:e'=0->p'<=l.length
 lt:d<18446744073709551616/\ld<256/\sz<256/\e'<100/\p'<=p+80
 fresh:fr=true->z2E l p 1≠0
theorem q3u{l:List Bool}{p prev lead width:Nat}(a9:lead<=31/\width<=64/\lead+width<=64)(hp:p<=l.length){d ld sz p' e':Nat}{fr:Bool}(A:z6S l p lead width=(d,ld,sz,fr,p',e')):q5m l p prev lead width d ld sz fr p' e':=by
 unfold z6S at A;by_cases h1:z2E l p 1=0
 ·rw[if_pos h1]at A;simp only[Prod.mk.injEq]at A;obtain⟨rfl,rfl,rfl,rfl,rfl,rfl⟩:=A;have hx:=z8R (l:=l) (i:=p);refine⟨fun B=>?_,fun B _=>?_,fun _ h=>absurd h1 h,fun _ h=>absurd h1 h,fun _ h=>absurd rfl h,fun _ h=>absurd rfl h,fun B=>z1Y.1 B,⟨by decide,by omega,by omega,z5I _ _ _,by omega⟩,fun h=>by cases h⟩
  ·have:¬p+1<=l.length:=fun h=>B (z1Y.2 h);rw[List.drop_eq_nil_of_le (by omega)];rfl
  ·have h2:=z1Y.1 B;refine⟨rfl,rfl,?_⟩;rw[z8U (by omega)];have:l.getD p false=false:=by
    cases hb:l.getD p false with
    | false=>rfl
    | true=>rw[hb]at hx;rw[h1]at hx;simp at hx
   rw[this];rfl
 ·rw[if_neg h1]at A;have hx:=z8R (l:=l) (i:=p);have aE:p<l.length:=by
   by_cases h:p<l.length
   ·exact h
   ·exfalso;apply h1;unfold z2E;rw[if_neg (by omega)]
  have hb:l.getD p false=true:=by
   cases hb:l.getD p false with
   | true=>rfl
   | false=>rw[hb]at hx;exact absurd hx.1 h1
  have a5:z2e l p 1=0:=z1Y.2 (by omega);have a2:l.drop p=true::l.drop (p+1):=by rw[z8U aE,hb]
  simp only[a5]at A;have t1:∀q w,tkN 0 l q w=z2E l q w:=fun q w=>rfl;have t2:∀q w,tkE 0 l q w=z2e l q w:=fun q w=>rfl;have t3:∀q w,tkP 0 q w=q+w:=fun q w=>rfl;rw[t1,t2,t3]at A;have U:=z8R (l:=l) (i:=p+1);by_cases h2:z2E l (p+1) 1=0
  ·rw[if_pos h2]at A;simp only[Prod.mk.injEq]at A;obtain⟨rfl,rfl,rfl,rfl,rfl,rfl⟩:=A;have N:=z7F (z2e l (p+1) 1) l (p+1+1) width;have L:=y2p N a9.2.2;rw[L.1];have a3:tkP (z2e l (p+1) 1) (p+1+1) width<=p+80:=(by have:=y1H (z2e l (p+1) 1) (p+1+1) width;omega);have R:tkE (z2e l (p+1) 1) l (p+1+1) width<100:=y3z _ _ _ (z5I _ _ _);by_cases I:z2e l (p+1) 1=0
   ·have aA:=z1Y.1 I;have a1:l.getD (p+1) false=false:=by
     cases hb:l.getD (p+1) false with
     | false=>rfl
     | true=>rw[hb,h2]at U;simp at U
    have J:l.drop p=true::false::l.drop (p+2):=(by rw[a2,z8U (by omega),a1]);have e3:p+1+1=p+2:=rfl;simp only[I,e3,t1,t2,t3]at N L a3 R ⊢;refine⟨fun B=>?_,fun _ h=>absurd h h1,fun B _ Y=>?_,fun B _ Y _=>?_,(fun _ _ h=>by cases h),(fun _ _ h=>by cases h),fun B=>z1Y.1 B,⟨L.2,by omega,by omega,R,a3⟩,fun h=>by cases h⟩
    ·rw[J];unfold z3P;simp only[Bool.true_eq_false,if_false];rw[rd_not aA B]
    ·rw[J];unfold z3P;simp only[Bool.true_eq_false,if_false];rw[z5c B];simp only;rw[if_pos (z9b.1 Y)]
    ·rw[J];unfold z3P;simp only[Bool.true_eq_false,if_false];rw[z5c B];simp only;rw[if_neg (fun h=>Y (z9b.2 h))]
   ·have e6:tkE (z2e l (p+1) 1) l (p+1+1) width=z2e l (p+1) 1:=if_neg I;rw[e6]at R ⊢;have a0:¬p+1<l.length:=fun h=>I (z1Y.2 (by omega));have J:l.drop p= [true]:=by rw[a2,List.drop_eq_nil_of_le (by omega)]
    exact⟨fun B=>by rw[J];rfl,fun h=>absurd h I,fun h=>absurd h I,fun h=>absurd h I,fun h=>absurd h I,fun h=>absurd h I,fun h=>absurd h I,⟨L.2,by omega,by omega,R,a3⟩,fun h=>by cases h⟩
  ·rw[if_neg h2]at A;have a0:p+1<l.length:=by
    by_cases h:p+1<l.length
    ·exact h
    ·exfalso;apply h2;unfold z2E;rw[if_neg (by omega)]
   have a1:l.getD (p+1) false=true:=by
    cases hb:l.getD (p+1) false with
    | true=>rfl
    | false=>rw[hb]at U;exact absurd U.1 h2
   have J:l.drop p=true::true::l.drop (p+2):=(by rw[a2,z8U a0,a1]);have I:z2e l (p+1) 1=0:=z1Y.2 (by omega);rw[I]at A;have e3:p+1+1=p+2:=rfl;rw[e3]at A;unfold y8w at A;simp only[t1,t2,t3]at A;have a8:z2E l (p+2) 5<32:=(by have:=z7F 0 l (p+2) 5;exact this);have O:∀X,z3P ⟨true,prev,lead,width⟩ (true::true::X)=(match rdN 5 X with
    | none=>none
    | some (ld,r1)=>match rdN 6 r1 with
     | none=>none
     | some (z,r2)=>if 64<ld+(z+1)then none else match rdN (z+1) r2 with
      | none=>none
      | some (d,r3)=>
       if d=0\/z5b lead width (d*2^(64 - ld - (z+1)))=true\/ld≠z3q (d*2^(64 - ld - (z+1)))\/z+1≠z1S (d*2^(64 - ld - (z+1)))then none
       else some (prev^^^(d*2^(64 - ld - (z+1))),⟨true,prev^^^(d*2^(64 - ld - (z+1))),ld,z+1⟩,r3)):=fun X=>rfl
   by_cases he3:z2e l (p+2) 5=0
   ·simp only[he3,t1,t2,t3]at A;have aB:=z1Y.1 he3;have aF:z2E l (p+2+5) 6<64:=(by have:=z7F 0 l (p+2+5) 6;exact this);obtain⟨z,hz⟩:=zN (z2E l (p+2+5) 6);obtain⟨g,hg⟩:=zN (z2E l (p+2) 5);rw[<-hz]at A aF;rw[<-hg]at A a8;by_cases he4:z2e l (p+2+5) 6=0
    ·have aC:=z1Y.1 he4;by_cases hov:64<g+(z+1)
     ·rw[if_pos ⟨he4,hov⟩]at A;have f1:∀q w,tkN 30 l q w=0:=fun q w=>rfl;have f2:∀q w,tkE 30 l q w=30:=fun q w=>rfl;have f3:∀q w,tkP 30 q w=q:=fun q w=>rfl;rw[f1,f2,f3]at A;simp only[Prod.mk.injEq,Nat.zero_mul,Nat.zero_mod]at A;obtain⟨rfl,rfl,rfl,rfl,rfl,rfl⟩:=A;refine⟨fun _=>?_,(fun h=>by cases h),(fun h=>by cases h),(fun h=>by cases h),(fun h=>by cases h),(fun h=>by cases h),(fun h=>by cases h),⟨by decide,by omega,by omega,by decide,by omega⟩,fun _=>h1⟩;rw[J,O,z5c he3];simp only;rw[z5c he4];simp only;rw[<-hz,<-hg,if_pos hov]
     ·rw[if_neg (by omega)]at A;simp only[he4,t1,t2,t3]at A;have N:z2E l (p+2+5+6) (z+1)<2^(z+1):=z7F 0 l (p+2+5+6) (z+1);have L:=y2p N (by omega:g+(z+1)<=64);simp only[Prod.mk.injEq]at A;obtain⟨rfl,rfl,rfl,rfl,rfl,rfl⟩:=A;rw[L.1];obtain⟨v,hv⟩:=zN (z2E l (p+2+5+6) (z+1));rw[<-hv]at L N ⊢;have key:z2e l (p+2+5+6) (z+1)=0->z3P ⟨true,prev,lead,width⟩ (l.drop p)=(if v=0\/z5b lead width (v*2^(64 - g - (z+1)))=true\/g≠z3q (v*2^(64 - g - (z+1)))\/z+1≠z1S (v*2^(64 - g - (z+1)))then none
       else some (prev^^^(v*2^(64 - g - (z+1))),⟨true,prev^^^(v*2^(64 - g - (z+1))),g,z+1⟩,l.drop (p+2+5+6+(z+1)))):=fun B=>by
       rw[J,O,z5c he3];simp only;rw[z5c he4];simp only;rw[<-hz,<-hg,if_neg hov,z5c B];simp only;rw[<-hv]
      refine⟨fun B=>?_,fun _ h=>absurd h h1,fun B _ Y=>?_,(fun _ _ _ h=>by cases h),fun B Y _ hh=>?_,fun B Y _ a4 a6 a7=>?_,fun B=>z1Y.1 B,⟨L.2,by omega,by omega,z5I _ _ _,by omega⟩,fun _=>h1⟩
      ·rw[J,O,z5c he3];simp only;rw[z5c he4];simp only;rw[<-hz,<-hg,if_neg hov,rd_not aC B]
      ·rw[key B,if_pos (.inl (z9b.1 Y))]
      ·rw[key B,if_pos (.inr hh)]
      ·rw[key B,if_neg (fun h=>?_)];rcases h with h|h|h|h
       ·exact Y (z9b.2 h)
       ·rw[h]at a4;cases a4
       ·exact h a6
       ·exact h a7
    ·rw[if_neg (by omega)]at A;have f1:∀q w,tkN (z2e l (p+2+5) 6) l q w=0:=fun q w=>if_neg he4;have f2:∀q w,tkE (z2e l (p+2+5) 6) l q w=z2e l (p+2+5) 6:=fun q w=>if_neg he4;have f3:∀q w,tkP (z2e l (p+2+5) 6) q w=q:=fun q w=>if_neg he4;rw[f1,f2,f3]at A;simp only[Prod.mk.injEq,Nat.zero_mul,Nat.zero_mod]at A;obtain⟨rfl,rfl,rfl,rfl,rfl,rfl⟩:=A;refine⟨fun _=>?_,fun h=>absurd h he4,fun h=>absurd h he4,fun h=>absurd h he4,fun h=>absurd h he4,fun h=>absurd h he4,fun h=>absurd h he4,⟨by decide,by omega,by omega,z5I _ _ _,by omega⟩,fun _=>h1⟩;rw[J,O,z5c he3];simp only;rw[rd_not aB he4]
   ·have f1:∀q w,tkN (z2e l (p+2) 5) l q w=0:=fun q w=>if_neg he3;have f2:∀q w,tkE (z2e l (p+2) 5) l q w=z2e l (p+2) 5:=fun q w=>if_neg he3;have f3:∀q w,tkP (z2e l (p+2) 5) q w=q:=fun q w=>if_neg he3;simp only[f1,f2,f3]at A;rw[if_neg (by omega)]at A;simp only[f1,f2,f3,Prod.mk.injEq,Nat.zero_mul,Nat.zero_mod]at A;obtain⟨rfl,rfl,rfl,rfl,rfl,rfl⟩:=A;refine⟨fun _=>?_,fun h=>absurd h he3,fun h=>absurd h he3,fun h=>absurd h he3,fun h=>absurd h he3,fun h=>absurd h he3,fun h=>absurd h he3,⟨by decide,by omega,by omega,z5I _ _ _,by have:=y1H (z2e l (p+2) 5) (p+2) 5;omega⟩,fun _=>h1⟩;rw[J,O,rd_not (by omega) he3]

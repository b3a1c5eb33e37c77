/-
  A receiver in memory; the walks of New, Answer.
-/
import Derived.Test.YtpocjegemokjgaaGreatDoorZBkL
namespace Go.Proofs.YtpocjegemokjgaaGreatDoor
open Go.Proofs.Tryz
set_option linter.all false
set_option maxRecDepth 100000
set_option maxHeartbeats 12800000
open Go.RowKit Go.Maps
def z0z(w:World)(rb bb ep:Nat):Prop:=w.heap[rb]? =some (.cells #[.pointer (some ⟨bb,0,none⟩),.int .u32 ep] 124 (0,0))
theorem z0z.low{w w':World}{A B ep:Nat}(h:z0z w A B ep)(hb:Below w.heap.size w w'):z0z w' A B ep:=(hb.block A (Array.getElem?_eq_some_iff.1 h).1).trans h
theorem z0z.lt{w:World}{A B ep:Nat}(h:z0z w A B ep):A<w.heap.size:=(Array.getElem?_eq_some_iff.1 h).1
theorem z0z.cells{w:World}{A B ep:Nat}(h:z0z w A B ep):w.cell? ⟨A,0,none⟩=some (.pointer (some ⟨B,0,none⟩))/\w.cell? ⟨A,1,none⟩=some (.int .u32 ep)/\∀j,w.frozen? ⟨A,j,none⟩=false:=z0i h
theorem q4Z(B:Nat)(w:World):Calls prog 21 #[.pointer (some ⟨B,0,none⟩)] w fun e w'=>∃A,e= .returned (.pointer (some ⟨A,0,none⟩))/\z0z w' A B 0/\w.heap.size<=A/\Below w.heap.size w w':=by
 go_enter func21,ntmps21;go_wp2;go_ret;exact⟨w.heap.size,rfl,j8 _ _,Nat.le_refl _,q5 _ _⟩
def z5u(b:z0j)(kind ep id:Nat):Fr:=⟨kind,ep,id,(z2v (z0g b id)).1,(z2v (z0g b id)).2.1,(z2v (z0g b id)).2.2,0,false,(z8y (z0g b id) (z2v (z0g b id))).1, [],0⟩
theorem z9A(rb bb mb B ep:Nat)(E:List (Int×z0C))(b:z0j)(S:Nat->Prop)(kind id:Nat)(hid:id<4294967296)(a1:(z0g b id).done.length<=1000000000)(w:World)(h:z0q w bb mb E b B S)(aA:(z0g b id).Ok)(hr:z0z w rb bb ep):
  Calls prog 53 #[.pointer (some ⟨rb,0,none⟩),.int .u8 kind,.int .u32 id] w fun e w'=>e= .returned (frV (z5u b kind ep id) (.slice none 0 0))/\Below w.heap.size w w':=by
 have L:=z7 ((Loc.start w).new (.cells z1W 51));have H:=z7 h;have HR:=z7 hr;have hb:=aA.cur.bits;have aX:=aA.cur.len;obtain⟨⟨N,O,R⟩,a4⟩:∃e,e=z2v (z0g b id):=⟨_,rfl⟩;have U:=a4;unfold z2v at U;simp only[Prod.mk.injEq]at U;have Y:=z7 (fun w' h'=>q2G bb mb B E b S id hid a1 w' h');have a0:=z7 (fun w' h'=>y7M bb mb B E b S id hid N O R (by omega) (by omega) (by omega) a1 w' h');obtain⟨⟨SM,SE⟩,a9⟩:∃r,r=z8y (z0g b id) (N,O,R):=⟨_,rfl⟩;rw[<-a9]at a0;rw[<-a4]at Y;have aG:Hid (z5u b kind ep id=⟨kind,ep,id,N,O,R,0,false,SM, [],0⟩):=z7 (by unfold z5u;rw[<-a4,<-a9]);clear h hr aA a1 a4 U a9 hb aX;go_enter func53,ntmps53;go_upto_region 1 with fail
 refine q6 14 34 (fun D v w'=>AlS (w.alloc (.cells z1W 51)) 13 51 z1W D v w') (AlS.start _ _ _ _) ?_;simp only[z0v];iterate 11 (refine q8.rl (e:=?_) (fun D v w h=>⟨h.low,h.made⟩) (fun D v w' J A=>?_) ?_;rotate_left;(obtain⟨r0,r1,rf⟩:=((HR.o.low L.o.low).low A.low).cells;have lr:=((HR.o.low L.o.low).low A.low).lt;clear A J;go_simp;try with_reducible rfl);go_simp)
 refine q8.ca (z4z (N,O,R)) (fun D v w' J A=>?_) ?_
 ·have HZ:=z7 A;clear A J;go_simp;go_at_call 103;refine(Y.o w' ((H.o.low L.o.low).low HZ.o.low)).mono ?_;rintro e b0 ⟨rfl,hb⟩;exact⟨rfl,HZ.o.call 11 (by decide) hb⟩
 go_simp;iterate 1 (refine q8.rl (e:=?_) (fun D v w h=>⟨h.low,h.made⟩) (fun D v w' J A=>?_) ?_;rotate_left;(clear A J;go_simp;try with_reducible rfl);go_simp)
 refine q8.re (fun D v w' J A=>?_) ?_
 ·have aT:=z7 A.make;clear A J;go_simp;exact aT.o
 go_simp;refine q8.fin (fun v w5 A=>?_);obtain⟨g,hv,aZ,aJ⟩:=A.made rfl;rw[hv];have aE:=L.o.call A.low;have a8:=(z0K.of (S:=fun _=>False) aE).cons aJ (by have:=L.o.low.size;omega) (fun q hq=>by have:=L.o.lts hq;omega);have a3:=z7 a8;clear A hv aZ aJ aE a8;have aM:=z7 (z0w (a3.o.get 0 rfl) (n:=11) rfl);have aI:=z7 (z0y (a3.o.get 0 rfl));go_upto_region 2 with(refine z0f rfl 51 _ _ rfl g 0 rfl #[.int .u8 kind,.int .u32 ep,.int .u32 id,.int .u32 N,.int .u32 O,.int .u32 R,.int .u32 0,.bool false,.int .u64 0,.slice none 0 0,.int .i64 0] rfl aM.o aI.o z0B (by simp[Value.oneCell']) ?_)
 have a5:=a3.o.lay (K':= [(g,.cells #[.int .u8 kind,.int .u32 ep,.int .u32 id,.int .u32 N,.int .u32 O,.int .u32 R,.int .u32 0,.bool false,.int .u64 0,.slice none 0 0,.int .i64 0] 51 (0,0)),(w.heap.size,.cells z1W 51 (0,0))]) 0 0 [.int .u8 kind,.int .u32 ep,.int .u32 id,.int .u32 N,.int .u32 O,.int .u32 R,.int .u32 0,.bool false,.int .u64 0,.slice none 0 0,.int .i64 0] rfl rfl rfl rfl;obtain⟨w6,aN,a5⟩:=a5.named;refine z0G aN ?_;have I:=z7 a5.toLoc;clear a5 aN a3 aM aI;obtain⟨f0,f1,f2,f3,f4,f5,f6,f7,f8,f9,aV,ff⟩:=z0o (I.o.get 0 rfl);have l1:=I.o.lt 0 rfl;obtain⟨r0,r1,rf⟩:=(HR.o.low I.o.low).cells;have lr:=(HR.o.low I.o.low).lt;have aD:rb≠g:=by have:=HR.o.lt;have:=I.o.ge 0 rfl;omega
 have aF:=z7 (HR.o.low I.o.low);have H6:=z7 (H.o.low I.o.low);have aC:∀k,S k->k≠g:=fun k hk e=>by have:=(H.o.lo k hk).2;have:=I.o.ge 0 rfl;omega
 have aS:=z7 aC;clear aC f0 f1 f2 f3 f4 f5 f6 f7 f8 f9 aV ff l1 r0 r1 rf lr;refine q6 13 34 (fun D v w'=>z6f w6 g 51 #[.int .u8 kind,.int .u32 ep,.int .u32 id,.int .u32 N,.int .u32 O,.int .u32 R,.int .u32 0,.bool false,.int .u64 0,.slice none 0 0,.int .i64 0] #[.int .u8 kind,.int .u32 ep,.int .u32 id,.int .u32 N,.int .u32 O,.int .u32 R,.int .u32 0,.bool false,.int .u64 SM,.slice none 0 0,.int .i64 0] 12 D w') (z6f.start (I.o.get 0 rfl)) ?_;simp only[z0v];iterate 7 (refine q8.rl (e:=?_) (fun D v w h=>h.other _ (by decide) (Below.refl _ _)) (fun D v w' J A=>?_) ?_;rotate_left;(have aB:=(A.low.block rb aF.o.lt aD).trans aF.o;obtain⟨r0,r1,rf⟩:=z0z.cells (w:=w') aB;have lr:=z0z.lt (w:=w') aB;have lg:=A.lt;have g3:=A.cell 3 rfl rfl;have g4:=A.cell 4 rfl rfl;have g5:=A.cell 5 rfl rfl;clear aB;clear A J;go_simp;try with_reducible rfl);go_simp)
 refine q8.ca (.tuple #[.int .u64 SM,.int .u16 SE]) (fun D v w' J A=>?_) ?_
 ·have HZ:=z7 A;have aO:=z7 (H6.o.keep (fun k hk=>HZ.o.low.block k (H6.o.lo k hk).2 (aS.o k hk)) HZ.o.low.size);clear A J;go_simp;go_at_call 56;refine(a0.o w' aO.o).mono ?_;rintro e b0 ⟨rfl,hb⟩;exact⟨rfl,HZ.o.other 7 (by decide) hb⟩
 go_simp;iterate 4 (refine q8.rl (e:=?_) (fun D v w h=>h.other _ (by decide) (Below.refl _ _)) (fun D v w' J A=>?_) ?_;rotate_left;(have lg:=A.lt;clear A J;go_simp;try with_reducible rfl);go_simp)
 refine q8.ca undef (fun D v w' J A=>?_) ?_
 ·have HZ:=z7 A;have d:=z7 J.self;have lg:=A.lt;obtain⟨u8,c8⟩:=Option.isSome_iff_exists.1 (A.some rfl (j:=8) (by simp));have z8:=A.frz 8;clear A J;go_simp;exact HZ.o.set d.o 8 _ rfl
 go_simp;refine q8.fin (fun v w7 A=>?_);have aH:w7.heap[g]? =some (.cells #[.int .u8 kind,.int .u32 ep,.int .u32 id,.int .u32 N,.int .u32 O,.int .u32 R,.int .u32 0,.bool false,.int .u64 SM,.slice none 0 0,.int .i64 0] 51 (0,0)):=A.b;have aL:w.heap.size≠g:=fun e=>by have:=I.o.nodup;rw[<-e]at this;simp at this
 have a6:=(A.low.block _ (I.o.lt 1 rfl) aL).trans (I.o.get 1 rfl);have a2:Below w.heap.size w w7:=I.o.low.trans (A.low.below I.o.low.size (fun k hk=>by have:=I.o.ge 0 rfl;omega));have aR:=z7 aH;have aU:=z7 a6;have a7:=z7 a2;have aW:=z7 (z0w a6 (n:=11) rfl);have aY:=z7 (z0y a6);clear A aH a6 a2 a0 Y;go_wp2_with (first|refine z0J rfl 51 _ rfl g 0 rfl _ (z1X aR.o) z1y z0B ?_|refine z0f rfl 51 _ _ rfl w.heap.size 0 rfl #[.int .u8 kind,.int .u32 ep,.int .u32 id,.int .u32 N,.int .u32 O,.int .u32 R,.int .u32 0,.bool false,.int .u64 SM,.slice none 0 0,.int .i64 0] rfl aW.o aY.o z0B (by simp[Value.oneCell']) ?_);refine bodyPost_ret (q4G rfl rfl (z0Q _ 0 _ _ aU.o (by simp)) z1y z0B) rfl ?_;rw[aG.o];exact⟨rfl,a7.o.trans (z0t.below (z0t.setCells (S:=fun k=>k=w.heap.size) rfl _ 0 _) a7.o.size (fun k hk=>by omega))⟩
def z4x(b:z0j)(f:Fr):Nat:=
 if f.kind≠3/\z6e f=z2v (z0g b f.series)then(if(z8y (z0g b f.series) (z2v (z0g b f.series))).1≠f.sum then 2 else 0)
 else if f.chunk<(z2v (z0g b f.series)).1 then 1
 else if(z2v (z0g b f.series)).1<f.chunk then 2
 else if f.count<(z2v (z0g b f.series)).2.2 then 1
 else if f.count=(z2v (z0g b f.series)).2.2/\f.kind≠3 then 1
 else if f.kind=3 then 0 else 2
theorem q0C(rb bb mb B ep:Nat)(E:List (Int×z0C))(b:z0j)(S:Nat->Prop)(f:Fr)(a:Option Addr)(n c:Nat)(hf:f.Ok)(a2:(z0g b f.series).done.length<=1000000000)(w:World)(h:z0q w bb mb E b B S)(aA:(z0g b f.series).Ok)(hr:z0z w rb bb ep):
  Calls prog 71 #[.pointer (some ⟨rb,0,none⟩),frV f (.slice a n c)] w fun e w'=>e= .returned (.int .u8 (z4x b f:Nat))/\Below w.heap.size w w':=by
 have A:=z7 ((Loc.start w).new (.cells (j9 f (.slice a n c)) 51));have H:=z7 h;have HR:=z7 hr;have hb:=aA.cur.bits;have aM:=aA.cur.len;obtain⟨⟨DC,EB,EC⟩,a5⟩:∃e,e=z2v (z0g b f.series):=⟨_,rfl⟩;have a1:=a5;unfold z2v at a1;simp only[Prod.mk.injEq]at a1;have hid:=hf.series;have a0:=z7 (fun w' h'=>q2G bb mb B E b S f.series hid a2 w' h');have O:=z7 (fun w' h'=>y7M bb mb B E b S f.series hid DC EB EC (by omega) (by omega) (by omega) a2 w' h');obtain⟨⟨SM,SE⟩,a9⟩:∃r,r=z8y (z0g b f.series) (DC,EB,EC):=⟨_,rfl⟩;rw[<-a9]at O;rw[<-a5]at a0;have hJ:Hid (z4x b f=if f.kind≠3/\(f.chunk,f.bits,f.cnt)=(DC,EB,EC)then(if SM≠f.sum then 2 else 0)else if f.chunk<DC then 1 else if DC<f.chunk then 2 else if f.count<EC then 1 else if f.count=EC/\f.kind≠3 then 1 else if f.kind=3 then 0 else 2):=z7 (by unfold z4x z6e;rw[<-a5,<-a9]);obtain⟨J,aC⟩:=zN (z4x b f);rw[<-aC]at hJ ⊢;have aN:=hf.kind;clear h hr aA a2 a5 a1 a9 hb aM hf aC;obtain⟨kind,epoch,series,ck,pb,pc,cnt,closed,sum,fb,fn⟩:=f;unfold frV j9;unfold j9 at A;simp only at A a0 O hJ hid aN ⊢;go_enter func71,ntmps71;obtain⟨f0,f1,f2,f3,f4,f5,f6,f7,f8,f9,R,ff⟩:=z0o (A.o.get 0 rfl);go_upto_region 1 with fail
 refine q6 8 74 (fun D v w'=>AlS (w.alloc (.cells #[.int .u8 kind,.int .u32 epoch,.int .u32 series,.int .u32 ck,.int .u32 pb,.int .u32 pc,.int .u32 cnt,.bool closed,.int .u64 sum,.slice a n c,.int .i64 fn] 51)) 7 45 #[.int .u32 0,.int .u32 0,.int .u32 0] D v w') (AlS.start _ _ _ _) ?_;simp only[z0v];clear f0 f1 f2 f3 f4 f5 f6 f7 f8 f9 R ff;iterate 6 (refine q8.rl (e:=?_) (fun D v w h=>⟨h.low,h.made⟩) (fun D v w' hD I=>?_) ?_;rotate_left;(obtain⟨r0,r1,rf⟩:=((HR.o.low A.o.low).low I.low).cells;have lr:=((HR.o.low A.o.low).low I.low).lt;obtain⟨f0,f1,f2,f3,f4,f5,f6,f7,f8,f9,R,ff⟩:=z0o ((A.o.call I.low).get 0 rfl);have lf:=(A.o.call I.low).lt 0 rfl;clear I hD;go_simp;try with_reducible rfl);go_simp)
 refine q8.ca (z4z (DC,EB,EC)) (fun D v w' hD I=>?_) ?_
 ·have HZ:=z7 I;clear I hD;go_simp;go_at_call 103;refine(a0.o w' ((H.o.low A.o.low).low HZ.o.low)).mono ?_;rintro e aS ⟨rfl,hb⟩;exact⟨rfl,HZ.o.call 6 (by decide) hb⟩
 go_simp;refine q8.re (fun D v w' hD I=>?_) ?_
 ·have aL:=z7 I.make;clear I hD;go_simp;exact aL.o
 go_simp;refine q8.fin (fun v w5 I=>?_);obtain⟨g,hv,aO,aG⟩:=I.made rfl;rw[hv];have aE:=A.o.call I.low;have a7:=(z0K.of (S:=fun _=>False) aE).cons aG (by have:=A.o.low.size;omega) (fun q hq=>by have:=A.o.lts hq;omega);have a4:=z7 a7;clear I hv aO aG aE a7 a0;have aI:=z7 (z0w (a4.o.get 0 rfl) (n:=3) rfl);have aF:=z7 (z0y (a4.o.get 0 rfl));go_upto_region 2 with(refine z0f rfl 45 _ _ rfl g 0 rfl #[.int .u32 DC,.int .u32 EB,.int .u32 EC] rfl aI.o aF.o z3b (by simp[Value.oneCell']) ?_)
 have Y:=a4.o.lay (K':= [(g,.cells #[.int .u32 DC,.int .u32 EB,.int .u32 EC] 45 (0,0)),(w.heap.size,.cells #[.int .u8 kind,.int .u32 epoch,.int .u32 series,.int .u32 ck,.int .u32 pb,.int .u32 pc,.int .u32 cnt,.bool closed,.int .u64 sum,.slice a n c,.int .i64 fn] 51 (0,0))]) 0 0 [.int .u32 DC,.int .u32 EB,.int .u32 EC] rfl rfl rfl rfl;obtain⟨w6,aJ,Y⟩:=Y.named;refine z0G aJ ?_;have N:=z7 Y.toLoc;clear Y aJ a4 aI aF;obtain⟨f0,f1,f2,f3,f4,f5,f6,f7,f8,f9,R,ff⟩:=z0o (N.o.get 1 rfl);obtain⟨p0,p1,p2,pf⟩:=cells3 (N.o.get 0 rfl);have l1:=N.o.lt 1 rfl;have l0:=N.o.lt 0 rfl;have a3:=N.o.low;have U:=z7 a3;clear a3;by_cases hk:kind=3
 ·subst hk;go_wp2_with fail;all_goals (go_ret;refine⟨?_,U.o⟩;have hj:=hJ.o;clear hJ A H HR O N Y U f0 f1 f2 f3 f4 f5 f6 f7 f8 f9 R ff p0 p1 p2 pf;rw[hj];try simp only[beq_iff_eq,beq_eq_false_iff_ne,bne_iff_ne,bne_eq_false_iff_eq,ne_eq,Int.natCast_inj,Int.ofNat_inj]at*;first|(simp[*];done)|(simp_all;done)|((repeat' split)<;>omega))
 ·have aT:((kind:Int)==3)=false:=beq_false_of_ne (by omega);obtain⟨aR,a8⟩:=zN (decide ((ck,pb,pc)=(DC,EB,EC)));have HE:=z7 a8.symm;clear a8;cases aR with
  | false=>
   have aH:¬((ck,pb,pc)=(DC,EB,EC)):=of_decide_eq_false HE.o;have aB:=z7 aH;clear aH;go_wp2_with (refine z2P (by rfl) (.bool false) (z4G _ _ _ rfl (ck,pb,pc) (DC,EB,EC) rfl rfl false HE.o) ?_);all_goals (go_ret;refine⟨?_,U.o⟩;have hj:=hJ.o;rw[if_neg (fun h=>aB.o h.2)]at hj;clear aB HE hJ A H HR O N Y U f0 f1 f2 f3 f4 f5 f6 f7 f8 f9 R ff p0 p1 p2 pf;rw[hj];try simp only[beq_iff_eq,beq_eq_false_iff_ne,bne_iff_ne,bne_eq_false_iff_eq,ne_eq,Int.natCast_inj,Int.ofNat_inj]at*;first|(simp[*];done)|(simp_all;done)|((repeat' split)<;>omega))
  | true=>
   go_upto_region 4 with(refine z2P (by rfl) (.bool true) (z4G _ _ _ rfl (ck,pb,pc) (DC,EB,EC) rfl rfl true HE.o) ?_)
   clear f0 f1 f2 f3 f4 f5 f6 f7 f8 f9 R ff p0 p1 p2 pf l0 l1;refine q6 13 74 (fun D v w'=>Below w6.heap.size w6 w') (Below.refl _ _).drew ?_;simp only[z0v];iterate 7 (refine q8.rd (e:=?_) (fun D v w' hD I=>?_) ?_;rotate_left;(have L:=N.o.call I;obtain⟨f0,f1,f2,f3,f4,f5,f6,f7,f8,f9,R,ff⟩:=z0o (L.get 1 rfl);have l1:=L.lt 1 rfl;obtain⟨p0,p1,p2,pf⟩:=cells3 (L.get 0 rfl);have l0:=L.lt 0 rfl;obtain⟨r0,r1,rf⟩:=(HR.o.low L.low).cells;have lr:=(HR.o.low L.low).lt;clear L;clear I hD;go_simp;try with_reducible rfl);go_simp)
   refine q8.ca (.tuple #[.int .u64 SM,.int .u16 SE]) (fun D v w' hD I=>?_) ?_;(focus (have HZ:=z7 I;clear I hD;skip;go_simp;go_at_call 56;refine(O.o w' (H.o.low (N.o.call HZ.o).low)).mono ?_;rintro e aS ⟨rfl,hb⟩;exact⟨rfl,HZ.o.trans (hb.mono HZ.o.size)⟩));go_simp;iterate 5 (refine q8.rd (e:=?_) (fun D v w' hD I=>?_) ?_;rotate_left;(clear I hD;go_simp;try with_reducible rfl);go_simp)
   refine q8.fin (fun v w7 I=>?_);have L:=z7 (N.o.call I);obtain⟨f0,f1,f2,f3,f4,f5,f6,f7,f8,f9,R,ff⟩:=z0o (L.o.get 1 rfl);have l1:=L.o.lt 1 rfl;clear I;have a6:=z7 L.o.low;go_wp2_with fail;all_goals (go_ret;refine⟨?_,a6.o⟩;have hj:=hJ.o;rw[if_pos ⟨hk,of_decide_eq_true HE.o⟩]at hj;clear HE hJ A H HR O N L a6 Y U f0 f1 f2 f3 f4 f5 f6 f7 f8 f9 R ff;rw[hj];try simp only[beq_iff_eq,beq_eq_false_iff_ne,bne_iff_ne,bne_eq_false_iff_eq,ne_eq,Int.natCast_inj,Int.ofNat_inj]at*;first|(simp[*];done)|(simp_all;done)|((repeat' split)<;>omega))
abbrev Bs:=List UInt8
structure FsS where
 room:Int
 files:List (Bs×Bs)
 waits:List (Bs×Bs)
 left:Option Int
 halted:Bool
def z2Z(k:Bs):Lit:= .string k
def named(k:Bs):Bool:=decide (1<=k.length)&&decide (k.length<=16)
def pieces(k:Bs)(L:List (Bs×Bs)):Bs:=(L.filter fun p=>decide (p.1=k)).flatMap (·.2)
def total(L:List (Bs×Bs)):Nat:=(L.map fun p=>p.2.length).sum
def FsS.used(s:FsS):Nat:=total s.files+total s.waits
def FsS.has(s:FsS)(k:Bs):Bool:=(z0P k s.files).isSome
def FsS.get(s:FsS)(k:Bs):Bs:=(z0P k s.files).getD []++pieces k s.waits
def FsS.go(s:FsS):Bool:=decide (s.left≠some 0)
def FsS.went(s:FsS):FsS:=match s.left with
 | none=>s
 | some n=>if n=0 then {s with halted:=true}else {s with left:=some (n - 1)}
def z0Y(k:Bs)(L:List (Bs×Bs)):List (Bs×Bs):=L.filter fun p=>decide (p.1≠k)
def z6U(room:Int):FsS:=⟨room, [], [],none,false⟩
def z2a(s:FsS)(k:Bs):Int×FsS:=
 if named k=false then(1,s)else if s.has k then(81,s)else if 8<=s.files.length then(3,s)
 else(0,if s.go then {s.went with files:=z1B z2Z k [] s.files}else s.went)
def z1f(s:FsS)(k b:Bs):Int×FsS:=
 if s.has k=false then(80,s)else if b.length=0 then(0,s)else if s.room - s.used<b.length then(82,s)
 else(0,if s.go then {s.went with waits:=s.waits++ [(k,b)]}else s.went)
def z2k(s:FsS)(k:Bs):Int×FsS:=
 if s.has k=false then(80,s)else(0,if s.go then {s.went with files:=z1B z2Z k (s.get k) s.files,waits:=z0Y k s.waits}else s.went)
def z5E(s:FsS)(k:Bs)(n:Int):Int×FsS:=
 if s.has k=false then(80,s)else if n<0\/(s.get k).length<n then(1,s)
 else(0,if s.go then {s.went with files:=z1B z2Z k ((s.get k).take n.toNat) s.files,waits:=z0Y k s.waits}else s.went)
def z3c(s:FsS)(k:Bs):Int×FsS:=
 if s.has k=false then(80,s)else(0,if s.go then {s.went with files:=z2d k s.files,waits:=z0Y k s.waits}else s.went)
structure FsS.Ok (s:FsS):Prop where
 room0:0<=s.room
 room1:s.room<=1048576
 used:(s.used:Int)<=s.room
 few:s.files.length<=8
 names:∀p∈s.files,named p.1=true
 piece:∀p∈s.waits,p.2≠ []/\s.has p.1=true
 left0:∀n,s.left=some n->0<=n/\n<=9223372036854775807
theorem z5h(L R:List (Bs×Bs)):total (L++R)=total L+total R:=by simp[total]
theorem z1q(p:Bs×Bs)(L:List (Bs×Bs)):total (p::L)=p.2.length+total L:=by simp[total]
theorem y7c{L R:List (Bs×Bs)}(h:L.Perm R):total L=total R:=by
 unfold total;exact(h.map _).sum_nat
theorem z9D{κ ν:Type}(A:κ->Lit)(x:κ×ν):∀E:List (κ×ν),(mins A x E).Perm (x::E)
 | []=>List.Perm.refl _
 | y::r=>by
  unfold mins;split
  ·exact List.Perm.refl _
  ·exact((z9D A x r).cons y).trans (List.Perm.swap x y r)
theorem z6T(f:Bs×Bs->Bool)(L:List (Bs×Bs)):total (L.filter f)<=total L:=by
 induction L with
 | nil=>simp
 | cons p L ih=>
  rw[List.filter_cons];split
  ·rw[z1q,z1q];omega
  ·rw[z1q];omega
theorem z7Y(k:Bs)(L:List (Bs×Bs)):(pieces k L).length=total (L.filter fun p=>decide (p.1=k)):=by
 unfold pieces total
 induction L.filter fun p=>decide (p.1=k)with
 | nil=>rfl
 | cons p M ih=>simp[ih]
theorem y0a(k:Bs)(L:List (Bs×Bs)):total L=total (L.filter fun p=>decide (p.1=k))+total (z0Y k L):=by
 unfold z0Y
 induction L with
 | nil=>rfl
 | cons p L ih=>
  by_cases h:p.1=k
  ·rw[List.filter_cons,if_pos (by simpa using h),List.filter_cons,if_neg (by simpa using h),z1q,z1q,ih];omega
  ·rw[List.filter_cons,if_neg (by simpa using h),List.filter_cons,if_pos (by simpa using h),z1q,z1q,ih];omega
theorem y1x{k v:Bs}{L:List (Bs×Bs)}(h:z0P k L=some v):v.length+total (z2d k L)<=total L:=by
 induction L with
 | nil=>cases h
 | cons p L ih=>
  unfold z0P at h ih;unfold z2d at ih ⊢;rw[List.find?_cons]at h;rw[List.filter_cons,z1q];by_cases e:p.1=k
  ·simp only[e,decide_true,Option.map_some,Option.some.injEq]at h;subst h;rw[if_neg (by simpa using e)];have:=z6T (fun p=>decide (p.1≠k)) L;omega
  ·simp only[e,decide_false]at h;rw[if_pos (by simpa using e),z1q];have:=ih h;omega
theorem z8F(k:Bs)(L:List (Bs×Bs)):total (z2d k L)<=total L:=z6T _ L
theorem z5B(k v:Bs)(L:List (Bs×Bs)):total (z1B z2Z k v L)=v.length+total (z2d k L):=by
 unfold z1B;rw[y7c (z9D z2Z (k,v) (z2d k L)),z1q]
theorem y0c{κ ν:Type} [DecidableEq κ](k:κ)(E:List (κ×ν)):(z2d k E).length<=E.length:=List.length_filter_le _ _
theorem z7c{κ ν:Type} [DecidableEq κ](A:κ->Lit)(k:κ)(v:ν)(E:List (κ×ν)):(z1B A k v E).length<=E.length+1:=by
 unfold z1B;rw[z5T];have:=y0c k E;omega
theorem y0l{κ ν:Type} [DecidableEq κ]{k:κ}{E:List (κ×ν)}(h:(z0P k E).isSome=true):(z2d k E).length+1<=E.length:=by
 unfold z0P at h;rw[Option.isSome_map,List.find?_isSome]at h;obtain⟨p,A,B⟩:=h;unfold z2d
 induction E with
 | nil=>cases A
 | cons y r ih=>
  rw[List.filter_cons];by_cases e:y.1=k
  ·rw[if_neg (by simpa using e)];have:=List.length_filter_le (fun q:κ×ν=>decide (q.1≠k)) r;simp;simpa using this
  ·rw[if_pos (by simpa using e)];rcases List.mem_cons.1 A with rfl|A
   ·exact absurd (by simpa using B) e
   ·have:=ih A;simp at this ⊢;omega
theorem z6g{κ ν:Type} [DecidableEq κ](B:κ->Lit)(k:κ)(v:ν)(E:List (κ×ν)):z0P k (z1B B k v E)=some v:=by
 unfold z1B z0P;have:∀L:List (κ×ν),(∀p∈L,p.1≠k)->(mins B (k,v) L).find? (fun p=>decide (p.1=k))=some (k,v):=by
  intro L
  induction L with
  | nil=>intro _;simp[mins]
  | cons y r ih=>
   intro h;unfold mins;split
   ·simp
   ·rw[List.find?_cons];have:decide (y.1=k)=false:=(by simpa using h y (by simp));rw[this];exact ih fun p A=>h p (by simp[A])
 rw[this _ fun p A=>((z3g k p E).1 A).2];rfl
theorem z4e{κ ν:Type} [DecidableEq κ](I:κ->Lit){k B:κ}(A:B≠k)(v:ν)(E:List (κ×ν)):z0P B (z1B I k v E)=z0P B E:=by
 unfold z1B z0P z2d;have J:∀L:List (κ×ν),(mins I (k,v) L).find? (fun p=>decide (p.1=B))=L.find? fun p=>decide (p.1=B):=by
  intro L
  induction L with
  | nil=>simp[mins,Ne.symm A]
  | cons y r ih=>
   unfold mins;split
   ·rw[List.find?_cons];simp[Ne.symm A]
   ·rw[List.find?_cons,List.find?_cons,ih]
 rw[J]
 congr 1
 rw[List.find?_filter]
 congr 1
 funext p
 by_cases e:p.1=B
 ·simp[e,A]
 ·simp[e]
theorem y1a{κ ν:Type} [DecidableEq κ]{k A:κ}(B:A≠k)(E:List (κ×ν)):z0P A (z2d k E)=z0P A E:=by
 unfold z0P z2d
 congr 1
 rw[List.find?_filter]
 congr 1
 funext p
 by_cases e:p.1=A
 ·simp[e,B]
 ·simp[e]
theorem z6y(s:FsS)(k:Bs):(s.get k).length+total (z2d k s.files)+total (z0Y k s.waits)<=s.used:=by
 unfold FsS.get FsS.used;rw[List.length_append,z7Y];have A:=y0a k s.waits;cases h:z0P k s.files with
 | none=>
  have:=z8F k s.files;simp;omega
 | some v=>
  have:=y1x h;simp;omega
theorem y8l{κ ν μ:Type}(A:κ->Lit)(g:ν->μ)(x:κ×ν):∀E:List (κ×ν),(mins A x E).map (fun p=>(p.1,g p.2))=mins A (x.1,g x.2) (E.map fun p=>(p.1,g p.2))
 | []=>rfl
 | y::r=>by
  unfold mins;simp only[List.map_cons];split
  ·rfl
  ·rw[List.map_cons,y8l A g x r]
theorem y7R{κ ν μ:Type} [DecidableEq κ](g:ν->μ)(k:κ)(E:List (κ×ν)):(z2d k E).map (fun p=>(p.1,g p.2))=z2d k (E.map fun p=>(p.1,g p.2)):=by
 unfold z2d;rw[List.filter_map];rfl
theorem q3H{κ ν μ:Type} [DecidableEq κ](A:κ->Lit)(g:ν->μ)(k:κ)(v:ν)(E:List (κ×ν)):(z1B A k v E).map (fun p=>(p.1,g p.2))=z1B A k (g v) (E.map fun p=>(p.1,g p.2)):=by
 unfold z1B;rw[y8l,y7R]
theorem y7Q{κ ν μ:Type} [DecidableEq κ](g:ν->μ)(k:κ)(E:List (κ×ν)):z0P k (E.map fun p=>(p.1,g p.2))=(z0P k E).map g:=by
 unfold z0P;rw[List.find?_map,Option.map_map,Option.map_map];rfl
theorem FsS.Ok.went{s:FsS}(h:s.Ok):s.went.Ok:=by
 unfold FsS.went;cases hl:s.left with
 | none=>exact h
 | some n=>
  dsimp only;split
  ·exact⟨h.room0,h.room1,h.used,h.few,h.names,h.piece,by rw[<-hl];exact h.left0⟩
  ·have:=h.left0 n hl;exact⟨h.room0,h.room1,h.used,h.few,h.names,h.piece,fun m A=>by simp only[Option.some.injEq]at A;omega⟩
theorem z2Y(s:FsS):s.went.room=s.room/\s.went.files=s.files/\s.went.waits=s.waits:=by
 unfold FsS.went;cases s.left with
 | none=>exact⟨rfl,rfl,rfl⟩
 | some n=>dsimp only;split<;>exact⟨rfl,rfl,rfl⟩
theorem y0E{s:FsS}(h:s.Ok)(F W:List (Bs×Bs))(R:total F+total W<=s.used)(I:F.length<=8)(J:∀p∈F,named p.1=true)(L:∀p∈W,p.2≠ []/\(z0P p.1 F).isSome=true):({s.went with files:=F,waits:=W}:FsS).Ok:=by
 have A:=h.went;obtain⟨B,N,O⟩:=z2Y s;refine⟨A.room0,A.room1,?_,I,J,L,A.left0⟩;show((total F+total W:Nat):Int)<=s.went.room;rw[B];have:=h.used;omega
theorem z2o:(prog.underlying 84).map z7t=some true:=by kernel_rfl
theorem z0O:(prog.info? 84).map (·.size)=some 12:=by kernel_rfl
theorem y3E{w:World}{b:Nat}{x0 x1 x2 x3 x4 x5 x6 I J L A B:Value}{t:TypeId}(h:w.heap[b]? =some (.cells #[x0,x1,x2,x3,x4,x5,x6,I,J,L,A,B] t (0,0))):w.cell? ⟨b,0,none⟩=some x0/\w.cell? ⟨b,1,none⟩=some x1/\w.cell? ⟨b,2,none⟩=some x2/\w.cell? ⟨b,3,none⟩=some x3/\w.cell? ⟨b,4,none⟩=some x4/\w.cell? ⟨b,5,none⟩=some x5/\w.cell? ⟨b,6,none⟩=some x6/\w.cell? ⟨b,7,none⟩=some I/\w.cell? ⟨b,8,none⟩=some J/\w.cell? ⟨b,9,none⟩=some L/\w.cell? ⟨b,10,none⟩=some A/\w.cell? ⟨b,11,none⟩=some B/\∀j,w.frozen? ⟨b,j,none⟩=false:=by
 refine⟨?_,?_,?_,?_,?_,?_,?_,?_,?_,?_,?_,?_,?_⟩<;>simp[World.cell?,World.frozen?,h]
def z2V(f:Fr)(sl:Value):Array Value:= #[.int .u8 4,.int .u32 0,.int .u32 f.series,.int .i64 0,.int .u64 0,.int .u32 f.chunk,.int .u32 f.bits,.int .u32 f.cnt,.int .u32 f.count,.bool f.closed,sl,.int .i64 f.n]
def pcV(f:Fr)(sl:Value):Value:= .agg (z2V f sl)
def ofF(f:Fr):Fr:=⟨0,0,f.series,f.chunk,f.bits,f.cnt,f.count,f.closed,0,f.b,f.n⟩
theorem q5b{f:Fr}(h:f.Ok):(ofF f).Ok:={h with kind:=(by decide:0<256),epoch:=(by decide:0<4294967296),sum:=(by decide:0<18446744073709551616)}
theorem y4D(b:z0j)(f:Fr)(l:List Bool):z4a b (ofF f) l=z4a b f l/\takeB b (ofF f) l=takeB b f l:=⟨rfl,rfl⟩
theorem q5S(f:Fr)(a:Option Addr)(n c:Nat)(w:World):
  Calls prog 52 #[pcV f (.slice a n c)] w fun e w'=>e= .returned (frV (ofF f) (.slice a n c))/\Below w.heap.size w w':=by
 have A:=z7 (((Loc.start w).new (.cells (z2V f (.slice a n c)) 84)).new' (.cells z1W 51) (n:=w.heap.size+1) (by simp));obtain⟨kind,epoch,series,J,O,R,cnt,closed,sum,fb,fn⟩:=f;unfold frV j9 ofF pcV z2V;unfold z2V at A;simp only at A ⊢;have I:=z7 (z0w (A.o.get 0 rfl) (n:=11) rfl);have B:=z7 (z0y (A.o.get 0 rfl));obtain⟨U,f1,Y,f3,f4,f5,f6,f7,f8,f9,L,N,ff⟩:=y3E (A.o.get 1 rfl);have l1:=A.o.lt 1 rfl;go_enter func52,ntmps52;go_wp2_with (refine z0f rfl 51 _ _ rfl (w.heap.size+1) 0 rfl #[.int .u8 0,.int .u32 0,.int .u32 series,.int .u32 J,.int .u32 O,.int .u32 R,.int .u32 cnt,.bool closed,.int .u64 0,.slice a n c,.int .i64 fn] rfl I.o B.o z0B (by simp[Value.oneCell']) ?_);refine bodyPost_ret (q4G rfl rfl (z0Q _ 0 _ _ (A.o.get 0 rfl) (by simp)) z1y z0B) rfl ?_;exact⟨rfl,A.o.low.trans (z0t.below (z0t.setCells (S:=fun k=>k=w.heap.size+1) rfl _ 0 _) A.o.low.size (fun k hk=>by omega))⟩
theorem z0q.serOk{w:World}{A I B:Nat}{E:List (Int×z0C)}{b:z0j}{S:Nat->Prop}(h:z0q w A I E b B S)(id:Nat):(z0g b id).Ok:=by
 rw[h.get id];cases hm:z0P (id:Int) E with
 | none=>exact y9G
 | some X=>exact(h.each _ (z1z hm)).1.ok
theorem z3Y(b:z0j)(id:Nat)(s:z0U)(i:Nat):z0g (b.set id s) i=if i=id then s else z0g b i:=by
 unfold z0g z0j.set;simp only;split
 ·rename_i h;subst h;rw[z6g];rfl
 ·rename_i h;rw[z4e z4p (by omega)]
theorem y0P(s:z0U)(p:z0N)(cl:Bool):(z5f s p cl).done.length<=s.done.length+1:=by
 unfold z5f;split<;>simp
theorem y2O(b:z0j)(f:Fr)(l:List Bool)(h:(z0g b f.series).done.length<1000000000):(z0g (takeB b f l) f.series).done.length<=1000000000:=by
 obtain⟨p,A⟩:=zN ((z1a b (z0g b f.series) f l).2);unfold takeB;rw[z3Y,if_pos rfl,<-A];obtain⟨s,B⟩:=zN (z0g b f.series);rw[<-B]at h ⊢;exact Nat.le_trans (y0P s p f.closed) (Nat.succ_le_of_lt h)
def y3Y(rb bb mb B ep:Nat)(S:Nat->Prop)(b:z0j)(f:Fr)(l:List Bool)(w:World)(e:Ending)(w':World):Prop:=
 (z4a b f l≠0/\e= .returned (.tuple #[.slice none 0 0,.int .u16 (z4a b f l:Nat)])/\Below w.heap.size w w')\/
 (z4a b f l=0/\∃g E' S',e= .returned (.tuple #[.slice (some ⟨g,0,none⟩) 1 1,.int .u16 0])/\w'.heap[g]? =some (.cells (j9 (z5u (takeB b f l) 4 ep f.series) (.slice none 0 0)) 51 (0,0))/\w.heap.size<=g/\z0q w' bb mb E' (takeB b f l) B S'/\z0t S w w'/\∀k,S' k->S k\/w.heap.size<=k)
theorem q5O(rb bb mb B ep:Nat)(E:List (Int×z0C))(b:z0j)(S:Nat->Prop)(f:Fr)(a:Option Addr)(n c:Nat)(l:List Bool)(hf:f.Ok)(aC:f.n=(l.length:Nat))(aB:n=f.b.length)(hl:l.length<=1000000)(a0:(z0g b f.series).done.length<1000000000)(w:World)(h:z0q w bb mb E b B S)(hr:z0z w rb bb ep)(aH:¬S rb)(aF:z0r w a n c l f.b)(hT:z1u w):
  Calls prog 23 #[.pointer (some ⟨rb,0,none⟩),pcV f (.slice a n c)] w (y3Y rb bb mb B ep S b f l w):=by
 have R:=z7 ((Loc.start w).new (.cells (z2V f (.slice a n c)) 84));have H:=z7 h;have HR:=z7 hr;have aM:=z7 aH;have aI:=z7 aF;have HT:=z7 hT;have N:=z7 (fun w'=>q5S f a n c w');have O:=z7 (fun w' h1 (h2:z0r w' a n c l f.b) h3=>q3a bb mb B E b S (ofF f) a n c l (q5b hf) aC aB hl (by have h9:(z0g b f.series).done.length<1000000000:=a0;exact Nat.le_of_lt h9) w' h1 h2 h3);have hid:=hf.series;have aE:=y2O b f l a0;have L:=z7 (fun w' E' S' (h1:z0q w' bb mb E' (takeB b f l) B S') (h3:z0z w' rb bb ep)=>z9A rb bb mb B ep E' (takeB b f l) S' 4 f.series hid aE w' h1 (h1.serOk _) h3);obtain⟨er,a3⟩:=zN (z4a b f l);obtain⟨bt,a1⟩:=zN (takeB b f l);have J:=O.o;unfold y6i at J;rw[(y4D b f l).1,(y4D b f l).2,<-a3,<-a1]at J;have O:=z7 J;rw[<-a1]at L;unfold y3Y;rw[<-a3,<-a1];clear aE h hr aH aF hT hf aC aB hl a0 J a3 a1;obtain⟨o,ho⟩:=zN (ofF f);rw[<-ho]at O N;obtain⟨af,aA⟩:=zN (z5u bt 4 ep f.series);rw[<-aA]at L ⊢;obtain⟨kind,epoch,series,ck,pb,pc,cnt,closed,sum,fb,fn⟩:=f;unfold pcV z2V at N ⊢;unfold z2V at R;simp only at R N L hid ⊢;clear ho aA;obtain⟨f0,f1,f2,f3,f4,f5,f6,f7,f8,f9,a6,a7,ff⟩:=y3E (R.o.get 0 rfl);have l1:=R.o.lt 0 rfl;go_enter func23,ntmps23;go_upto_region 3 with fail
 clear f0 f1 f2 f3 f4 f5 f6 f7 f8 f9 a6 a7 ff l1;obtain⟨W,hW,hL⟩:=R.o.named;refine z0G hW ?_;have HL:=z7 hL;clear hL hW;refine q6 6 25 (fun D v w'=>Below W.heap.size W w') (Below.refl _ _).drew ?_;simp only[z0v];iterate 4 (refine q8.rd (e:=?_) (fun D v w' hD Y=>?_) ?_;rotate_left;(obtain⟨r0,r1,rf⟩:=(HR.o.low (HL.o.call Y).low).cells;have lr:=(HR.o.low (HL.o.call Y).low).lt;clear Y hD;go_simp;try with_reducible rfl);go_simp)
 refine q8.rl (pcV ⟨kind,epoch,series,ck,pb,pc,cnt,closed,sum,fb,fn⟩ (.slice a n c)) (fun D v w h=>h) (fun D v w' hD Y=>z1o _ _ rfl w.heap.size 0 rfl _ (z1X ((HL.o.call Y).get 0 rfl)) z2o z0O) ?_;go_simp;refine q8.ca (frV o (.slice a n c)) (fun D v w' hD Y=>?_) ?_;(focus (have HZ:=z7 Y;clear Y hD;unfold pcV z2V;go_simp;go_at_call 52;refine(N.o w').mono ?_;rintro e aO ⟨rfl,hb⟩;exact⟨rfl,HZ.o.trans (hb.mono HZ.o.size)⟩));go_simp;refine q8.fin (fun v w3 Y=>?_);have I:=z7 (HL.o.call Y);have h3:=z7 (H.o.low I.o.low);have b3:=z7 (aI.o.low I.o.low);have t3:=z7 (HT.o.low I.o.low);clear Y;go_wp2_with fail;refine(O.o w3 h3.o b3.o t3.o).mono ?_;rintro e w4 ⟨rfl,⟨aG,hb⟩|⟨h0,E',S',hB,hO,a8⟩⟩
 ·have d:((er:Int)==0)=false:=beq_false_of_ne (by omega);have A:=(I.o.call hb).low;have aJ:=z7 aG;have a5:=z7 A;clear aG hb A O L N;go_wp2;go_ret2;exact .inl ⟨aJ.o,rfl,a5.o⟩
 ·have d:((er:Int)==0)=true:=by rw[h0];rfl
  have U:=z7 ((z0K.of (S:=S) I.o).turn hO (fun k hk=>(H.o.lo k hk).2));have aL:=z7 (show z0z w4 rb bb ep from(U.o.old HR.o.lt aM.o).trans HR.o);have HB:=z7 hB;have aN:=z7 a8;have H0:=z7 h0;have a4:=z7 I.o.low.size;have a9:=z7 (L.o w4 E' S' hB aL.o);obtain⟨f0,f1,f2,f3,f4,f5,f6,f7,f8,f9,a6,a7,ff⟩:=y3E (U.o.get 0 rfl);have l1:=U.o.lt 0 rfl;clear h0 hB hO a8 O L N I h3 b3 t3 HL;unfold frV j9 at a9;go_wp2_with (refine a9.o.mono ?_;rintro e w5 ⟨rfl,hb⟩;have a2:=z7 hb;clear hb);go_ret2;have A:Below w4.heap.size w4 (w5.alloc (.cells (j9 af (.slice none 0 0)) 51)):=a2.o.trans ((q5 w5 _).mono a2.o.size);refine .inr ⟨H0.o,w5.heap.size,E',S',rfl,j8 _ _,Nat.le_trans U.o.low.size a2.o.size,HB.o.low A,U.o.low.trans (S':=fun _=>False) (z0t.of_below A) (fun _ h=>h.elim),fun k hk=>?_⟩;rcases aN.o k hk with h|h
  ·exact .inl h
  ·exact .inr (Nat.le_trans a4.o h)
def z3d(b:z0j)(ep:Nat)(f:Fr)(l:List Bool):Nat×Nat×Nat:=
 if f.kind<1\/3<f.kind then(1,0,ep)
 else if f.epoch<ep then(170,0,ep)
 else if z4x b f=1 then(0,4,f.epoch)
 else if z4x b f=2 then(0,5,f.epoch)
 else if ¬(f.cnt<f.count/\0<l.length/\f.b.length<=500)\/z4a b f l≠0 then(171,0,f.epoch)else(0,0,f.epoch)
abbrev z1b:Array Value:= #[.int .u8 0,.int .u32 0,.int .u32 0,.int .i64 0,.int .u64 0,.int .u32 0,.int .u32 0,.int .u32 0,.int .u32 0,.bool false,.slice none 0 0,.int .i64 0]
def y1l(rb bb:Nat)(b:z0j)(f:Fr)(sl:Value)(r:Nat×Nat×Nat)(w:World)(e:Ending)(w':World):Prop:=
 z0t (fun k=>k=rb) w w'/\z0z w' rb bb r.2.2/\
 ((r.1≠0/\e= .returned (.tuple #[.agg z1b,.bool false,.slice none 0 0,.int .u16 (r.1:Nat)]))\/
  (r.1=0/\r.2.1≠0/\∃g,e= .returned (.tuple #[.agg z1b,.bool false,.slice (some ⟨g,0,none⟩) 1 1,.int .u16 0])/\w'.heap[g]? =some (.cells (j9 (z5u b r.2.1 f.epoch f.series) (.slice none 0 0)) 51 (0,0))/\w.heap.size<=g)\/
  (r.1=0/\r.2.1=0/\e= .returned (.tuple #[pcV f sl,.bool true,.slice none 0 0,.int .u16 0])))
theorem y6b(b:z0j)(f:Fr):z4x b f=0\/z4x b f=1\/z4x b f=2:=by
 unfold z4x
 repeat' split
 all_goals simp
theorem z0K.mono{S S':Nat->Prop}{w0 w:World}{K:List (Nat×Obj)}(h:z0K S w0 K w)(B:∀k,S k->S' k):z0K S' w0 K w:=⟨h.low.mono (fun i A=> .inl (B i A)),h.blk,h.nodup⟩
theorem q4r(rb bb mb B ep:Nat)(E:List (Int×z0C))(b:z0j)(S:Nat->Prop)(f:Fr)(a:Option Addr)(n c:Nat)(l:List Bool)(hf:f.Ok)(b0:f.n=(l.length:Nat))(aL:n=f.b.length)(hl:l.length<=1000000)(a8:(z0g b f.series).done.length<=1000000000)(b1:f.kind≠1)(w:World)(h:z0q w bb mb E b B S)(hr:z0z w rb bb ep)(b9:¬S rb)(bF:z0r w a n c l f.b)(hT:z1u w)(b6:∀w',z0t (fun k=>k=rb) w w'->z1u w')(bA:∀w',z0t (fun k=>k=rb) w w'->z0r w' a n c l f.b):
  Calls prog 30 #[.pointer (some ⟨rb,0,none⟩),frV f (.slice a n c)] w (y1l rb bb b f (.slice a n c) (z3d b ep f l) w):=by
 have U:=z7 ((((z0K.start (fun _=>False) w).new (.cells (j9 f (.slice a n c)) 51)).new' (.cells z1b 84) (n:=w.heap.size+1) (by simp)));have a5:=hr.lt;have H:=z7 (fun w' (ho:z0t (fun k=>k=rb) w w')=>h.only ho (fun k hk e=>by subst e;exact b9 hk));have HR:=z7 hr;have aS:=z7 bA;have HT:=z7 b6;have b3:=h.serOk f.series;have HJ:=z7 (fun w' h1 h3=>q0C rb bb mb B f.epoch E b S f a n c hf a8 w' h1 b3 h3);have aR:=z7 (fun k w' h1 h3=>z9A rb bb mb B f.epoch E b S k f.series hf.series a8 w' h1 b3 h3);have aB:=z7 (fun w' (h1:z0r w' a n c l f.b)=>q2g f.series f.chunk f.bits f.cnt f.count f.closed a n c l f.b w' h1 (by omega));have a3:=z7 (fun w' h1 (h2:z0r w' a n c l f.b) h3=>q3q bb mb B E b S f a n c l hf b0 aL hl a8 w' h1 h2 h3);have b7:=y6b b f;obtain⟨J,hJ⟩:=zN (z4x b f);obtain⟨tE,b4⟩:=zN (z4a b f l);obtain⟨R,hR⟩:=zN (z3d b ep f l);have aG:=hR;unfold z3d at aG;rw[<-hJ,<-b4,<-aL]at aG;have bE:=hf.kind;have bC:=hf.epoch;have aU:=HJ.o;have aT:=a3.o;rw[<-hJ]at aU b7;rw[<-b4]at aT;have HJ:=z7 aU;have a3:=z7 aT;rw[<-hR];have b2:=aL;clear aU aT h hr b9 bF hT b6 bA b3 hf aL hl a8 hJ hR b4;obtain⟨M,hM⟩:=zN (decide (f.cnt<f.count/\0<l.length/\n<=500));rw[<-hM]at aB;obtain⟨kind,epoch,series,ck,pb,pc,cnt,closed,sum,fb,fn⟩:=f;simp only at b0;subst b0
 have aN:∀x,pcV ⟨kind,epoch,series,ck,pb,pc,cnt,closed,sum,fb,(l.length:Nat)⟩ x= .agg #[.int .u8 4,.int .u32 0,.int .u32 series,.int .i64 0,.int .u64 0,.int .u32 ck,.int .u32 pb,.int .u32 pc,.int .u32 cnt,.bool closed,x,.int .i64 (l.length:Nat)]:=fun _=>rfl;unfold y1l;rw[aN];unfold frV j9 at HJ a3 ⊢;unfold j9 at U;simp only at U HJ aR aB a3 aS aG bE bC b1 b2 hM ⊢;have aC:=z7 aG;have HM:=z7 hM;have bH:=z7 b2;clear aG aN b2 hM;obtain⟨f0,f1,f2,f3,f4,f5,f6,f7,f8,f9,a0,ff⟩:=z0o (U.o.get 1 rfl);have l1:=U.o.lt 1 rfl;have l0:=U.o.lt 0 rfl;have hs:=z7 (z0w (U.o.get 0 rfl) (n:=12) rfl);have hz:=z7 (z0y (U.o.get 0 rfl));go_enter func30,ntmps30;by_cases hk0:kind<1\/3<kind
 ·have O:Hid (R=(1,0,ep)):=z7 (by rw[aC.o,if_pos hk0]);go_wp2_with (refine z0f rfl 84 _ _ rfl (w.heap.size+1) 0 rfl z1b rfl hs.o hz.o z0O (by simp[Value.oneCell']) ?_);all_goals (have L:=U.o.lay (K':= [(w.heap.size+1,.cells z1b 84 (0,0)),(w.heap.size,.cells #[.int .u8 kind,.int .u32 epoch,.int .u32 series,.int .u32 ck,.int .u32 pb,.int .u32 pc,.int .u32 cnt,.bool closed,.int .u64 sum,.slice a n c,.int .i64 (l.length:Nat)] 51 (0,0))]) 0 0 (z1b:Array Value).toList rfl rfl rfl rfl;have I:=z7 L;clear L;refine bodyPost_ret (z4k rfl rfl (I.o.get 0 rfl) z2o z0O) rfl ?_;rw[O.o];exact⟨I.o.low.mono (fun _ h=>h.elim),(I.o.old a5 id).trans HR.o,.inl ⟨by simp,rfl⟩⟩)
 ·have d1:decide ((kind:Int)<1)=false:=decide_eq_false (by omega);have d2:decide (3<(kind:Int))=false:=decide_eq_false (by omega);go_upto_region 4 with fail
  obtain⟨W,hW,hL⟩:=U.o.named;refine z0G hW ?_;have HL:=z7 hL;clear hL hW hs hz f0 f1 f2 f3 f4 f5 f6 f7 f8 f9 a0 ff l1 l0;refine q6 8 81 (fun D v w'=>Below W.heap.size W w') (Below.refl _ _).drew ?_;simp only[z0v];iterate 8 (refine q8.rd (e:=?_) (fun D v w' hD N=>?_) ?_;rotate_left;(have aI:=HL.o.call N;obtain⟨f0,f1,f2,f3,f4,f5,f6,f7,f8,f9,a0,ff⟩:=z0o (aI.get 1 rfl);have l1:=aI.lt 1 rfl;have a7:z0z w' rb bb ep:=(aI.old a5 id).trans HR.o;obtain⟨r0,r1,rf⟩:=a7.cells;have lr:=a7.lt;clear a7 aI;clear N hD;go_simp;try with_reducible rfl);go_simp)
  refine q8.fin (fun v w1 N=>?_);have a4:=z7 (HL.o.call N);clear N;by_cases he:epoch<ep
  ·have O:Hid (R=(170,0,ep)):=z7 (by rw[aC.o,if_neg hk0,if_pos he]);have d4:decide ((epoch:Int)<(ep:Int))=true:=decide_eq_true (by omega);have hs:=z7 (z0w (a4.o.get 0 rfl) (n:=12) rfl);have hz:=z7 (z0y (a4.o.get 0 rfl));go_wp2_with (refine z0f rfl 84 _ _ rfl (w.heap.size+1) 0 rfl z1b rfl hs.o hz.o z0O (by simp[Value.oneCell']) ?_);have L:=a4.o.lay (K':= [(w.heap.size+1,.cells z1b 84 (0,0)),(w.heap.size,.cells #[.int .u8 kind,.int .u32 epoch,.int .u32 series,.int .u32 ck,.int .u32 pb,.int .u32 pc,.int .u32 cnt,.bool closed,.int .u64 sum,.slice a n c,.int .i64 (l.length:Nat)] 51 (0,0))]) 0 0 (z1b:Array Value).toList rfl rfl rfl rfl;have I:=z7 L;clear L;refine bodyPost_ret (z4k rfl rfl (I.o.get 0 rfl) z2o z0O) rfl ?_;rw[O.o];exact⟨I.o.low.mono (fun _ h=>h.elim),(I.o.old a5 id).trans HR.o,.inl ⟨by simp,rfl⟩⟩
  ·have d4:decide ((epoch:Int)<(ep:Int))=false:=decide_eq_false (by omega);have d3:((kind:Int)==1)=false:=beq_false_of_ne (by omega);obtain⟨f0,f1,f2,f3,f4,f5,f6,f7,f8,f9,a0,ff⟩:=z0o (a4.o.get 1 rfl);have l1:=a4.o.lt 1 rfl;have aM:z0z w1 rb bb ep:=(a4.o.old a5 id).trans HR.o;obtain⟨r0,r1,rf⟩:=aM.cells;have lr:=aM.lt;go_upto_region 7 with fail
   have aY:=(a4.o.mono (S':=fun k=>k=rb) (fun _ h=>h.elim)).put 1 (.int .u32 epoch) rfl a5;have aD:z0z (w1.setCell ⟨rb,1,none⟩ (.int .u32 epoch)) rb bb epoch:=z0a aM 1 (.int .u32 epoch);obtain⟨w2,b5⟩:=zN (w1.setCell ⟨rb,1,none⟩ (.int .u32 epoch));refine z0G b5 ?_;rw[<-b5]at aY aD;have aA:=z7 aY;have aV:=z7 aD;clear aY aD b5 aM r0 r1 rf lr f0 f1 f2 f3 f4 f5 f6 f7 f8 f9 a0 ff l1 HL a4 U;obtain⟨f0,f1,f2,f3,f4,f5,f6,f7,f8,f9,a0,ff⟩:=z0o (aA.o.get 1 rfl);have l1:=aA.o.lt 1 rfl;have a9:=z7 (fun w' (hb:Below w2.heap.size w2 w')=>aV.o.low hb);go_wp2_with (refine z0J rfl 51 _ rfl w.heap.size 0 rfl _ (z1X (aA.o.get 1 rfl)) z1y z0B ?_);refine(HJ.o w2 (H.o w2 aA.o.low) aV.o).mono ?_;rintro e w3 ⟨rfl,hb⟩;have Y:=z7 (aA.o.call hb);have a9:=z7 (aV.o.low hb);clear hb f0 f1 f2 f3 f4 f5 f6 f7 f8 f9 a0 ff l1;obtain⟨f0,f1,f2,f3,f4,f5,f6,f7,f8,f9,a0,ff⟩:=z0o (Y.o.get 1 rfl);have l1:=Y.o.lt 1 rfl;have l0:=Y.o.lt 0 rfl;have bI:¬(kind<1\/3<kind):=hk0;rcases b7 with rfl|rfl|rfl
   ·have O:Hid (R=if ¬(pc<cnt/\0<l.length/\n<=500)\/tE≠0 then(171,0,epoch)else(0,0,epoch)):=z7 (by rw[aC.o,if_neg hk0,if_neg he,if_neg (by omega),if_neg (by omega)]);go_upto_region 15 with fail
    obtain⟨W4,aW,aZ⟩:=(Y.o.new (.cells #[.int .u8 4,.int .u32 0,.int .u32 series,.int .i64 0,.int .u64 0,.int .u32 ck,.int .u32 pb,.int .u32 pc,.int .u32 cnt,.bool closed,.slice a n c,.int .i64 (l.length:Nat)] 84)).named;refine z0G aW ?_;have aJ:=z7 (show z0z W4 rb bb epoch from by rw[aW];exact a9.o.low (q5 _ _));obtain⟨p8,b8⟩:=zN w3.heap.size;rw[<-b8]at aZ ⊢;have a1:=z7 aZ;clear aZ aW b8 f0 f1 f2 f3 f4 f5 f6 f7 f8 f9 a0 ff l1 l0;refine q6 12 81 (fun D v w'=>Below W4.heap.size W4 w') (Below.refl _ _).drew ?_;simp only[z0v];refine q8.rl (.agg #[.int .u8 4,.int .u32 0,.int .u32 series,.int .i64 0,.int .u64 0,.int .u32 ck,.int .u32 pb,.int .u32 pc,.int .u32 cnt,.bool closed,.slice a n c,.int .i64 (l.length:Nat)]) (fun D v w h=>h) (fun D v w' hD N=>z1o _ _ rfl p8 0 rfl _ (z1X ((a1.o.call N).get 0 rfl)) z2o z0O) ?_;go_simp;refine q8.ca (.bool M) (fun D v w' hD N=>?_) ?_;(focus (have HZ:=z7 N;clear N hD;skip;go_simp;go_at_call 50;refine(aB.o w' (aS.o w' (a1.o.call HZ.o).low)).mono ?_;rintro e bG ⟨rfl,hb⟩;exact⟨rfl,HZ.o.trans (hb.mono HZ.o.size)⟩));go_simp;cases M with
    | false=>
     have aH:Hid (R=(171,0,epoch)):=z7 (by rw[O.o,if_pos (.inl (of_decide_eq_false HM.o.symm))]);iterate 2 (refine q8.rd (e:=?_) (fun D v w' hD N=>?_) ?_;rotate_left;(clear N hD;go_simp;try with_reducible rfl);go_simp)
     iterate 7 (refine q8.sk (fun D v w h=>h) ?_;go_simp)
     iterate 1 (refine q8.rd (e:=?_) (fun D v w' hD N=>?_) ?_;rotate_left;(clear N hD;go_simp;try with_reducible rfl);go_simp)
     refine q8.fin (fun v w5 N=>?_);have A:=z7 (a1.o.call N);have a2:=z7 (aJ.o.low N);clear N;have hs:=z7 (z0w (A.o.get 1 rfl) (n:=12) rfl);have hz:=z7 (z0y (A.o.get 1 rfl));go_wp2_with (refine z0f rfl 84 _ _ rfl (w.heap.size+1) 0 rfl z1b rfl hs.o hz.o z0O (by simp[Value.oneCell']) ?_);have L:=A.o.lay (K':= [(p8,.cells #[.int .u8 4,.int .u32 0,.int .u32 series,.int .i64 0,.int .u64 0,.int .u32 ck,.int .u32 pb,.int .u32 pc,.int .u32 cnt,.bool closed,.slice a n c,.int .i64 (l.length:Nat)] 84 (0,0)),(w.heap.size+1,.cells z1b 84 (0,0)),(w.heap.size,.cells #[.int .u8 kind,.int .u32 epoch,.int .u32 series,.int .u32 ck,.int .u32 pb,.int .u32 pc,.int .u32 cnt,.bool closed,.int .u64 sum,.slice a n c,.int .i64 (l.length:Nat)] 51 (0,0))]) 1 0 (z1b:Array Value).toList rfl rfl rfl rfl;have I:=z7 L;clear L;refine bodyPost_ret (z4k rfl rfl (I.o.get 1 rfl) z2o z0O) rfl ?_;rw[aH.o];exact⟨I.o.low,(z1w (by omega) _ _ _).trans a2.o,.inl ⟨by simp,rfl⟩⟩
    | true=>
     iterate 2 (refine q8.rd (e:=?_) (fun D v w' hD N=>?_) ?_;rotate_left;(clear N hD;go_simp;try with_reducible rfl);go_simp)
     iterate 4 (refine q8.rd (e:=?_) (fun D v w' hD N=>?_) ?_;rotate_left;(have a7:=aJ.o.low N;obtain⟨r0,r1,rf⟩:=a7.cells;have lr:=a7.lt;clear a7;clear N hD;go_simp;try with_reducible rfl);go_simp)
     refine q8.rl (.agg #[.int .u8 kind,.int .u32 epoch,.int .u32 series,.int .u32 ck,.int .u32 pb,.int .u32 pc,.int .u32 cnt,.bool closed,.int .u64 sum,.slice a n c,.int .i64 (l.length:Nat)]) (fun D v w h=>h) (fun D v w' hD N=>z1o _ _ rfl w.heap.size 0 rfl _ (z1X ((a1.o.call N).get 2 rfl)) z1y z0B) ?_;go_simp;refine q8.ca (.int .u16 (tE:Nat)) (fun D v w' hD N=>?_) ?_;(focus (have HZ:=z7 N;clear N hD;skip;go_simp;go_at_call 72;refine(a3.o w' (H.o w' (a1.o.call HZ.o).low) (aS.o w' (a1.o.call HZ.o).low) (HT.o w' (a1.o.call HZ.o).low)).mono ?_;rintro e bG ⟨rfl,hb⟩;exact⟨rfl,HZ.o.trans (hb.mono HZ.o.size)⟩));go_simp;by_cases ht:tE=0
     ·have aH:Hid (R=(0,0,epoch)):=z7 (by rw[O.o,if_neg (by rintro(h|h);exact h (of_decide_eq_true HM.o.symm);exact h ht)]);subst ht;iterate 2 (refine q8.rd (e:=?_) (fun D v w' hD N=>?_) ?_;rotate_left;(clear N hD;go_simp;try with_reducible rfl);go_simp)
      refine q8.fin (fun v w5 N=>?_);have A:=z7 (a1.o.call N);have a2:=z7 (aJ.o.low N);clear N;have hs:=z7 (z0w (A.o.get 1 rfl) (n:=12) rfl);have hz:=z7 (z0y (A.o.get 1 rfl));go_wp2_with (first|(refine z0J rfl 84 _ rfl p8 0 rfl _ (z1X (A.o.get 0 rfl)) z2o z0O ?_)|(refine z0f rfl 84 _ _ rfl (w.heap.size+1) 0 rfl #[.int .u8 4,.int .u32 0,.int .u32 series,.int .i64 0,.int .u64 0,.int .u32 ck,.int .u32 pb,.int .u32 pc,.int .u32 cnt,.bool closed,.slice a n c,.int .i64 (l.length:Nat)] rfl hs.o hz.o z0O (by simp[Value.oneCell']) ?_));have L:=A.o.lay (K':= [(p8,.cells #[.int .u8 4,.int .u32 0,.int .u32 series,.int .i64 0,.int .u64 0,.int .u32 ck,.int .u32 pb,.int .u32 pc,.int .u32 cnt,.bool closed,.slice a n c,.int .i64 (l.length:Nat)] 84 (0,0)),(w.heap.size+1,.cells #[.int .u8 4,.int .u32 0,.int .u32 series,.int .i64 0,.int .u64 0,.int .u32 ck,.int .u32 pb,.int .u32 pc,.int .u32 cnt,.bool closed,.slice a n c,.int .i64 (l.length:Nat)] 84 (0,0)),(w.heap.size,.cells #[.int .u8 kind,.int .u32 epoch,.int .u32 series,.int .u32 ck,.int .u32 pb,.int .u32 pc,.int .u32 cnt,.bool closed,.int .u64 sum,.slice a n c,.int .i64 (l.length:Nat)] 51 (0,0))]) 1 0 (#[.int .u8 4,.int .u32 0,.int .u32 series,.int .i64 0,.int .u64 0,.int .u32 ck,.int .u32 pb,.int .u32 pc,.int .u32 cnt,.bool closed,.slice a n c,.int .i64 (l.length:Nat)]:Array Value).toList rfl rfl rfl rfl;have I:=z7 L;clear L
      refine bodyPost_ret (z4k rfl rfl (I.o.get 1 rfl) z2o z0O) rfl ?_;rw[aH.o];exact⟨I.o.low,(z1w (by omega) _ _ _).trans a2.o,.inr (.inr ⟨rfl,rfl,rfl⟩)⟩
     ·have aH:Hid (R=(171,0,epoch)):=z7 (by rw[O.o,if_pos (.inr ht)]);have d5:((tE:Int)==0)=false:=beq_false_of_ne (by omega);iterate 2 (refine q8.rd (e:=?_) (fun D v w' hD N=>?_) ?_;rotate_left;(clear N hD;go_simp;try with_reducible rfl);go_simp)
      refine q8.fin (fun v w5 N=>?_);have A:=z7 (a1.o.call N);have a2:=z7 (aJ.o.low N);clear N;have hs:=z7 (z0w (A.o.get 1 rfl) (n:=12) rfl);have hz:=z7 (z0y (A.o.get 1 rfl));go_wp2_with (refine z0f rfl 84 _ _ rfl (w.heap.size+1) 0 rfl z1b rfl hs.o hz.o z0O (by simp[Value.oneCell']) ?_);have L:=A.o.lay (K':= [(p8,.cells #[.int .u8 4,.int .u32 0,.int .u32 series,.int .i64 0,.int .u64 0,.int .u32 ck,.int .u32 pb,.int .u32 pc,.int .u32 cnt,.bool closed,.slice a n c,.int .i64 (l.length:Nat)] 84 (0,0)),(w.heap.size+1,.cells z1b 84 (0,0)),(w.heap.size,.cells #[.int .u8 kind,.int .u32 epoch,.int .u32 series,.int .u32 ck,.int .u32 pb,.int .u32 pc,.int .u32 cnt,.bool closed,.int .u64 sum,.slice a n c,.int .i64 (l.length:Nat)] 51 (0,0))]) 1 0 (z1b:Array Value).toList rfl rfl rfl rfl;have I:=z7 L;clear L;refine bodyPost_ret (z4k rfl rfl (I.o.get 1 rfl) z2o z0O) rfl ?_;rw[aH.o];exact⟨I.o.low,(z1w (by omega) _ _ _).trans a2.o,.inl ⟨by simp,rfl⟩⟩
   ·have O:Hid (R=(0,4,epoch)):=z7 (by rw[aC.o,if_neg hk0,if_neg he,if_pos rfl]);have hA:=aR.o 4 w3 (H.o w3 Y.o.low) a9.o;obtain⟨af,a6⟩:=zN (z5u b 4 epoch series);rw[<-a6]at hA;unfold frV j9 at hA;have HA:=z7 hA;have aO:=z7 a6;clear hA a6;go_wp2_with fail;refine HA.o.mono ?_;rintro e w4 ⟨rfl,hb⟩;have aE:=(Y.o.call hb).new (.cells (j9 af (.slice none 0 0)) 51);have aF:=a9.o.low (hb.trans ((q5 w4 (.cells (j9 af (.slice none 0 0)) 51)).mono hb.size));have A:=z7 aE;have a2:=z7 aF;have aX:=z7 (Nat.le_trans Y.o.low.size hb.size);unfold j9 at A;have bB:=z7 (show w4.heap.size≠w.heap.size+1 from fun e=>by have:=A.o.nodup;rw[e]at this;simp at this);clear aE aF hb f0 f1 f2 f3 f4 f5 f6 f7 f8 f9 a0 ff l1 l0;have hs:=z7 (z0w (A.o.get 1 rfl) (n:=12) rfl);have hz:=z7 (z0y (A.o.get 1 rfl));go_wp2_with (refine z0f rfl 84 _ _ rfl (w.heap.size+1) 0 rfl z1b rfl hs.o hz.o z0O (by simp[Value.oneCell']) ?_);have L:=A.o.lay (K':= [(w4.heap.size,.cells (j9 af (.slice none 0 0)) 51 (0,0)),(w.heap.size+1,.cells z1b 84 (0,0)),(w.heap.size,.cells #[.int .u8 kind,.int .u32 epoch,.int .u32 series,.int .u32 ck,.int .u32 pb,.int .u32 pc,.int .u32 cnt,.bool closed,.int .u64 sum,.slice a n c,.int .i64 (l.length:Nat)] 51 (0,0))]) 1 0 (z1b:Array Value).toList rfl rfl rfl rfl;have I:=z7 L;clear L;refine bodyPost_ret (z4k rfl rfl (I.o.get 1 rfl) z2o z0O) rfl ?_;rw[O.o]
    refine⟨I.o.low,(z1w (by omega) _ _ _).trans a2.o,.inr (.inl ⟨rfl,by simp,w4.heap.size,rfl,?_,aX.o⟩)⟩;rw[<-aO.o];exact I.o.get 0 rfl
   ·have O:Hid (R=(0,5,epoch)):=z7 (by rw[aC.o,if_neg hk0,if_neg he,if_neg (by omega),if_pos rfl]);have hA:=aR.o 5 w3 (H.o w3 Y.o.low) a9.o;obtain⟨af,a6⟩:=zN (z5u b 5 epoch series);rw[<-a6]at hA;unfold frV j9 at hA;have HA:=z7 hA;have aO:=z7 a6;clear hA a6;go_wp2_with fail;refine HA.o.mono ?_;rintro e w4 ⟨rfl,hb⟩;have aE:=(Y.o.call hb).new (.cells (j9 af (.slice none 0 0)) 51);have aF:=a9.o.low (hb.trans ((q5 w4 (.cells (j9 af (.slice none 0 0)) 51)).mono hb.size));have A:=z7 aE;have a2:=z7 aF;have aX:=z7 (Nat.le_trans Y.o.low.size hb.size);unfold j9 at A;have bB:=z7 (show w4.heap.size≠w.heap.size+1 from fun e=>by have:=A.o.nodup;rw[e]at this;simp at this);clear aE aF hb f0 f1 f2 f3 f4 f5 f6 f7 f8 f9 a0 ff l1 l0;have hs:=z7 (z0w (A.o.get 1 rfl) (n:=12) rfl);have hz:=z7 (z0y (A.o.get 1 rfl));go_wp2_with (refine z0f rfl 84 _ _ rfl (w.heap.size+1) 0 rfl z1b rfl hs.o hz.o z0O (by simp[Value.oneCell']) ?_);have L:=A.o.lay (K':= [(w4.heap.size,.cells (j9 af (.slice none 0 0)) 51 (0,0)),(w.heap.size+1,.cells z1b 84 (0,0)),(w.heap.size,.cells #[.int .u8 kind,.int .u32 epoch,.int .u32 series,.int .u32 ck,.int .u32 pb,.int .u32 pc,.int .u32 cnt,.bool closed,.int .u64 sum,.slice a n c,.int .i64 (l.length:Nat)] 51 (0,0))]) 1 0 (z1b:Array Value).toList rfl rfl rfl rfl;have I:=z7 L;clear L;refine bodyPost_ret (z4k rfl rfl (I.o.get 1 rfl) z2o z0O) rfl ?_;rw[O.o]
    refine⟨I.o.low,(z1w (by omega) _ _ _).trans a2.o,.inr (.inl ⟨rfl,by simp,w4.heap.size,rfl,?_,aX.o⟩)⟩;rw[<-aO.o];exact I.o.get 0 rfl

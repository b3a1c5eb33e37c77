/-
  The walk of stuff.Wrap.
-/
import Derived.Test.YtpocjegemokjgaaGreatDoorZFsS
namespace Go.Proofs.YtpocjegemokjgaaGreatDoor
open Go.Proofs.Tryz
set_option linter.all false
set_option maxRecDepth 100000
set_option maxHeartbeats 12800000
section
open Go.RowKit Go.Shelf
attribute [local go_sem] Oper.semAt_some
def stL(pre:List (Value×List UInt8)):List UInt8:=(pre.map Prod.snd).flatMap part
theorem q2a(pre:List (Value×List UInt8))(x:Value×List UInt8):stL (pre++ [x])=stL pre++part x.2:=by simp[stL]
def WrI(B h sB:Nat)(W5:World)(L:List UInt8)(W:World):Prop:=
 ∃v,W.heap[h]? =some (.cells #[v] 47)/\W.ownsRow B 5 1 v L.length (z0b L)/\Chg [h,sB] [h,sB] W5 W
theorem WrI.turn{B h sB:Nat}{O W U:World}{L:List UInt8}{row:Option Nat}(hI:WrI B h sB O L W)(I:W.grownBy U row)(hB:O.heap.size<=B)(hr:∀r,row=some r->B<=r/\∃o:Obj,W.heap[r]? =some o/\o.isCells=false):WrI B h sB O L U:=by
 obtain⟨v,Y,h2,A⟩:=hI;have N:=fun r e=>(hr r e).2;refine⟨v,(grownBy_keeps_cells I N Y rfl).trans Y,j7 h2 fun k J=>?_,?_⟩
 ·rcases h2.2 with⟨rfl,_⟩|⟨g,cap,a0,rfl,_,R,_⟩
  ·cases J
  ·obtain rfl:g=k:=by simpa[Value.ownBlock]using J
   exact grownBy_keeps_cells I N R rfl
 ·exact⟨I.os.trans A.os,I.tape.trans A.tape,I.output.trans A.output,Nat.le_trans A.size I.size,fun k J hn=>(I.block k (Nat.lt_of_lt_of_le J A.size) (fun e=>by have:=(hr k e.symm).1;omega)).trans (A.block k J hn),A.fresh⟩
theorem WrI.set{B h I:Nat}{R W:World}{L:List UInt8}(hI:WrI B h I R L W)(hB:I<B)(N:h≠I)(v:Value):WrI B h I R L (W.setCell ⟨I,0,none⟩ v):=by
 obtain⟨u,Y,U,A⟩:=hI;refine⟨u,(q7 N).trans Y,j7 U fun k O=>q7 ?_,?_⟩
 ·have:=(U.lt k O).1;omega
 ·have J:=Chg.setCells (b:=I) [v] 0 W;refine⟨J.os.trans A.os,J.tape.trans A.tape,J.output.trans A.output,Nat.le_trans A.size J.size,fun k O N=>(q7 (fun e=>N (by rw[e];simp))).trans (A.block k O N),A.fresh⟩
structure StV (B h sB:Nat) (W5 W:World) (vm:Value) (M:List UInt8) (wr:World):Prop where
 box:wr.heap[h]? =some (.cells #[vm] 47)
 own:wr.ownsRow B 5 1 vm M.length (z0b M)
 chg:Chg [h,sB] [h,sB] W5 wr
 kf:KeepsFrom B W wr
 kp:q5w B h W wr
 le:B<=wr.heap.size
theorem StV.alloc{B h N:Nat}{L W wr:World}{O:Value}{M:List UInt8}(H:StV B h N L W O M wr)(cs:Array Value)(t:TypeId):StV B h N L W O M (wr.alloc (.cells cs t)):=by
 have hb:∀k,k<wr.heap.size->(wr.alloc (.cells cs t)).heap[k]? =wr.heap[k]? :=fun k A=>Below.heap_alloc wr _ _ A;have R:=H.le;have I:=(z0u H.box).2.2;refine⟨(hb _ I).trans H.box,j7 H.own fun k A=>hb k (H.own.lt k A).2,?_,H.kf.trans ((KeepsOthers.alloc wr _).from _),⟨Nat.le_trans H.kp.1 (by simp),fun k A J=>(hb k (by omega)).trans (H.kp.2 k A J)⟩,by simp;omega⟩;refine⟨H.chg.os,H.chg.tape,H.chg.output,Nat.le_trans H.chg.size (by simp),fun k A J=>(hb k (Nat.lt_of_lt_of_le A H.chg.size)).trans (H.chg.block k A J),H.chg.fresh⟩
theorem StV.drew{B h I:Nat}{A W wr:World}{J:Value}{M:List UInt8}(H:StV B h I A W J M wr):StV B h I A W J M wr.drew:=
 ⟨H.box,j7 H.own fun k L=>rfl,⟨H.chg.os,H.chg.tape,H.chg.output,H.chg.size,H.chg.block,H.chg.fresh⟩,H.kf.trans ((KeepsOthers.drew wr).from _),H.kp,H.le⟩
theorem StV.far{B h L:Nat}{I W wr:World}{A:Value}{M:List UInt8}(H:StV B h L I W A M wr):∀k,A.ownBlock=some k->B<=k:=fun k J=>(H.own.lt k J).1
theorem StV.push{B h sB:Nat}{W5 W w0 A:World}{vm U:Value}{M Y:List UInt8}(H:StV B h sB W5 W vm M w0)(J:w0.grownBy A vm.ownBlock)(L:A.ownsRow B 5 1 U Y.length (z0b Y))(hh:h<B)(a3:W5.heap.size<=B):
  A.heap[h]? =some (.cells #[vm] 47)/\StV B h sB W5 W U Y (A.setCell ⟨h,0,none⟩ U)/\∀k,k<B->k≠h->(A.setCell ⟨h,0,none⟩ U).heap[k]? =w0.heap[k]? :=by
 have a1:=H.le;have hb:∀k,k<B->A.heap[k]? =w0.heap[k]? :=fun k I=>J.block k (by omega) fun e=>by have:=H.far k e.symm;omega
 have N:∀k,k<B->k≠h->(A.setCell ⟨h,0,none⟩ U).heap[k]? =w0.heap[k]? :=fun k I O=>(q7 O).trans (hb k I);have e1:=(hb h hh).trans H.box;have R:(A.setCell ⟨h,0,none⟩ U).heap.size=A.heap.size:=by simp[World.setCell]
 refine⟨e1,⟨?_,j7 L fun k I=>q7 (by have:=(L.lt k I).1;omega),?_,?_,⟨Nat.le_trans H.kp.1 (by rw[R];exact J.size),fun k I O=>(N k I O).trans (H.kp.2 k I O)⟩,by rw[R];exact Nat.le_trans a1 J.size⟩,N⟩
 ·have:=z0a e1 0 U;simpa using this
 ·refine⟨J.os.trans H.chg.os,J.tape.trans H.chg.tape,J.output.trans H.chg.output,by rw[R];exact Nat.le_trans H.chg.size J.size,fun k I O=>(N k (by omega) (by intro e;exact O (by rw[e];simp))).trans (H.chg.block k I O),H.chg.fresh⟩
 ·refine H.kf.trans ((KeepsFrom.trans ((KeepsOthers.of_grownBy J fun j o ej hj=>?_).from B)) ((KeepsOthers.setCell A _ _).from B));rcases H.own.2 with⟨rfl,_⟩|⟨g,cap,a2,rfl,_,a0,_⟩
  ·cases ej
  ·obtain rfl:g=j:=by simpa[Value.ownBlock]using ej
   rw[a0]at hj;cases hj;rfl
theorem q0O(b:List UInt8)(ao:Option Addr)(c:Nat)(w:World)(hx:RdB w (.slice ao b.length c) b)(aU:b.length<=c)(hc:c<=9223372036854775807)(bO:b.length<=1000000)(aX:0<b.length->∀k,(Value.slice ao b.length c).ownBlock=some k->k<w.heap.size):
  Calls prog 116 #[.slice ao b.length c] w fun e w'=>∃a c',e= .returned (.slice a (z2c b).length c')/\w'.ownsRow w.heap.size 5 1 (.slice a (z2c b).length c') (z2c b).length (z0b (z2c b))/\Below w.heap.size w w':=by
 refine(callsIn_wide (n:=3)).1 ?_;refine callsIn_of_wp_marks func116 rfl trivial ?_ rfl;simp only[ntmps116,List.size_toArray,List.length_cons,List.length_nil,Nat.reduceAdd,Nat.reduceSub,Array.replicate_succ,Array.replicate_zero,List.push_toArray,List.append_toArray,List.nil_append,List.cons_append]
 gi_wp2_with (refine⟨trivial,?_⟩;refine(callsIn_wide.2 (y5t _ _ _ _ _)).mono ?_;rintro e w' ⟨rfl,rfl⟩)
 obtain⟨h,hh⟩:=zN w.heap.size;obtain⟨W5,a0⟩:=zN (((((w.alloc (.cells #[.slice none 0 0] 47)).alloc (.cells #[.int .u8 0] 5)).alloc (.cells #[.slice ao b.length c] 47)).alloc (.cells #[.slice (some ⟨w.heap.size+1,0,none⟩) 1 1] 47)).alloc (.cells #[.int .i64 0] 3));have aL:W5.heap.size=h+5:=by rw[a0,hh];simp
 have ka:∀(X:World) (o:Obj),(X.alloc o).heap[X.heap.size]? =some o:=fun X o=>World.alloc_heap_new X o;have kb:∀(X:World) (o:Obj) (k:Nat) (y:Obj),X.heap[k]? =some y->(X.alloc o).heap[k]? =some y:=fun X o k y hk=>(Below.heap_alloc X o k (Array.getElem?_eq_some_iff.1 hk).1).trans hk;have k0:W5.heap[h]? =some (.cells #[.slice none 0 0] 47):=by
  rw[a0,hh];exact kb _ _ _ _ (kb _ _ _ _ (kb _ _ _ _ (kb _ _ _ _ (ka w _))))
 have k1:W5.heap[h+1]? =some (.cells #[.int .u8 0] 5):=by
  rw[a0,hh];have:=ka (w.alloc (.cells #[.slice none 0 0] 47)) (.cells #[.int .u8 0] 5);rw[World.size_alloc]at this;exact kb _ _ _ _ (kb _ _ _ _ (kb _ _ _ _ this))
 have k2:W5.heap[h+2]? =some (.cells #[.slice ao b.length c] 47):=by
  rw[a0,hh];have:=ka ((w.alloc (.cells #[.slice none 0 0] 47)).alloc (.cells #[.int .u8 0] 5)) (.cells #[.slice ao b.length c] 47);rw[World.size_alloc,World.size_alloc]at this;exact kb _ _ _ _ (kb _ _ _ _ this)
 have k3:W5.heap[h+3]? =some (.cells #[.slice (some ⟨h+1,0,none⟩) 1 1] 47):=by
  rw[a0,hh];have:=ka (((w.alloc (.cells #[.slice none 0 0] 47)).alloc (.cells #[.int .u8 0] 5)).alloc (.cells #[.slice ao b.length c] 47)) (.cells #[.slice (some ⟨w.heap.size+1,0,none⟩) 1 1] 47);rw[World.size_alloc,World.size_alloc,World.size_alloc]at this;exact kb _ _ _ _ this
 have k4:W5.heap[h+4]? =some (.cells #[.int .i64 0] 3):=by
  rw[a0,hh];have:=ka ((((w.alloc (.cells #[.slice none 0 0] 47)).alloc (.cells #[.int .u8 0] 5)).alloc (.cells #[.slice ao b.length c] 47)).alloc (.cells #[.slice (some ⟨w.heap.size+1,0,none⟩) 1 1] 47)) (.cells #[.int .i64 0] 3);rw[World.size_alloc,World.size_alloc,World.size_alloc,World.size_alloc]at this;exact this
 have aE:Below h w W5:=by
  rw[a0,hh];exact(((((Below.refl _ w).alloc (Nat.le_refl _) _).alloc (by simp) _).alloc (by simp;omega) _).alloc (by simp;omega) _).alloc (by simp;omega) _
 rw[<-a0];simp only[<-hh];have aI:0<b.length->∀k,(Value.slice ao b.length c).ownBlock=some k->k<h+5/\k≠h/\k≠h+2:=fun h0 k hk=>by
  have:=aX h0 k hk;omega
 have aY:RdB W5 (.slice ao b.length c) b:=hx.low (by rw[<-hh];exact aE);have HH:=z7 hh;have a6:=z7 aL;have bR:=z7 a0;clear a0;refine z9k (encs:=fun x:Value×List UInt8=> #[x.1]) rfl (by omega) (gf:=189) (lb:= #[.pointer (some ⟨h+1+1+1,0,none⟩),.pointer (some ⟨h+1+1,0,none⟩),.pointer (some ⟨h+1+1+2,0,none⟩)]) rfl trivial (enters_of func189 (by kernel_rfl) rfl) (fun _=>rfl)
  (q4h b (h+5) h (h+2)) (q5w (h+5) h) (q5P (h+2)) (fun xs=>xs.map Prod.snd=z1G b)
  (q3w (3 - 1) (by omega) b ao c (h+5) h (h+2) (h+3) (h+4) (h+1) W5 k2 k3 k4 (z0u k1).1 aY aU hc aI (by omega) (by omega) (by omega) (by omega))
  (fun h1 h2=>⟨Nat.le_trans h1.1 h2.1,fun k hk hn=>(h2.2 k hk hn).trans (h1.2 k hk hn)⟩)
  (fun W l o o' hl bI ho=>⟨by simp,fun k hk hn=>World.putObj_heap_other (by omega)⟩)
  (fun pre W=>WrI (h+5) h (h+2) W5 (stL pre) W)
  (fun s X X' hs ⟨v,hv⟩=>hv▸hs.set (by omega) (by omega) v)
  (fun X X' ⟨v,hv⟩=>hv▸(KeepsOthers.setCell X _ v).from _)
  (fun s X X' row hs hg hr=>hs.turn hg (by omega) (fun r e=>by have:=hr r e;rw[aL]at this;exact this))
  (fun s x X l o o' ⟨q1,q2,q3,q4⟩ hl bI ho=>⟨q1.keep0 fun h0 j hj=>World.putObj_heap_other (by have:=(q3 h0 j hj).1;omega),q2,q3,q4⟩)
  ⟨_,k0,World.ownsRow_nil _ _ _ _,Chg.refl _ _⟩
  (fun x=>{tmps:= #[.slice ao b.length c,undef,.slice none 0 0,.pointer (some ⟨h,0,none⟩),x.1,.slice ao b.length c,.slice (some ⟨h+1,0,none⟩) 1 1,.func (.func 189) #[] #[.pointer (some ⟨h+1+1+1,0,none⟩),.pointer (some ⟨h+1+1,0,none⟩),.pointer (some ⟨h+1+1+2,0,none⟩)],x.1,undef,undef,undef,undef,undef,undef,undef,undef,undef,undef,undef,undef,undef,undef,undef,undef,undef,undef,undef,undef,undef,undef,undef,undef,undef],defers:= []}) ?assign ?body ?done
 case assign=>
  clear hh aL;intro l x W K B
  gi_wp2
  exact B
 case body=>
  rintro l pre x W ⟨v,c1,O,J⟩ ⟨q1,⟨ax,q2⟩,q3,rr,q4⟩;obtain⟨xv,p⟩:=x;dsimp only at q1 q2 q3 q4 ⊢;subst q2;obtain⟨L,hL⟩:=zN (stL pre);rw[<-hL]at O;obtain⟨f1,f2,f3⟩:=z0u c1;have aR:(L++part p).length<=1100000:=by
   have h1:=z5U b;have h2:z2c b=(L++part p)++(rr.flatMap part++ [0]):=by
    unfold z2c y2r;rw[<-q4,hL];simp[stL]
   rw[h2,List.length_append]at h1;omega
  have bU:p.length<=1100000:=by
   have:=z5Q p.length p (Nat.le_refl _);rw[List.length_append]at aR;omega
  have HL:=z7 hL;have bA:=z7 aR;have Q1:=z7 q1;have Q3:=z7 q3;clear hh aL hL aR q4 q1 q3 aX aI aU hc hx aY;have b4:prog.follows .mixedOrders=true:=by kernel_rfl
  gi_wp2
  gi_loopw [4] (fun pv wr=>∃(q:List UInt8) (M:List UInt8) (aq:Option Addr) (N cq:Nat) (vm:Value),pv= .slice aq N cq/\N<=cq/\cq<=1100000/\Hid (N=q.length)/\Hid (M++part q=L++part p)/\
    Hid (StV (h+5) h (h+2) W5 W vm M wr)/\Hid (RdB wr (.slice aq N cq) q)/\Hid (0<N->∀k,(Value.slice aq N cq).ownBlock=some k->k<h+5/\k≠h/\k≠h+2)) (fun pv _=>match pv with | .slice _ n _=>n|_=>0)
  case atStart=>
   refine⟨p,L,ax,p.length,p.length,v,rfl,Nat.le_refl _,by omega,z7 rfl,z7 rfl,z7 ⟨c1,O,J,KeepsFrom.refl _ _,⟨Nat.le_refl _,fun _ _ _=>rfl⟩,?_⟩,Q1,Q3⟩;have:=J.size;have:=a6.o;omega
  case round=>
   obtain⟨q,M,aq,N,cq,vm,rfl,bJ,bT,U,hM,a5,hq,aJ⟩:=hrel;obtain⟨g1,g2,g3⟩:=z0u a5.o.box;obtain⟨av,cv,rfl⟩:=(z0e a5.o.own).head;have aS:M.length<=1100000:=by
    have h1:=congrArg List.length hM.o;have h2:=bA.o;rw[List.length_append]at h1;omega
   have aM:=z7 aS;by_cases hbig:254<=N
   ·have b1:(254:Int)<=(N:Int):=(by omega);have b2:(254:Int)<=(cq:Int):=(by omega);have a3:=z7 (z3z wr #[.int .u8 255] 5 1 1 (by decide) rfl);have A:=z7 (a5.o.alloc #[.int .u8 255] 5);clear aS
    gi_wp2_with (gi_at_builtin;refine z2W rfl _ _ 47 rfl (h+5) 5 underlying47 (by kernel_rfl) _ M rfl (by exact A.o.own) _ [255] rfl (by exact a3.o) (by have:=aM.o;simp;omega) (by exact A.o.le) ?_;intro a1 aF w1 I a4;obtain⟨e1,e2,e3⟩:=A.o.push a4 I (by omega) (by have:=a6.o;omega);obtain⟨n1,R⟩:=zN ((M++ [255]).length);rw[<-R]at e2 e3 ⊢;have N1:=z7 R;have E2:=z7 e2;have E3:=z7 e3;obtain⟨d1,d2,d3⟩:=z0u e1;clear R e2 e3 I a4 e1)
    refine wpIn_region_any b4 ?_;change wpAnyIn _ _ _ _ _ _ _ _ _ (World.drew _);have aO:=z7 E2.o.drew;obtain⟨ad,rfl⟩:∃ad,aq=some ad:=by
     rcases hq.o.2 with⟨he,hz⟩|⟨bB,c2,he,_⟩
     ·simp only[Value.slice.injEq]at he;omega
     ·simp only[Value.slice.injEq]at he;exact⟨bB,he.1⟩
    have aA:(q.take 254).length=254:=(by have:=U.o;simp;omega);have aV:(M++ [255]).length+(q.take 254).length<=70368744177664:=(by rw[aA];have:=aM.o;simp;omega);have bL:Hid (RdB (w1.setCell ⟨h,0,none⟩ (.slice a1 n1 aF)).drew (.slice (some ad) 254 cq) (q.take 254)):=z7 (by
     refine(hq.o.upto U.o 254 cq 254 aA.symm).keep fun j hj=>?_;have a9:=aJ.o (by omega) j hj;have b8:=a5.o.le;exact(E3.o j a9.1 a9.2.1).trans (Below.heap_alloc wr _ _ (by omega)))
    have bF:Hid (M++ [255]++q.take 254++part (q.drop 254)=L++part p):=z7 (by
     rw[<-hM.o,y3e (show 254<=q.length by have:=U.o;omega)];simp)
    have bM:=z7 (hq.o.rest U.o bJ 254 (cq - 254) (N - 254) (by have:=U.o;simp;omega));have b6:Hid (0<N - 254->∀k,(Value.slice (if cq=254 then some ad else some ⟨ad.block,ad.off+254,none⟩) (N - 254) (cq - 254)).ownBlock=some k->k<h+5/\k≠h/\k≠h+2):=z7 fun _ k hk=>by
     rw[z3l]at hk;exact aJ.o (by omega) k hk
    have aT:Hid (∀k,k<h+5->k≠h->(w1.setCell ⟨h,0,none⟩ (.slice a1 n1 aF)).drew.heap[k]? =wr.heap[k]?):=z7 fun k h1 h2=>by
     have b8:=a5.o.le;exact(E3.o k h1 h2).trans (Below.heap_alloc wr _ _ (by omega))
    clear aA;refine wpAnyIn_ready (rs:= [0,1]) (by kernel_rfl) (by simp) ?_;refine AllReadyIn.cons rfl (fun K B=>?ga) (AllReadyIn.cons rfl (fun K B=>?gb) AllReadyIn.nil)
    case' ga=>(go_simp;refine B _ _ ?_;clear B K;refine wpAnyIn_ready (rs:= [1]) (by kernel_rfl) (by simp) ?_;refine AllReadyIn.cons rfl (fun K B=>?_) AllReadyIn.nil;go_simp;refine B _ _ ?_;clear B K;refine wpAnyIn_ready (rs:= [2]) (by kernel_rfl) (by simp) ?_;refine AllReadyIn.cons rfl (fun K B=>?_) AllReadyIn.nil;go_simp;refine B _ _ ?_;clear B K)
    case' gb=>(go_simp;refine B _ _ ?_;clear B K;refine wpAnyIn_ready (rs:= [0,2]) (by kernel_rfl) (by simp) ?_;refine AllReadyIn.cons rfl (fun K B=>?ge) (AllReadyIn.cons rfl (fun K B=>?gf) AllReadyIn.nil);(case' ge=>(go_simp;refine B _ _ ?_;clear B K;refine wpAnyIn_ready (rs:= [2]) (by kernel_rfl) (by simp) ?_;refine AllReadyIn.cons rfl (fun K B=>?_) AllReadyIn.nil;go_simp;refine B _ _ ?_;clear B K));(case' gf=>(go_simp;refine B _ _ ?_;clear B K;refine wpAnyIn_ready (rs:= [0]) (by kernel_rfl) (by simp) ?_;refine AllReadyIn.cons rfl (fun K B=>?_) AllReadyIn.nil;go_simp;refine B _ _ ?_;clear B K)))
    all_goals (
     refine wpAnyIn_ready (rs:= [3]) (by kernel_rfl) (by simp) ?_;refine AllReadyIn.cons rfl (fun K B=>z9L rfl _ _ 47 rfl (h+5) 5 underlying47 (by kernel_rfl) _ (M++ [255]) rfl (by exact aO.o.own) _ (q.take 254) rfl (by exact bL.o) aV (by exact aO.o.le) ?_) AllReadyIn.nil;intro a2 bC w2 Y aH;obtain⟨aG,a7,a8⟩:=aO.o.push aH Y (by omega) (by have:=a6.o;omega);obtain⟨n2,aB⟩:=zN ((M++ [255]++q.take 254).length);rw[<-aB]at a7 a8 ⊢;obtain⟨i1,i2,i3⟩:=z0u aG;have N2:=z7 aB;have E4:=z7 a7;have E5:=z7 a8;clear aB a7 a8 Y aH aG;refine B _ _ ?_;clear B K;refine wpAnyIn_ready (rs:= [4]) (by kernel_rfl) (by simp) ?_;refine AllReadyIn.cons rfl (fun K B=>?_) AllReadyIn.nil;go_simp;refine B _ _ ?_;clear B K;refine wpAnyIn_done (by kernel_rfl) ?_ _
     gi_wp2
     go_roundw
     case rel=>
      exact⟨q.drop 254,M++ [255]++q.take 254,(if cq=254 then some ad else some ⟨ad.block,ad.off+254,none⟩),N - 254,cq - 254,_,rfl,by omega,by omega,z7 (by have:=U.o;simp;omega),bF,E4,z7 (bM.o.keep fun j hj=>by
       have b0:=hj;rw[z3l]at b0;have a9:=aJ.o (by omega) j b0;exact(E5.o j a9.1 a9.2.1).trans (aT.o j a9.1 a9.2.1)),b6⟩
     case measure=>simp<;>omega)
   ·have b1:¬((254:Int)<=(N:Int)):=(by omega);have b5:N+1<256:=(by omega);clear b4;have a3:Hid (RdB (wr.alloc (.cells #[.int .u8 ((N:Int)+1)] 5)) (.slice (some ⟨wr.heap.size,0,none⟩) 1 1) [UInt8.ofNat (N+1)]):=z7 (by
     have h1:=z3z wr #[.int .u8 ((N:Int)+1)] 5 1 1 (by decide) rfl;have h2:z0b [UInt8.ofNat (N+1)]= [.int .u8 ((N:Int)+1)]:=by
      simp only[z0b,List.map_cons,List.map_nil];rw[y1K b5];rfl
     show Rd _ _ 1 1 (z0b [UInt8.ofNat (N+1)]);rw[h2];exact h1)
    have A:=z7 (a5.o.alloc #[.int .u8 ((N:Int)+1)] 5);have bN:Hid (RdB (wr.alloc (.cells #[.int .u8 ((N:Int)+1)] 5)) (.slice aq N cq) q):=z7 (hq.o.alloc _);clear aS
    gi_wp2_with (first
     | (gi_at_builtin;(refine z2W rfl _ _ 47 rfl (h+5) 5 underlying47 (by kernel_rfl) _ M rfl (by exact A.o.own) _ [UInt8.ofNat (N+1)] rfl (by exact a3.o) (by have:=aM.o;simp;omega) (by exact A.o.le) ?_;intro a1 aF w1 I a4;obtain⟨e1,e2,e3⟩:=A.o.push a4 I (by omega) (by have:=a6.o;omega);have b7:=z7 (bN.o.keep0 fun h0 j hj=>e3 j (aJ.o (by have:=U.o;omega) j hj).1 (aJ.o (by have:=U.o;omega) j hj).2.1);obtain⟨n1,R⟩:=zN ((M++ [UInt8.ofNat (N+1)]).length);rw[<-R]at e2 e3 b7 ⊢;have N1:=z7 R;have E2:=z7 e2;have E3:=z7 e3;obtain⟨d1,d2,d3⟩:=z0u e1;clear R e2 e3 I a4 e1 A a3))
     | (gi_at_builtin;refine z2W rfl _ _ 47 rfl (h+5) 5 underlying47 (by kernel_rfl) _ (M++ [UInt8.ofNat (N+1)]) rfl (by exact E2.o.own) _ q rfl (by exact b7.o) (by have:=aM.o;have:=U.o;simp;omega) (by exact E2.o.le) ?_;intro a2 bC w2 Y aH;obtain⟨aG,a7,a8⟩:=E2.o.push aH Y (by omega) (by have:=a6.o;omega);obtain⟨n2,aB⟩:=zN ((M++ [UInt8.ofNat (N+1)]++q).length);rw[<-aB]at a7 a8 ⊢;have N2:=z7 aB;have E4:=z7 a7;have E5:=z7 a8;obtain⟨i1,i2,i3⟩:=z0u aG;clear aB a7 a8 Y aH aG))
    have E:=E4.o;refine⟨by rw[a6.o];exact E.kf,E.kp,⟨_,E.box,?_,E.chg⟩⟩;have aC:M++ [UInt8.ofNat (N+1)]++q=stL (pre++ [(.slice ax p.length p.length,p)]):=by
     rw[q2a,<-HL.o];show _=L++part p;rw[<-hM.o,y0R (show q.length<254 by have:=U.o;omega),U.o];simp
    rw[<-aC];exact E.own
 case done=>
  rintro D xs W hD hS ⟨v,c1,O,J⟩ B;have aD:stL xs=y2r b:=by unfold stL y2r;rw[hS]
  rw[aD]at O;obtain⟨L,hL⟩:=zN (y2r b);rw[<-hL]at O;have aW:L.length<=1100000:=by
   have h1:=z5U b;unfold z2c at h1;rw[List.length_append,<-hL]at h1;omega
  obtain⟨f1,f2,f3⟩:=z0u c1;obtain⟨av,cv,rfl⟩:=(z0e O).head;have b3:h+5<=W.heap.size:=by have:=J.size;omega
  have a5:Hid (StV (h+5) h (h+2) W5 W (.slice av L.length cv) L W):=z7 ⟨c1,O,J,KeepsFrom.refl _ _,⟨Nat.le_refl _,fun _ _ _=>rfl⟩,b3⟩;have a3:=z7 (z3z W #[.int .u8 0] 5 1 1 (by decide) rfl);have A:=z7 (a5.o.alloc #[.int .u8 0] 5);have HL:=z7 hL;have b9:=z7 aW;have HK:=z7 B;have bE:=(Array.getElem?_eq_some_iff.1 B).1;clear hh aL hL aW aX aI aU hc hx aY hS aD O B
  gi_wp2_with (gi_at_builtin;(refine z2W rfl _ _ 47 rfl (h+5) 5 underlying47 (by kernel_rfl) _ L rfl (by exact A.o.own) _ [0] rfl (by exact a3.o) (by have:=b9.o;simp;omega) (by exact A.o.le) ?_;intro a1 aF w1 I a4;obtain⟨n1,R⟩:=zN ((L++ [0]).length);rw[<-R];have N1:=z7 R;have HO:=z7 I;have HG:Hid ((W.alloc (.cells #[.int .u8 0] 5)).grownBy w1 (Value.slice av L.length cv).ownBlock):=z7 a4;clear R I a4))
  have aN:∀k,k<W.heap.size->k<h+5\/k=D->w1.heap[k]? =W.heap[k]? :=fun k hk bH=>by
   refine(HG.o.block k (by simp;omega) fun e=>?_).trans (Below.heap_alloc W _ k hk);rcases bH with h1|h1
   ·have:=A.o.far k e.symm;omega
   ·subst h1;rcases A.o.own.2 with⟨e2,_⟩|⟨g,cap,bS,e2,_,bG,_⟩
    ·rw[e2]at e;cases e
    ·have e3:=(Below.heap_alloc W (.cells #[.int .u8 0] 5) k hk).trans HK.o;rw[e2]at e;obtain rfl:k=g:=by simpa[Value.ownBlock]using e
     rw[bG]at e3;cases e3
  have aZ:=(aN D bE (.inr rfl)).trans HK.o;refine⟨by simp,.inl ⟨_,_,rfl,run_takeDeferred aZ,?_⟩⟩;have aC:L++ [0]=z2c b:=by rw[HL.o];rfl
  refine⟨_,results_tmp rfl _ _ _,a1,aF,?_,?_,?_⟩
  ·rw[<-aC,<-N1.o];rfl
  ·rw[<-aC,<-HH.o];exact z0c (ownsRow_putObj HO.o _ aZ rfl) (by omega)
  ·rw[<-HH.o];have hg:=HG.o;have bV:=a6.o;refine⟨hg.os.trans (J.os.trans aE.os),hg.tape.trans (J.tape.trans aE.tape),hg.output.trans (J.output.trans aE.output),?_,fun k hk=>?_⟩
   ·have h1:=hg.size;have h2:=J.size;have h3:=aE.size;simp at h1 ⊢;omega
   ·have hd:k≠D:=(by omega);refine(World.putObj_heap_other hd).trans ((aN k (by omega) (.inl (by omega))).trans ((J.block k (by omega) ?_).trans (aE.block k hk)));simp;omega
end
section
open Go.RowKit Go.Maps
def z6l(k:Bs):Bs:=k++ [126]
def z2m(s:FsS)(k:Bs):FsS:=if s.has (z6l k)then(z3c s (z6l k)).2 else s
def z2g(s:FsS)(k note:Bs):Int×FsS:=if 600<note.length then(1,s)else z1f s k (z2c note)
def z3v(s:FsS)(k:Bs):Int×FsS:=if s.has k then(0,s)else z2a s k
def z6j(s:FsS)(k:Bs):Bs:=if s.has k then s.get k else []
def z5v(s:FsS)(k:Bs):FsS:=if(z1h (z6j s k)).2<(z6j s k).length then(z5E s k (z1h (z6j s k)).2).2 else s
def z2F(s:FsS)(k:Bs):Int×FsS×List Bs:=
 if k.length=0\/16<=k.length then(1,s, [])
 else if(z3v (z2m s k) k).1≠0 then((z3v (z2m s k) k).1,(z3v (z2m s k) k).2, [])
 else(0,z5v (z3v (z2m s k) k).2 k,(z1h (z6j (z3v (z2m s k) k).2 k)).1)
theorem z8v{s:FsS}(h:s.Ok)(k:Bs):(z2m s k).Ok:=by
 unfold z2m;split
 ·exact y5A h _
 ·exact h
theorem y3q{s:FsS}(h:s.Ok)(k:Bs):(z3v s k).2.Ok:=by
 unfold z3v;split
 ·exact h
 ·exact y0h h _
theorem q1q{s:FsS}(h:s.Ok)(k:Bs):(z5v s k).Ok:=by
 unfold z5v;split
 ·exact q0r h _ _
 ·exact h
theorem z7p{s:FsS}(h:s.Ok)(k b:Bs):(z2g s k b).2.Ok:=by
 unfold z2g;split
 ·exact h
 ·exact y5m h _ _
theorem y8L{s:FsS}(h:s.Ok)(k:Bs):(z2F s k).2.1.Ok:=by
 unfold z2F;split
 ·exact h
 ·split
  ·exact y3q (z8v h k) k
  ·exact q1q (y3q (z8v h k) k) k
def z3H(w:World)(tb sb:Nat)(k:Bs):Prop:=w.heap[tb]? =some (.cells #[.pointer (some ⟨sb,0,none⟩),.string ⟨k.toArray⟩] 133 (0,0))
theorem z3H.low{w w':World}{A B:Nat}{k:Bs}(h:z3H w A B k)(hb:Below w.heap.size w w'):z3H w' A B k:=(hb.block A (Array.getElem?_eq_some_iff.1 h).1).trans h
theorem z3H.chg{w w':World}{A B:Nat}{k:Bs}{F I:List Nat}(h:z3H w A B k)(J:Chg F I w w')(L:A∉F):z3H w' A B k:=(J.block A (Array.getElem?_eq_some_iff.1 h).1 L).trans h
theorem z3H.lt{w:World}{A B:Nat}{k:Bs}(h:z3H w A B k):A<w.heap.size:=(Array.getElem?_eq_some_iff.1 h).1
theorem y9r(k:Bs):(⟨k.toArray⟩:ByteArray)++⟨#[126]⟩=⟨(z6l k).toArray⟩:=by
 apply ByteArray.ext;simp[z6l]
theorem y4Y(B L:Nat)(k:Bs)(w:World)(h:z3H w B L k)(O:k.length<=1000000):Calls prog 87 #[.pointer (some ⟨B,0,none⟩)] w fun e w'=>e= .returned (.string ⟨(z6l k).toArray⟩)/\w=w':=by
 obtain⟨c0,c1,N,J⟩:=z3X h;have A:=y9r k;have I:=z7 A;clear h A;go_enter func87,ntmps87;go_wp2;go_ret;exact⟨by rw[<-I.o];rfl,rfl⟩
theorem q0I(L:Nat)(s:FsS)(F:List Nat)(k:Bs)(R:k.length<=maxLen)(w:World)(h:z1v w L s F)(ok:s.Ok):Calls prog 43 #[.pointer (some ⟨L,0,none⟩),.string ⟨k.toArray⟩] w fun e w'=>e= .returned (.bool (s.has k))/\Below w.heap.size w w':=by
 have N:=z7 (z4M L s F k R w h ok);obtain⟨hb,A⟩:=zN (s.has k);have I:=z7 A;clear h ok;cases hb with
 | true=>
  rw[<-A];clear A;go_enter func43,ntmps43;go_wp2_with fail;refine N.o.mono ?_;rintro e U B;unfold z2i at B;rw[<-I.o,if_pos rfl]at B;obtain⟨Y,rn,rc,rfl,J⟩:=B;have O:=z7 J.2.2;clear J;go_wp2;go_ret;exact⟨rfl,O.o⟩
 | false=>
  rw[<-A];clear A;go_enter func43,ntmps43;go_wp2_with fail;refine N.o.mono ?_;rintro e U B;unfold z2i at B;rw[<-I.o,if_neg (by simp)]at B;obtain⟨rfl,rfl⟩:=B;go_wp2;go_ret;exact⟨rfl,Below.refl _ _⟩
theorem q2v(I L:Nat)(s:FsS)(F:List Nat)(k:Bs)(hk:k.length<=1000000)(w:World)(hB:z3H w I L k)(h:z1v w L s F)(ok:s.Ok):
  Calls prog 42 #[.pointer (some ⟨I,0,none⟩)] w fun e w'=>e= .returned (.tuple #[])/\z2G w L F (z2m s k) w':=by
 have H:=z7 h;have OK:=z7 ok;have HB:=z7 hB;have U:=z7 (show(z6l k).length<=maxLen by unfold z6l maxLen;simp;omega);obtain⟨c0,c1,cf,a2⟩:=z3X hB;have a0:Hid (∀w',Below w.heap.size w w'->w'.cell? ⟨I,0,none⟩=some (.pointer (some ⟨L,0,none⟩))/\w'.cell? ⟨I,1,none⟩=some (.string ⟨k.toArray⟩)):=z7 fun w' hw=>⟨(hw.cell (p:=⟨I,0,none⟩) a2).trans c0,(hw.cell (p:=⟨I,1,none⟩) a2).trans c1⟩;obtain⟨bo,Y⟩:=zN (s.has (z6l k));have N:=z7 Y;clear h ok hB c0 c1 cf Y;go_enter func42,ntmps42;go_wp2_with fail;refine q6 7 16 (fun D v w'=>Below w.heap.size w w') (Below.refl _ _).drew ?_;simp only[z0v];iterate 5 (refine q8.rd (e:=?_) (fun D v w' J A=>?_) ?_;rotate_left;(obtain⟨x0,x1⟩:=a0.o w' A;clear A J;go_simp;try with_reducible rfl);go_simp)
 refine q8.ca (.string ⟨(z6l k).toArray⟩) (fun D v w' J A=>?_) ?_
 ·have B:=z7 A;clear A J;go_simp;go_at_call 87;refine(y4Y I L k w' (HB.o.low B.o) hk).mono ?_;rintro e a3 ⟨rfl,rfl⟩;exact⟨rfl,B.o⟩
 go_simp;refine q8.ca (.bool bo) (fun D v w' J A=>?_) ?_
 ·have B:=z7 A;clear A J;go_simp;go_at_call 43;refine(q0I L s F (z6l k) U.o w' (H.o.low B.o) OK.o).mono ?_;rintro e a3 ⟨rfl,hb⟩;exact⟨by rw[N.o],B.o.trans (hb.mono B.o.size)⟩
 go_simp;refine q8.fin (fun v w4 A=>?_);have B:=z7 A;clear A;cases bo with
 | false=>
  have e:z2m s k=s:=by unfold z2m;rw[<-N.o];rfl
  have HE:=z7 e;clear e;go_wp2
  go_end0
  rw[HE.o];exact⟨rfl,F,H.o.low B.o,Chg.of_below B.o⟩
 | true=>
  have e:z2m s k=(z3c s (z6l k)).2:=by unfold z2m;rw[<-N.o];rfl
  have HE:=z7 e;clear e;have a1:Hid (∀w',Below w4.heap.size w4 w'->w'.cell? ⟨I,0,none⟩=some (.pointer (some ⟨L,0,none⟩))/\w'.cell? ⟨I,1,none⟩=some (.string ⟨k.toArray⟩)):=z7 fun w' hw=>a0.o w' (B.o.trans (hw.mono B.o.size));go_wp2_with fail;refine q6 6 16 (fun D v w'=>Below w4.heap.size w4 w') (Below.refl _ _).drew ?_;simp only[z0v];iterate 5 (refine q8.rd (e:=?_) (fun D v w' J A=>?_) ?_;rotate_left;(obtain⟨x0,x1⟩:=a1.o w' A;clear A J;go_simp;try with_reducible rfl);go_simp)
  refine q8.ca (.string ⟨(z6l k).toArray⟩) (fun D v w' J A=>?_) ?_
  ·have O:=z7 A;clear A J;go_simp;go_at_call 87;refine(y4Y I L k w' ((HB.o.low B.o).low O.o) hk).mono ?_;rintro e a3 ⟨rfl,rfl⟩;exact⟨rfl,O.o⟩
  go_simp;refine q8.fin (fun v w5 A=>?_);have R:=z7 (B.o.trans (A.mono B.o.size));clear A;go_wp2_with fail;refine(y8Q L s F (z6l k) U.o w5 (H.o.low R.o) OK.o).mono ?_;rintro e w6 ⟨rfl,ht⟩;have HT:=z7 ht;clear ht;go_wp2
  go_end0
  rw[HE.o];obtain⟨F',h1,h2⟩:=HT.o;exact⟨rfl,F',h1,(Chg.of_below R.o).trans h2⟩
theorem y9i(O sb:Nat)(s:FsS)(F:List Nat)(k:Bs)(hk:k.length<=1000000)(a:Option Addr)(n c:Nat)(note:Bs)(w:World)(hB:z3H w O sb k)(h:z1v w sb s F)(ok:s.Ok)(hx:RdB w (.slice a n c) note)(hn:n=note.length)(a7:n<=c)(hc:c<=9223372036854775807)(a0:0<n->∀j,(Value.slice a n c).ownBlock=some j->j<w.heap.size):
  Calls prog 75 #[.pointer (some ⟨O,0,none⟩),.slice a n c] w fun e w'=>e= .returned (.int .u16 (z2g s k note).1)/\z2G w sb F (z2g s k note).2 w':=by
 have H:=z7 h;have OK:=z7 ok;have HB:=z7 hB;have HX:=z7 hx;have R:=z7 hn;have a3:=z7 a0;obtain⟨c0,c1,cf,a1⟩:=z3X hB;have a5:Hid (∀w',Below w.heap.size w w'->w'.cell? ⟨O,0,none⟩=some (.pointer (some ⟨sb,0,none⟩))/\w'.cell? ⟨O,1,none⟩=some (.string ⟨k.toArray⟩)):=z7 fun w' N=>⟨(N.cell (p:=⟨O,0,none⟩) a1).trans c0,(N.cell (p:=⟨O,1,none⟩) a1).trans c1⟩;have a6:k.length<=maxLen:=by unfold maxLen;omega
 clear h ok hB c0 c1 cf hx a0;by_cases hbig:600<n
 ·have e:z2g s k note=(1,s):=by unfold z2g;rw[<-hn,if_pos hbig]
  rw[e];have d1:decide ((600:Int)<n)=true:=decide_eq_true (by omega);clear e hn;go_enter func75,ntmps75;go_wp2;go_ret;exact⟨rfl,z2G.refl H.o⟩
 ·have e:z2g s k note=z1f s k (z2c note):=by unfold z2g;rw[<-hn,if_neg hbig]
  rw[e];have d1:decide ((600:Int)<n)=false:=decide_eq_false (by omega);obtain⟨X,hX⟩:=zN (z2c note);rw[<-hX];have a8:X.length<=700:=by rw[hX];have:=z5U note;omega
  have a4:=z7 hX;clear e hn hX;go_enter func75,ntmps75;go_wp2_with fail;refine q6 10 19 (fun D v w'=>Below w.heap.size w w'/\(D 9=true->∃a' c',v 9= .slice a' X.length c'/\w'.ownsRow w.heap.size 5 1 (.slice a' X.length c') X.length (z0b X))) ⟨(Below.refl _ _).drew,fun h=>by cases h⟩ ?_;simp only[z0v];iterate 9 (refine q8.rd (e:=?_) (fun D v w' hD B=>?_) ?_;rotate_left;(obtain⟨x0,x1⟩:=a5.o w' B.1;clear B hD;go_simp;try with_reducible rfl);go_simp)
  refine q8.re (fun D v w' hD B=>?_) ?_
  ·have U:=z7 B.1;clear B hD;go_simp;go_at_call 116;have N:=q0O note a c w' (by rw[<-R.o];exact HX.o.low U.o) (by rw[<-R.o];exact a7) hc (by rw[<-R.o];omega) (by rw[<-R.o];exact fun h0 j hj=>Nat.lt_of_lt_of_le (a3.o h0 j hj) U.o.size);rw[<-R.o]at N;refine N.mono ?_;clear N;rintro e aA ⟨a',c',rfl,A,hb⟩;rw[<-a4.o]at A ⊢;exact⟨U.o.trans (hb.mono U.o.size),fun _=>⟨a',c',rfl,z0c A U.o.size⟩⟩
  go_simp;refine q8.fin (fun v w5 B=>?_);obtain⟨a',c',a2,A⟩:=B.2 rfl;have Y:=z7 B.1;have I:=z7 A;rw[a2];obtain⟨xn,L⟩:=zN X.length;rw[<-L];have J:=z7 L;have a9:xn<=700:=by omega
  clear B a2 A L;go_wp2_with fail;refine(y9o sb s F k a6 a' xn c' X w5 (H.o.low Y.o) OK.o (by rw[J.o];exact z0e I.o) J.o (by omega) (fun _ j hj hm=>by have:=(I.o.lt j (by rw[<-J.o];exact hj)).1;have:=H.o.lt j hm;omega)).mono ?_;rintro e w6 ⟨rfl,ht⟩;have HT:=z7 ht;clear ht;go_wp2;go_ret;obtain⟨F',h1,h2⟩:=HT.o;exact⟨rfl,F',h1,(Chg.of_below Y.o).trans h2⟩
theorem y4w{s:FsS}{k:Bs}{w w':World}{e:Ending}(h:z2i s k w e w'):∃a n c I,e= .returned (.tuple #[.slice a n c,.int .u16 I])/\w'.ownsRow w.heap.size 5 1 (.slice a n c) n (z0b (z6j s k))/\n=(z6j s k).length/\n<=c/\c<=9223372036854775807/\Below w.heap.size w w'/\I=(if s.has k then 0 else 80):=by
 unfold z2i at h;unfold z6j;split at h
 ·rename_i B;obtain⟨a,n,c,rfl,A⟩:=h;rw[if_pos B,if_pos B];exact⟨a,n,c,0,rfl,A.1,A.2.1,A.cap.1,A.cap.2,A.2.2,rfl⟩
 ·rename_i B;obtain⟨rfl,rfl⟩:=h;rw[if_neg B,if_neg B];exact⟨none,0,0,80,rfl,World.ownsRow_nil _ _ _ _,rfl,Nat.le_refl _,by omega,Below.refl _ _,rfl⟩
theorem q0u{s:FsS}(ok:s.Ok)(k:Bs):(z6j s k).length<=1048576:=by
 unfold z6j;split
 ·have A:=z6y s k;have B:=ok.used_le;omega
 ·simp
def y5n(F:List Nat)(v:Value)(xs:List (Value×List UInt8)):Prop:=∀b,(v.ownBlock=some b\/∃x∈xs,x.1.ownBlock=some b)->b∉F
theorem z0I.chg{B:Nat}{w w':World}{v:Value}{J:List (Value×List UInt8)}{F O:List Nat}(h:z0I B w v J)(N:y5n F v J)(L:Chg F O w w'):z0I B w' v J/\y5n O v J:=by
 have A:∀b,(v.ownBlock=some b\/∃x∈J,x.1.ownBlock=some b)->b<w.heap.size:=fun b hb=>by
  rcases hb with hb|⟨x,I,hb⟩
  ·exact(h.row.lt b hb).2
  ·exact((h.ent x I).lt b hb).2
 refine⟨⟨j7 h.row fun b hb=>L.block b (A b (.inl hb)) (N b (.inl hb)),fun x I=>j7 (h.ent x I) fun b hb=>L.block b (A b (.inr ⟨x,I,hb⟩)) (N b (.inr ⟨x,I,hb⟩))⟩,fun b hb U=>?_⟩;rcases L.fresh b U with R|R
 ·exact N b hb R
 ·have:=A b hb;omega
theorem z0I.base{B A:Nat}{w:World}{v:Value}{I:List (Value×List UInt8)}(h:z0I B w v I)(hb:A<=B):z0I A w v I:=⟨z0c h.row hb,fun x J=>z0c (h.ent x J) hb⟩
theorem z0I.far{B:Nat}{w:World}{v:Value}{A:List (Value×List UInt8)}{F:List Nat}(h:z0I B w v A)(I:∀k∈F,k<B):y5n F v A:=fun b hb J=>by
 have:=I b J;rcases hb with hb|⟨x,L,hb⟩
 ·have:=(h.row.lt b hb).1;omega
 ·have:=((h.ent x L).lt b hb).1;omega
def z3N(sb:Nat)(s:FsS)(k:Bs)(F:List Nat)(w:World)(e:Ending)(w':World):Prop:=
 ∃F',z1v w' sb (z2F s k).2.1 F'/\Chg F F' w w'/\
  (((z2F s k).1≠0/\e= .returned (.tuple #[.pointer none,.slice none 0 0,.int .u16 (z2F s k).1]))\/
   ((z2F s k).1=0/\∃tb a cc xs,e= .returned (.tuple #[.pointer (some ⟨tb,0,none⟩),.slice a xs.length cc,.int .u16 0])/\z3H w' tb sb k/\w.heap.size<=tb/\tb∉F'/\
    z0I w.heap.size w' (.slice a xs.length cc) xs/\xs.map Prod.snd=(z2F s k).2.2/\y5n F' (.slice a xs.length cc) xs))
theorem q3I(sb:Nat)(s:FsS)(F:List Nat)(k:Bs)(hk:k.length<=maxLen)(w:World)(h:z1v w sb s F)(ok:s.Ok):
  Calls prog 20 #[.pointer (some ⟨sb,0,none⟩),.string ⟨k.toArray⟩] w (z3N sb s k F w):=by
 have H:=z7 h;have OK:=z7 ok;obtain⟨kn,bL⟩:=zN k.length;have a8:=z7 bL;clear h ok bL;by_cases hbad:kn=0\/16<=kn
 ·have e:z2F s k=(1,s, []):=by unfold z2F;rw[if_pos (by rw[<-a8.o];exact hbad)]
  have HE:=z7 e;have aM:Hid (z3N sb s k F w (.returned (.tuple #[.pointer none,.slice none 0 0,.int .u16 1])) w):=z7 (by
   unfold z3N;rw[HE.o];exact⟨F,H.o,Chg.refl _ _,.inl ⟨by show(1:Int)≠0;decide,rfl⟩⟩)
  clear e HE;by_cases h0:kn=0
  ·have aY:k= []:=List.eq_nil_of_length_eq_zero (by rw[<-a8.o];exact h0);subst aY;clear hbad h0;go_enter func20,ntmps20;go_wp2;go_ret3
   exact aM.o
  ·have aY:k≠ []:=fun e=>h0 (by rw[a8.o,e];rfl);have e1:(k== [])=false:=by simpa using aY
   have d1:decide ((16:Int)<=k.length)=true:=decide_eq_true (by have:=a8.o;omega);clear hbad h0;go_enter func20,ntmps20;go_wp2;go_ret3
   exact aM.o
 ·have aY:k≠ []:=fun e=>hbad (.inl (by rw[a8.o,e];rfl));have e1:(k== [])=false:=by simpa using aY
  have d1:decide ((16:Int)<=k.length)=false:=decide_eq_false (by have:=a8.o;omega);have bU:k.length<=1000000:=by have:=a8.o;omega
  have a1:Hid (z2F s k=if(z3v (z2m s k) k).1≠0 then((z3v (z2m s k) k).1,(z3v (z2m s k) k).2, [])else(0,z5v (z3v (z2m s k) k).2 k,(z1h (z6j (z3v (z2m s k) k).2 k)).1)):=z7 (by
   unfold z2F;rw[if_neg (by rw[<-a8.o];exact hbad)])
  obtain⟨s1,b6⟩:=zN (z2m s k);rw[<-b6]at a1;have bR:=z7 b6;have b1:Hid (s1.Ok):=z7 (by rw[b6];exact z8v OK.o k);obtain⟨W1,b2⟩:=zN (w.alloc (.cells #[.pointer (some ⟨sb,0,none⟩),.string ⟨k.toArray⟩] 133));have bJ:Below w.heap.size w W1:=by rw[b2];exact q5 _ _
  have aX:z3H W1 w.heap.size sb k:=by rw[b2];exact j8 _ _
  have bF:=z7 bJ;have b7:=z7 aX;have bV:=aX.lt;have bI:Hid (w.heap.size∉F):=z7 fun hm=>by have:=H.o.lt _ hm;omega
  clear hbad b6 bJ aX;go_enter func20,ntmps20;go_upto_region 4 with fail
  rw[<-b2];clear b2;go_wp2_with fail;refine(q2v w.heap.size sb s F k bU W1 b7.o (H.o.low bF.o) OK.o).mono ?_;rintro e w2 ⟨rfl,ht⟩;rw[<-bR.o]at ht;obtain⟨F1,bM,b4⟩:=ht;have b8:=z7 bM;have bH:Hid (Chg F F1 w w2):=z7 ((Chg.of_below bF.o).trans b4);have aR:=z7 (b7.o.chg b4 bI.o);have aB:Hid (w.heap.size∉F1):=z7 fun hm=>by
   rcases b4.fresh _ hm with h1|h1
   ·exact bI.o h1
   ·omega
  clear bM b4;go_wp2_with fail;refine(q0I sb s1 F1 k hk w2 b8.o b1.o).mono ?_;rintro e w3 ⟨rfl,b3⟩;have b0:=z7 (b8.o.low b3);have aS:Hid (Chg F F1 w w3):=z7 (bH.o.trans (Chg.of_below b3));have B:=z7 (aR.o.low b3);clear b3 b8 bH aR;obtain⟨bo,bB⟩:=zN (s1.has k);rw[<-bB];have bG:=z7 bB;clear bB;cases bo with
  | true=>
   obtain⟨Y,a3⟩:=zN s1;have aF:Hid (z3v s1 k=(0,Y)):=z7 (by unfold z3v;rw[<-bG.o,if_pos rfl,a3]);have aH:Hid (Y.Ok):=z7 (by rw[a3];exact b1.o);have aA:Hid (z1v w3 sb Y F1):=z7 (by rw[a3];exact b0.o);have aN:=aS;have I:=B;have N:=aB;clear a3 b0 aS B aB;go_wp2_with fail;refine(z4M sb Y F1 k hk w3 aA.o aH.o).mono ?_;rintro e w5 hr;obtain⟨ra,rn,rc,bT,rfl,U,a7,bE,hc,a5, -⟩:=y4w hr;obtain⟨G,hG⟩:=zN (z6j Y k);rw[<-hG]at U a7;have bA:rn<=1048576:=by rw[a7,hG];exact q0u aH.o k
   have HG:=z7 hG;have a9:=z7 U;have a2:=z7 a7;have aG:=z7 (aA.o.low a5);have aE:Hid (Chg F F1 w w5):=z7 (aN.o.trans (Chg.of_below a5));have J:=z7 (I.o.low a5);have aD:=aE.o.size;clear hr U a7 a5 hG aA aN I;go_wp2_with fail;refine(y8D G ra rn rc w5 a2.o (by have:=z0e a9.o;unfold RdB;rw[<-a2.o];exact this) bE hc bA (fun j hj=>(a9.o.lt j hj).2)).mono ?_;rintro e w6 ⟨na,nc,xs,rfl,a4,aW,a6⟩;obtain⟨nx,aL⟩:=zN ((z1h G).2);obtain⟨m,hm⟩:=zN xs.length;rw[<-hm]at a4 ⊢;rw[<-aL];have aU:=z7 aL;have HM:=z7 hm;have b9:=z7 aW;have aO:=z7 a4;have aV:=z7 (aG.o.low a6);have aT:Hid (Chg F F1 w w6):=z7 (aE.o.trans (Chg.of_below a6));have A:=z7 (J.o.low a6);have R:Hid (y5n F1 (.slice na m nc) xs):=z7 (a4.far fun j hj=>aG.o.lt j hj);have aC:Hid (∀w' F',z1v w' sb (z5v Y k) F'->Chg F F' w w'->z3H w' w.heap.size sb k->w.heap.size∉F'->z0I w5.heap.size w' (.slice na m nc) xs->y5n F' (.slice na m nc) xs->z3N sb s k F w (.returned (.tuple #[.pointer (some ⟨w.heap.size,0,none⟩),.slice na m nc,.int .u16 0])) w'):=z7 fun w' F' z1 z2 z3 z4 z5 z6=>by
    unfold z3N;rw[a1.o,aF.o,if_neg (by simp)];refine⟨F',z1,z2,.inr ⟨rfl,w.heap.size,na,nc,xs,by rw[<-HM.o],z3,Nat.le_refl _,z4,?_,?_,?_⟩⟩
    ·rw[<-HM.o];exact z5.base aD
    ·rw[b9.o,HG.o]
    ·rw[<-HM.o];exact z6
   clear aL hm aW a4 a6 aG aE J;by_cases hcut:nx<rn
   ·have d5:decide ((nx:Int)<rn)=true:=(by simpa using hcut);have d6:decide (nx<rn)=true:=(by simpa using hcut);have aI:Hid (z5v Y k=(z5E Y k (nx:Nat)).2):=z7 (by unfold z5v;rw[<-HG.o,<-aU.o,if_pos (by rw[<-a2.o];exact hcut)]);clear hcut;go_wp2_with fail;refine(q0T sb Y F1 k hk (nx:Nat) w6 aV.o aH.o).mono ?_;rintro e w7 ⟨rfl,ht⟩;rw[<-aI.o]at ht;obtain⟨F3,aZ,O⟩:=ht;have aJ:=aO.o.chg R.o O;have L:=z7 (aC.o w7 F3 aZ (aT.o.trans O) (A.o.chg O N.o) (fun hm=>by
     rcases O.fresh _ hm with h1|h1
     ·exact N.o h1
     ·have:=A.o.lt;omega) aJ.1 aJ.2)
    clear aZ O aJ;go_wp2;go_ret3
    exact L.o
   ·have d5:decide ((nx:Int)<rn)=false:=decide_eq_false (by omega);have d6:decide (nx<rn)=false:=(by simpa using hcut);have aI:Hid (z5v Y k=Y):=z7 (by unfold z5v;rw[<-HG.o,<-aU.o,if_neg (by rw[<-a2.o];exact hcut)]);clear hcut;have L:=z7 (aC.o w6 F1 (by rw[aI.o];exact aV.o) aT.o A.o N.o aO.o R.o);go_wp2;go_ret3
    exact L.o
  | false=>
   obtain⟨Y,a3⟩:=zN ((z2a s1 k).2);obtain⟨er,bC⟩:=zN ((z2a s1 k).1);have a0:Hid (z3v s1 k=(er,Y)):=z7 (by unfold z3v;rw[<-bG.o,if_neg (by simp),a3,bC]);have aH:Hid (Y.Ok):=z7 (by rw[a3];exact y0h b1.o k);have bS:=z7 a3;have bO:=z7 bC;clear a3 bC;go_wp2_with fail;refine(y9y sb s1 F1 k hk w3 b0.o b1.o).mono ?_;rintro e w4 ⟨rfl,ht⟩;rw[<-bS.o]at ht;rw[<-bO.o];obtain⟨F2,bN,b5⟩:=ht;have aA:=z7 bN;have aN:Hid (Chg F F2 w w4):=z7 (aS.o.trans b5);have I:=z7 (B.o.chg b5 aB.o);have N:Hid (w.heap.size∉F2):=z7 fun hm=>by
    rcases b5.fresh _ hm with h1|h1
    ·exact aB.o h1
    ·have:=aS.o.size;have:=B.o.lt;omega
   clear bN b5;by_cases he:er=0
   ·subst he;have aF:=a0;clear a0 b0 aS B aB;go_wp2_with fail;refine(z4M sb Y F2 k hk w4 aA.o aH.o).mono ?_;rintro e w5 hr;obtain⟨ra,rn,rc,bT,rfl,U,a7,bE,hc,a5, -⟩:=y4w hr;obtain⟨G,hG⟩:=zN (z6j Y k);rw[<-hG]at U a7;have bA:rn<=1048576:=(by rw[a7,hG];exact q0u aH.o k);have HG:=z7 hG;have a9:=z7 U;have a2:=z7 a7;have aG:=z7 (aA.o.low a5);have aE:Hid (Chg F F2 w w5):=z7 (aN.o.trans (Chg.of_below a5));have J:=z7 (I.o.low a5);have aD:=aE.o.size;clear hr U a7 a5 hG aA aN I;go_wp2_with fail;refine(y8D G ra rn rc w5 a2.o (by have:=z0e a9.o;unfold RdB;rw[<-a2.o];exact this) bE hc bA (fun j hj=>(a9.o.lt j hj).2)).mono ?_;rintro e w6 ⟨na,nc,xs,rfl,a4,aW,a6⟩;obtain⟨nx,aL⟩:=zN ((z1h G).2);obtain⟨m,hm⟩:=zN xs.length;rw[<-hm]at a4 ⊢;rw[<-aL];have aU:=z7 aL;have HM:=z7 hm;have b9:=z7 aW;have aO:=z7 a4;have aV:=z7 (aG.o.low a6);have aT:Hid (Chg F F2 w w6):=z7 (aE.o.trans (Chg.of_below a6));have A:=z7 (J.o.low a6);have R:Hid (y5n F2 (.slice na m nc) xs):=z7 (a4.far fun j hj=>aG.o.lt j hj);have aC:Hid (∀w' F',z1v w' sb (z5v Y k) F'->Chg F F' w w'->z3H w' w.heap.size sb k->w.heap.size∉F'->z0I w5.heap.size w' (.slice na m nc) xs->y5n F' (.slice na m nc) xs->z3N sb s k F w (.returned (.tuple #[.pointer (some ⟨w.heap.size,0,none⟩),.slice na m nc,.int .u16 0])) w'):=z7 fun w' F' z1 z2 z3 z4 z5 z6=>by
     unfold z3N;rw[a1.o,aF.o,if_neg (by simp)];refine⟨F',z1,z2,.inr ⟨rfl,w.heap.size,na,nc,xs,by rw[<-HM.o],z3,Nat.le_refl _,z4,?_,?_,?_⟩⟩
     ·rw[<-HM.o];exact z5.base aD
     ·rw[b9.o,HG.o]
     ·rw[<-HM.o];exact z6
    clear aL hm aW a4 a6 aG aE J;by_cases hcut:nx<rn
    ·have d5:decide ((nx:Int)<rn)=true:=(by simpa using hcut);have d6:decide (nx<rn)=true:=(by simpa using hcut);have aI:Hid (z5v Y k=(z5E Y k (nx:Nat)).2):=z7 (by unfold z5v;rw[<-HG.o,<-aU.o,if_pos (by rw[<-a2.o];exact hcut)]);clear hcut;go_wp2_with fail;refine(q0T sb Y F2 k hk (nx:Nat) w6 aV.o aH.o).mono ?_;rintro e w7 ⟨rfl,ht⟩;rw[<-aI.o]at ht;obtain⟨F3,aZ,O⟩:=ht;have aJ:=aO.o.chg R.o O;have L:=z7 (aC.o w7 F3 aZ (aT.o.trans O) (A.o.chg O N.o) (fun hm=>by
      rcases O.fresh _ hm with h1|h1
      ·exact N.o h1
      ·have:=A.o.lt;omega) aJ.1 aJ.2)
     clear aZ O aJ;go_wp2;go_ret3
     exact L.o
    ·have d5:decide ((nx:Int)<rn)=false:=decide_eq_false (by omega);have d6:decide (nx<rn)=false:=(by simpa using hcut);have aI:Hid (z5v Y k=Y):=z7 (by unfold z5v;rw[<-HG.o,<-aU.o,if_neg (by rw[<-a2.o];exact hcut)]);clear hcut;have L:=z7 (aC.o w6 F2 (by rw[aI.o];exact aV.o) aT.o A.o N.o aO.o R.o);go_wp2;go_ret3
     exact L.o
   ·have e2:(er !=0)=true:=(by simpa using he);have e3:(er==0)=false:=(by simpa using he);have aM:Hid (z3N sb s k F w (.returned (.tuple #[.pointer none,.slice none 0 0,.int .u16 er])) w4):=z7 (by
     unfold z3N;rw[a1.o,a0.o,if_pos he];exact⟨F2,aA.o,aN.o,.inl ⟨he,rfl⟩⟩)
    clear he;go_wp2;go_ret3
    exact aM.o
end

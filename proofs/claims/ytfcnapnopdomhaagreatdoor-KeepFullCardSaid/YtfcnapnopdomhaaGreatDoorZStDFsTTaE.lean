/-
  The walk of stuff.Wrap.
-/
import Derived.Test.YtfcnapnopdomhaaGreatDoorZFsS
namespace Go.Proofs.YtfcnapnopdomhaaGreatDoor
set_option linter.unusedSimpArgs false
set_option linter.unusedVariables false
set_option maxRecDepth 100000
set_option maxHeartbeats 12800000
section
open Go.RowKit Go.Shelf
attribute [local go_sem] Oper.semAt_some
def stL(pre:List (Value×List UInt8)):List UInt8:=(pre.map Prod.snd).flatMap part
theorem q0M(pre:List (Value×List UInt8))(x:Value×List UInt8):stL (pre++ [x])=stL pre++part x.2:=by simp [stL]
def WrI(B h sB:Nat)(W5:World)(L:List UInt8)(W:World):Prop:=
 ∃v,W.heap[h]? =some (.cells #[v] 46)∧W.ownsRow B 5 1 v L.length (z0b L)∧Chg [h,sB] [h,sB] W5 W
theorem WrI.turn{B h sB:Nat}{W5 W W':World}{L:List UInt8}{row:Option Nat}(hI:WrI B h sB W5 L W)(hg:W.grownBy W' row)(hB:W5.heap.size≤B)(hr:∀r,row=some r→B≤r∧∃o:Obj,W.heap[r]? =some o∧o.isCells=false):WrI B h sB W5 L W':=by
 obtain ⟨v,h1,h2,h3⟩:=hI;have hr':=fun r e=>(hr r e).2;refine ⟨v,(grownBy_keeps_cells hg hr' h1 rfl).trans h1,j7 h2 fun k hk=>?_,?_⟩
 ·rcases h2.2 with ⟨rfl,_⟩ | ⟨g,cap,cur,rfl,_,hgb,_⟩
  ·cases hk
  ·obtain rfl:g=k:=by simpa [Value.ownBlock] using hk
   exact grownBy_keeps_cells hg hr' hgb rfl
 ·exact ⟨hg.os.trans h3.os,hg.tape.trans h3.tape,hg.output.trans h3.output,Nat.le_trans h3.size hg.size,fun k hk hn=>(hg.block k (Nat.lt_of_lt_of_le hk h3.size) (fun e=>by have:=(hr k e.symm).1;omega)).trans (h3.block k hk hn),h3.fresh⟩
theorem WrI.set{B h sB:Nat}{W5 W:World}{L:List UInt8}(hI:WrI B h sB W5 L W)(hB:sB<B)(hn:h≠sB)(v:Value):WrI B h sB W5 L (W.setCell ⟨sB,0,none⟩ v):=by
 obtain ⟨u,h1,h2,h3⟩:=hI;refine ⟨u,(q7 hn).trans h1,j7 h2 fun k hk=>q7 ?_,?_⟩
 ·have:=(h2.lt k hk).1;omega
 ·have h4:=Chg.setCells (b:=sB) [v] 0 W;refine ⟨h4.os.trans h3.os,h4.tape.trans h3.tape,h4.output.trans h3.output,Nat.le_trans h3.size h4.size,fun k hk hn=>(q7 (fun e=>hn (by rw [e];simp))).trans (h3.block k hk hn),h3.fresh⟩
structure StV (B h sB:Nat) (W5 W:World) (vm:Value) (M:List UInt8) (wr:World):Prop where
 box:wr.heap[h]? =some (.cells #[vm] 46)
 own:wr.ownsRow B 5 1 vm M.length (z0b M)
 chg:Chg [h,sB] [h,sB] W5 wr
 kf:KeepsFrom B W wr
 kp:q2I B h W wr
 le:B≤wr.heap.size
theorem StV.alloc{B h sB:Nat}{W5 W wr:World}{vm:Value}{M:List UInt8}(H:StV B h sB W5 W vm M wr)(cs:Array Value)(t:TypeId):StV B h sB W5 W vm M (wr.alloc (.cells cs t)):=by
 have hb:∀k,k<wr.heap.size→(wr.alloc (.cells cs t)).heap[k]? =wr.heap[k]? :=fun k hk=>Below.heap_alloc wr _ _ hk;have hl:=H.le;have hbl:=(z0t H.box).2.2;refine ⟨(hb _ hbl).trans H.box,j7 H.own fun k hk=>hb k (H.own.lt k hk).2,?_,H.kf.trans ((KeepsOthers.alloc wr _).from _),⟨Nat.le_trans H.kp.1 (by simp),fun k hk hn=>(hb k (by omega)).trans (H.kp.2 k hk hn)⟩,by simp;omega⟩;refine ⟨H.chg.os,H.chg.tape,H.chg.output,Nat.le_trans H.chg.size (by simp),fun k hk hn=>(hb k (Nat.lt_of_lt_of_le hk H.chg.size)).trans (H.chg.block k hk hn),H.chg.fresh⟩
theorem StV.drew{B h sB:Nat}{W5 W wr:World}{vm:Value}{M:List UInt8}(H:StV B h sB W5 W vm M wr):StV B h sB W5 W vm M wr.drew:=
 ⟨H.box,j7 H.own fun k hk=>rfl,⟨H.chg.os,H.chg.tape,H.chg.output,H.chg.size,H.chg.block,H.chg.fresh⟩,H.kf.trans ((KeepsOthers.drew wr).from _),H.kp,H.le⟩
theorem StV.far{B h sB:Nat}{W5 W wr:World}{vm:Value}{M:List UInt8}(H:StV B h sB W5 W vm M wr):∀k,vm.ownBlock=some k→B≤k:=fun k hk=>(H.own.lt k hk).1
theorem StV.push{B h sB:Nat}{W5 W w0 w1:World}{vm v':Value}{M M':List UInt8}(H:StV B h sB W5 W vm M w0)(hg:w0.grownBy w1 vm.ownBlock)(hown:w1.ownsRow B 5 1 v' M'.length (z0b M'))(hh:h<B)(hB5:W5.heap.size≤B):
  w1.heap[h]? =some (.cells #[vm] 46)∧StV B h sB W5 W v' M' (w1.setCell ⟨h,0,none⟩ v')∧∀k,k<B→k≠h→(w1.setCell ⟨h,0,none⟩ v').heap[k]? =w0.heap[k]? :=by
 have hle:=H.le;have hb:∀k,k<B→w1.heap[k]? =w0.heap[k]? :=fun k hk=>hg.block k (by omega) fun e=>by have:=H.far k e.symm;omega
 have hb2:∀k,k<B→k≠h→(w1.setCell ⟨h,0,none⟩ v').heap[k]? =w0.heap[k]? :=fun k hk hn=>(q7 hn).trans (hb k hk);have e1:=(hb h hh).trans H.box;have hsz:(w1.setCell ⟨h,0,none⟩ v').heap.size=w1.heap.size:=by simp [World.setCell]
 refine ⟨e1,⟨?_,j7 hown fun k hk=>q7 (by have:=(hown.lt k hk).1;omega),?_,?_,⟨Nat.le_trans H.kp.1 (by rw [hsz];exact hg.size),fun k hk hn=>(hb2 k hk hn).trans (H.kp.2 k hk hn)⟩,by rw [hsz];exact Nat.le_trans hle hg.size⟩,hb2⟩
 ·have:=j9 e1 0 v';simpa using this
 ·refine ⟨hg.os.trans H.chg.os,hg.tape.trans H.chg.tape,hg.output.trans H.chg.output,by rw [hsz];exact Nat.le_trans H.chg.size hg.size,fun k hk hn=>(hb2 k (by omega) (by intro e;exact hn (by rw [e];simp))).trans (H.chg.block k hk hn),H.chg.fresh⟩
 ·refine H.kf.trans ((KeepsFrom.trans ((KeepsOthers.of_grownBy hg fun j o ej hj=>?_).from B)) ((KeepsOthers.setCell w1 _ _).from B));rcases H.own.2 with ⟨rfl,_⟩ | ⟨g,cap,cur,rfl,_,hgb,_⟩
  ·cases ej
  ·obtain rfl:g=j:=by simpa [Value.ownBlock] using ej
   rw [hgb] at hj;cases hj;rfl
theorem q0r(b:List UInt8)(ao:Option Addr)(c:Nat)(w:World)(hx:RdB w (.slice ao b.length c) b)(hle:b.length≤c)(hc:c≤9223372036854775807)(hlen:b.length≤1000000)(hlt:0<b.length→∀k,(Value.slice ao b.length c).ownBlock=some k→k<w.heap.size):
  Calls Tryz.prog 176 #[.slice ao b.length c] w fun e w'=>∃a c',e= .returned (.slice a (z3d b).length c')∧w'.ownsRow w.heap.size 5 1 (.slice a (z3d b).length c') (z3d b).length (z0b (z3d b))∧Below w.heap.size w w':=by
 refine (callsIn_wide (n:=3)).1 ?_;refine callsIn_of_wp_marks Tryz.func176 rfl trivial ?_ rfl;simp only [Tryz.ntmps176,List.size_toArray,List.length_cons,List.length_nil,Nat.reduceAdd,Nat.reduceSub,Array.replicate_succ,Array.replicate_zero,List.push_toArray,List.append_toArray,List.nil_append,List.cons_append]
 gi_wp2_with (refine ⟨trivial,?_⟩;refine (callsIn_wide.2 (y4q _ _ _ _ _)).mono ?_;rintro e w' ⟨rfl,rfl⟩)
 obtain ⟨h,hh⟩:∃h,h=w.heap.size:=⟨_,rfl⟩;obtain ⟨W5,hW5⟩:∃W5,W5=((((w.alloc (.cells #[.slice none 0 0] 46)).alloc (.cells #[.int .u8 0] 5)).alloc (.cells #[.slice ao b.length c] 46)).alloc (.cells #[.slice (some ⟨w.heap.size+1,0,none⟩) 1 1] 46)).alloc (.cells #[.int .i64 0] 3):=⟨_,rfl⟩;have hsz:W5.heap.size=h+5:=by rw [hW5,hh];simp
 have ka:∀(X:World) (o:Obj),(X.alloc o).heap[X.heap.size]? =some o:=fun X o=>World.alloc_heap_new X o;have kb:∀(X:World) (o:Obj) (k:Nat) (y:Obj),X.heap[k]? =some y→(X.alloc o).heap[k]? =some y:=fun X o k y hk=>(Below.heap_alloc X o k (Array.getElem?_eq_some_iff.1 hk).1).trans hk;have k0:W5.heap[h]? =some (.cells #[.slice none 0 0] 46):=by
  rw [hW5,hh];exact kb _ _ _ _ (kb _ _ _ _ (kb _ _ _ _ (kb _ _ _ _ (ka w _))))
 have k1:W5.heap[h+1]? =some (.cells #[.int .u8 0] 5):=by
  rw [hW5,hh];have:=ka (w.alloc (.cells #[.slice none 0 0] 46)) (.cells #[.int .u8 0] 5);rw [World.size_alloc] at this;exact kb _ _ _ _ (kb _ _ _ _ (kb _ _ _ _ this))
 have k2:W5.heap[h+2]? =some (.cells #[.slice ao b.length c] 46):=by
  rw [hW5,hh];have:=ka ((w.alloc (.cells #[.slice none 0 0] 46)).alloc (.cells #[.int .u8 0] 5)) (.cells #[.slice ao b.length c] 46);rw [World.size_alloc,World.size_alloc] at this;exact kb _ _ _ _ (kb _ _ _ _ this)
 have k3:W5.heap[h+3]? =some (.cells #[.slice (some ⟨h+1,0,none⟩) 1 1] 46):=by
  rw [hW5,hh];have:=ka (((w.alloc (.cells #[.slice none 0 0] 46)).alloc (.cells #[.int .u8 0] 5)).alloc (.cells #[.slice ao b.length c] 46)) (.cells #[.slice (some ⟨w.heap.size+1,0,none⟩) 1 1] 46);rw [World.size_alloc,World.size_alloc,World.size_alloc] at this;exact kb _ _ _ _ this
 have k4:W5.heap[h+4]? =some (.cells #[.int .i64 0] 3):=by
  rw [hW5,hh];have:=ka ((((w.alloc (.cells #[.slice none 0 0] 46)).alloc (.cells #[.int .u8 0] 5)).alloc (.cells #[.slice ao b.length c] 46)).alloc (.cells #[.slice (some ⟨w.heap.size+1,0,none⟩) 1 1] 46)) (.cells #[.int .i64 0] 3);rw [World.size_alloc,World.size_alloc,World.size_alloc,World.size_alloc] at this;exact this
 have hB5:Below h w W5:=by
  rw [hW5,hh];exact (((((Below.refl _ w).alloc (Nat.le_refl _) _).alloc (by simp) _).alloc (by simp;omega) _).alloc (by simp;omega) _).alloc (by simp;omega) _
 rw [←hW5];simp only [←hh];have hlt':0<b.length→∀k,(Value.slice ao b.length c).ownBlock=some k→k<h+5∧k≠h∧k≠h+2:=fun h0 k hk=>by
  have:=hlt h0 k hk;omega
 have hx5:RdB W5 (.slice ao b.length c) b:=hx.low (by rw [←hh];exact hB5);have HH:=z7 hh;have HSZ:=z7 hsz;have HW5:=z7 hW5;clear hW5;refine z8y (encs:=fun x:Value×List UInt8=> #[x.1]) rfl (by omega) (gf:=310) (lb:= #[.pointer (some ⟨h+1+1+1,0,none⟩), .pointer (some ⟨h+1+1,0,none⟩), .pointer (some ⟨h+1+1+2,0,none⟩)]) rfl trivial (enters_of Tryz.func310 (by kernel_rfl) rfl) (fun _=>rfl)
  (q1V b (h+5) h (h+2)) (q2I (h+5) h) (q3A (h+2)) (fun xs=>xs.map Prod.snd=z1v b)
  (q1h (3 - 1) (by omega) b ao c (h+5) h (h+2) (h+3) (h+4) (h+1) W5 k2 k3 k4 (z0t k1).1 hx5 hle hc hlt' (by omega) (by omega) (by omega) (by omega))
  (fun h1 h2=>⟨Nat.le_trans h1.1 h2.1,fun k hk hn=>(h2.2 k hk hn).trans (h1.2 k hk hn)⟩)
  (fun W l o o' hl hl2 ho=>⟨by simp,fun k hk hn=>World.putObj_heap_other (by omega)⟩)
  (fun pre W=>WrI (h+5) h (h+2) W5 (stL pre) W)
  (fun s X X' hs ⟨v,hv⟩=>hv▸hs.set (by omega) (by omega) v)
  (fun X X' ⟨v,hv⟩=>hv▸(KeepsOthers.setCell X _ v).from _)
  (fun s X X' row hs hg hr=>hs.turn hg (by omega) (fun r e=>by have:=hr r e;rw [hsz] at this;exact this))
  (fun s x X l o o' ⟨q1,q2,q3,q4⟩ hl hl2 ho=>⟨q1.keep0 fun h0 j hj=>World.putObj_heap_other (by have:=(q3 h0 j hj).1;omega),q2,q3,q4⟩)
  ⟨_,k0,World.ownsRow_nil _ _ _ _,Chg.refl _ _⟩
  (fun x=>{tmps:= #[.slice ao b.length c,undef, .slice none 0 0, .pointer (some ⟨h,0,none⟩),x.1, .slice ao b.length c, .slice (some ⟨h+1,0,none⟩) 1 1, .func (.func 310) #[] #[.pointer (some ⟨h+1+1+1,0,none⟩), .pointer (some ⟨h+1+1,0,none⟩), .pointer (some ⟨h+1+1+2,0,none⟩)],x.1,undef,undef,undef,undef,undef,undef,undef,undef,undef,undef,undef,undef,undef,undef,undef,undef,undef,undef,undef,undef,undef,undef,undef,undef,undef],defers:= []}) ?assign ?body ?done
 case assign=>
  clear hh hsz;intro l x W K hK
  gi_wp2
  exact hK
 case body=>
  rintro l pre x W ⟨v,c1,hrow,hchg⟩ ⟨q1,⟨ax,q2⟩,q3,rr,q4⟩;obtain ⟨xv,p⟩:=x;dsimp only at q1 q2 q3 q4 ⊢;subst q2;obtain ⟨L,hL⟩:∃L,L=stL pre:=⟨_,rfl⟩;rw [←hL] at hrow;obtain ⟨f1,f2,f3⟩:=z0t c1;have hLp:(L++part p).length≤1100000:=by
   have h1:=z6V b;have h2:z3d b=(L++part p)++(rr.flatMap part++ [0]):=by
    unfold z3d y1H;rw [←q4,hL];simp [stL]
   rw [h2,List.length_append] at h1;omega
  have hpl:p.length≤1100000:=by
   have:=z5k p.length p (Nat.le_refl _);rw [List.length_append] at hLp;omega
  have HL:=z7 hL;have HLP:=z7 hLp;have Q1:=z7 q1;have Q3:=z7 q3;clear hh hsz hL hLp q4 q1 q3 hlt hlt' hle hc hx hx5;have hmx:Tryz.prog.follows .mixedOrders=true:=by kernel_rfl
  gi_wp2
  gi_loopw [4] (fun pv wr=>∃(q:List UInt8) (M:List UInt8) (aq:Option Addr) (nq cq:Nat) (vm:Value),pv= .slice aq nq cq∧nq≤cq∧cq≤1100000∧Hid (nq=q.length)∧Hid (M++part q=L++part p)∧
    Hid (StV (h+5) h (h+2) W5 W vm M wr)∧Hid (RdB wr (.slice aq nq cq) q)∧Hid (0<nq→∀k,(Value.slice aq nq cq).ownBlock=some k→k<h+5∧k≠h∧k≠h+2)) (fun pv _=>match pv with | .slice _ n _=>n | _=>0)
  case atStart=>
   refine ⟨p,L,ax,p.length,p.length,v,rfl,Nat.le_refl _,by omega,z7 rfl,z7 rfl,z7 ⟨c1,hrow,hchg,KeepsFrom.refl _ _,⟨Nat.le_refl _,fun _ _ _=>rfl⟩,?_⟩,Q1,Q3⟩;have:=hchg.size;have:=HSZ.out;omega
  case round=>
   obtain ⟨q,M,aq,nq,cq,vm,rfl,hnc,hcm,hnq,hM,hst,hq,hqb⟩:=hrel;obtain ⟨g1,g2,g3⟩:=z0t hst.out.box;obtain ⟨av,cv,rfl⟩:=(z0d hst.out.own).head;have hMl:M.length≤1100000:=by
    have h1:=congrArg List.length hM.out;have h2:=HLP.out;rw [List.length_append] at h1;omega
   have HML:=z7 hMl;by_cases hbig:254≤nq
   ·have b1:(254:Int)≤(nq:Int):=by omega
    have b2:(254:Int)≤(cq:Int):=by omega
    have hrd1:=z7 (z3C wr #[.int .u8 255] 5 1 1 (by decide) rfl);have hst1:=z7 (hst.out.alloc #[.int .u8 255] 5);clear hMl
    gi_wp2_with (gi_at_builtin;refine z2I rfl _ _ 46 rfl (h+5) 5 Tryz.underlying46 (by kernel_rfl) _ M rfl (by exact hst1.out.own) _ [255] rfl (by exact hrd1.out) (by have:=HML.out;simp;omega) (by exact hst1.out.le) ?_;intro a1 co1 w1 hown1 hg1;obtain ⟨e1,e2,e3⟩:=hst1.out.push hg1 hown1 (by omega) (by have:=HSZ.out;omega);obtain ⟨n1,hn1⟩:∃n1,n1=(M++ [255]).length:=⟨_,rfl⟩;rw [←hn1] at e2 e3 ⊢;have N1:=z7 hn1;have E2:=z7 e2;have E3:=z7 e3;obtain ⟨d1,d2,d3⟩:=z0t e1;clear hn1 e2 e3 hown1 hg1 e1)
    refine wpIn_region_any hmx ?_;change wpAnyIn _ _ _ _ _ _ _ _ _ (World.drew _);have E2':=z7 E2.out.drew;obtain ⟨ad,rfl⟩:∃ad,aq=some ad:=by
     rcases hq.out.2 with ⟨he,hz⟩ | ⟨ad2,c2,he,_⟩
     ·simp only [Value.slice.injEq] at he;omega
     ·simp only [Value.slice.injEq] at he;exact ⟨ad2,he.1⟩
    have hl254:(q.take 254).length=254:=by have:=hnq.out;simp;omega
    have hlen2:(M++ [255]).length+(q.take 254).length≤70368744177664:=by rw [hl254];have:=HML.out;simp;omega
    have hq2:Hid (RdB (w1.setCell ⟨h,0,none⟩ (.slice a1 n1 co1)).drew (.slice (some ad) 254 cq) (q.take 254)):=z7 (by
     refine (hq.out.upto hnq.out 254 cq 254 hl254.symm).keep fun j hj=>?_;have hj':=hqb.out (by omega) j hj;have hsz5:=hst.out.le;exact (E3.out j hj'.1 hj'.2.1).trans (Below.heap_alloc wr _ _ (by omega)))
    have hM2:Hid (M++ [255]++q.take 254++part (q.drop 254)=L++part p):=z7 (by
     rw [←hM.out,y1z (show 254≤q.length by have:=hnq.out;omega)];simp)
    have hq3:=z7 (hq.out.rest hnq.out hnc 254 (cq - 254) (nq - 254) (by have:=hnq.out;simp;omega));have hqb2:Hid (0<nq - 254→∀k,(Value.slice (if cq=254 then some ad else some ⟨ad.block,ad.off+254,none⟩) (nq - 254) (cq - 254)).ownBlock=some k→k<h+5∧k≠h∧k≠h+2):=z7 fun _ k hk=>by
     rw [z2Y] at hk;exact hqb.out (by omega) k hk
    have hkeep:Hid (∀k,k<h+5→k≠h→(w1.setCell ⟨h,0,none⟩ (.slice a1 n1 co1)).drew.heap[k]? =wr.heap[k]?):=z7 fun k h1 h2=>by
     have hsz5:=hst.out.le;exact (E3.out k h1 h2).trans (Below.heap_alloc wr _ _ (by omega))
    clear hl254;refine wpAnyIn_ready (rs:= [0,1]) (by kernel_rfl) (by simp) ?_;refine AllReadyIn.cons rfl (fun K hK=>?ga) (AllReadyIn.cons rfl (fun K hK=>?gb) AllReadyIn.nil)
    case' ga=>(go_simp;refine hK _ _ ?_;clear hK K;refine wpAnyIn_ready (rs:= [1]) (by kernel_rfl) (by simp) ?_;refine AllReadyIn.cons rfl (fun K hK=>?_) AllReadyIn.nil;go_simp;refine hK _ _ ?_;clear hK K;refine wpAnyIn_ready (rs:= [2]) (by kernel_rfl) (by simp) ?_;refine AllReadyIn.cons rfl (fun K hK=>?_) AllReadyIn.nil;go_simp;refine hK _ _ ?_;clear hK K)
    case' gb=>(go_simp;refine hK _ _ ?_;clear hK K;refine wpAnyIn_ready (rs:= [0,2]) (by kernel_rfl) (by simp) ?_;refine AllReadyIn.cons rfl (fun K hK=>?ge) (AllReadyIn.cons rfl (fun K hK=>?gf) AllReadyIn.nil);(case' ge=>(go_simp;refine hK _ _ ?_;clear hK K;refine wpAnyIn_ready (rs:= [2]) (by kernel_rfl) (by simp) ?_;refine AllReadyIn.cons rfl (fun K hK=>?_) AllReadyIn.nil;go_simp;refine hK _ _ ?_;clear hK K));(case' gf=>(go_simp;refine hK _ _ ?_;clear hK K;refine wpAnyIn_ready (rs:= [0]) (by kernel_rfl) (by simp) ?_;refine AllReadyIn.cons rfl (fun K hK=>?_) AllReadyIn.nil;go_simp;refine hK _ _ ?_;clear hK K)))
    all_goals (
     refine wpAnyIn_ready (rs:= [3]) (by kernel_rfl) (by simp) ?_;refine AllReadyIn.cons rfl (fun K hK=>z8Y rfl _ _ 46 rfl (h+5) 5 Tryz.underlying46 (by kernel_rfl) _ (M++ [255]) rfl (by exact E2'.out.own) _ (q.take 254) rfl (by exact hq2.out) hlen2 (by exact E2'.out.le) ?_) AllReadyIn.nil;intro a2 co2 w2 hown2 hg2;obtain ⟨e1',e2',e3'⟩:=E2'.out.push hg2 hown2 (by omega) (by have:=HSZ.out;omega);obtain ⟨n2,hn2⟩:∃n2,n2=(M++ [255]++q.take 254).length:=⟨_,rfl⟩;rw [←hn2] at e2' e3' ⊢;obtain ⟨i1,i2,i3⟩:=z0t e1';have N2:=z7 hn2;have E4:=z7 e2';have E5:=z7 e3';clear hn2 e2' e3' hown2 hg2 e1';refine hK _ _ ?_;clear hK K;refine wpAnyIn_ready (rs:= [4]) (by kernel_rfl) (by simp) ?_;refine AllReadyIn.cons rfl (fun K hK=>?_) AllReadyIn.nil;go_simp;refine hK _ _ ?_;clear hK K;refine wpAnyIn_done (by kernel_rfl) ?_ _
     gi_wp2
     go_roundw
     case rel=>
      exact ⟨q.drop 254,M++ [255]++q.take 254,(if cq=254 then some ad else some ⟨ad.block,ad.off+254,none⟩),nq - 254,cq - 254,_,rfl,by omega,by omega,z7 (by have:=hnq.out;simp;omega),hM2,E4,z7 (hq3.out.keep fun j hj=>by
       have hj2:=hj;rw [z2Y] at hj2;have hj':=hqb.out (by omega) j hj2;exact (E5.out j hj'.1 hj'.2.1).trans (hkeep.out j hj'.1 hj'.2.1)),hqb2⟩
     case measure=>simp<;>omega)
   ·have b1:¬((254:Int)≤(nq:Int)):=by omega
    have hnq1:nq+1<256:=by omega
    clear hmx;have hrd1:Hid (RdB (wr.alloc (.cells #[.int .u8 ((nq:Int)+1)] 5)) (.slice (some ⟨wr.heap.size,0,none⟩) 1 1) [UInt8.ofNat (nq+1)]):=z7 (by
     have h1:=z3C wr #[.int .u8 ((nq:Int)+1)] 5 1 1 (by decide) rfl;have h2:z0b [UInt8.ofNat (nq+1)]= [.int .u8 ((nq:Int)+1)]:=by
      simp only [z0b,List.map_cons,List.map_nil];rw [y0H hnq1];rfl
     show Rd _ _ 1 1 (z0b [UInt8.ofNat (nq+1)]);rw [h2];exact h1)
    have hst1:=z7 (hst.out.alloc #[.int .u8 ((nq:Int)+1)] 5);have hqw:Hid (RdB (wr.alloc (.cells #[.int .u8 ((nq:Int)+1)] 5)) (.slice aq nq cq) q):=z7 (hq.out.alloc _);clear hMl
    gi_wp2_with (first
     | (gi_at_builtin;(refine z2I rfl _ _ 46 rfl (h+5) 5 Tryz.underlying46 (by kernel_rfl) _ M rfl (by exact hst1.out.own) _ [UInt8.ofNat (nq+1)] rfl (by exact hrd1.out) (by have:=HML.out;simp;omega) (by exact hst1.out.le) ?_;intro a1 co1 w1 hown1 hg1;obtain ⟨e1,e2,e3⟩:=hst1.out.push hg1 hown1 (by omega) (by have:=HSZ.out;omega);have hqx:=z7 (hqw.out.keep0 fun h0 j hj=>e3 j (hqb.out (by have:=hnq.out;omega) j hj).1 (hqb.out (by have:=hnq.out;omega) j hj).2.1);obtain ⟨n1,hn1⟩:∃n1,n1=(M++ [UInt8.ofNat (nq+1)]).length:=⟨_,rfl⟩;rw [←hn1] at e2 e3 hqx ⊢;have N1:=z7 hn1;have E2:=z7 e2;have E3:=z7 e3;obtain ⟨d1,d2,d3⟩:=z0t e1;clear hn1 e2 e3 hown1 hg1 e1 hst1 hrd1))
     | (gi_at_builtin;refine z2I rfl _ _ 46 rfl (h+5) 5 Tryz.underlying46 (by kernel_rfl) _ (M++ [UInt8.ofNat (nq+1)]) rfl (by exact E2.out.own) _ q rfl (by exact hqx.out) (by have:=HML.out;have:=hnq.out;simp;omega) (by exact E2.out.le) ?_;intro a2 co2 w2 hown2 hg2;obtain ⟨e1',e2',e3'⟩:=E2.out.push hg2 hown2 (by omega) (by have:=HSZ.out;omega);obtain ⟨n2,hn2⟩:∃n2,n2=(M++ [UInt8.ofNat (nq+1)]++q).length:=⟨_,rfl⟩;rw [←hn2] at e2' e3' ⊢;have N2:=z7 hn2;have E4:=z7 e2';have E5:=z7 e3';obtain ⟨i1,i2,i3⟩:=z0t e1';clear hn2 e2' e3' hown2 hg2 e1'))
    have E:=E4.out;refine ⟨by rw [HSZ.out];exact E.kf,E.kp,⟨_,E.box,?_,E.chg⟩⟩;have hfin:M++ [UInt8.ofNat (nq+1)]++q=stL (pre++ [(.slice ax p.length p.length,p)]):=by
     rw [q0M,←HL.out];show _=L++part p;rw [←hM.out,y0s (show q.length<254 by have:=hnq.out;omega),hnq.out];simp
    rw [←hfin];exact E.own
 case done=>
  rintro D xs W hD hS ⟨v,c1,hrow,hchg⟩ hK;have hLb:stL xs=y1H b:=by unfold stL y1H;rw [hS]
  rw [hLb] at hrow;obtain ⟨L,hL⟩:∃L,L=y1H b:=⟨_,rfl⟩;rw [←hL] at hrow;have hLl:L.length≤1100000:=by
   have h1:=z6V b;unfold z3d at h1;rw [List.length_append,←hL] at h1;omega
  obtain ⟨f1,f2,f3⟩:=z0t c1;obtain ⟨av,cv,rfl⟩:=(z0d hrow).head;have hle5:h+5≤W.heap.size:=by have:=hchg.size;omega
  have hst:Hid (StV (h+5) h (h+2) W5 W (.slice av L.length cv) L W):=z7 ⟨c1,hrow,hchg,KeepsFrom.refl _ _,⟨Nat.le_refl _,fun _ _ _=>rfl⟩,hle5⟩;have hrd1:=z7 (z3C W #[.int .u8 0] 5 1 1 (by decide) rfl);have hst1:=z7 (hst.out.alloc #[.int .u8 0] 5);have HL:=z7 hL;have HLL:=z7 hLl;have HK:=z7 hK;have hDl:=(Array.getElem?_eq_some_iff.1 hK).1;clear hh hsz hL hLl hlt hlt' hle hc hx hx5 hS hLb hrow hK
  gi_wp2_with (gi_at_builtin;(refine z2I rfl _ _ 46 rfl (h+5) 5 Tryz.underlying46 (by kernel_rfl) _ L rfl (by exact hst1.out.own) _ [0] rfl (by exact hrd1.out) (by have:=HLL.out;simp;omega) (by exact hst1.out.le) ?_;intro a1 co1 w1 hown1 hg1;obtain ⟨n1,hn1⟩:∃n1,n1=(L++ [0]).length:=⟨_,rfl⟩;rw [←hn1];have N1:=z7 hn1;have HO:=z7 hown1;have HG:Hid ((W.alloc (.cells #[.int .u8 0] 5)).grownBy w1 (Value.slice av L.length cv).ownBlock):=z7 hg1;clear hn1 hown1 hg1))
  have hblk:∀k,k<W.heap.size→k<h+5∨k=D→w1.heap[k]? =W.heap[k]? :=fun k hk hkD=>by
   refine (HG.out.block k (by simp;omega) fun e=>?_).trans (Below.heap_alloc W _ k hk);rcases hkD with h1 | h1
   ·have:=hst1.out.far k e.symm;omega
   ·subst h1;rcases hst1.out.own.2 with ⟨e2,_⟩ | ⟨g,cap,cur,e2,_,hgb,_⟩
    ·rw [e2] at e;cases e
    ·have e3:=(Below.heap_alloc W (.cells #[.int .u8 0] 5) k hk).trans HK.out;rw [e2] at e;obtain rfl:k=g:=by simpa [Value.ownBlock] using e
     rw [hgb] at e3;cases e3
  have hK1:=(hblk D hDl (.inr rfl)).trans HK.out;refine ⟨by simp, .inl ⟨_,_,rfl,run_takeDeferred hK1,?_⟩⟩;have hfin:L++ [0]=z3d b:=by rw [HL.out];rfl
  refine ⟨_,results_tmp rfl _ _ _,a1,co1,?_,?_,?_⟩
  ·rw [←hfin,←N1.out];rfl
  ·rw [←hfin,←HH.out];exact z0i (ownsRow_putObj HO.out _ hK1 rfl) (by omega)
  ·rw [←HH.out];have hg:=HG.out;have hs5:=HSZ.out;refine ⟨hg.os.trans (hchg.os.trans hB5.os),hg.tape.trans (hchg.tape.trans hB5.tape),hg.output.trans (hchg.output.trans hB5.output),?_,fun k hk=>?_⟩
   ·have h1:=hg.size;have h2:=hchg.size;have h3:=hB5.size;simp at h1 ⊢;omega
   ·have hd:k≠D:=by omega
    refine (World.putObj_heap_other hd).trans ((hblk k (by omega) (.inl (by omega))).trans ((hchg.block k (by omega) ?_).trans (hB5.block k hk)));simp;omega
end
section
open Go.RowKit Go.Maps
def z5G(k:Bs):Bs:=k++ [126]
def z2b(s:FsS)(k:Bs):FsS:=if s.has (z5G k) then (z2Q s (z5G k)).2 else s
def z2n(s:FsS)(k note:Bs):Int×FsS:=if 600<note.length then (1,s) else z1j s k (z3d note)
def z3h(s:FsS)(k:Bs):Int×FsS:=if s.has k then (0,s) else z1R s k
def z5X(s:FsS)(k:Bs):Bs:=if s.has k then s.get k else []
def z4W(s:FsS)(k:Bs):FsS:=if (z0W (z5X s k)).2<(z5X s k).length then (z5a s k (z0W (z5X s k)).2).2 else s
def z2t(s:FsS)(k:Bs):Int×FsS×List Bs:=
 if k.length=0∨16≤k.length then (1,s, [])
 else if (z3h (z2b s k) k).1≠0 then ((z3h (z2b s k) k).1,(z3h (z2b s k) k).2, [])
 else (0,z4W (z3h (z2b s k) k).2 k,(z0W (z5X (z3h (z2b s k) k).2 k)).1)
theorem z7W{s:FsS}(h:s.Ok)(k:Bs):(z2b s k).Ok:=by
 unfold z2b;split
 ·exact y3W h _
 ·exact h
theorem y1J{s:FsS}(h:s.Ok)(k:Bs):(z3h s k).2.Ok:=by
 unfold z3h;split
 ·exact h
 ·exact z9j h _
theorem q0z{s:FsS}(h:s.Ok)(k:Bs):(z4W s k).Ok:=by
 unfold z4W;split
 ·exact y9h h _ _
 ·exact h
theorem z6M{s:FsS}(h:s.Ok)(k b:Bs):(z2n s k b).2.Ok:=by
 unfold z2n;split
 ·exact h
 ·exact y3Q h _ _
theorem y8h{s:FsS}(h:s.Ok)(k:Bs):(z2t s k).2.1.Ok:=by
 unfold z2t;split
 ·exact h
 ·split
  ·exact y1J (z7W h k) k
  ·exact q0z (y1J (z7W h k) k) k
def z3w(w:World)(tb sb:Nat)(k:Bs):Prop:=w.heap[tb]? =some (.cells #[.pointer (some ⟨sb,0,none⟩), .string ⟨k.toArray⟩] 206 (0,0))
theorem z3w.low{w w':World}{tb sb:Nat}{k:Bs}(h:z3w w tb sb k)(hb:Below w.heap.size w w'):z3w w' tb sb k:=(hb.block tb (Array.getElem?_eq_some_iff.1 h).1).trans h
theorem z3w.chg{w w':World}{tb sb:Nat}{k:Bs}{F F':List Nat}(h:z3w w tb sb k)(hc:Chg F F' w w')(hn:tb∉F):z3w w' tb sb k:=(hc.block tb (Array.getElem?_eq_some_iff.1 h).1 hn).trans h
theorem z3w.lt{w:World}{tb sb:Nat}{k:Bs}(h:z3w w tb sb k):tb<w.heap.size:=(Array.getElem?_eq_some_iff.1 h).1
theorem y7g(k:Bs):(⟨k.toArray⟩:ByteArray)++⟨#[126]⟩=⟨(z5G k).toArray⟩:=by
 apply ByteArray.ext;simp [z5G]
theorem y3z(tb sb:Nat)(k:Bs)(w:World)(h:z3w w tb sb k)(hk:k.length≤1000000):Calls Tryz.prog 154 #[.pointer (some ⟨tb,0,none⟩)] w fun e w'=>e= .returned (.string ⟨(z5G k).toArray⟩)∧w=w':=by
 obtain ⟨c0,c1,cf,hlt⟩:=z3F h;have htl:=y7g k;have HT:=z7 htl;clear h htl;go_enter Tryz.func154,Tryz.ntmps154;go_wp2;go_ret;exact ⟨by rw [←HT.out];rfl,rfl⟩
theorem q0e(sb:Nat)(s:FsS)(F:List Nat)(k:Bs)(hk:k.length≤maxLen)(w:World)(h:z1p w sb s F)(ok:s.Ok):Calls Tryz.prog 87 #[.pointer (some ⟨sb,0,none⟩), .string ⟨k.toArray⟩] w fun e w'=>e= .returned (.bool (s.has k))∧Below w.heap.size w w':=by
 have HR:=z7 (z4l sb s F k hk w h ok);obtain ⟨hb,hhb⟩:∃hb,hb=s.has k:=⟨_,rfl⟩;have HHB:=z7 hhb;clear h ok;cases hb with
 | true=>
  rw [←hhb];clear hhb;go_enter Tryz.func87,Tryz.ntmps87;go_wp2_with fail;refine HR.out.mono ?_;rintro e w2 hr;unfold z1V at hr;rw [←HHB.out,if_pos rfl] at hr;obtain ⟨ra,rn,rc,rfl,hfr⟩:=hr;have HB:=z7 hfr.2.2;clear hfr;go_wp2;go_ret;exact ⟨rfl,HB.out⟩
 | false=>
  rw [←hhb];clear hhb;go_enter Tryz.func87,Tryz.ntmps87;go_wp2_with fail;refine HR.out.mono ?_;rintro e w2 hr;unfold z1V at hr;rw [←HHB.out,if_neg (by simp)] at hr;obtain ⟨rfl,rfl⟩:=hr;go_wp2;go_ret;exact ⟨rfl,Below.refl _ _⟩
theorem q0v(tb sb:Nat)(s:FsS)(F:List Nat)(k:Bs)(hk:k.length≤1000000)(w:World)(hB:z3w w tb sb k)(h:z1p w sb s F)(ok:s.Ok):
  Calls Tryz.prog 86 #[.pointer (some ⟨tb,0,none⟩)] w fun e w'=>e= .returned (.tuple #[])∧z2v w sb F (z2b s k) w':=by
 have H:=z7 h;have OK:=z7 ok;have HB:=z7 hB;have HTL:=z7 (show (z5G k).length≤maxLen by unfold z5G maxLen;simp;omega);obtain ⟨c0,c1,cf,hlt⟩:=z3F hB;have hcl:Hid (∀w',Below w.heap.size w w'→w'.cell? ⟨tb,0,none⟩=some (.pointer (some ⟨sb,0,none⟩))∧w'.cell? ⟨tb,1,none⟩=some (.string ⟨k.toArray⟩)):=z7 fun w' hw=>⟨(hw.cell (p:=⟨tb,0,none⟩) hlt).trans c0,(hw.cell (p:=⟨tb,1,none⟩) hlt).trans c1⟩;obtain ⟨bo,hbo⟩:∃bo,bo=s.has (z5G k):=⟨_,rfl⟩;have HBO:=z7 hbo;clear h ok hB c0 c1 cf hbo;go_enter Tryz.func86,Tryz.ntmps86;go_wp2_with fail;refine q6 7 16 (by kernel_rfl) (by kernel_rfl) rfl (by kernel_rfl) (fun D v w'=>Below w.heap.size w w') (fun _=>undef) (Below.refl _ _).drew ?_;simp only [List.take_succ_cons,List.take_zero,List.drop_succ_cons,List.drop_zero];iterate 5 (refine q8.rd (e:=?_) (fun D v w' hD hS=>?_) ?_;rotate_left;(obtain ⟨x0,x1⟩:=hcl.out w' hS;clear hS hD;first | (go_simp;done) | (go_simp;with_reducible rfl));go_simp)
 refine q8.call (.string ⟨(z5G k).toArray⟩) (fun v=>by rfl) (fun D v w' hD hS=>?_) ?_
 ·have HS:=z7 hS;clear hS hD;go_simp;go_at_call 154;refine (y3z tb sb k w' (HB.out.low HS.out) hk).mono ?_;rintro e w'' ⟨rfl,rfl⟩;exact ⟨rfl,HS.out⟩
 go_simp;refine q8.call (.bool bo) (fun v=>by rfl) (fun D v w' hD hS=>?_) ?_
 ·have HS:=z7 hS;clear hS hD;go_simp;go_at_call 87;refine (q0e sb s F (z5G k) HTL.out w' (H.out.low HS.out) OK.out).mono ?_;rintro e w'' ⟨rfl,hb⟩;exact ⟨by rw [HBO.out],HS.out.trans (hb.mono HS.out.size)⟩
 go_simp;refine q8.fin (fun v w4 hS=>?_);have HS:=z7 hS;clear hS;cases bo with
 | false=>
  have e:z2b s k=s:=by unfold z2b;rw [←HBO.out];rfl
  have HE:=z7 e;clear e;go_wp2
  go_end0
  rw [HE.out];exact ⟨rfl,F,H.out.low HS.out,Chg.of_below HS.out⟩
 | true=>
  have e:z2b s k=(z2Q s (z5G k)).2:=by unfold z2b;rw [←HBO.out];rfl
  have HE:=z7 e;clear e;have hcl4:Hid (∀w',Below w4.heap.size w4 w'→w'.cell? ⟨tb,0,none⟩=some (.pointer (some ⟨sb,0,none⟩))∧w'.cell? ⟨tb,1,none⟩=some (.string ⟨k.toArray⟩)):=z7 fun w' hw=>hcl.out w' (HS.out.trans (hw.mono HS.out.size));go_wp2_with fail;refine q6 6 16 (by kernel_rfl) (by kernel_rfl) rfl (by kernel_rfl) (fun D v w'=>Below w4.heap.size w4 w') (fun _=>undef) (Below.refl _ _).drew ?_;simp only [List.take_succ_cons,List.take_zero,List.drop_succ_cons,List.drop_zero];iterate 5 (refine q8.rd (e:=?_) (fun D v w' hD hS=>?_) ?_;rotate_left;(obtain ⟨x0,x1⟩:=hcl4.out w' hS;clear hS hD;first | (go_simp;done) | (go_simp;with_reducible rfl));go_simp)
  refine q8.call (.string ⟨(z5G k).toArray⟩) (fun v=>by rfl) (fun D v w' hD hS=>?_) ?_
  ·have HS2:=z7 hS;clear hS hD;go_simp;go_at_call 154;refine (y3z tb sb k w' ((HB.out.low HS.out).low HS2.out) hk).mono ?_;rintro e w'' ⟨rfl,rfl⟩;exact ⟨rfl,HS2.out⟩
  go_simp;refine q8.fin (fun v w5 hS=>?_);have HS5:=z7 (HS.out.trans (hS.mono HS.out.size));clear hS;go_wp2_with fail;refine (y7A sb s F (z5G k) HTL.out w5 (H.out.low HS5.out) OK.out).mono ?_;rintro e w6 ⟨rfl,ht⟩;have HT:=z7 ht;clear ht;go_wp2
  go_end0
  rw [HE.out];obtain ⟨F',h1,h2⟩:=HT.out;exact ⟨rfl,F',h1,(Chg.of_below HS5.out).trans h2⟩
theorem y7F(tb sb:Nat)(s:FsS)(F:List Nat)(k:Bs)(hk:k.length≤1000000)(a:Option Addr)(n c:Nat)(note:Bs)(w:World)(hB:z3w w tb sb k)(h:z1p w sb s F)(ok:s.Ok)(hx:RdB w (.slice a n c) note)(hn:n=note.length)(hle:n≤c)(hc:c≤9223372036854775807)(hlt:0<n→∀j,(Value.slice a n c).ownBlock=some j→j<w.heap.size):
  Calls Tryz.prog 117 #[.pointer (some ⟨tb,0,none⟩), .slice a n c] w fun e w'=>e= .returned (.int .u16 (z2n s k note).1)∧z2v w sb F (z2n s k note).2 w':=by
 have H:=z7 h;have OK:=z7 ok;have HB:=z7 hB;have HX:=z7 hx;have HN:=z7 hn;have HLT:=z7 hlt;obtain ⟨c0,c1,cf,htl⟩:=z3F hB;have hcl:Hid (∀w',Below w.heap.size w w'→w'.cell? ⟨tb,0,none⟩=some (.pointer (some ⟨sb,0,none⟩))∧w'.cell? ⟨tb,1,none⟩=some (.string ⟨k.toArray⟩)):=z7 fun w' hw=>⟨(hw.cell (p:=⟨tb,0,none⟩) htl).trans c0,(hw.cell (p:=⟨tb,1,none⟩) htl).trans c1⟩;have hkm:k.length≤maxLen:=by unfold maxLen;omega
 clear h ok hB c0 c1 cf hx hlt;by_cases hbig:600<n
 ·have e:z2n s k note=(1,s):=by unfold z2n;rw [←hn,if_pos hbig]
  rw [e];have d1:decide ((600:Int)<n)=true:=decide_eq_true (by omega);clear e hn;go_enter Tryz.func117,Tryz.ntmps117;go_wp2;go_ret;exact ⟨rfl,z2v.refl H.out⟩
 ·have e:z2n s k note=z1j s k (z3d note):=by unfold z2n;rw [←hn,if_neg hbig]
  rw [e];have d1:decide ((600:Int)<n)=false:=decide_eq_false (by omega);obtain ⟨X,hX⟩:∃X,X=z3d note:=⟨_,rfl⟩;rw [←hX];have hXl:X.length≤700:=by rw [hX];have:=z6V note;omega
  have HX2:=z7 hX;clear e hn hX;go_enter Tryz.func117,Tryz.ntmps117;go_wp2_with fail;refine q6 10 19 (by kernel_rfl) (by kernel_rfl) rfl (by kernel_rfl) (fun D v w'=>Below w.heap.size w w'∧(D 9=true→∃a' c',v 9= .slice a' X.length c'∧w'.ownsRow w.heap.size 5 1 (.slice a' X.length c') X.length (z0b X))) (fun _=>undef) ⟨(Below.refl _ _).drew,fun h=>by cases h⟩ ?_;simp only [List.take_succ_cons,List.take_zero,List.drop_succ_cons,List.drop_zero];iterate 9 (refine q8.rd (e:=?_) (fun D v w' hD hS=>?_) ?_;rotate_left;(obtain ⟨x0,x1⟩:=hcl.out w' hS.1;clear hS hD;first | (go_simp;done) | (go_simp;with_reducible rfl));go_simp)
  refine q8.rel (fun v=>by rfl) (fun D v w' hD hS=>?_) ?_
  ·have HS:=z7 hS.1;clear hS hD;go_simp;go_at_call 176;have hw:=q0r note a c w' (by rw [←HN.out];exact HX.out.low HS.out) (by rw [←HN.out];exact hle) hc (by rw [←HN.out];omega) (by rw [←HN.out];exact fun h0 j hj=>Nat.lt_of_lt_of_le (HLT.out h0 j hj) HS.out.size);rw [←HN.out] at hw;refine hw.mono ?_;clear hw;rintro e w'' ⟨a',c',rfl,hown,hb⟩;rw [←HX2.out] at hown ⊢;exact ⟨HS.out.trans (hb.mono HS.out.size),fun _=>⟨a',c',rfl,z0i hown HS.out.size⟩⟩
  go_simp;refine q8.fin (fun v w5 hS=>?_);obtain ⟨a',c',hv9,hown⟩:=hS.2 rfl;have HS5:=z7 hS.1;have HOWN:=z7 hown;rw [hv9];obtain ⟨xn,hxn⟩:∃xn,xn=X.length:=⟨_,rfl⟩;rw [←hxn];have HXN:=z7 hxn;have hxl:xn≤700:=by omega
  clear hS hv9 hown hxn;go_wp2_with fail;refine (y7M sb s F k hkm a' xn c' X w5 (H.out.low HS5.out) OK.out (by rw [HXN.out];exact z0d HOWN.out) HXN.out (by omega) (fun _ j hj hm=>by have:=(HOWN.out.lt j (by rw [←HXN.out];exact hj)).1;have:=H.out.lt j hm;omega)).mono ?_;rintro e w6 ⟨rfl,ht⟩;have HT:=z7 ht;clear ht;go_wp2;go_ret;obtain ⟨F',h1,h2⟩:=HT.out;exact ⟨rfl,F',h1,(Chg.of_below HS5.out).trans h2⟩
end
end Go.Proofs.YtfcnapnopdomhaaGreatDoor

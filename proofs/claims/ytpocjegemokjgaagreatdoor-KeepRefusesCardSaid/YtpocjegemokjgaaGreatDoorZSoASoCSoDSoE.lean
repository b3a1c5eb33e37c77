/-
  The library's sort at uint32: a row of numbers in memory, cmp.Less, insertion, reversing. (The plain functions and what they do: Derived.Sort.)
-/
import Derived.Test.YtpocjegemokjgaaGreatDoorZBaseBiMItemsLaw
import Derived.Sort.WalkA6
import Derived.Sort.Grow
import Derived.Sort.WalkB3
import Derived.Deep.DeepCutAuto
import Derived.Sort.WalkC4
import Derived.Deep.CutBlock
namespace Go.Proofs.YtpocjegemokjgaaGreatDoor
open Go.Proofs.Tryz
set_option linter.all false
set_option maxRecDepth 100000
set_option maxHeartbeats 12800000
open Go.RowKit Go.Sort
abbrev z4q (n:Int):Value:= .int .u32 n
structure z0s (w:World) (blk off:Nat) (d dk:Array Int) (wr:World):Prop where
 holds:Holds z4q w blk off d
 low:blk<w.heap.size
 size:dk.size=d.size
 eq:∃m os,wr=grow (putRow z4q (Sort.ahead w m) blk off dk) os
theorem z0s.refl{w:World}{A B:Nat}{d:Array Int}(h:Holds z4q w A B d)(hb:A<w.heap.size):z0s w A B d d w:=
 ⟨h,hb,rfl,0,#[],by rw[grow_empty,ahead_zero,putRow_self _ _ _ _ _ h]⟩
theorem z0s.there{w wr:World}{A B:Nat}{d I:Array Int}(h:z0s w A B d I wr):Holds z4q wr A B I:=by
 obtain⟨m,os,rfl⟩:=h.eq;exact holds_grow _ _ _ _ _ _ (by simpa using h.low) (holds_putRow _ _ _ _ d I (holds_ahead _ _ _ _ _ _ h.holds) h.size)
theorem z0s.lowr{w wr:World}{A B:Nat}{d I:Array Int}(h:z0s w A B d I wr):A<wr.heap.size:=by
 obtain⟨m,os,rfl⟩:=h.eq;simp only[size_grow,size_putRow,heap_ahead];have:=h.low;omega
theorem z0s.trans{w N O:World}{A B:Nat}{d J L:Array Int}(h:z0s w A B d J N)(k:z0s N A B J L O):z0s w A B d L O:=by
 obtain⟨m,os,rfl⟩:=h.eq;obtain⟨R,I,rfl⟩:=k.eq;exact⟨h.holds,h.low,k.size.trans h.size,m+R,os++I,grow_step_grow _ _ _ _ _ _ _ _ _ _ h.low k.size⟩
theorem z0s.fam{w wr:World}{A B:Nat}{d I:Array Int}(h:z0s w A B d I wr):
  ∃G:Nat->Int,Hid (∀t,G t=I[t]!)/\(∀t,t<d.size->wr.cell? ⟨A,B+t,none⟩=some (.int .u32 (G t)))/\(∀t,t<d.size->wr.frozen? ⟨A,B+t,none⟩=false):=
 ⟨fun t=>I[t]!,z7 fun _=>rfl,fun t J=>(h.there t (by rw[h.size];exact J)).1,fun t J=>(h.there t (by rw[h.size];exact J)).2⟩
theorem z0s.drewN{w wr:World}{A B:Nat}{d I:Array Int}(h:z0s w A B d I wr)(q:Nat):z0s w A B d I (wr.drewN q):=by
 obtain⟨m,os,rfl⟩:=h.eq;refine⟨h.holds,h.low,h.size,m+q,os,?_⟩;show Sort.ahead (grow (putRow z4q (Sort.ahead w m) A B I) os) q=_;rw[ahead_grow,putRow_ahead,ahead_ahead,<-putRow_ahead]
theorem z0s.drew{w wr:World}{A B:Nat}{d I:Array Int}(h:z0s w A B d I wr):z0s w A B d I wr.drew:=h.drewN 1
theorem z0s.alloc{w wr:World}{A B:Nat}{d I:Array Int}(h:z0s w A B d I wr)(o:Obj):z0s w A B d I (wr.alloc o):=by
 obtain⟨m,os,rfl⟩:=h.eq;exact⟨h.holds,h.low,h.size,m,os++ #[o],by rw[alloc_eq_grow,grow_grow]⟩
theorem z0s.setNew{w wr:World}{A B:Nat}{d I:Array Int}(h:z0s w A B d I wr)(b k:Nat)(v:Value)(hb:w.heap.size<=b):z0s w A B d I (wr.setCell ⟨b,k,none⟩ v):=by
 obtain⟨m,os,rfl⟩:=h.eq;refine⟨h.holds,h.low,h.size,m,os.modify (b - w.heap.size) (onCells (·.setIfInBounds k v)),?_⟩;rw[setCell_eq,mapBlock_grow_new _ _ _ _ (by simpa using hb)];simp
theorem z0s.swap{w wr:World}{A B:Nat}{d I:Array Int}(h:z0s w A B d I wr){G:Nat->Int}(J:∀t,G t=I[t]!)(j k:Nat)(L:j<d.size)(N:k<d.size)(q:Nat):
  z0s w A B d (swp I j k) (((wr.drewN q).setCell ⟨A,B+j,none⟩ (.int .u32 (G k))).setCell ⟨A,B+k,none⟩ (.int .u32 (G j))):=by
 have O:=h.size;obtain⟨m,os,e⟩:=(h.drewN q).eq;refine⟨h.holds,h.low,by rw[size_swp];exact h.size,m,os,?_⟩;rw[e,J,J,setCell_eq,setCell_eq,mapBlock_grow _ _ _ _ (by simpa using h.low),mapBlock_grow _ _ _ _ (by simpa[mapBlock]using h.low),<-setCell_eq,<-setCell_eq];rw[show(Value.int .u32 I[k]!)=z4q I[k]! from rfl,show(Value.int .u32 I[j]!)=z4q I[j]! from rfl,putRow_swp z4q _ A B I j k (by omega) (by omega)]
theorem q0K(x:Int)(w:World):Calls prog 179 #[.int .u32 x] w fun e w'=>e= .returned (.bool false)/\w'=w:=by
 go_enter func179,ntmps179;go_wp2;go_ret;exact⟨by simp,rfl⟩
theorem z1A(x y:Int)(w:World):Calls prog 149 #[.int .u32 x,.int .u32 y] w fun e w'=>e= .returned (.bool (Sort.ltInt x y))/\w'=w:=by
 go_enter func149,ntmps149;go_wp2_with (go_at_call 179;refine(q0K _ _).mono ?_;rintro e w' ⟨rfl,rfl⟩);go_ret;exact⟨rfl,rfl⟩
theorem y4c(A B cap a b:Nat)(d:Array Int)(w:World)(hH:Holds z4q w A B d)(R:A<w.heap.size)(a3:a<=b)(hb:b<=d.size)(aA:d.size<4611686018427387904):
  Calls prog 143 #[.slice (some ⟨A,B,none⟩) d.size cap,.int .i64 a,.int .i64 b] w fun e w'=>e= .returned (.tuple #[])/\z0s w A B d (Sort.insertionSort ltInt d a b) w':=by
 have h0:=z0s.refl hH R;have H0:=z7 h0;clear hH h0;go_enter func143,ntmps143;go_wp2;go_loopw[6] (fun vi wr=>∃(i:Nat) (N:Array Int),vi= .int .i64 i/\a<i/\i<=b+1/\Hid (z0s w A B d N wr)/\Hid (insOuter ltInt a b i N=insOuter ltInt a b (a+1) d)) (fun vi _=>b+1 - (intOf vi).toNat)
 case atStart=>exact⟨a+1,d,by go_num,by omega,by omega,H0,z7 rfl⟩
 case round=>
  obtain⟨i,N,rfl,a4,a8,hR,hO⟩:=hrel;go_wp2
  ·have a1:i<b:=(by assumption);go_loopw[7] (fun vj a2=>∃(j:Nat) (I:Array Int),vj= .int .i64 j/\a<=j/\j<=i/\Hid (z0s w A B d I a2)/\Hid (insInner ltInt a j I=insInner ltInt a i N)) (fun vj _=>(intOf vj).toNat)
   case atStart=>exact⟨i,N,rfl,by omega,Nat.le_refl _,hR,z7 rfl⟩
   case round=>
    obtain⟨j,I,rfl,a5,a9,Y,hI⟩:=hrel;obtain⟨G,J,a6,a7⟩:=Y.o.fam;have L:Hid ((j<=a\/ltInt I[j]! I[j - 1]! =false)->∀q,∃(U:Nat) (O:Array Int),Value.int .i64 ((i:Int)+1)= .int .i64 U/\a<U/\U<=b+1/\Hid (z0s w A B d O (wr.drewN q))/\Hid (insOuter ltInt a b U O=insOuter ltInt a b (a+1) d)):=z7 fun hs q=>
     ⟨i+1,I,by go_num,by omega,by omega,z7 (Y.o.drewN q),z7 (by rw[<-hO.o,insOuter_go _ _ _ _ _ a1,<-hI.o,insInner_stop _ _ _ _ hs])⟩
    by_cases hja:a<j
    ·go_wp2_with fail;go_quiet (first|(go_at_call 149;refine Calls.quiet_of_same (z1A _ _ _)))
     go_wp2
     ·have R:ltInt (G j) (G (j - 1))=true:=(by assumption);go_region
      all_goals go_wp2
      go_roundw
      case rel=>exact⟨j - 1,swp I j (j - 1),by congr 1;omega,by omega,by omega,z7 (Y.o.swap J.o j (j - 1) (by omega) (by omega) _),z7 (by rw[<-hI.o,insInner_go ltInt a j I hja (by rw[<-J.o,<-J.o];exact R)])⟩
      case measure=>simp[intOf];omega
     ·have R:ltInt (G j) (G (j - 1))=false:=by assumption
      go_roundw
      case rel=>exact L.o (Or.inr (by rw[<-J.o,<-J.o];exact R)) nq
      case measure=>simp[intOf];omega
    ·go_wp2_with fail;go_quiet (first|(go_at_call 149;refine Calls.quiet_of_same (z1A _ _ _)))
     go_wp2
     go_roundw
     case rel=>exact L.o (Or.inl (by omega)) nq
     case measure=>simp[intOf];omega
  ·have a0:¬i<b:=by assumption
   go_end0
   refine⟨rfl,?_⟩;unfold Sort.insertionSort;rw[<-hO.o,insOuter_stop _ _ _ _ _ a0];exact hR.o
def y2W(hi F r c:Nat)(dk:Array Int):Prop:=(c=2*r+2/\2*r+2<hi/\ltInt dk[F+(2*r+1)]! dk[F+(2*r+2)]! =true)\/(c=2*r+1/\2*r+1<hi/\(2*r+2<hi->ltInt dk[F+(2*r+1)]! dk[F+(2*r+2)]! =false))
theorem q1w{A F r c:Nat}{B:Array Int}(h:y2W A F r c B):c<A/\r<c/\c<=2*r+2:=by unfold y2W at h;omega
theorem y6J{L F r c:Nat}{A:Array Int}(h:y2W L F r c A)(J:ltInt A[F+r]! A[F+c]! =false):siftDown ltInt L F r A=A:=by
 rcases h with⟨rfl,B,I⟩|⟨rfl,B,I⟩
 ·exact sd_right_stop _ _ B I J
 ·exact sd_left_stop _ _ B I J
theorem q1G{J F r c:Nat}{A:Array Int}(h:y2W J F r c A)(L:ltInt A[F+r]! A[F+c]! =true):siftDown ltInt J F r A=siftDown ltInt J F c (swp A (F+r) (F+c)):=by
 rcases h with⟨rfl,B,I⟩|⟨rfl,B,I⟩
 ·exact sd_right_go _ _ B I L
 ·exact sd_left_go _ _ B I L
theorem q4t(A I cap lo B F:Nat)(d:Array Int)(w:World)(hH:Holds z4q w A I d)(hl:A<w.heap.size)(a2:lo<=B)(hb:F+B<=d.size)(a3:d.size<1152921504606846976):
  Calls prog 174 #[.slice (some ⟨A,I,none⟩) d.size cap,.int .i64 lo,.int .i64 B,.int .i64 F] w fun e w'=>e= .returned (.tuple #[])/\z0s w A I d (siftDown ltInt B F lo d) w':=by
 have H0:=z7 (z0s.refl hH hl);clear hH;go_enter func174,ntmps174;go_wp2;go_loopw[8] (fun vr wr=>∃(r:Nat) (J:Array Int),vr= .int .i64 r/\r<=B/\Hid (z0s w A I d J wr)/\Hid (siftDown ltInt B F r J=siftDown ltInt B F lo d)) (fun vr _=>B - (intOf vr).toNat)
 case atStart=>exact⟨lo,d,rfl,a2,H0,z7 rfl⟩
 case round=>
  obtain⟨r,J,rfl,hr,hR,hE⟩:=hrel;obtain⟨G,L,N,R⟩:=hR.o.fam;by_cases hend:B<=2*r+1
  ·go_wp2
   go_end0
   refine⟨rfl,?_⟩;rw[<-hE.o,sd_end _ _ hend];exact hR.o
  go_upto_region 3 with fail
  go_cut[36] (fun s wx=>∃g:Bool,s= .bool g/\Hid (z0s w A I d J wx)/\Hid (y2W B F r (if g then 2*r+2 else 2*r+1) J))
  case first=>
   by_cases h1:2*r+2<B
   ·have a1:2*(r:Int)+1+1<(B:Int):=(by omega);have a0:decide (2*(r:Int)+1+1<(B:Int))=true:=(by simpa using a1);go_wp2_with fail
    go_big_quiet (first|(go_at_call 149;refine Calls.quiet_of_same (z1A _ _ _)))
    go_wp2_with fail;go_meet
    refine⟨_,rfl,z7 (hR.o.drewN nq),z7 ?_⟩;rw[L.o,L.o];cases hg:ltInt J[F+2*r+1]! J[F+2*r+2]! with
    | true=>exact .inl ⟨rfl,h1,hg⟩
    | false=>exact .inr ⟨rfl,by omega,fun _=>hg⟩
   ·have a0:decide (2*(r:Int)+1+1<(B:Int))=false:=(by simp;omega);go_wp2_with fail
    go_big_quiet (first|(go_at_call 149;refine Calls.quiet_of_same (z1A _ _ _)))
    go_wp2_with fail;go_meet
    exact⟨false,rfl,z7 (hR.o.drewN nq),z7 (.inr ⟨rfl,by omega,fun h=>absurd h h1⟩)⟩
  case rest=>
  obtain⟨g,rfl,U,hT⟩:=hcut
  go_upto_if 36 with fail
  go_cut[9] (fun s wx=>∃c:Nat,s= .int .i64 c/\Hid (z0s w A I d J wx)/\Hid (y2W B F r c J))
  case first=>
   cases g with
   | true=>go_wp2;go_meet;exact⟨2*r+2,by go_num,U,hT⟩
   | false=>go_wp2;go_meet;exact⟨2*r+1,by go_num,U,hT⟩
  case rest=>
  obtain⟨c,rfl,O,hT⟩:=hcut;clear L N R hR U;obtain⟨G,L,N,R⟩:=O.o.fam;have hc:=q1w hT.o;go_wp2_with fail
  go_big_quiet (first|(go_at_call 149;refine Calls.quiet_of_same (z1A _ _ _)))
  go_wp2_with fail
  ·have hS:ltInt (G (F+r)) (G (F+c))=false:=by
    have:(!ltInt (G (F+r)) (G (F+c)))=true:=(by assumption);simpa using this
   (try simp only[Exit.inBlock,Exit.then])
   refine bodyPost_ret (results_none rfl _ _ _) rfl ?_;refine⟨rfl,?_⟩;rw[<-hE.o,y6J hT.o (by rw[<-L.o,<-L.o];exact hS)];exact O.o.drewN nq
  ·have hS:ltInt (G (F+r)) (G (F+c))=true:=by
    have:(!ltInt (G (F+r)) (G (F+c)))=false:=(by assumption);simpa using this
   have Y:=z7 (O.o.drewN nq);have HS:Hid (siftDown ltInt B F r J=siftDown ltInt B F c (swp J (F+r) (F+c))):=z7 (q1G hT.o (by rw[<-L.o,<-L.o];exact hS));clear L N R O hT hS
   generalize wc.drewN nq=w4 at Y ⊢
   obtain⟨G,L,N,R⟩:=Y.o.fam;obtain⟨v3,a4⟩:=cell?_setCell_some (w:=w4) (p:=⟨A,I+(F+r),none⟩) (x:= .int .u32 (G (F+c))) (q:=⟨A,I+(F+c),none⟩) (N (F+c) (by omega));go_region
   all_goals go_wp2
   all_goals go_roundw
   case rel=>exact⟨c,swp J (F+r) (F+c),rfl,by omega,z7 (Y.o.swap L.o _ _ (by omega) (by omega) 1),z7 (by rw[<-HS.o];exact hE.o)⟩
   case measure=>simp[intOf];omega
theorem y4C(A B cap:Nat)(J I F:Int)(d:Array Int)(w:World)(R:Holds z4q w A B d)(U:A<w.heap.size)(L:0<=J/\J<=I)(O:0<=F)(hb:F+I<=d.size)(N:d.size<1152921504606846976)(n:Nat)(Y:d.size=n):
  Calls prog 174 #[.slice (some ⟨A,B,none⟩) n cap,.int .i64 J,.int .i64 I,.int .i64 F] w fun e w'=>e= .returned (.tuple #[])/\z0s w A B d (siftDown ltInt I.toNat F.toNat J.toNat d) w':=by
 subst Y;have h:=q4t A B cap J.toNat I.toNat F.toNat d w R U (by omega) (by omega) N;rw[Int.toNat_of_nonneg L.1,Int.toNat_of_nonneg (by omega),Int.toNat_of_nonneg O]at h;exact h
theorem q3n(A B cap a b:Nat)(d:Array Int)(w:World)(hH:Holds z4q w A B d)(hl:A<w.heap.size)(a6:a<=b)(hb:b<=d.size)(a9:d.size<1152921504606846976):
  Calls prog 144 #[.slice (some ⟨A,B,none⟩) d.size cap,.int .i64 a,.int .i64 b] w fun e w'=>e= .returned (.tuple #[])/\z0s w A B d (Sort.heapSort ltInt d a b) w':=by
 have H0:=z7 (z0s.refl hH hl);have hh:=half_start a6;obtain⟨K,hK⟩:=zN ((b - a - 1)/2+1);rw[<-hK]at hh;have HK:=z7 hK;have a5:K<=(b - a)+1:=by omega
 have aA:IntKind.i64.wrap ((b:Int) - a)=(b:Int) - a:=by unfold IntKind.wrap;simp[IntKind.bits,IntKind.signed];omega
 clear hH hK;go_enter func144,ntmps144;go_wp2;go_loopw[9] (fun O wr=>∃(k:Nat) (L:Array Int),O= .int .i64 ((k:Int) - 1)/\k<=(b - a)+1/\Hid (z0s w A B d L wr)/\Hid (heapBuild ltInt (b - a) a k L=heapBuild ltInt (b - a) a K d)) (fun O _=>(intOf O+1).toNat)
 case atStart=>exact⟨K,d,rfl,a5,H0,z7 rfl⟩
 case round=>
  obtain⟨k,L,rfl,hk,J,R⟩:=hrel;cases k with
  | zero=>
   rw[show(((0:Nat):Int) - 1)= -1 by omega];go_wp2;have Y:Hid (heapBuild ltInt (b - a) a K d=L):=z7 R.o.symm;clear R H0 hh;obtain⟨D1,a3⟩:=zN (heapBuild ltInt (b - a) a K d);have a4:L=D1:=Y.o.symm.trans a3.symm;subst a4;go_loopw[10] (fun O wr=>∃(k:Nat) (U:Array Int),O= .int .i64 ((k:Int) - 1)/\k<=b - a/\Hid (z0s w A B d U wr)/\Hid (heapPop ltInt a k U=heapPop ltInt a (b - a) L)) (fun O _=>(intOf O+1).toNat)
   case atStart=>exact⟨b - a,L,by congr 1;omega,Nat.le_refl _,J,z7 rfl⟩
   case round=>
    clear J;obtain⟨k,U,rfl,hk,J,R⟩:=hrel;cases k with
    | zero=>
     go_wp2
     go_end0
     refine⟨rfl,?_⟩;unfold Sort.heapSort;rw[<-HK.o,Y.o,<-R.o];exact J.o
    | succ i=>
     obtain⟨G,HG,a7,a8⟩:=J.o.fam;obtain⟨v3,aB⟩:=cell?_setCell_some (w:=wr) (p:=⟨A,B+a,none⟩) (x:= .int .u32 (G (a+i))) (q:=⟨A,B+(a+i),none⟩) (a7 (a+i) (by omega));rw[show(((i+1:Nat):Int) - 1)=(i:Int) by omega];go_wp2_with fail;go_region
     all_goals go_wp2_with fail
     have I:=z7 (J.o.swap HG.o a (a+i) (by omega) (by omega) 1);have N:Hid ((swp U a (a+i)).size=d.size):=z7 I.o.size;refine(y4C A B cap _ _ _ (swp U a (a+i)) _ (I.o.there:_) I.o.lowr ?_ ?_ ?_ ?_ _ N.o).mono ?_
     ·omega
     ·omega
     ·have:=N.o;omega
     ·have:=N.o;omega
     rintro e w2 ⟨rfl,a0⟩;have a2:=z7 (I.o.trans a0);clear a0;go_wp2
     go_roundw
     case rel=>exact⟨i,_,by go_num,by omega,a2,z7 (by rw[<-R.o,heapPop];congr 2<;>omega)⟩
     case measure=>first|(simp[intOf];done)|(simp[intOf];omega)
  | succ i=>
   have N:Hid (L.size=d.size):=z7 J.o.size;go_wp2_with fail;refine(y4C A B cap _ _ _ L _ J.o.there J.o.lowr ?_ ?_ ?_ ?_ _ N.o).mono ?_
   ·omega
   ·omega
   ·have:=N.o;omega
   ·have:=N.o;omega
   rintro e w2 ⟨rfl,I⟩;have a1:=z7 (J.o.trans I);clear I;go_wp2
   go_roundw
   case rel=>exact⟨i,_,by go_num,by omega,a1,z7 (by rw[<-R.o,heapBuild];congr 2<;>omega)⟩
   case measure=>first|(simp[intOf];done)|(simp[intOf];omega)
theorem y8I(L N cap a b A:Nat)(d:Array Int)(w:World)(hH:Holds z4q w L N d)(hl:L<w.heap.size)(a8:a<=A)(aB:A<b)(hb:b<=d.size)(aC:d.size<1152921504606846976):
  Calls prog 150 #[.slice (some ⟨L,N,none⟩) d.size cap,.int .i64 a,.int .i64 b,.int .i64 A] w fun e w'=>e= .returned (.int .i64 (Sort.partitionEqual Sort.ltInt d a b A).1)/\z0s w L N d (Sort.partitionEqual Sort.ltInt d a b A).2 w':=by
 have H0:=z7 (z0s.refl hH hl);clear hH;obtain⟨G,R,U,Y⟩:=H0.o.fam;obtain⟨v3,a5⟩:=cell?_setCell_some (w:=w) (p:=⟨L,N+a,none⟩) (x:= .int .u32 (G A)) (q:=⟨L,N+A,none⟩) (U A (by omega));go_enter func150,ntmps150;go_wp2;go_region
 all_goals go_wp2
 have a4:=z7 (H0.o.swap R.o a A (by omega) (by omega) 1);clear R U Y a5;go_loopw[9,10] (fun vi vj wr=>∃(i j:Nat) (I:Array Int),vi= .int .i64 i/\vj= .int .i64 j/\a<i/\i<=j+1/\j<b/\Hid (z0s w L N d I wr)/\Hid (partEqLoop ltInt a i j I=partEqLoop ltInt a (a+1) (b - 1) (swp d a A)))
  (fun vi vj _=>(intOf vj).toNat+1 - (intOf vi).toNat)
 case atStart=>exact⟨a+1,b - 1,_,by go_num,by go_num,by omega,by omega,by omega,a4,z7 rfl⟩
 case round=>
  clear a4 H0 v3
  rename Nat->Int=>G0
  obtain⟨i,j,I,rfl,rfl,a7,a6,a9,O,hE⟩:=hrel
  go_upto_block 2 with fail
  go_cut[9] (fun s wx=>∃B:Nat,s= .int .i64 B/\i<=B/\B<=j+1/\Hid (z0s w L N d I wx)/\Hid (B=scanUp (fun x=>!ltInt I[a]! x) I j i))
  case first=>
   go_wp2_with fail;go_loopw[9] (fun vi wr=>∃B:Nat,vi= .int .i64 B/\i<=B/\B<=j+1/\Hid (z0s w L N d I wr)/\Hid (scanUp (fun x=>!ltInt I[a]! x) I j B=scanUp (fun x=>!ltInt I[a]! x) I j i)) (fun vi _=>j+1 - (intOf vi).toNat)
   case atStart=>exact⟨i,rfl,Nat.le_refl _,a6,O,z7 rfl⟩
   case round=>
    clear O;obtain⟨B,rfl,a1,a0,O,hS⟩:=hrel;obtain⟨G,R,U,Y⟩:=O.o.fam;by_cases hle:B<=j
    ·go_wp2_with fail
     go_big_quiet (first|(go_at_call 149;refine Calls.quiet_of_same (z1A _ _ _)))
     go_wp2
     ·have ht:(!ltInt (G a) (G B))=true:=by assumption
      go_roundw
      case rel=>exact⟨B+1,by go_num,by omega,by omega,z7 (O.o.drewN nq),z7 ((scanUp_go (fun x=>!ltInt I[a]! x) I j B hle (by rw[<-R.o a,<-R.o B];exact ht)).symm.trans hS.o)⟩
      case measure=>simp[intOf];omega
     ·have ht:(!ltInt (G a) (G B))=false:=(by assumption);go_meet
      exact⟨B,rfl,a1,a0,z7 (O.o.drewN nq),z7 ((scanUp_end (fun x=>!ltInt I[a]! x) I j B (Or.inr (by rw[<-R.o a,<-R.o B];exact ht))).symm.trans hS.o)⟩
    ·go_wp2_with fail
     go_big_quiet (first|(go_at_call 149;refine Calls.quiet_of_same (z1A _ _ _)))
     go_wp2;go_meet
     exact⟨B,rfl,a1,a0,z7 (O.o.drewN nq),z7 ((scanUp_end (fun x=>!ltInt I[a]! x) I j B (Or.inl hle)).symm.trans hS.o)⟩
  case rest=>
  clear O;obtain⟨B,rfl,a1,a0,O,hI⟩:=hcut
  go_upto_block 4 with fail
  go_cut[10] (fun s wx=>∃J:Nat,s= .int .i64 J/\J<=j/\B<=J+1/\Hid (z0s w L N d I wx)/\Hid (J=scanDown (fun x=>ltInt I[a]! x) I B j))
  case first=>
   go_wp2_with fail;go_loopw[10] (fun vj wr=>∃J:Nat,vj= .int .i64 J/\J<=j/\B<=J+1/\Hid (z0s w L N d I wr)/\Hid (scanDown (fun x=>ltInt I[a]! x) I B J=scanDown (fun x=>ltInt I[a]! x) I B j)) (fun vj _=>(intOf vj).toNat)
   case atStart=>exact⟨j,rfl,Nat.le_refl _,a0,O,z7 rfl⟩
   case round=>
    clear O;obtain⟨J,rfl,a2,a3,O,hS⟩:=hrel;obtain⟨G,R,U,Y⟩:=O.o.fam;by_cases hle:B<=J
    ·go_wp2_with fail
     go_big_quiet (first|(go_at_call 149;refine Calls.quiet_of_same (z1A _ _ _)))
     go_wp2
     ·have ht:ltInt (G a) (G J)=true:=by assumption
      go_roundw
      case rel=>exact⟨J - 1,by go_num,by omega,by omega,z7 (O.o.drewN nq),z7 ((scanDown_go (fun x=>ltInt I[a]! x) I B J hle (by omega) (by rw[<-R.o a,<-R.o J];exact ht)).symm.trans hS.o)⟩
      case measure=>simp[intOf];omega
     ·have ht:ltInt (G a) (G J)=false:=(by assumption);go_meet
      exact⟨J,rfl,a2,a3,z7 (O.o.drewN nq),z7 ((scanDown_end (fun x=>ltInt I[a]! x) I B J (Or.inr (by rw[<-R.o a,<-R.o J];exact ht))).symm.trans hS.o)⟩
    ·go_wp2_with fail
     go_big_quiet (first|(go_at_call 149;refine Calls.quiet_of_same (z1A _ _ _)))
     go_wp2;go_meet
     exact⟨J,rfl,a2,a3,z7 (O.o.drewN nq),z7 ((scanDown_end (fun x=>ltInt I[a]! x) I B J (Or.inl hle)).symm.trans hS.o)⟩
  case rest=>
  clear O;obtain⟨J,rfl,a2,a3,O,hJ⟩:=hcut;obtain⟨G,R,U,Y⟩:=O.o.fam;by_cases hgt:J<B
  ·go_wp2;go_ret;have e:=partEq_break ltInt a i j I hI.o hJ.o hgt;unfold Sort.partitionEqual;rw[<-hE.o,e];exact⟨rfl,O.o⟩
  ·have aA:=scans_lt ltInt a i j I (by omega) hI.o hJ.o (by omega);obtain⟨v3,a5⟩:=cell?_setCell_some (w:=wc) (p:=⟨L,N+B,none⟩) (x:= .int .u32 (G J)) (q:=⟨L,N+J,none⟩) (U J (by omega));go_wp2;go_region
   all_goals go_wp2
   all_goals go_roundw
   case rel=>exact⟨B+1,J - 1,swp I B J,by go_num,by go_num,by omega,by omega,by omega,z7 (O.o.swap R.o B J (by omega) (by omega) 1),z7 ((partEq_go ltInt a i j I hI.o hJ.o hgt).symm.trans hE.o)⟩
   case measure=>simp[intOf];omega
theorem q3k(L O cap a b J:Nat)(d:Array Int)(w:World)(hH:Holds z4q w L O d)(hl:L<w.heap.size)(aL:a<=J)(aM:J<b)(hb:b<=d.size)(aN:d.size<1152921504606846976):
  Calls prog 151 #[.slice (some ⟨L,O,none⟩) d.size cap,.int .i64 a,.int .i64 b,.int .i64 J] w fun e w'=>e= .returned (.tuple #[.int .i64 (Sort.partition Sort.ltInt d a b J).1,.bool (Sort.partition Sort.ltInt d a b J).2.1])/\z0s w L O d (Sort.partition Sort.ltInt d a b J).2.2 w':=by
 have H0:=z7 (z0s.refl hH hl);clear hH;obtain⟨G0,R,U,a0⟩:=H0.o.fam;obtain⟨v3,aJ⟩:=cell?_setCell_some (w:=w) (p:=⟨L,O+a,none⟩) (x:= .int .u32 (G0 J)) (q:=⟨L,O+J,none⟩) (U J (by omega));go_enter func151,ntmps151;go_wp2;go_region
 all_goals go_upto_block 0 with fail
 have N:=z7 (H0.o.swap R.o a J (by omega) (by omega) 1);obtain⟨i,hi⟩:=zN (a+1);obtain⟨j,hj⟩:=zN (b - 1);obtain⟨B,aB⟩:=zN (swp d a J);rw[<-aB]at N;rw[show((a:Int)+1)=((i:Nat):Int) by omega,show((b:Int) - 1)=((j:Nat):Int) by omega];have a7:=z7 aB;have a8:=z7 hi;have a9:=z7 hj;have a5:i<=j+1:=by omega
 have aC:a<i:=by omega
 have aG:j<b:=by omega
 clear R U a0 aJ aB hi hj
 go_upto_block 0 with fail
 go_cut[10] (fun s wx=>∃A:Nat,s= .int .i64 A/\i<=A/\A<=j+1/\Hid (z0s w L O d B wx)/\Hid (A=scanUp (fun x=>ltInt x B[a]!) B j i))
 case first=>
  go_wp2_with fail;go_loopw[10] (fun v wr=>∃A:Nat,v= .int .i64 A/\i<=A/\A<=j+1/\Hid (z0s w L O d B wr)/\Hid (scanUp (fun x=>ltInt x B[a]!) B j A=scanUp (fun x=>ltInt x B[a]!) B j i)) (fun v _=>j+1 - (intOf v).toNat)
  case atStart=>exact⟨i,rfl,Nat.le_refl _,a5,N,z7 rfl⟩
  case round=>
   clear N;obtain⟨A,rfl,a1,Y,N,hS⟩:=hrel;obtain⟨G,R,U,a0⟩:=N.o.fam;by_cases hle:A<=j
   ·go_wp2_with fail
    go_big_quiet (first|(go_at_call 149;refine Calls.quiet_of_same (z1A _ _ _)))
    go_wp2
    ·have ht:ltInt (G A) (G a)=true:=by assumption
     go_roundw
     case rel=>exact⟨A+1,by go_num,by omega,by omega,z7 (N.o.drewN nq),z7 ((scanUp_go (fun x=>ltInt x B[a]!) B j A hle (by rw[<-R.o a,<-R.o A];exact ht)).symm.trans hS.o)⟩
     case measure=>simp[intOf];omega
    ·have ht:ltInt (G A) (G a)=false:=(by assumption);go_meet
     exact⟨A,rfl,a1,Y,z7 (N.o.drewN nq),z7 ((scanUp_end (fun x=>ltInt x B[a]!) B j A (Or.inr (by rw[<-R.o a,<-R.o A];exact ht))).symm.trans hS.o)⟩
   ·go_wp2_with fail
    go_big_quiet (first|(go_at_call 149;refine Calls.quiet_of_same (z1A _ _ _)))
    go_wp2;go_meet
    exact⟨A,rfl,a1,Y,z7 (N.o.drewN nq),z7 ((scanUp_end (fun x=>ltInt x B[a]!) B j A (Or.inl hle)).symm.trans hS.o)⟩
 case rest=>
 clear N;obtain⟨A,rfl,a1,Y,N,hI⟩:=hcut
 go_upto_block 2 with fail
 go_cut[11] (fun s wx=>∃I:Nat,s= .int .i64 I/\I<=j/\A<=I+1/\Hid (z0s w L O d B wx)/\Hid (I=scanDown (fun x=>!ltInt x B[a]!) B A j))
 case first=>
  go_wp2_with fail;go_loopw[11] (fun v wr=>∃I:Nat,v= .int .i64 I/\I<=j/\A<=I+1/\Hid (z0s w L O d B wr)/\Hid (scanDown (fun x=>!ltInt x B[a]!) B A I=scanDown (fun x=>!ltInt x B[a]!) B A j)) (fun v _=>(intOf v).toNat)
  case atStart=>exact⟨j,rfl,Nat.le_refl _,Y,N,z7 rfl⟩
  case round=>
   clear N;obtain⟨I,rfl,a2,a3,N,hS⟩:=hrel;obtain⟨G,R,U,a0⟩:=N.o.fam;by_cases hle:A<=I
   ·go_wp2_with fail
    go_big_quiet (first|(go_at_call 149;refine Calls.quiet_of_same (z1A _ _ _)))
    go_wp2
    ·have ht:(!ltInt (G I) (G a))=true:=by assumption
     go_roundw
     case rel=>exact⟨I - 1,by go_num,by omega,by omega,z7 (N.o.drewN nq),z7 ((scanDown_go (fun x=>!ltInt x B[a]!) B A I hle (by omega) (by rw[<-R.o a,<-R.o I];exact ht)).symm.trans hS.o)⟩
     case measure=>simp[intOf];omega
    ·have ht:(!ltInt (G I) (G a))=false:=(by assumption);go_meet
     exact⟨I,rfl,a2,a3,z7 (N.o.drewN nq),z7 ((scanDown_end (fun x=>!ltInt x B[a]!) B A I (Or.inr (by rw[<-R.o a,<-R.o I];exact ht))).symm.trans hS.o)⟩
   ·go_wp2_with fail
    go_big_quiet (first|(go_at_call 149;refine Calls.quiet_of_same (z1A _ _ _)))
    go_wp2;go_meet
    exact⟨I,rfl,a2,a3,z7 (N.o.drewN nq),z7 ((scanDown_end (fun x=>!ltInt x B[a]!) B A I (Or.inl hle)).symm.trans hS.o)⟩
 case rest=>
 clear N;obtain⟨I,rfl,a2,a3,N,hJ⟩:=hcut;obtain⟨G,R,U,a0⟩:=N.o.fam;by_cases hgt:I<A
 ·obtain⟨v4,a6⟩:=cell?_setCell_some (w:=wc) (p:=⟨L,O+I,none⟩) (x:= .int .u32 (G a)) (q:=⟨L,O+a,none⟩) (U a (by omega));go_wp2;go_region
  all_goals go_wp2
  go_ret2;have e:=part_first_break ltInt d a b J a8.o a9.o a7.o hI.o hJ.o hgt;rw[e];exact⟨rfl,N.o.swap R.o I a (by omega) (by omega) 1⟩
 ·have aH:=part_scans_lt ltInt a i j B (by omega) hI.o hJ.o (by omega);obtain⟨v4,a6⟩:=cell?_setCell_some (w:=wc) (p:=⟨L,O+A,none⟩) (x:= .int .u32 (G I)) (q:=⟨L,O+I,none⟩) (U I (by omega));have HF:Hid _:=z7 (part_first_go ltInt d a b J a8.o a9.o a7.o hI.o hJ.o hgt);obtain⟨i3,aE⟩:=zN (A+1);obtain⟨j3,aF⟩:=zN (I - 1);obtain⟨d3,a4⟩:=zN (swp B A I);go_wp2;go_region
  all_goals go_wp2
  have aA:=z7 (N.o.swap R.o A I (by omega) (by omega) 1);rw[<-a4]at aA;rw[<-aE,<-aF,<-a4]at HF;have aI:=z7 a4;clear R U a0 a6 a4 hI hJ N;go_loopw[10,11] (fun vi vj wr=>∃(i j:Nat) (B:Array Int),vi= .int .i64 i/\vj= .int .i64 j/\a<i/\i<=j+1/\j<b/\Hid (z0s w L O d B wr)/\Hid (partLoop ltInt a i j B=partLoop ltInt a i3 j3 d3))
   (fun vi vj _=>(intOf vj).toNat+1 - (intOf vi).toNat)
  case atStart=>exact⟨i3,j3,d3,by rw[aE];go_num,by rw[aF];go_num,by omega,by omega,by omega,aA,z7 rfl⟩
  case round=>
   clear aA H0 v3 v4 a1 Y a2 a3 hgt aH a5 aC aG;clear a7 a8 a9 aI;obtain⟨i,j,B,rfl,rfl,aC,a5,aG,N,hE⟩:=hrel
   go_upto_block 6 with fail
   go_cut[10] (fun s wx=>∃A:Nat,s= .int .i64 A/\i<=A/\A<=j+1/\Hid (z0s w L O d B wx)/\Hid (A=scanUp (fun x=>ltInt x B[a]!) B j i))
   case first=>
    go_wp2_with fail;go_loopw[10] (fun v wr=>∃A:Nat,v= .int .i64 A/\i<=A/\A<=j+1/\Hid (z0s w L O d B wr)/\Hid (scanUp (fun x=>ltInt x B[a]!) B j A=scanUp (fun x=>ltInt x B[a]!) B j i)) (fun v _=>j+1 - (intOf v).toNat)
    case atStart=>exact⟨i,rfl,Nat.le_refl _,a5,N,z7 rfl⟩
    case round=>
     clear N;obtain⟨A,rfl,a1,Y,N,hS⟩:=hrel;obtain⟨G,R,U,a0⟩:=N.o.fam;by_cases hle:A<=j
     ·go_wp2_with fail
      go_big_quiet (first|(go_at_call 149;refine Calls.quiet_of_same (z1A _ _ _)))
      go_wp2
      ·have ht:ltInt (G A) (G a)=true:=by assumption
       go_roundw
       case rel=>exact⟨A+1,by go_num,by omega,by omega,z7 (N.o.drewN nq),z7 ((scanUp_go (fun x=>ltInt x B[a]!) B j A hle (by rw[<-R.o a,<-R.o A];exact ht)).symm.trans hS.o)⟩
       case measure=>simp[intOf];omega
      ·have ht:ltInt (G A) (G a)=false:=(by assumption);go_meet
       exact⟨A,rfl,a1,Y,z7 (N.o.drewN nq),z7 ((scanUp_end (fun x=>ltInt x B[a]!) B j A (Or.inr (by rw[<-R.o a,<-R.o A];exact ht))).symm.trans hS.o)⟩
     ·go_wp2_with fail
      go_big_quiet (first|(go_at_call 149;refine Calls.quiet_of_same (z1A _ _ _)))
      go_wp2;go_meet
      exact⟨A,rfl,a1,Y,z7 (N.o.drewN nq),z7 ((scanUp_end (fun x=>ltInt x B[a]!) B j A (Or.inl hle)).symm.trans hS.o)⟩
   case rest=>
   clear N;obtain⟨A,rfl,a1,Y,N,hI⟩:=hcut
   go_upto_block 8 with fail
   go_cut[11] (fun s wx=>∃I:Nat,s= .int .i64 I/\I<=j/\A<=I+1/\Hid (z0s w L O d B wx)/\Hid (I=scanDown (fun x=>!ltInt x B[a]!) B A j))
   case first=>
    go_wp2_with fail;go_loopw[11] (fun v wr=>∃I:Nat,v= .int .i64 I/\I<=j/\A<=I+1/\Hid (z0s w L O d B wr)/\Hid (scanDown (fun x=>!ltInt x B[a]!) B A I=scanDown (fun x=>!ltInt x B[a]!) B A j)) (fun v _=>(intOf v).toNat)
    case atStart=>exact⟨j,rfl,Nat.le_refl _,Y,N,z7 rfl⟩
    case round=>
     clear N;obtain⟨I,rfl,a2,a3,N,hS⟩:=hrel;obtain⟨G,R,U,a0⟩:=N.o.fam;by_cases hle:A<=I
     ·go_wp2_with fail
      go_big_quiet (first|(go_at_call 149;refine Calls.quiet_of_same (z1A _ _ _)))
      go_wp2
      ·have ht:(!ltInt (G I) (G a))=true:=by assumption
       go_roundw
       case rel=>exact⟨I - 1,by go_num,by omega,by omega,z7 (N.o.drewN nq),z7 ((scanDown_go (fun x=>!ltInt x B[a]!) B A I hle (by omega) (by rw[<-R.o a,<-R.o I];exact ht)).symm.trans hS.o)⟩
       case measure=>simp[intOf];omega
      ·have ht:(!ltInt (G I) (G a))=false:=(by assumption);go_meet
       exact⟨I,rfl,a2,a3,z7 (N.o.drewN nq),z7 ((scanDown_end (fun x=>!ltInt x B[a]!) B A I (Or.inr (by rw[<-R.o a,<-R.o I];exact ht))).symm.trans hS.o)⟩
     ·go_wp2_with fail
      go_big_quiet (first|(go_at_call 149;refine Calls.quiet_of_same (z1A _ _ _)))
      go_wp2;go_meet
      exact⟨I,rfl,a2,a3,z7 (N.o.drewN nq),z7 ((scanDown_end (fun x=>!ltInt x B[a]!) B A I (Or.inl hle)).symm.trans hS.o)⟩
   case rest=>
   clear N;obtain⟨I,rfl,a2,a3,N,hJ⟩:=hcut;obtain⟨G,R,U,a0⟩:=N.o.fam;by_cases hgt:I<A
   ·obtain⟨v4,a6⟩:=cell?_setCell_some (w:=wc) (p:=⟨L,O+I,none⟩) (x:= .int .u32 (G a)) (q:=⟨L,O+a,none⟩) (U a (by omega));go_wp2;go_region
    all_goals go_wp2
    go_ret2;have e:=part_break ltInt a i j B hI.o hJ.o hgt;rw[hE.o]at e;rw[HF.o,e];exact⟨rfl,N.o.swap R.o I a (by omega) (by omega) 1⟩
   ·have aH:=part_scans_lt ltInt a i j B (by omega) hI.o hJ.o (by omega);obtain⟨v4,a6⟩:=cell?_setCell_some (w:=wc) (p:=⟨L,O+A,none⟩) (x:= .int .u32 (G I)) (q:=⟨L,O+I,none⟩) (U I (by omega));go_wp2;go_region
    all_goals go_wp2
    all_goals go_roundw
    case rel=>exact⟨A+1,I - 1,swp B A I,by go_num,by go_num,by omega,by omega,by omega,z7 (N.o.swap R.o A I (by omega) (by omega) 1),z7 ((part_go ltInt a i j B hI.o hJ.o hgt).symm.trans hE.o)⟩
    case measure=>simp[intOf];omega

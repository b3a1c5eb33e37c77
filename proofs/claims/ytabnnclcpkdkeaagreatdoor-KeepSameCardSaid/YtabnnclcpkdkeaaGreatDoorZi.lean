/- The library's sort at uint32. -/
import Derived.Test.YtabnnclcpkdkeaaGreatDoorZBase
import Derived.Sort.WalkA6
import Derived.Sort.Grow
import Derived.Sort.WalkB3
import Derived.Deep.DeepCutAuto
import Derived.Sort.LotD3
import Derived.Sort.Walk7
namespace Go.Proofs.YtabnnclcpkdkeaaGreatDoor
open Go.Proofs.Tryz
set_option linter.all false
set_option maxRecDepth 100000
set_option maxHeartbeats 0
open Go.RowKit Go.Sort
abbrev z4O (n:Int):Value:= .int .u32 n
structure z0x (w:World) (blk off:Nat) (d dk:Array Int) (wr:World):Prop where
 holds:Holds z4O w blk off d
 low:blk<w.heap.size
 size:dk.size=d.size
 eq:∃m os,wr=grow (putRow z4O (Sort.ahead w m) blk off dk) os
theorem z0x.refl{w:World}{A I:Nat}{d:Array Int}(h:Holds z4O w A I d)(hb:A<w.heap.size):z0x w A I d d w:=
 ⟨h,hb,rfl,0,#[],by rw[grow_empty,ahead_zero,putRow_self _ _ _ _ _ h]⟩
theorem z0x.there{w wr:World}{A I:Nat}{d J:Array Int}(h:z0x w A I d J wr):Holds z4O wr A I J:=by
 obtain⟨m,os,rfl⟩:=h.eq;exact holds_grow _ _ _ _ _ _ (by simpa using h.low) (holds_putRow _ _ _ _ d J (holds_ahead _ _ _ _ _ _ h.holds) h.size)
theorem z0x.lowr{w wr:World}{A I:Nat}{d J:Array Int}(h:z0x w A I d J wr):A<wr.heap.size:=by
 obtain⟨m,os,rfl⟩:=h.eq;simp only[size_grow,size_putRow,heap_ahead];have:=h.low;omega
theorem z0x.trans{w O R:World}{A I:Nat}{d L N:Array Int}(h:z0x w A I d L O)(k:z0x O A I L N R):z0x w A I d N R:=by
 obtain⟨m,os,rfl⟩:=h.eq;obtain⟨U,J,rfl⟩:=k.eq;exact⟨h.holds,h.low,k.size.trans h.size,m+U,os++J,grow_step_grow _ _ _ _ _ _ _ _ _ _ h.low k.size⟩
theorem z0x.fam{w wr:World}{A I:Nat}{d J:Array Int}(h:z0x w A I d J wr):
  ∃G:Nat->Int,Hid (∀t,G t=J[t]!)/\(∀t,t<d.size->wr.cell? ⟨A,I+t,none⟩=some (.int .u32 (G t)))/\(∀t,t<d.size->wr.frozen? ⟨A,I+t,none⟩=false):=
 ⟨fun t=>J[t]!,z7 fun _=>rfl,fun t L=>(h.there t (by rw[h.size];exact L)).1,fun t L=>(h.there t (by rw[h.size];exact L)).2⟩
theorem z0x.drewN{w wr:World}{A I:Nat}{d J:Array Int}(h:z0x w A I d J wr)(q:Nat):z0x w A I d J (wr.drewN q):=by
 obtain⟨m,os,rfl⟩:=h.eq;refine⟨h.holds,h.low,h.size,m+q,os,?_⟩;show Sort.ahead (grow (putRow z4O (Sort.ahead w m) A I J) os) q=_;rw[ahead_grow,putRow_ahead,ahead_ahead,<-putRow_ahead]
theorem z0x.drew{w wr:World}{A I:Nat}{d J:Array Int}(h:z0x w A I d J wr):z0x w A I d J wr.drew:=h.drewN 1
theorem z0x.alloc{w wr:World}{A I:Nat}{d J:Array Int}(h:z0x w A I d J wr)(o:Obj):z0x w A I d J (wr.alloc o):=by
 obtain⟨m,os,rfl⟩:=h.eq;exact⟨h.holds,h.low,h.size,m,os++ #[o],by rw[alloc_eq_grow,grow_grow]⟩
theorem z0x.setNew{w wr:World}{A I:Nat}{d J:Array Int}(h:z0x w A I d J wr)(b k:Nat)(v:Value)(hb:w.heap.size<=b):z0x w A I d J (wr.setCell ⟨b,k,none⟩ v):=by
 obtain⟨m,os,rfl⟩:=h.eq;refine⟨h.holds,h.low,h.size,m,os.modify (b - w.heap.size) (onCells (·.setIfInBounds k v)),?_⟩;rw[setCell_eq,mapBlock_grow_new _ _ _ _ (by simpa using hb)];simp
theorem z0x.swap{w wr:World}{A I:Nat}{d J:Array Int}(h:z0x w A I d J wr){G:Nat->Int}(L:∀t,G t=J[t]!)(j k:Nat)(N:j<d.size)(O:k<d.size)(q:Nat):
  z0x w A I d (swp J j k) (((wr.drewN q).setCell ⟨A,I+j,none⟩ (.int .u32 (G k))).setCell ⟨A,I+k,none⟩ (.int .u32 (G j))):=by
 have R:=h.size;obtain⟨m,os,e⟩:=(h.drewN q).eq;refine⟨h.holds,h.low,by rw[size_swp];exact h.size,m,os,?_⟩;rw[e,L,L,setCell_eq,setCell_eq,mapBlock_grow _ _ _ _ (by simpa using h.low),mapBlock_grow _ _ _ _ (by simpa[mapBlock]using h.low),<-setCell_eq,<-setCell_eq];rw[show(Value.int .u32 J[k]!)=z4O J[k]! from rfl,show(Value.int .u32 J[j]!)=z4O J[j]! from rfl,putRow_swp z4O _ A I J j k wF wF]
theorem q4u(x:Int)(w:World):Calls prog 190 #[.int .u32 x] w fun e w'=>e= .returned (.bool false)/\w'=w:=by
 go_enter func190,ntmps190;go_wp2;go_ret;exact⟨wH,rfl⟩
theorem z1V(x y:Int)(w:World):Calls prog 159 #[.int .u32 x,.int .u32 y] w fun e w'=>e= .returned (.bool (Sort.ltInt x y))/\w'=w:=by
 go_enter func159,ntmps159;go_wp2_with (go_at_call 190;refine(q4u _ _).mono ?_;rintro e w' ⟨rfl,rfl⟩);go_ret;exact⟨rfl,rfl⟩
theorem y5q(A I a0 a b:Nat)(d:Array Int)(w:World)(hH:Holds z4O w A I d)(U:A<w.heap.size)(a5:a<=b)(hb:b<=d.size)(aC:d.size<4611686018427387904):
  Calls prog 153 #[.slice (some ⟨A,I,none⟩) d.size a0,.int .i64 a,.int .i64 b] w fun e w'=>e= .returned (.tuple #[])/\z0x w A I d (Sort.insertionSort ltInt d a b) w':=by
 have h0:=z0x.refl hH U;have H0:=z7 h0;clear hH h0;go_enter func153,ntmps153;go_wp2;go_loopw[6] (fun vi wr=>∃(i:Nat) (O:Array Int),vi= .int .i64 i/\a<i/\i<=b+1/\Hid (z0x w A I d O wr)/\Hid (insOuter ltInt a b i O=insOuter ltInt a b (a+1) d)) (fun vi _=>b+1 - (intOf vi).toNat)
 case atStart=>exact⟨a+1,d,by go_num,wF,wF,H0,z7 rfl⟩
 case round=>
  obtain⟨i,O,rfl,a6,aA,hR,hO⟩:=hrel;go_wp2
  .have a3:i<b:=(by assumption);go_loopw[7] (fun vj a4=>∃(j:Nat) (J:Array Int),vj= .int .i64 j/\a<=j/\j<=i/\Hid (z0x w A I d J a4)/\Hid (insInner ltInt a j J=insInner ltInt a i O)) (fun vj _=>(intOf vj).toNat)
   case atStart=>exact⟨i,O,rfl,wF,wJ _,hR,z7 rfl⟩
   case round=>
    obtain⟨j,J,rfl,a7,aB,hJ,hI⟩:=hrel;obtain⟨G,L,a8,a9⟩:=hJ.o.fam;have N:Hid ((j<=a\/ltInt J[j]! J[j - 1]! =false)->∀q,∃(Y:Nat) (R:Array Int),Value.int .i64 ((i:Int)+1)= .int .i64 Y/\a<Y/\Y<=b+1/\Hid (z0x w A I d R (wr.drewN q))/\Hid (insOuter ltInt a b Y R=insOuter ltInt a b (a+1) d)):=z7 fun hs q=>
     ⟨i+1,J,by go_num,wF,wF,z7 (hJ.o.drewN q),z7 (by rw[<-hO.o,insOuter_go _ _ _ _ _ a3,<-hI.o,insInner_stop _ _ _ _ hs])⟩
    by_cases a2:a<j
    .go_wp2_with fail;go_quiet (first|(go_at_call 159;refine wz (z1V _ _ _)))
     go_wp2
     .have U:ltInt (G j) (G (j - 1))=true:=(by assumption);go_region
      all_goals go_wp2
      go_roundw
      case rel=>exact⟨j - 1,swp J j (j - 1),by congr 1;omega,wF,wF,z7 (hJ.o.swap L.o j (j - 1) wF wF _),z7 (by rw[<-hI.o,insInner_go ltInt a j J a2 (by rw[<-L.o,<-L.o];exact U)])⟩
      case measure=>simp[intOf];omega
     have U:ltInt (G j) (G (j - 1))=false:=by assumption
     go_roundw
     case rel=>exact N.o (rM (by rw[<-L.o,<-L.o];exact U)) nq
     case measure=>simp[intOf];omega
    go_wp2_with fail;go_quiet (first|(go_at_call 159;refine wz (z1V _ _ _)))
    go_wp2
    go_roundw
    case rel=>exact N.o (rL wF) nq
    case measure=>simp[intOf];omega
  have a1:¬i<b:=by assumption
  go_end0
  refine⟨rfl,?_⟩;unfold Sort.insertionSort;rw[<-hO.o,insOuter_stop _ _ _ _ _ a1];exact hR.o
def y3Y(hi F r c:Nat)(dk:Array Int):Prop:=(c=2*r+2/\2*r+2<hi/\ltInt dk[F+(2*r+1)]! dk[F+(2*r+2)]! =true)\/(c=2*r+1/\2*r+1<hi/\(2*r+2<hi->ltInt dk[F+(2*r+1)]! dk[F+(2*r+2)]! =false))
theorem q4z{A F r c:Nat}{I:Array Int}(h:y3Y A F r c I):c<A/\r<c/\c<=2*r+2:=by unfold y3Y at h;omega
theorem y8G{N F r c:Nat}{A:Array Int}(h:y3Y N F r c A)(L:ltInt A[F+r]! A[F+c]! =false):siftDown ltInt N F r A=A:=by
 rcases h with⟨rfl,I,J⟩|⟨rfl,I,J⟩
 .exact sd_right_stop _ _ I J L
 exact sd_left_stop _ _ I J L
theorem q2y{L F r c:Nat}{A:Array Int}(h:y3Y L F r c A)(N:ltInt A[F+r]! A[F+c]! =true):siftDown ltInt L F r A=siftDown ltInt L F c (swp A (F+r) (F+c)):=by
 rcases h with⟨rfl,I,J⟩|⟨rfl,I,J⟩
 .exact sd_right_go _ _ I J N
 exact sd_left_go _ _ I J N
theorem q5n(A I a2 lo J F:Nat)(d:Array Int)(w:World)(hH:Holds z4O w A I d)(hl:A<w.heap.size)(a3:lo<=J)(hb:F+J<=d.size)(a6:d.size<1152921504606846976):
  Calls prog 185 #[.slice (some ⟨A,I,none⟩) d.size a2,.int .i64 lo,.int .i64 J,.int .i64 F] w fun e w'=>e= .returned (.tuple #[])/\z0x w A I d (siftDown ltInt J F lo d) w':=by
 have H0:=z7 (z0x.refl hH hl);clear hH;go_enter func185,ntmps185;go_wp2;go_loopw[8] (fun vr wr=>∃(r:Nat) (L:Array Int),vr= .int .i64 r/\r<=J/\Hid (z0x w A I d L wr)/\Hid (siftDown ltInt J F r L=siftDown ltInt J F lo d)) (fun vr _=>J - (intOf vr).toNat)
 case atStart=>exact⟨lo,d,rfl,a3,H0,z7 rfl⟩
 case round=>
  obtain⟨r,L,rfl,hr,hR,hE⟩:=hrel;obtain⟨G,N,O,U⟩:=hR.o.fam;by_cases a1:J<=2*r+1
  .go_wp2
   go_end0
   refine⟨rfl,?_⟩;rw[<-hE.o,sd_end _ _ a1];exact hR.o
  go_upto_region 3 with fail
  go_cut[36] (fun s wx=>∃g:Bool,s= .bool g/\Hid (z0x w A I d L wx)/\Hid (y3Y J F r (if g then 2*r+2 else 2*r+1) L))
  case first=>
   by_cases h1:2*r+2<J
   .have a5:2*(r:Int)+1+1<(J:Int):=wF;go_wp2_with fail
    go_big_quiet (first|(go_at_call 159;refine wz (z1V _ _ _)))
    go_wp2_with fail;go_meet
    refine⟨_,rfl,z7 (hR.o.drewN nq),z7 ?_⟩;rw[N.o,N.o];cases hg:ltInt L[F+2*r+1]! L[F+2*r+2]! with
    | true=>exact .inl ⟨rfl,h1,hg⟩
    | false=>exact .inr ⟨rfl,wF,fun _=>hg⟩
   have a4:decide (2*(r:Int)+1+1<(J:Int))=false:=(by simp;omega);go_wp2_with fail
   go_big_quiet (first|(go_at_call 159;refine wz (z1V _ _ _)))
   go_wp2_with fail;go_meet
   exact⟨false,rfl,z7 (hR.o.drewN nq),z7 (.inr ⟨rfl,wF,fun h=>absurd h h1⟩)⟩
  case rest=>
  obtain⟨g,rfl,Y,hT⟩:=hcut
  go_upto_if 36 with fail
  go_cut[9] (fun s wx=>∃c:Nat,s= .int .i64 c/\Hid (z0x w A I d L wx)/\Hid (y3Y J F r c L))
  case first=>
   cases g with
   | true=>go_wp2;go_meet;exact⟨2*r+2,by go_num,Y,hT⟩
   | false=>go_wp2;go_meet;exact⟨2*r+1,by go_num,Y,hT⟩
  case rest=>
  obtain⟨c,rfl,R,hT⟩:=hcut;clear N O U hR Y;obtain⟨G,N,O,U⟩:=R.o.fam;have hc:=q4z hT.o;go_wp2_with fail
  go_big_quiet (first|(go_at_call 159;refine wz (z1V _ _ _)))
  go_wp2_with fail
  .have hS:ltInt (G (F+r)) (G (F+c))=false:=by
    have:(!ltInt (G (F+r)) (G (F+c)))=true:=(by assumption);simpa using this
   (try simp only[Exit.inBlock,Exit.then])
   refine wU (eK rfl _ _ _) rfl ?_;refine⟨rfl,?_⟩;rw[<-hE.o,y8G hT.o (by rw[<-N.o,<-N.o];exact hS)];exact R.o.drewN nq
  have hS:ltInt (G (F+r)) (G (F+c))=true:=by
   have:(!ltInt (G (F+r)) (G (F+c)))=false:=(by assumption);simpa using this
  have a0:=z7 (R.o.drewN nq);have HS:Hid (siftDown ltInt J F r L=siftDown ltInt J F c (swp L (F+r) (F+c))):=z7 (q2y hT.o (by rw[<-N.o,<-N.o];exact hS));clear N O U R hT hS
  generalize wc.drewN nq=w4 at a0 ⊢
  obtain⟨G,N,O,U⟩:=a0.o.fam;obtain⟨v3,a7⟩:=uu (w:=w4) (p:=⟨A,I+(F+r),none⟩) (x:= .int .u32 (G (F+c))) (q:=⟨A,I+(F+c),none⟩) (O (F+c) wF);go_region
  all_goals go_wp2
  all_goals go_roundw
  case rel=>exact⟨c,swp L (F+r) (F+c),rfl,wF,z7 (a0.o.swap N.o _ _ wF wF 1),z7 (by rw[<-HS.o];exact hE.o)⟩
  case measure=>simp[intOf];omega
theorem y6M(A I J:Nat)(N L F:Int)(d:Array Int)(w:World)(Y:Holds z4O w A I d)(hl:A<w.heap.size)(O:0<=N/\N<=L)(U:0<=F)(hb:F+L<=d.size)(R:d.size<1152921504606846976)(n:Nat)(hn:d.size=n):
  Calls prog 185 #[.slice (some ⟨A,I,none⟩) n J,.int .i64 N,.int .i64 L,.int .i64 F] w fun e w'=>e= .returned (.tuple #[])/\z0x w A I d (siftDown ltInt L.toNat F.toNat N.toNat d) w':=by
 subst hn;have h:=q5n A I J N.toNat L.toNat F.toNat d w Y hl wF wF R;rw[pX O.1,pX wF,pX U]at h;exact h
theorem q5V(A I R a b:Nat)(d:Array Int)(w:World)(hH:Holds z4O w A I d)(hl:A<w.heap.size)(a7:a<=b)(hb:b<=d.size)(aA:d.size<1152921504606846976):
  Calls prog 154 #[.slice (some ⟨A,I,none⟩) d.size R,.int .i64 a,.int .i64 b] w fun e w'=>e= .returned (.tuple #[])/\z0x w A I d (Sort.heapSort ltInt d a b) w':=by
 have H0:=z7 (z0x.refl hH hl);have hh:=half_start a7;obtain⟨K,hK⟩:=zN ((b - a - 1)/2+1);rw[<-hK]at hh;have HK:=z7 hK;have a6:K<=(b - a)+1:=wF
 have aB:IntKind.i64.wrap ((b:Int) - a)=(b:Int) - a:=by unfold IntKind.wrap;simp[IntKind.bits,IntKind.signed];omega
 clear hH hK;go_enter func154,ntmps154;go_wp2;go_loopw[9] (fun U wr=>∃(k:Nat) (N:Array Int),U= .int .i64 ((k:Int) - 1)/\k<=(b - a)+1/\Hid (z0x w A I d N wr)/\Hid (heapBuild ltInt (b - a) a k N=heapBuild ltInt (b - a) a K d)) (fun U _=>(intOf U+1).toNat)
 case atStart=>exact⟨K,d,rfl,a6,H0,z7 rfl⟩
 case round=>
  obtain⟨k,N,rfl,hk,L,Y⟩:=hrel;cases k with
  | zero=>
   rw[show(((0:Nat):Int) - 1)= -1 by omega];go_wp2;have a0:Hid (heapBuild ltInt (b - a) a K d=N):=z7 Y.o.symm;clear Y H0 hh;obtain⟨D1,a4⟩:=zN (heapBuild ltInt (b - a) a K d);have a5:N=D1:=a0.o.symm.trans a4.symm;subst a5;go_loopw[10] (fun U wr=>∃(k:Nat) (dj:Array Int),U= .int .i64 ((k:Int) - 1)/\k<=b - a/\Hid (z0x w A I d dj wr)/\Hid (heapPop ltInt a k dj=heapPop ltInt a (b - a) N)) (fun U _=>(intOf U+1).toNat)
   case atStart=>exact⟨b - a,N,by congr 1;omega,wJ _,L,z7 rfl⟩
   case round=>
    clear L;obtain⟨k,dj,rfl,hk,L,Y⟩:=hrel;cases k with
    | zero=>
     go_wp2
     go_end0
     refine⟨rfl,?_⟩;unfold Sort.heapSort;rw[<-HK.o,a0.o,<-Y.o];exact L.o
    | succ i=>
     obtain⟨G,HG,a8,a9⟩:=L.o.fam;obtain⟨v3,aC⟩:=uu (w:=wr) (p:=⟨A,I+a,none⟩) (x:= .int .u32 (G (a+i))) (q:=⟨A,I+(a+i),none⟩) (a8 (a+i) wF);rw[show(((i+1:Nat):Int) - 1)=(i:Int) by omega];go_wp2_with fail;go_region
     all_goals go_wp2_with fail
     have J:=z7 (L.o.swap HG.o a (a+i) wF wF 1);have O:Hid ((swp dj a (a+i)).size=d.size):=z7 J.o.size;refine(y6M A I R _ _ _ (swp dj a (a+i)) _ (J.o.there:_) J.o.lowr ?_ ?_ ?_ ?_ _ O.o).mono ?_
     .omega
     .omega
     .have:=O.o;omega
     .have:=O.o;omega
     rintro e w2 ⟨rfl,a1⟩;have a3:=z7 (J.o.trans a1);clear a1;go_wp2
     go_roundw
     case rel=>exact⟨i,_,by go_num,wF,a3,z7 (by rw[<-Y.o,heapPop];congr 2<;>omega)⟩
     case measure=>first|(simp[intOf];done)|(simp[intOf];omega)
  | succ i=>
   have O:Hid (N.size=d.size):=z7 L.o.size;go_wp2_with fail;refine(y6M A I R _ _ _ N _ L.o.there L.o.lowr ?_ ?_ ?_ ?_ _ O.o).mono ?_
   .omega
   .omega
   .have:=O.o;omega
   .have:=O.o;omega
   rintro e w2 ⟨rfl,J⟩;have a2:=z7 (L.o.trans J);clear J;go_wp2
   go_roundw
   case rel=>exact⟨i,_,by go_num,wF,a2,z7 (by rw[<-Y.o,heapBuild];congr 2<;>omega)⟩
   case measure=>first|(simp[intOf];done)|(simp[intOf];omega)
theorem y8n(A I N a b:Nat)(d:Array Int)(w:World)(hH:Holds z4O w A I d)(hl:A<w.heap.size)(a0:a<b)(hb:b<=d.size)(a5:d.size<4611686018427387904):
  Calls prog 157 #[.slice (some ⟨A,I,none⟩) d.size N,.int .i64 a,.int .i64 b] w fun e w'=>e= .returned (.tuple #[])/\∃Y,z0x w A I d Y w'/\PermIn a b d Y:=by
 have H0:=z7 (z0x.refl hH hl);clear hH;go_enter func157,ntmps157;go_wp2;go_loopw[6,7] (fun R U wr=>∃(i j:Nat) (J:Array Int),R= .int .i64 i/\U= .int .i64 j/\a<=i/\j<b/\i<=j+1/\Hid (z0x w A I d J wr)/\Hid (PermIn a b d J)) (fun R U _=>(intOf U).toNat+1 - (intOf R).toNat)
 case atStart=>exact⟨a,b - 1,d,rfl,by go_num,wJ _,wF,wF,H0,z7 (permIn_refl _ _ _)⟩
 case round=>
  obtain⟨i,j,J,rfl,rfl,a1,a4,a3,L,hP⟩:=hrel;obtain⟨G,HG,O,a2⟩:=L.o.fam;go_wp2
  .obtain⟨v3,a6⟩:=uu (w:=wr) (p:=⟨A,I+i,none⟩) (x:= .int .u32 (G j)) (q:=⟨A,I+j,none⟩) (O j wF);go_region
   all_goals go_wp2
   go_roundw
   case rel=>
    refine⟨i+1,j - 1,swp J i j,by go_num,by go_num,wF,wF,wF,z7 (L.o.swap HG.o i j wF wF 1),z7 ?_⟩;exact permIn_trans _ _ _ _ _ hP.o (swp_permIn J a b i j wF wF wF wF (by rw[L.o.size];omega))
   case measure=>simp[intOf];omega
  go_end0
  exact⟨rfl,J,L.o,hP.o⟩
structure z8b (w0:World) (blk off:Nat) (d0 dk:Array Int) (sb:Nat) (w:World):Prop where
 row:z0x w0 blk off d0 dk w
 new:w0.heap.size<=sb
 num:∃s,w.cell? ⟨sb,0,none⟩=some (.int .i64 s)
 soft:w.frozen? ⟨sb,0,none⟩=false
theorem y0v(w0:World)(I J O a b:Nat)(d R:Array Int)(N:Nat)(ha:a<d.size)(hb:b<d.size)(w:World)(L:z8b w0 I J d R N w):
  Calls prog 205 #[.slice (some ⟨I,J,none⟩) d.size O,.int .i64 a,.int .i64 b,.pointer (some ⟨N,0,none⟩)] w fun e w'=>(∃x y:Nat,e= .returned (.tuple #[.int .i64 x,.int .i64 y])/\((x=a/\y=b)\/(x=b/\y=a)))/\z8b w0 I J d R N w':=by
 obtain⟨G,HG,U,Y⟩:=L.row.fam;obtain⟨s,hs⟩:=L.num;have hf:=L.soft;have A:=z7 L;clear L;go_enter func205,ntmps205;go_wp2;go_quiet (first|(go_at_call 159;refine wz (z1V _ _ _)))
 go_wp2
 .go_ret2;refine⟨⟨b,a,rfl,.inr ⟨rfl,rfl⟩⟩,(A.o.row.drewN nq).setNew N 0 _ A.o.new,A.o.new,⟨_,gm _ _ _ (u:= .int .i64 s) (by simpa using hs)⟩,?_⟩;simpa using A.o.soft
 go_ret2;exact⟨⟨a,b,rfl,.inl ⟨rfl,rfl⟩⟩,A.o.row.drewN nq,A.o.new,A.o.num,A.o.soft⟩
theorem y4t(w0:World)(A I J a b c:Nat)(d N:Array Int)(L:Nat)(ha:a<d.size)(hb:b<d.size)(hc:c<d.size)(w:World)(hR:z8b w0 A I d N L w):
  Calls prog 189 #[.slice (some ⟨A,I,none⟩) d.size J,.int .i64 a,.int .i64 b,.int .i64 c,.pointer (some ⟨L,0,none⟩)] w fun e w'=>(∃p:Nat,e= .returned (.int .i64 p)/\(p=a\/p=b\/p=c))/\z8b w0 A I d N L w':=by
 have HR:=z7 hR;clear hR;go_enter func189,ntmps189;go_wp2_with fail;refine(y0v w0 A I J a b d N L ha hb _ HR.o).mono ?_;rintro e w1 ⟨⟨x1,y1,rfl,h1⟩,O⟩;have Y:=z7 O;have a2:x1<d.size:=wF
 have a4:y1<d.size:=wF
 have H1:=z7 h1;clear O h1;go_wp2_with fail;refine(y0v w0 A I J y1 c d N L a4 hc _ Y.o).mono ?_;rintro e w2 ⟨⟨x2,y2,rfl,h2⟩,R⟩;have a0:=z7 R;have a3:x2<d.size:=wF
 have H2:=z7 h2;clear R h2;go_wp2_with fail;refine(y0v w0 A I J x1 x2 d N L a2 a3 _ a0.o).mono ?_;rintro e w3 ⟨⟨x3,y3,rfl,h3⟩,U⟩;have a1:=z7 U;have H3:=z7 h3;clear U h3;go_wp2;go_ret;have h1:=H1.o;have h2:=H2.o;have h3:=H3.o;exact⟨⟨y3,rfl,wF⟩,a1.o⟩
theorem y4T(w0:World)(A I J a:Nat)(d R:Array Int)(N:Nat)(a0:1<=a)(ha:a+1<d.size)(a1:d.size<4611686018427387904)(w:World)(Y:z8b w0 A I d R N w):
  Calls prog 188 #[.slice (some ⟨A,I,none⟩) d.size J,.int .i64 a,.pointer (some ⟨N,0,none⟩)] w fun e w'=>(∃p:Nat,e= .returned (.int .i64 p)/\a - 1<=p/\p<=a+1)/\z8b w0 A I d R N w':=by
 have H:=z7 (y4t w0 A I J (a - 1) a (a+1) d R N wF wF ha w Y);clear Y;go_enter func188,ntmps188;go_wp2_with fail;have h:=H.o;rw[show((a - 1:Nat):Int)=(a:Int) - 1 by omega,show((a+1:Nat):Int)=(a:Int)+1 by omega]at h;refine h.mono ?_;rintro e w1 ⟨⟨p,rfl,U⟩,L⟩;have O:=z7 L;have HP:=z7 U;clear L U h;go_wp2;go_ret;have U:=HP.o;exact⟨⟨p,rfl,wF,wF⟩,O.o⟩
theorem y2R(w0:World)(A I J:Nat)(a b c:Int)(d N:Array Int)(L:Nat)(R:0<=a/\a<d.size)(hb:0<=b/\b<d.size)(U:0<=c/\c<d.size)(w:World)(O:z8b w0 A I d N L w):
  Calls prog 189 #[.slice (some ⟨A,I,none⟩) d.size J,.int .i64 a,.int .i64 b,.int .i64 c,.pointer (some ⟨L,0,none⟩)] w fun e w'=>(∃p:Int,e= .returned (.int .i64 p)/\(p=a\/p=b\/p=c))/\z8b w0 A I d N L w':=by
 have h:=y4t w0 A I J a.toNat b.toNat c.toNat d N L wF wF wF w O;rw[pX R.1,pX hb.1,pX U.1]at h;exact h.mono fun e w' ⟨⟨p,h1,h2⟩,h3⟩=>⟨⟨p,h1,wF⟩,h3⟩
theorem z6O(w0:World)(A I J:Nat)(a:Int)(d N:Array Int)(L:Nat)(U:1<=a)(Y:a+1<d.size)(O:d.size<4611686018427387904)(w:World)(R:z8b w0 A I d N L w):
  Calls prog 188 #[.slice (some ⟨A,I,none⟩) d.size J,.int .i64 a,.pointer (some ⟨L,0,none⟩)] w fun e w'=>(∃p:Int,e= .returned (.int .i64 p)/\a - 1<=p/\p<=a+1)/\z8b w0 A I d N L w':=by
 have h:=y4T w0 A I J a.toNat d N L wF wF O w R;rw[pX wF]at h;exact h.mono fun e w' ⟨⟨p,h1,h2,h4⟩,h3⟩=>⟨⟨p,h1,wF,wF⟩,h3⟩
theorem q4E(I J L a b:Nat)(d:Array Int)(w:World)(hH:Holds z4O w I J d)(hl:I<w.heap.size)(aB:a+8<=b)(hb:b<=d.size)(U:d.size<4611686018427387904):
  Calls prog 156 #[.slice (some ⟨I,J,none⟩) d.size L,.int .i64 a,.int .i64 b] w fun e w'=>(∃(p:Nat) (h:Nat),e= .returned (.tuple #[.int .i64 p,.int .i64 h])/\h<=2/\a<=p/\p<b)/\z0x w I J d d w':=by
 have H0:=z7 (z0x.refl hH hl);clear hH;have HP:Hid (z8b w I J d d w.heap.size (w.alloc (.cells #[.int .i64 0] 3))):=z7 ⟨H0.o.alloc _,wJ _,⟨0,wH⟩,wH⟩;go_enter func156,ntmps156;go_wp2_with fail
 .obtain⟨D,hD⟩:=zN (((b:Int) - a)/4);rw[<-hD];have aA:12<=D/\4*D<=(b:Int) - a:=wF
  clear hD;refine(z6O w I J L _ d d w.heap.size wF wF U _ HP.o).mono ?_;rintro e w1 ⟨⟨p1,rfl,a7,a1⟩,N⟩;have a4:=z7 N;clear N;go_wp2_with fail;refine(z6O w I J L _ d d w.heap.size wF wF U _ a4.o).mono ?_;rintro e w2 ⟨⟨p2,rfl,a8,a2⟩,Y⟩;have a5:=z7 Y;clear Y;go_wp2_with fail;refine(z6O w I J L _ d d w.heap.size wF wF U _ a5.o).mono ?_;rintro e w3 ⟨⟨p3,rfl,a9,a3⟩,a0⟩;have a6:=z7 a0;clear a0;go_wp2_with fail;refine(y2R w I J L _ _ _ d d w.heap.size ⟨wF,wF⟩ ⟨wF,wF⟩ ⟨wF,wF⟩ _ a6.o).mono ?_;rintro e w4 ⟨⟨p,rfl,hp⟩,R⟩;obtain⟨s,hs⟩:=R.num;have O:=z7 R.row;have A:Hid ((a:Int)<=p/\p<b):=z7 wF;obtain⟨p,rfl⟩:∃q:Nat,p=q:=⟨p.toNat,by have:=A.o.1;omega⟩;clear hp R a7 a1 a8 a2 a9 a3;go_wp2;all_goals go_ret2
  .exact⟨⟨p,1,rfl,wF,by have:=A.o.1;omega,by have:=A.o.2;omega⟩,O.o⟩
  .exact⟨⟨p,2,rfl,wF,by have:=A.o.1;omega,by have:=A.o.2;omega⟩,O.o⟩
  exact⟨⟨p,0,rfl,wF,by have:=A.o.1;omega,by have:=A.o.2;omega⟩,O.o⟩
 refine(y2R w I J L _ _ _ d d w.heap.size ?_ ?_ ?_ _ HP.o).mono ?_;iterate 3 (exact⟨wF,wF⟩)
 rintro e w1 ⟨⟨p,rfl,hp⟩,N⟩;obtain⟨s,hs⟩:=N.num;have O:=z7 N.row;have A:Hid ((a:Int)<=p/\p<b):=z7 wF;obtain⟨p,rfl⟩:∃q:Nat,p=q:=⟨p.toNat,by have:=A.o.1;omega⟩;clear hp N;go_wp2;all_goals go_ret2
 .exact⟨⟨p,1,rfl,wF,by have:=A.o.1;omega,by have:=A.o.2;omega⟩,O.o⟩
 .exact⟨⟨p,2,rfl,wF,by have:=A.o.1;omega,by have:=A.o.2;omega⟩,O.o⟩
 exact⟨⟨p,0,rfl,wF,by have:=A.o.1;omega,by have:=A.o.2;omega⟩,O.o⟩
theorem q3x(n:Int)(I:0<=n)(J:n<=255)(w:World):Calls prog 163 #[.int .u64 n] w fun e w'=>e= .returned (.int .i64 (Lib.bitLen n.toNat))/\w'=w:=by
 have A:=Lib.len8_of n I J;have O:=Lib.bitLen_le8' n I J;have N:wrap64 (Lib.len8 n)=Lib.len8 n:=by rw[A];unfold wrap64;omega
 have L:=z7 A;clear A O;have R:¬(4294967296<=n):=wF
 have U:¬(65536<=n):=wF
 have Y:¬(256<=n):=wF
 go_enter func163,ntmps163;go_wp2;go_ret;refine⟨?_,rfl⟩;simp only[N,L.o];rfl
theorem q2J(n:Int)(A:0<=n)(I:n<=255)(w:World):Calls prog 132 #[.int .u64 n] w fun e w'=>e= .returned (.int .i64 (Lib.bitLen n.toNat))/\w'=w:=by
 have H:=z7 (q3x n A I);go_enter func132,ntmps132;go_wp2_with (go_at_call 163;refine(H.o _).mono ?_;rintro e w' ⟨rfl,rfl⟩);go_ret;exact⟨rfl,rfl⟩
theorem y8y(n:Nat)(O:1<=n)(R:n<=255)(w:World):Calls prog 186 #[.int .i64 n] w fun e w'=>(∃M:Nat,e= .returned (.int .u64 M)/\1<=M/\M<=2*n)/\w'=w:=by
 have A:=z7 (q2J n wF wF);have hb:Lib.bitLen ((n:Int)).toNat=bitsLen n:=by rw[mQ,bitLen_eq _ wF]
 have N:bitsLen n<=62:=(bitsLen_le_iff n 62).2 wF;have U:=wrap_two_pow (bitsLen n) N;have I:1<=1<<<bitsLen n:=by rw[tG];exact pV _
 have J:1<<<bitsLen n<=2*n:=by rw[tG];exact two_pow_bitsLen_le wF
 have L:=z7 (kh I J);rw[hb]at A;clear I J hb;go_enter func186,ntmps186;go_wp2_with (go_at_call 132;refine(A.o _).mono ?_;rintro e w' ⟨rfl,rfl⟩);go_ret;exact⟨⟨_,rfl,L.o.1,L.o.2⟩,rfl⟩
theorem y0u{a b:Int}(A:0<=a/\a<18446744073709551616)(hb:0<=b/\b<18446744073709551616):∃C:Nat,C<18446744073709551616/\bits .xor .u64 a b=(C:Int):=by
 obtain⟨x,rfl⟩:∃x:Nat,a=x:=⟨a.toNat,wF⟩;obtain⟨y,rfl⟩:∃y:Nat,b=y:=⟨b.toNat,wF⟩;exact⟨x^^^y,ky (n:=64) wF wF,bits_xor_u64_nat _ _ wF wF⟩
theorem q6u(I X:Nat)(hX:X<18446744073709551616)(w:World)(hc:w.cell? ⟨I,0,none⟩=some (.int .u64 X))(hf:w.frozen? ⟨I,0,none⟩=false):
  Calls prog 187 #[.pointer (some ⟨I,0,none⟩)] w fun e w'=>∃C:Nat,C<18446744073709551616/\e= .returned (.int .u64 C)/\w'=(w.setCell ⟨I,0,none⟩ (.int .u64 C)).drewN 3:=by
 have wr:∀a:Int,0<=IntKind.u64.wrap a/\IntKind.u64.wrap a<18446744073709551616:=fun a=>by rw[wq];omega
 obtain⟨A,lA,R⟩:=y0u (a:=X) (b:=IntKind.u64.wrap ((X:Int)*8192)) ⟨wF,wF⟩ (wr _);obtain⟨B,lB,U⟩:=y0u (a:=A) (b:=(A:Int)/128) ⟨wF,wF⟩ ⟨wF,wF⟩;obtain⟨C,O,Y⟩:=y0u (a:=B) (b:=IntKind.u64.wrap ((B:Int)*131072)) ⟨wF,wF⟩ (wr _);have N:∀v J,(w.setCell ⟨I,0,none⟩ v).setCell ⟨I,0,none⟩ J=w.setCell ⟨I,0,none⟩ J:=setCell_setCell w I 0;have L:=z7 O;clear wr;go_enter func187,ntmps187;go_wp2;go_region
 all_goals go_wp2
 all_goals go_region
 all_goals go_wp2
 all_goals go_region
 all_goals go_wp2
 go_ret;exact⟨C,L.o,rfl,rfl⟩
structure y2I (w0:World) (blk off:Nat) (d0 dk:Array Int) (rb:Nat) (w:World):Prop where
 row:z0x w0 blk off d0 dk w
 new:w0.heap.size<=rb
 num:∃X:Nat,X<18446744073709551616/\w.cell? ⟨rb,0,none⟩=some (.int .u64 X)
 soft:w.frozen? ⟨rb,0,none⟩=false
theorem q3f(w0:World)(I J:Nat)(L N:Array Int)(A:Nat)(w:World)(h:y2I w0 I J L N A w):
  Calls prog 187 #[.pointer (some ⟨A,0,none⟩)] w fun e w'=>(∃C:Nat,C<18446744073709551616/\e= .returned (.int .u64 C))/\y2I w0 I J L N A w':=by
 obtain⟨X,U,R⟩:=h.num;refine(q6u A X U w R h.soft).mono ?_;rintro e w' ⟨C,O,rfl,rfl⟩;refine⟨⟨C,O,rfl⟩,(h.row.setNew A 0 _ h.new).drewN 3,h.new,⟨C,O,gm _ _ _ R⟩,?_⟩;show((w.setCell ⟨A,0,none⟩ (.int .u64 C)).drewN 3).frozen? ⟨A,0,none⟩=false;have:=h.soft;simpa using this
theorem y2I.swap{w0 wr:World}{A I:Nat}{d L:Array Int}{N:Nat}(h:y2I w0 A I d L N wr){G:Nat->Int}(O:∀t,G t=L[t]!)(j k:Nat)(Y:j<d.size)(hk:k<d.size)(q:Nat):
  y2I w0 A I d (swp L j k) N (((wr.drewN q).setCell ⟨A,I+j,none⟩ (.int .u32 (G k))).setCell ⟨A,I+k,none⟩ (.int .u32 (G j))):=by
 obtain⟨X,R,U⟩:=h.num;have J:A≠N:=by have:=h.row.low;have:=h.new;omega
 refine⟨h.row.swap O j k Y hk q,h.new,⟨X,R,?_⟩,?_⟩
 .rw[eu _ _ _ _ (by simp[J]),eu _ _ _ _ (by simp[J])];exact U
 have:=h.soft;simpa using this
theorem y6c(n:Int)(I:1<=n)(A:n<=255)(w:World):Calls prog 186 #[.int .i64 n] w fun e w'=>(∃M:Nat,e= .returned (.int .u64 M)/\1<=M/\M<=2*n)/\w'=w:=by
 have h:=y8y n.toNat wF wF w;rw[pX wF]at h;exact h.mono fun e w' ⟨⟨M,A,h2,h3⟩,h4⟩=>⟨⟨M,A,h2,wF⟩,h4⟩
theorem q7Z(C M:Nat)(A:C<18446744073709551616)(I:1<=M)(J:M<=1000):∃O:Nat,O<=M - 1/\bits .and .u64 (C:Int) ((M:Int) - 1)=(O:Int):=by
 refine⟨C&&&(M - 1),Nat.and_le_right,?_⟩;rw[show((M:Int) - 1)=((M - 1:Nat):Int) by omega,bits_and_u64_nat _ _ A wF]
theorem q3M(A I a0 a b:Nat)(d:Array Int)(w:World)(hH:Holds z4O w A I d)(hl:A<w.heap.size)(a7:a+8<=b)(hb:b<=d.size)(a9:d.size<=255):
  Calls prog 155 #[.slice (some ⟨A,I,none⟩) d.size a0,.int .i64 a,.int .i64 b] w fun e w'=>e= .returned (.tuple #[])/\∃d',z0x w A I d d' w'/\PermIn a b d d':=by
 have H0:=z7 (z0x.refl hH hl);have N:∀v:Nat,v<18446744073709551616->y2I w A I d d w.heap.size (w.alloc (.cells #[.int .u64 v] 322)):=fun v hv=>⟨H0.o.alloc _,wJ _,⟨v,hv,wH⟩,wH⟩;have Y:=z7 (N (b - a) wF);rw[show((b - a:Nat):Int)=(b:Int) - a by omega]at Y;clear hH N;go_enter func155,ntmps155;go_wp2_with fail
 refine(y6c _ ?_ ?_ _).mono ?_;iterate 2 omega
 rintro e w' ⟨⟨M,rfl,a1,a4⟩,rfl⟩;go_wp2_with fail;go_loopw[9] (fun vi wr=>∃(t:Nat) (L:Array Int),vi= .int .i64 t/\(a:Int)+((b:Int) - a)/4*2 - 1<=t/\t<=(a:Int)+((b:Int) - a)/4*2+2/\Hid (y2I w A I d L w.heap.size wr)/\Hid (PermIn a b d L)) (fun vi _=>b+5 - (intOf vi).toNat)
 case atStart=>exact⟨((a:Int)+((b:Int) - a)/4*2 - 1).toNat,d,by congr 1;omega,wF,wF,Y,z7 (permIn_refl _ _ _)⟩
 case round=>
  clear Y;obtain⟨t,L,rfl,aA,aB,hR,hP⟩:=hrel;go_wp2_with fail
  .refine(q3f w A I d L w.heap.size _ hR.o).mono ?_;rintro e w1 ⟨⟨C,hC,rfl⟩,R⟩;have J:=z7 R;obtain⟨O,a5,a6⟩:=q7Z C M hC a1 wF;clear R hC hR;obtain⟨G,HG,U,a8⟩:=J.o.row.fam;go_wp2_with fail
   .obtain⟨P,a2⟩:∃P:Nat,(O:Int) - ((b:Int) - a)=P:=⟨((O:Int) - ((b:Int) - a)).toNat,wF⟩;rw[a2];obtain⟨v3,a3⟩:=uu (w:=w1) (p:=⟨A,I+t,none⟩) (x:= .int .u32 (G (a+P))) (q:=⟨A,I+(a+P),none⟩) (U (a+P) wF);go_region
    all_goals go_wp2
    all_goals go_roundw
    case rel=>
     refine⟨t+1,swp L t (a+P),by go_num,wF,wF,z7 (J.o.swap HG.o t (a+P) wF wF 1),z7 ?_⟩;exact permIn_trans _ _ _ _ _ hP.o (swp_permIn L a b t (a+P) wF wF wF wF (by rw[J.o.row.size];omega))
    case measure=>simp[intOf];omega
   obtain⟨v3,a3⟩:=uu (w:=w1) (p:=⟨A,I+t,none⟩) (x:= .int .u32 (G (a+O))) (q:=⟨A,I+(a+O),none⟩) (U (a+O) wF);go_region
   all_goals go_wp2
   all_goals go_roundw
   case rel=>
    refine⟨t+1,swp L t (a+O),by go_num,wF,wF,z7 (J.o.swap HG.o t (a+O) wF wF 1),z7 ?_⟩;exact permIn_trans _ _ _ _ _ hP.o (swp_permIn L a b t (a+O) wF wF wF wF (by rw[J.o.row.size];omega))
   case measure=>simp[intOf];omega
  go_end0
  exact⟨rfl,L,hR.o.row,hP.o⟩

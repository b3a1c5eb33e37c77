/- The library's sort at uint32. -/
import Derived.Test.YtabnnclcpkdkeaaGreatDoorZj
import Derived.Sort.AssemblyPlain
namespace Go.Proofs.YtabnnclcpkdkeaaGreatDoor
open Go.Proofs.Tryz
set_option linter.all false
set_option maxRecDepth 100000
set_option maxHeartbeats 0
open Go.RowKit Go.Sort
def z8c(a b:Nat)(d R:Array Int):Prop:=PermIn a b d R/\SortedIn ltInt a b R
def z9V(a b:Nat)(d:Array Int):Prop:=Go.Sort.Below ltInt a b d
theorem z8c.of_perm{a b:Nat}{d A R:Array Int}(h:PermIn a b d A)(k:z8c a b A R):z8c a b d R:=⟨permIn_trans _ _ _ _ _ h k.1,k.2⟩
theorem q7T:∀(N I J a0 a b:Nat) (aH:Int) (d:Array Int) (w:World),b - a<N->Holds z4O w I J d->I<w.heap.size->a<=b->b<=d.size->d.size<=255->z9V a b d->
  Calls prog 131 #[.slice (some ⟨I,J,none⟩) d.size a0,.int .i64 a,.int .i64 b,.int .i64 aH] w fun e w'=>e= .returned (.tuple #[])/\∃R,z0x w I J d R w'/\z8c a b d R:=by
 intro N
 induction N with
 | zero=>intro I J a0 a b aH d w h;omega
 | succ N ih=>
 intro I J a0 a b aH d w hN hH hl aZ hb aU hB;have IH:=z7 ih;have H0:=z7 (z0x.refl hH hl);have HB:=z7 hB;clear hH ih hB;go_enter func131,ntmps131;go_wp2;go_loopw[1,2,3,8,9] (fun va vb vl v8 v9 wr=>∃(a' U:Nat) (L:Int) (wb wp:Bool) (dk:Array Int),va= .int .i64 a'/\vb= .int .i64 U/\vl= .int .i64 L/\v8= .bool wb/\v9= .bool wp/\a'<=U/\U<=d.size/\U - a'<=b - a/\
   Hid (z0x w I J d dk wr)/\Hid (z9V a' U dk)/\Hid (∀R,z8c a' U dk R->z8c a b d R)) (fun va vb _ _ _ _=>(intOf vb).toNat - (intOf va).toNat)
 case atStart=>exact⟨a,b,aH,true,true,d,rfl,rfl,rfl,rfl,rfl,aZ,hb,wJ _,H0,HB,z7 fun R h=>h⟩
 case round=>
  obtain⟨a',U,L,wb,wp,dk,rfl,rfl,rfl,rfl,rfl,a9,O,b3,A,aR,hK⟩:=hrel;have HS:=z7 A.o.size;by_cases b1:U - a'<=12
  .have aM:(U:Int) - a'<=12:=wF;have hi:=z7 (y5q I J a0 a' U dk _ A.o.there A.o.lowr a9 (by rw[HS.o];exact O) (by rw[HS.o];omega));rw[A.o.size]at hi;go_wp2_with (go_at_call 153;refine hi.o.mono ?_;rintro e w2 ⟨rfl,a3⟩;have a1:=z7 (A.o.trans a3);clear a3)
   (try simp only[Exit.inBlock,Exit.then])
   refine wU (eK rfl _ _ _) rfl ?_;exact⟨rfl,_,a1.o,hK.o _ (insertionSort_holds swo_ltInt dk a' U a9 (by rw[HS.o];exact O))⟩
  have aM:¬((U:Int) - a'<=12):=wF
  by_cases aJ:L=0
  .have hi:=z7 (q5V I J a0 a' U dk _ A.o.there A.o.lowr a9 (by rw[HS.o];exact O) (by rw[HS.o];omega));rw[A.o.size]at hi;subst aJ;go_wp2_with (go_at_call 154;refine hi.o.mono ?_;rintro e w2 ⟨rfl,a3⟩;have a1:=z7 (A.o.trans a3);clear a3)
   (try simp only[Exit.inBlock,Exit.then])
   refine wU (eK rfl _ _ _) rfl ?_;exact⟨rfl,_,a1.o,hK.o _ (heapSort_holds swo_ltInt dk a' U a9 (by rw[HS.o];exact O))⟩
  have aY:(L==0)=false:=by simpa using aJ
  go_upto_if 35 with fail
  go_cut[3] (fun v wx=>∃(L':Int) (d1:Array Int),v= .int .i64 L'/\Hid (z0x w I J d d1 wx)/\Hid (PermIn a' U dk d1))
  case first=>
   cases wb with
   | true=>
    go_wp2;go_meet
    exact⟨L,dk,rfl,A,z7 (permIn_refl _ _ _)⟩
   | false=>
    have hi:=z7 (q3M I J a0 a' U dk _ A.o.there A.o.lowr wF (by rw[HS.o];exact O) (by rw[HS.o];omega));rw[A.o.size]at hi;go_wp2_with (go_at_call 155;refine hi.o.mono ?_;rintro e w2 ⟨rfl,d1,a3,a6⟩;have a1:=z7 (A.o.trans a3);have aV:=z7 a6;clear a3 a6);go_meet
    exact⟨_,d1,rfl,a1,aV⟩
  case rest=>
  clear aY aJ A;obtain⟨L',d1,rfl,A,aL⟩:=hcut;have aA:=z7 A.o.size;have hi:=z7 (q4E I J a0 a' U d1 _ A.o.there A.o.lowr wF (by rw[aA.o];exact O) (by rw[aA.o];omega));rw[A.o.size]at hi
  go_upto_if 50 with(go_at_call 156;refine hi.o.mono ?_;rintro e w2 ⟨⟨p,h,rfl,b0,a8,a6⟩,a3⟩;have a1:=z7 (A.o.trans a3);clear a3)
  clear hi
  go_cut[11,12] (fun v1 v2 wx=>∃(p' h':Nat) (d2:Array Int),v1= .int .i64 p'/\v2= .int .i64 h'/\a'<=p'/\p'<U/\Hid (z0x w I J d d2 wx)/\Hid (PermIn a' U dk d2))
  case first=>
   by_cases hh:h=2
   .subst hh;have hi:=z7 (y8n I J a0 a' U d1 _ a1.o.there a1.o.lowr wF (by rw[aA.o];exact O) (by rw[aA.o];omega));rw[a1.o.size]at hi;go_wp2_with (go_at_call 157;refine hi.o.mono ?_;rintro e w3 ⟨rfl,d2,a4,aS⟩;have Y:=z7 (a1.o.trans a4);have aX:=z7 aS;clear a4 aS);go_meet
    refine⟨U - 1 - (p - a'),1,d2,?_,rfl,wF,wF,Y,z7 (permIn_trans _ _ _ _ _ aL.o aX.o)⟩
    congr 1
    omega
   have b2:((h:Int)==2)=false:=(by simpa using(by omega:¬(h:Int)=2));go_wp2;go_meet
   exact⟨p,h,d1,rfl,rfl,a8,a6,a1,aL⟩
  case rest=>
  clear a1 A aL aA a8 a6 b0;obtain⟨p',h',d2,rfl,rfl,a8,a6,A,aB⟩:=hcut;go_upto_region 15 with fail
  go_cut[68] (fun v wx=>∃tb:Bool,v= .bool tb/\Hid (z0x w I J d d2 wx))
  case first=>
   cases wb<;>cases wp<;>(go_wp2_with fail)<;>go_meet<;>exact⟨_,rfl,A⟩
  case rest=>
  clear A;obtain⟨tb,rfl,A⟩:=hcut;have aE:=z7 A.o.size;have aN:Hid (z9V a' U d2):=z7 (Below.perm aR.o (by rw[HS.o];exact O) aB.o)
  go_upto_if 68 with fail
  go_cut[] (fun wx=>∃d3:Array Int,Hid (z0x w I J d d3 wx)/\Hid (PermIn a' U dk d3))
  case first=>
   cases tb with
   | false=>
    go_wp2;go_meet
    exact⟨d2,A,aB⟩
   | true=>
    have hi:=z7 (y8Q I J a0 a' U d2 _ A.o.there A.o.lowr wF (by rw[aE.o];exact O) (by rw[aE.o];omega));rw[A.o.size]at hi;have aG:=z7 (partialInsertionSort_holds swo_ltInt d2 a' U wF (by rw[aE.o];exact O) aN.o);obtain⟨pr,aT⟩:=zN (Sort.partialInsertionSort ltInt d2 a' U);rw[<-aT]at hi aG;obtain⟨pa,pb⟩:=pr;clear aT;go_wp2_with (go_at_call 158;refine hi.o.mono ?_;rintro e w3 ⟨rfl,a4⟩;have Y:=z7 (A.o.trans a4);clear a4)
    ·(try simp only[Exit.inBlock,Exit.then])
     refine wU (eK rfl _ _ _) rfl ?_;refine⟨rfl,pa,Y.o,hK.o _ (z8c.of_perm aB.o ⟨aG.o.1,aG.o.2 ?_⟩)⟩;first|assumption|rfl
    go_meet
    exact⟨pa,Y,z7 (permIn_trans _ _ _ _ _ aB.o aG.o.1)⟩
  case rest=>
  clear A aE aN aB;obtain⟨d3,A,aF⟩:=hcut;have a5:=z7 A.o.size;have aO:Hid (z9V a' U d3):=z7 (Below.perm aR.o (by rw[HS.o];exact O) aF.o);obtain⟨G,HG,aD,aW⟩:=A.o.fam;go_upto_region 17 with fail
  go_cut[87] (fun v wx=>∃tb:Bool,v= .bool tb/\Hid (tb=true->0<a'/\ltInt d3[a' - 1]! d3[p']! =false)/\Hid (z0x w I J d d3 wx))
  case first=>
   by_cases ha:0<a'
   .go_wp2_with fail
    go_big_quiet (first|(go_at_call 159;refine wz (z1V _ _ _)))
    go_wp2_with fail;go_meet
    refine⟨_,rfl,z7 fun h=>⟨ha,?_⟩,z7 (A.o.drewN nq)⟩;rw[<-HG.o,<-HG.o];simpa using h
   go_wp2_with fail
   go_big_quiet (first|(go_at_call 159;refine wz (z1V _ _ _)))
   go_wp2_with fail;go_meet
   exact⟨false,rfl,z7 fun h=>(by cases h),z7 (A.o.drewN nq)⟩
  case rest=>
  clear A HG aD aW;obtain⟨tb,rfl,hT,A⟩:=hcut;cases tb with
  | true=>
   have hi:=z7 (q1M I J a0 a' U p' d3 _ A.o.there A.o.lowr a8 a6 (by rw[a5.o];exact O) (by rw[a5.o];omega));rw[A.o.size]at hi;obtain⟨a2,d4,hx⟩:∃a2 d4,Sort.partitionEqual ltInt d3 a' U p'=(a2,d4):=⟨_,_,rfl⟩;rw[hx]at hi;obtain⟨r1,r2,r3,r4,r5⟩:=round_eq swo_ltInt (partitionEqual_holds ltInt) (hT.o rfl).1 a8 a6 (by rw[a5.o];exact O) aO.o (hT.o rfl).2 hx;have R4:=z7 r4;have R5:=z7 r5;clear hx r4 r5;go_wp2_with (go_at_call 160;refine hi.o.mono ?_;rintro e w3 ⟨rfl,a4⟩;have Y:=z7 (A.o.trans a4);clear a4)
   go_roundw
   case rel=>exact⟨a2,U,L',wb,wp,d4,rfl,rfl,rfl,rfl,rfl,wF,O,wF,Y,R4,z7 fun R h=>hK.o R (z8c.of_perm aF.o (R5.o R h.1 h.2))⟩
   case measure=>simp[intOf];omega
  | false=>
   have hi:=z7 (q6z I J a0 a' U p' d3 _ A.o.there A.o.lowr a8 a6 (by rw[a5.o];exact O) (by rw[a5.o];omega));rw[A.o.size]at hi;obtain⟨a2,ap,d4,hx⟩:∃a2 ap d4,Sort.partition ltInt d3 a' U p'=(a2,ap,d4):=⟨_,_,_,rfl⟩;rw[hx]at hi;obtain⟨r1,r2,r3,r4,r5,r6,r7⟩:=round_part swo_ltInt (partition_holds ltInt) a8 a6 (by rw[a5.o];exact O) aO.o hx;have R4:=z7 r4;have R5:=z7 r5;have R6:=z7 r6;have R7:=z7 r7;clear hx r4 r5 r6 r7;go_wp2_with (go_at_call 161;refine hi.o.mono ?_;rintro e w3 ⟨rfl,a4⟩;have Y:=z7 (A.o.trans a4);clear a4)
   .have hj:=IH.o I J a0 a' a2 L' d4 w3 wF Y.o.there Y.o.lowr r1 (by rw[r3,a5.o];omega) (by rw[r3,a5.o];exact aU) R4.o;rw[Y.o.size]at hj;refine hj.mono ?_;rintro e w4 ⟨rfl,R,aC,a7⟩;have aI:=z7 (Y.o.trans aC);obtain⟨q1,q2⟩:=R6.o R a7.1 a7.2;have Q1:=z7 q1;have Q2:=z7 q2;clear hj aC a7 q1 q2 hi;go_wp2
    go_roundw
    case rel=>exact⟨a2+1,U,L',_,ap,R,by go_num,rfl,rfl,rfl,rfl,wF,O,wF,aI,Q1,z7 fun X h=>hK.o X (z8c.of_perm aF.o (Q2.o X h.1 h.2))⟩
    case measure=>simp[intOf];omega
   have hj:=IH.o I J a0 (a2+1) U L' d4 w3 wF Y.o.there Y.o.lowr wF (by rw[r3,a5.o];omega) (by rw[r3,a5.o];exact aU) R5.o;rw[Y.o.size,show((a2+1:Nat):Int)=(a2:Int)+1 by omega]at hj;refine hj.mono ?_;rintro e w4 ⟨rfl,R,aC,a7⟩;have aI:=z7 (Y.o.trans aC);obtain⟨q1,q2⟩:=R7.o R a7.1 a7.2;have Q1:=z7 q1;have Q2:=z7 q2;clear hj aC a7 q1 q2 hi;go_wp2
   go_roundw
   case rel=>exact⟨a',a2,L',_,ap,R,rfl,rfl,rfl,rfl,rfl,wF,wF,wF,aI,Q1,z7 fun X h=>hK.o X (z8c.of_perm aF.o (Q2.o X h.1 h.2))⟩
   case measure=>simp[intOf];omega
def z1K(l:List Int):List Int:=l.mergeSort fun x y=>decide (x<=y)
theorem q2T{A:List Int}{R:Array Int}(h:z8c 0 A.length A.toArray R):R=(z1K A).toArray:=by
 have I:=sorted_unique_holds (lt:=ltInt) swo_ltInt (fun x y I J=>by simp only[ltInt,ia]at I J;omega) A.toArray R (by simpa using h.1) (by simpa using h.2);have J:R.toList=z1K A:=by
  rw[I];unfold z1K
  congr 1
  funext x y
  show(!decide (y<x))=decide (x<=y);by_cases h:x<=y<;>first|(simp[h];done)|(simp[h];omega)
 rw[<-J]
theorem q5x(I J L:Nat)(A:List Int)(w:World)(O:Holds z4O w I J A.toArray)(hl:I<w.heap.size)(N:A.length<=255):
  Calls prog 94 #[.slice (some ⟨I,J,none⟩) A.length L] w fun e w'=>e= .returned (.tuple #[])/\z0x w I J A.toArray (z1K A).toArray w':=by
 have hp:=z7 (q7T (A.length+1) I J L 0 A.length (Lib.bitLen ((A.length:Int)).toNat) A.toArray w wF O hl (uA _) wH (by simpa using N) (.inl rfl));rw[show A.toArray.size=A.length by simp]at hp;have hL:=z7 (q2J A.length wF wF);clear O;go_enter func94,ntmps94;go_wp2_with (first
  | (go_at_call 132;refine(hL.o _).mono ?_;rintro e w' ⟨rfl,rfl⟩)
  | (go_at_call 131;refine hp.o.mono ?_;rintro e w' ⟨rfl,R,U,Y⟩;have HR:=z7 U;have HS:=z7 Y;clear U Y))
 go_end0
 refine⟨rfl,?_⟩;rw[<-q2T HS.o];exact HR.o

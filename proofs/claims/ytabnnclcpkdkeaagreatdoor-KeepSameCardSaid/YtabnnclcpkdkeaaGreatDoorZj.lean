/- The library's sort at uint32. -/
import Derived.Test.YtabnnclcpkdkeaaGreatDoorZi
import Derived.Sort.WalkC4
import Derived.Deep.DeepCutAuto
import Derived.Deep.CutBlock
namespace Go.Proofs.YtabnnclcpkdkeaaGreatDoor
open Go.Proofs.Tryz
set_option linter.all false
set_option maxRecDepth 100000
set_option maxHeartbeats 0
open Go.RowKit Go.Sort
theorem q1M(N O a9 a b A:Nat)(d:Array Int)(w:World)(hH:Holds z4O w N O d)(hl:N<w.heap.size)(aC:a<=A)(aG:A<b)(hb:b<=d.size)(aH:d.size<1152921504606846976):
  Calls prog 160 #[.slice (some ⟨N,O,none⟩) d.size a9,.int .i64 a,.int .i64 b,.int .i64 A] w fun e w'=>e= .returned (.int .i64 (Sort.partitionEqual Sort.ltInt d a b A).1)/\z0x w N O d (Sort.partitionEqual Sort.ltInt d a b A).2 w':=by
 have H0:=z7 (z0x.refl hH hl);clear hH;obtain⟨G,U,Y,a1⟩:=H0.o.fam;obtain⟨v3,a8⟩:=uu (w:=w) (p:=⟨N,O+a,none⟩) (x:= .int .u32 (G A)) (q:=⟨N,O+A,none⟩) (Y A wF);go_enter func160,ntmps160;go_wp2;go_region
 all_goals go_wp2
 have a6:=z7 (H0.o.swap U.o a A wF wF 1);clear U Y a1 a8;go_loopw[9,10] (fun vi vj wr=>∃(i j:Nat) (J:Array Int),vi= .int .i64 i/\vj= .int .i64 j/\a<i/\i<=j+1/\j<b/\Hid (z0x w N O d J wr)/\Hid (partEqLoop ltInt a i j J=partEqLoop ltInt a (a+1) (b - 1) (swp d a A)))
  (fun vi vj _=>(intOf vj).toNat+1 - (intOf vi).toNat)
 case atStart=>exact⟨a+1,b - 1,_,by go_num,by go_num,wF,wF,wF,a6,z7 rfl⟩
 case round=>
  clear a6 H0 v3
  rename Nat->Int=>G0
  obtain⟨i,j,J,rfl,rfl,aB,aA,aE,R,hE⟩:=hrel
  go_upto_block 2 with fail
  go_cut[9] (fun s wx=>∃I:Nat,s= .int .i64 I/\i<=I/\I<=j+1/\Hid (z0x w N O d J wx)/\Hid (I=scanUp (fun x=>!ltInt J[a]! x) J j i))
  case first=>
   go_wp2_with fail;go_loopw[9] (fun vi wr=>∃I:Nat,vi= .int .i64 I/\i<=I/\I<=j+1/\Hid (z0x w N O d J wr)/\Hid (scanUp (fun x=>!ltInt J[a]! x) J j I=scanUp (fun x=>!ltInt J[a]! x) J j i)) (fun vi _=>j+1 - (intOf vi).toNat)
   case atStart=>exact⟨i,rfl,wJ _,aA,R,z7 rfl⟩
   case round=>
    clear R;obtain⟨I,rfl,a3,a2,R,hS⟩:=hrel;obtain⟨G,U,Y,a1⟩:=R.o.fam;by_cases a0:I<=j
    .go_wp2_with fail
     go_big_quiet (first|(go_at_call 159;refine wz (z1V _ _ _)))
     go_wp2
     .have ht:(!ltInt (G a) (G I))=true:=by assumption
      go_roundw
      case rel=>exact⟨I+1,by go_num,wF,wF,z7 (R.o.drewN nq),z7 ((scanUp_go (fun x=>!ltInt J[a]! x) J j I a0 (by rw[<-U.o a,<-U.o I];exact ht)).symm.trans hS.o)⟩
      case measure=>simp[intOf];omega
     have ht:(!ltInt (G a) (G I))=false:=(by assumption);go_meet
     exact⟨I,rfl,a3,a2,z7 (R.o.drewN nq),z7 ((scanUp_end (fun x=>!ltInt J[a]! x) J j I (rM (by rw[<-U.o a,<-U.o I];exact ht))).symm.trans hS.o)⟩
    go_wp2_with fail
    go_big_quiet (first|(go_at_call 159;refine wz (z1V _ _ _)))
    go_wp2;go_meet
    exact⟨I,rfl,a3,a2,z7 (R.o.drewN nq),z7 ((scanUp_end (fun x=>!ltInt J[a]! x) J j I (rL a0)).symm.trans hS.o)⟩
  case rest=>
  clear R;obtain⟨I,rfl,a3,a2,R,hI⟩:=hcut
  go_upto_block 4 with fail
  go_cut[10] (fun s wx=>∃L:Nat,s= .int .i64 L/\L<=j/\I<=L+1/\Hid (z0x w N O d J wx)/\Hid (L=scanDown (fun x=>ltInt J[a]! x) J I j))
  case first=>
   go_wp2_with fail;go_loopw[10] (fun vj wr=>∃L:Nat,vj= .int .i64 L/\L<=j/\I<=L+1/\Hid (z0x w N O d J wr)/\Hid (scanDown (fun x=>ltInt J[a]! x) J I L=scanDown (fun x=>ltInt J[a]! x) J I j)) (fun vj _=>(intOf vj).toNat)
   case atStart=>exact⟨j,rfl,wJ _,a2,R,z7 rfl⟩
   case round=>
    clear R;obtain⟨L,rfl,a4,a5,R,hS⟩:=hrel;obtain⟨G,U,Y,a1⟩:=R.o.fam;by_cases a0:I<=L
    .go_wp2_with fail
     go_big_quiet (first|(go_at_call 159;refine wz (z1V _ _ _)))
     go_wp2
     .have ht:ltInt (G a) (G L)=true:=by assumption
      go_roundw
      case rel=>exact⟨L - 1,by go_num,wF,wF,z7 (R.o.drewN nq),z7 ((scanDown_go (fun x=>ltInt J[a]! x) J I L a0 wF (by rw[<-U.o a,<-U.o L];exact ht)).symm.trans hS.o)⟩
      case measure=>simp[intOf];omega
     have ht:ltInt (G a) (G L)=false:=(by assumption);go_meet
     exact⟨L,rfl,a4,a5,z7 (R.o.drewN nq),z7 ((scanDown_end (fun x=>ltInt J[a]! x) J I L (rM (by rw[<-U.o a,<-U.o L];exact ht))).symm.trans hS.o)⟩
    go_wp2_with fail
    go_big_quiet (first|(go_at_call 159;refine wz (z1V _ _ _)))
    go_wp2;go_meet
    exact⟨L,rfl,a4,a5,z7 (R.o.drewN nq),z7 ((scanDown_end (fun x=>ltInt J[a]! x) J I L (rL a0)).symm.trans hS.o)⟩
  case rest=>
  clear R;obtain⟨L,rfl,a4,a5,R,hJ⟩:=hcut;obtain⟨G,U,Y,a1⟩:=R.o.fam;by_cases a7:L<I
  .go_wp2;go_ret;have e:=partEq_break ltInt a i j J hI.o hJ.o a7;unfold Sort.partitionEqual;rw[<-hE.o,e];exact⟨rfl,R.o⟩
  have aF:=scans_lt ltInt a i j J wF hI.o hJ.o wF;obtain⟨v3,a8⟩:=uu (w:=wc) (p:=⟨N,O+I,none⟩) (x:= .int .u32 (G L)) (q:=⟨N,O+L,none⟩) (Y L wF);go_wp2;go_region
  all_goals go_wp2
  all_goals go_roundw
  case rel=>exact⟨I+1,L - 1,swp J I L,by go_num,by go_num,wF,wF,wF,z7 (R.o.swap U.o I L wF wF 1),z7 ((partEq_go ltInt a i j J hI.o hJ.o a7).symm.trans hE.o)⟩
  case measure=>simp[intOf];omega
theorem q6z(N R aM a b L:Nat)(d:Array Int)(w:World)(hH:Holds z4O w N R d)(hl:N<w.heap.size)(aO:a<=L)(aR:L<b)(hb:b<=d.size)(aS:d.size<1152921504606846976):
  Calls prog 161 #[.slice (some ⟨N,R,none⟩) d.size aM,.int .i64 a,.int .i64 b,.int .i64 L] w fun e w'=>e= .returned (.tuple #[.int .i64 (Sort.partition Sort.ltInt d a b L).1,.bool (Sort.partition Sort.ltInt d a b L).2.1])/\z0x w N R d (Sort.partition Sort.ltInt d a b L).2.2 w':=by
 have H0:=z7 (z0x.refl hH hl);clear hH;obtain⟨G0,U,Y,a2⟩:=H0.o.fam;obtain⟨v3,aN⟩:=uu (w:=w) (p:=⟨N,R+a,none⟩) (x:= .int .u32 (G0 L)) (q:=⟨N,R+L,none⟩) (Y L wF);go_enter func161,ntmps161;go_wp2;go_region
 all_goals go_upto_block 0 with fail
 have O:=z7 (H0.o.swap U.o a L wF wF 1);obtain⟨i,hi⟩:=zN (a+1);obtain⟨j,hj⟩:=zN (b - 1);obtain⟨I,aF⟩:=zN (swp d a L);rw[<-aF]at O;rw[show((a:Int)+1)=((i:Nat):Int) by omega,show((b:Int) - 1)=((j:Nat):Int) by omega];have a9:=z7 aF;have aA:=z7 hi;have aB:=z7 hj;have a7:i<=j+1:=wF
 have aG:a<i:=wF
 have aJ:j<b:=wF
 clear U Y a2 aN aF hi hj
 go_upto_block 0 with fail
 go_cut[10] (fun s wx=>∃A:Nat,s= .int .i64 A/\i<=A/\A<=j+1/\Hid (z0x w N R d I wx)/\Hid (A=scanUp (fun x=>ltInt x I[a]!) I j i))
 case first=>
  go_wp2_with fail;go_loopw[10] (fun v wr=>∃A:Nat,v= .int .i64 A/\i<=A/\A<=j+1/\Hid (z0x w N R d I wr)/\Hid (scanUp (fun x=>ltInt x I[a]!) I j A=scanUp (fun x=>ltInt x I[a]!) I j i)) (fun v _=>j+1 - (intOf v).toNat)
  case atStart=>exact⟨i,rfl,wJ _,a7,O,z7 rfl⟩
  case round=>
   clear O;obtain⟨A,rfl,a3,a1,O,hS⟩:=hrel;obtain⟨G,U,Y,a2⟩:=O.o.fam;by_cases a0:A<=j
   .go_wp2_with fail
    go_big_quiet (first|(go_at_call 159;refine wz (z1V _ _ _)))
    go_wp2
    .have ht:ltInt (G A) (G a)=true:=by assumption
     go_roundw
     case rel=>exact⟨A+1,by go_num,wF,wF,z7 (O.o.drewN nq),z7 ((scanUp_go (fun x=>ltInt x I[a]!) I j A a0 (by rw[<-U.o a,<-U.o A];exact ht)).symm.trans hS.o)⟩
     case measure=>simp[intOf];omega
    have ht:ltInt (G A) (G a)=false:=(by assumption);go_meet
    exact⟨A,rfl,a3,a1,z7 (O.o.drewN nq),z7 ((scanUp_end (fun x=>ltInt x I[a]!) I j A (rM (by rw[<-U.o a,<-U.o A];exact ht))).symm.trans hS.o)⟩
   go_wp2_with fail
   go_big_quiet (first|(go_at_call 159;refine wz (z1V _ _ _)))
   go_wp2;go_meet
   exact⟨A,rfl,a3,a1,z7 (O.o.drewN nq),z7 ((scanUp_end (fun x=>ltInt x I[a]!) I j A (rL a0)).symm.trans hS.o)⟩
 case rest=>
 clear O;obtain⟨A,rfl,a3,a1,O,hI⟩:=hcut
 go_upto_block 2 with fail
 go_cut[11] (fun s wx=>∃J:Nat,s= .int .i64 J/\J<=j/\A<=J+1/\Hid (z0x w N R d I wx)/\Hid (J=scanDown (fun x=>!ltInt x I[a]!) I A j))
 case first=>
  go_wp2_with fail;go_loopw[11] (fun v wr=>∃J:Nat,v= .int .i64 J/\J<=j/\A<=J+1/\Hid (z0x w N R d I wr)/\Hid (scanDown (fun x=>!ltInt x I[a]!) I A J=scanDown (fun x=>!ltInt x I[a]!) I A j)) (fun v _=>(intOf v).toNat)
  case atStart=>exact⟨j,rfl,wJ _,a1,O,z7 rfl⟩
  case round=>
   clear O;obtain⟨J,rfl,a4,a5,O,hS⟩:=hrel;obtain⟨G,U,Y,a2⟩:=O.o.fam;by_cases a0:A<=J
   .go_wp2_with fail
    go_big_quiet (first|(go_at_call 159;refine wz (z1V _ _ _)))
    go_wp2
    .have ht:(!ltInt (G J) (G a))=true:=by assumption
     go_roundw
     case rel=>exact⟨J - 1,by go_num,wF,wF,z7 (O.o.drewN nq),z7 ((scanDown_go (fun x=>!ltInt x I[a]!) I A J a0 wF (by rw[<-U.o a,<-U.o J];exact ht)).symm.trans hS.o)⟩
     case measure=>simp[intOf];omega
    have ht:(!ltInt (G J) (G a))=false:=(by assumption);go_meet
    exact⟨J,rfl,a4,a5,z7 (O.o.drewN nq),z7 ((scanDown_end (fun x=>!ltInt x I[a]!) I A J (rM (by rw[<-U.o a,<-U.o J];exact ht))).symm.trans hS.o)⟩
   go_wp2_with fail
   go_big_quiet (first|(go_at_call 159;refine wz (z1V _ _ _)))
   go_wp2;go_meet
   exact⟨J,rfl,a4,a5,z7 (O.o.drewN nq),z7 ((scanDown_end (fun x=>!ltInt x I[a]!) I A J (rL a0)).symm.trans hS.o)⟩
 case rest=>
 clear O;obtain⟨J,rfl,a4,a5,O,hJ⟩:=hcut;obtain⟨G,U,Y,a2⟩:=O.o.fam;by_cases a6:J<A
 .obtain⟨v4,a8⟩:=uu (w:=wc) (p:=⟨N,R+J,none⟩) (x:= .int .u32 (G a)) (q:=⟨N,R+a,none⟩) (Y a wF);go_wp2;go_region
  all_goals go_wp2
  go_ret2;have e:=part_first_break ltInt d a b L aA.o aB.o a9.o hI.o hJ.o a6;rw[e];exact⟨rfl,O.o.swap U.o J a wF wF 1⟩
 have aL:=part_scans_lt ltInt a i j I wF hI.o hJ.o wF;obtain⟨v4,a8⟩:=uu (w:=wc) (p:=⟨N,R+A,none⟩) (x:= .int .u32 (G J)) (q:=⟨N,R+J,none⟩) (Y J wF);have HF:Hid _:=z7 (part_first_go ltInt d a b L aA.o aB.o a9.o hI.o hJ.o a6);obtain⟨i3,aH⟩:=zN (A+1);obtain⟨j3,aI⟩:=zN (J - 1);obtain⟨d3,aE⟩:=zN (swp I A J);go_wp2;go_region
 all_goals go_wp2
 have aC:=z7 (O.o.swap U.o A J wF wF 1);rw[<-aE]at aC;rw[<-aH,<-aI,<-aE]at HF;clear U Y a2 a8 aE hI hJ O;go_loopw[10,11] (fun vi vj wr=>∃(i j:Nat) (I:Array Int),vi= .int .i64 i/\vj= .int .i64 j/\a<i/\i<=j+1/\j<b/\Hid (z0x w N R d I wr)/\Hid (partLoop ltInt a i j I=partLoop ltInt a i3 j3 d3))
  (fun vi vj _=>(intOf vj).toNat+1 - (intOf vi).toNat)
 case atStart=>exact⟨i3,j3,d3,by rw[aH];go_num,by rw[aI];go_num,wF,wF,wF,aC,z7 rfl⟩
 case round=>
  clear aC H0 v3 v4 a3 a1 a4 a5 a6 aL a7 aG aJ;clear a9 aA aB;obtain⟨i,j,I,rfl,rfl,aG,a7,aJ,O,hE⟩:=hrel
  go_upto_block 6 with fail
  go_cut[10] (fun s wx=>∃A:Nat,s= .int .i64 A/\i<=A/\A<=j+1/\Hid (z0x w N R d I wx)/\Hid (A=scanUp (fun x=>ltInt x I[a]!) I j i))
  case first=>
   go_wp2_with fail;go_loopw[10] (fun v wr=>∃A:Nat,v= .int .i64 A/\i<=A/\A<=j+1/\Hid (z0x w N R d I wr)/\Hid (scanUp (fun x=>ltInt x I[a]!) I j A=scanUp (fun x=>ltInt x I[a]!) I j i)) (fun v _=>j+1 - (intOf v).toNat)
   case atStart=>exact⟨i,rfl,wJ _,a7,O,z7 rfl⟩
   case round=>
    clear O;obtain⟨A,rfl,a3,a1,O,hS⟩:=hrel;obtain⟨G,U,Y,a2⟩:=O.o.fam;by_cases a0:A<=j
    .go_wp2_with fail
     go_big_quiet (first|(go_at_call 159;refine wz (z1V _ _ _)))
     go_wp2
     .have ht:ltInt (G A) (G a)=true:=by assumption
      go_roundw
      case rel=>exact⟨A+1,by go_num,wF,wF,z7 (O.o.drewN nq),z7 ((scanUp_go (fun x=>ltInt x I[a]!) I j A a0 (by rw[<-U.o a,<-U.o A];exact ht)).symm.trans hS.o)⟩
      case measure=>simp[intOf];omega
     have ht:ltInt (G A) (G a)=false:=(by assumption);go_meet
     exact⟨A,rfl,a3,a1,z7 (O.o.drewN nq),z7 ((scanUp_end (fun x=>ltInt x I[a]!) I j A (rM (by rw[<-U.o a,<-U.o A];exact ht))).symm.trans hS.o)⟩
    go_wp2_with fail
    go_big_quiet (first|(go_at_call 159;refine wz (z1V _ _ _)))
    go_wp2;go_meet
    exact⟨A,rfl,a3,a1,z7 (O.o.drewN nq),z7 ((scanUp_end (fun x=>ltInt x I[a]!) I j A (rL a0)).symm.trans hS.o)⟩
  case rest=>
  clear O;obtain⟨A,rfl,a3,a1,O,hI⟩:=hcut
  go_upto_block 8 with fail
  go_cut[11] (fun s wx=>∃J:Nat,s= .int .i64 J/\J<=j/\A<=J+1/\Hid (z0x w N R d I wx)/\Hid (J=scanDown (fun x=>!ltInt x I[a]!) I A j))
  case first=>
   go_wp2_with fail;go_loopw[11] (fun v wr=>∃J:Nat,v= .int .i64 J/\J<=j/\A<=J+1/\Hid (z0x w N R d I wr)/\Hid (scanDown (fun x=>!ltInt x I[a]!) I A J=scanDown (fun x=>!ltInt x I[a]!) I A j)) (fun v _=>(intOf v).toNat)
   case atStart=>exact⟨j,rfl,wJ _,a1,O,z7 rfl⟩
   case round=>
    clear O;obtain⟨J,rfl,a4,a5,O,hS⟩:=hrel;obtain⟨G,U,Y,a2⟩:=O.o.fam;by_cases a0:A<=J
    .go_wp2_with fail
     go_big_quiet (first|(go_at_call 159;refine wz (z1V _ _ _)))
     go_wp2
     .have ht:(!ltInt (G J) (G a))=true:=by assumption
      go_roundw
      case rel=>exact⟨J - 1,by go_num,wF,wF,z7 (O.o.drewN nq),z7 ((scanDown_go (fun x=>!ltInt x I[a]!) I A J a0 wF (by rw[<-U.o a,<-U.o J];exact ht)).symm.trans hS.o)⟩
      case measure=>simp[intOf];omega
     have ht:(!ltInt (G J) (G a))=false:=(by assumption);go_meet
     exact⟨J,rfl,a4,a5,z7 (O.o.drewN nq),z7 ((scanDown_end (fun x=>!ltInt x I[a]!) I A J (rM (by rw[<-U.o a,<-U.o J];exact ht))).symm.trans hS.o)⟩
    go_wp2_with fail
    go_big_quiet (first|(go_at_call 159;refine wz (z1V _ _ _)))
    go_wp2;go_meet
    exact⟨J,rfl,a4,a5,z7 (O.o.drewN nq),z7 ((scanDown_end (fun x=>!ltInt x I[a]!) I A J (rL a0)).symm.trans hS.o)⟩
  case rest=>
  clear O;obtain⟨J,rfl,a4,a5,O,hJ⟩:=hcut;obtain⟨G,U,Y,a2⟩:=O.o.fam;by_cases a6:J<A
  .obtain⟨v4,a8⟩:=uu (w:=wc) (p:=⟨N,R+J,none⟩) (x:= .int .u32 (G a)) (q:=⟨N,R+a,none⟩) (Y a wF);go_wp2;go_region
   all_goals go_wp2
   go_ret2;have e:=part_break ltInt a i j I hI.o hJ.o a6;rw[hE.o]at e;rw[HF.o,e];exact⟨rfl,O.o.swap U.o J a wF wF 1⟩
  have aL:=part_scans_lt ltInt a i j I wF hI.o hJ.o wF;obtain⟨v4,a8⟩:=uu (w:=wc) (p:=⟨N,R+A,none⟩) (x:= .int .u32 (G J)) (q:=⟨N,R+J,none⟩) (Y J wF);go_wp2;go_region
  all_goals go_wp2
  all_goals go_roundw
  case rel=>exact⟨A+1,J - 1,swp I A J,by go_num,by go_num,wF,wF,wF,z7 (O.o.swap U.o A J wF wF 1),z7 ((part_go ltInt a i j I hI.o hJ.o a6).symm.trans hE.o)⟩
  case measure=>simp[intOf];omega
theorem y8Q(A I aI a b:Nat)(d:Array Int)(w:World)(hH:Holds z4O w A I d)(hl:A<w.heap.size)(aR:a<b)(hb:b<=d.size)(aX:d.size<1152921504606846976):
  Calls prog 158 #[.slice (some ⟨A,I,none⟩) d.size aI,.int .i64 a,.int .i64 b] w fun e w'=>e= .returned (.bool (Sort.partialInsertionSort ltInt d a b).2)/\z0x w A I d (Sort.partialInsertionSort ltInt d a b).1 w':=by
 have H0:=z7 (z0x.refl hH hl);clear hH;go_enter func158,ntmps158;go_wp2;go_loopw[7,8] (fun vi vs wr=>∃(i s:Nat) (Y:Array Int),vi= .int .i64 i/\vs= .int .i64 s/\s<=5/\a<i/\i<=b/\Hid (z0x w A I d Y wr)/\Hid (partialIns ltInt a b (5 - s) i Y=partialIns ltInt a b 5 (a+1) d)) (fun _ vs _=>5 - (intOf vs).toNat)
 case atStart=>exact⟨a+1,0,d,by go_num,rfl,wF,wF,wF,H0,z7 rfl⟩
 case round=>
  obtain⟨i,s,Y,rfl,rfl,aV,aS,aJ,J,hO⟩:=hrel;by_cases hs:s<5
  .go_upto_block 2 with fail
   go_cut[7] (fun v wx=>∃k:Nat,v= .int .i64 k/\i<=k/\k<=b/\Hid (z0x w A I d Y wx)/\Hid (scanSorted ltInt Y b i=k))
   case first=>
    go_wp2_with fail;go_loopw[7] (fun vi a5=>∃k:Nat,vi= .int .i64 k/\i<=k/\k<=b/\Hid (z0x w A I d Y a5)/\Hid (scanSorted ltInt Y b k=scanSorted ltInt Y b i)) (fun vi _=>b - (intOf vi).toNat)
    case atStart=>exact⟨i,rfl,wJ _,aJ,J,z7 rfl⟩
    case round=>
     clear J;obtain⟨k,rfl,a7,a2,J,hS⟩:=hrel;obtain⟨G,L,O,a0⟩:=J.o.fam;by_cases U:k<b
     .go_wp2_with fail
      go_big_quiet (first|(go_at_call 159;refine wz (z1V _ _ _)))
      go_wp2
      .have hl:ltInt (G k) (G (k - 1))=false:=by
        have h:(!ltInt (G k) (G (k - 1)))=true:=(by assumption);simpa using h
       go_roundw
       case rel=>exact⟨k+1,by go_num,wF,wF,z7 (J.o.drewN nq),z7 (by rw[<-hS.o,scanSorted_go ltInt Y b k U (by rw[<-L.o,<-L.o];exact hl)])⟩
       case measure=>simp[intOf];omega
      have hl:ltInt (G k) (G (k - 1))=true:=by
       have h:(!ltInt (G k) (G (k - 1)))=false:=(by assumption);simpa using h
      go_meet
      exact⟨k,rfl,a7,a2,z7 (J.o.drewN nq),z7 (by rw[<-hS.o,scanSorted_stop ltInt Y b k (rM (by rw[<-L.o,<-L.o];exact hl))])⟩
     go_wp2_with fail
     go_big_quiet (first|(go_at_call 159;refine wz (z1V _ _ _)))
     go_wp2;go_meet
     exact⟨k,rfl,a7,a2,z7 (J.o.drewN nq),z7 (by rw[<-hS.o,scanSorted_stop ltInt Y b k (rL U)])⟩
   case rest=>
   clear J;obtain⟨k,rfl,a7,a2,J,hK⟩:=hcut;by_cases U:k=b
   .subst U;go_wp2;go_ret;have hv:=pi_true ltInt a k s i Y hs hK.o;unfold Sort.partialInsertionSort;rw[<-hO.o,hv];exact⟨rfl,J.o⟩
   have aU:((k:Int)==b)=false:=(by simpa using(by omega:¬(k:Int)=b));have aO:¬((k:Int)=b):=wF;by_cases aC:b - a<50
   .have aE:(b:Int) - a<50:=wF;go_wp2;go_ret;have hv:=pi_short ltInt a b s i Y hs (by rw[hK.o];exact U) aC;unfold Sort.partialInsertionSort;rw[<-hO.o,hv];exact⟨rfl,J.o⟩
   have aE:¬((b:Int) - a<50):=wF;have HV:Hid _:=z7 (pi_go ltInt a b s i k Y hs hK.o U aC);obtain⟨G,L,O,a0⟩:=J.o.fam;obtain⟨v3,aB⟩:=uu (w:=wc) (p:=⟨A,I+k,none⟩) (x:= .int .u32 (G (k - 1))) (q:=⟨A,I+(k - 1),none⟩) (O (k - 1) wF)
   go_upto_if 61 with go_region
   have aF:=z7 (J.o.swap L.o k (k - 1) wF wF 1);obtain⟨w2,aA⟩:=zN (((wc.setCell ⟨A,I+k,none⟩ (.int .u32 (G (k - 1)))).setCell ⟨A,I+(k - 1),none⟩ (.int .u32 (G k))).drew);have R:Hid (z0x w A I d (swp Y k (k - 1)) w2):=z7 (by rw[aA];exact aF.o);rw[<-aA];obtain⟨d2,aG⟩:=zN (swp Y k (k - 1));rw[<-aG]at R HV;clear L O a0 aB aA aG aF J
   go_cut[] (fun wx=>Hid (z0x w A I d (fixDown ltInt a k d2) wx))
   case first=>
    by_cases a3:k - a>=2
    .have a4:2<=(k:Int) - a:=wF;have HD:Hid (fixDown ltInt a k d2=shiftDown ltInt (k - 1) d2):=z7 (by unfold fixDown;rw[wZ a3]);go_wp2_with fail;go_loopw[9] (fun vj a5=>∃(j:Nat) (N:Array Int),vj= .int .i64 j/\j<=k - 1/\Hid (z0x w A I d N a5)/\Hid (shiftDown ltInt j N=shiftDown ltInt (k - 1) d2)) (fun vj _=>(intOf vj).toNat)
     case atStart=>exact⟨k - 1,d2,by go_num,wJ _,R,z7 rfl⟩
     case round=>
      clear R;obtain⟨j,N,rfl,aM,J,hS⟩:=hrel;by_cases a8:j=0
      .subst a8;have a9:shiftDown ltInt 0 N=N:=shiftDown_stop ltInt 0 N (.inl rfl);go_wp2;go_meet
       exact z7 (by rw[HD.o,<-hS.o,a9];exact J.o)
      have aL:1<=(j:Int):=wF;obtain⟨G,L,O,a0⟩:=J.o.fam;go_wp2_with fail
      go_big_quiet (first|(go_at_call 159;refine wz (z1V _ _ _)))
      go_wp2
      .have hl:ltInt (G j) (G (j - 1))=false:=by
        have h:(!ltInt (G j) (G (j - 1)))=true:=(by assumption);simpa using h
       go_meet
       exact z7 (by rw[HD.o,<-hS.o,shiftDown_stop ltInt j N (.inr (by rw[<-L.o,<-L.o];exact hl))];exact J.o.drewN nq)
      have hl:ltInt (G j) (G (j - 1))=true:=by
       have h:(!ltInt (G j) (G (j - 1)))=false:=(by assumption);simpa using h
      have a1:=z7 (J.o.drewN nq)
      generalize wr.drewN nq=w4 at a1 ⊢
      have a6:Hid (shiftDown ltInt j N=shiftDown ltInt (j - 1) (swp N j (j - 1))):=z7 (shiftDown_go ltInt j N wF (by rw[<-L.o,<-L.o];exact hl));clear L O a0 hl;obtain⟨G,L,O,a0⟩:=a1.o.fam;obtain⟨v3,aB⟩:=uu (w:=w4) (p:=⟨A,I+j,none⟩) (x:= .int .u32 (G (j - 1))) (q:=⟨A,I+(j - 1),none⟩) (O (j - 1) wF);go_region
      all_goals go_wp2
      all_goals go_roundw
      case rel=>exact⟨j - 1,swp N j (j - 1),by go_num,wF,z7 (a1.o.swap L.o j (j - 1) wF wF 1),z7 (by rw[<-a6.o];exact hS.o)⟩
      case measure=>simp[intOf];omega
    have a4:¬(2<=(k:Int) - a):=wF;go_wp2;go_meet
    exact z7 (by unfold fixDown;rw[wR a3];exact R.o)
   case rest=>
   clear R;have R:Hid (z0x w A I d (fixDown ltInt a k d2) wc):=hcut;obtain⟨d3,aH⟩:=zN (fixDown ltInt a k d2);rw[<-aH]at R HV;clear hcut aH
   go_upto_if 98 with fail
   by_cases a3:b - k>=2
   .have a4:2<=(b:Int) - k:=wF;have HD:Hid (fixUp ltInt b k d3=shiftUp ltInt b (k+1) d3):=z7 (by unfold fixUp;rw[wZ a3]);go_wp2_with fail;go_loopw[10] (fun vj a5=>∃(j:Nat) (N:Array Int),vj= .int .i64 j/\k+1<=j/\j<=b/\Hid (z0x w A I d N a5)/\Hid (shiftUp ltInt b j N=shiftUp ltInt b (k+1) d3)) (fun vj _=>b - (intOf vj).toNat)
    case atStart=>exact⟨k+1,d3,by go_num,wJ _,wF,R,z7 rfl⟩
    case round=>
     clear R;obtain⟨j,N,rfl,aM,aT,J,hS⟩:=hrel;by_cases a8:¬j<b
     .have aN:¬((j:Int)<b):=wF;have a9:shiftUp ltInt b j N=N:=shiftUp_stop ltInt b j N (.inl a8);go_wp2
      go_roundw
      case rel=>exact⟨k,s+1,fixUp ltInt b k d3,rfl,by go_num,wF,wF,a2,z7 (by rw[HD.o,<-hS.o,a9];exact J.o),z7 (by rw[<-HV.o];exact hO.o)⟩
      case measure=>simp[intOf];omega
     have aL:(j:Int)<b:=wF;obtain⟨G,L,O,a0⟩:=J.o.fam;go_wp2_with fail
     go_big_quiet (first|(go_at_call 159;refine wz (z1V _ _ _)))
     go_wp2
     .have hl:ltInt (G j) (G (j - 1))=false:=by
       have h:(!ltInt (G j) (G (j - 1)))=true:=(by assumption);simpa using h
      go_roundw
      case rel=>exact⟨k,s+1,fixUp ltInt b k d3,rfl,by go_num,wF,wF,a2,z7 (by rw[HD.o,<-hS.o,shiftUp_stop ltInt b j N (.inr (by rw[<-L.o,<-L.o];exact hl))];exact J.o.drewN nq),z7 (by rw[<-HV.o];exact hO.o)⟩
      case measure=>simp[intOf];omega
     have hl:ltInt (G j) (G (j - 1))=true:=by
      have h:(!ltInt (G j) (G (j - 1)))=false:=(by assumption);simpa using h
     have a1:=z7 (J.o.drewN nq)
     generalize wr.drewN nq=w4 at a1 ⊢
     have a6:Hid (shiftUp ltInt b j N=shiftUp ltInt b (j+1) (swp N j (j - 1))):=z7 (shiftUp_go ltInt b j N wF (by rw[<-L.o,<-L.o];exact hl));clear L O a0 hl;obtain⟨G,L,O,a0⟩:=a1.o.fam;obtain⟨v3,aB⟩:=uu (w:=w4) (p:=⟨A,I+j,none⟩) (x:= .int .u32 (G (j - 1))) (q:=⟨A,I+(j - 1),none⟩) (O (j - 1) wF);go_region
     all_goals go_wp2
     all_goals go_roundw
     case rel=>exact⟨j+1,swp N j (j - 1),by go_num,wF,wF,z7 (a1.o.swap L.o j (j - 1) wF wF 1),z7 (by rw[<-a6.o];exact hS.o)⟩
     case measure=>simp[intOf];omega
   have a4:¬(2<=(b:Int) - k):=wF;go_wp2
   go_roundw
   case rel=>exact⟨k,s+1,fixUp ltInt b k d3,rfl,by go_num,wF,wF,a2,z7 (by unfold fixUp;rw[wR a3];exact R.o),z7 (by rw[<-HV.o];exact hO.o)⟩
   case measure=>simp[intOf];omega
  obtain rfl:s=5:=wF
  go_wp2;go_ret;have hv:=pi_end ltInt a b i Y;unfold Sort.partialInsertionSort;rw[<-hO.o,hv];exact⟨rfl,J.o⟩

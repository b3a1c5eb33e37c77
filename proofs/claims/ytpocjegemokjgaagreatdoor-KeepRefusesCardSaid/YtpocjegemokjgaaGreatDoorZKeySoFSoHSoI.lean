/-
  Numbers of 32 bits as keys of maps.
-/
import Derived.Test.YtpocjegemokjgaaGreatDoorZReg4RdReg5Map
import Derived.Test.YtpocjegemokjgaaGreatDoorZSoASoCSoDSoE
import Derived.Sort.LotD3
import Derived.Deep.DeepCutAuto
import Derived.Sort.Walk7
import Derived.Sort.AssemblyPlain
namespace Go.Proofs.YtpocjegemokjgaaGreatDoor
open Go.Proofs.Tryz
set_option linter.all false
set_option maxRecDepth 100000
set_option maxHeartbeats 12800000
section
open Go.RowKit Go.Maps
abbrev z6Z (n:Int):Value:= .int .u32 n
abbrev z4p (n:Int):Lit:= .int .u32 n
theorem z5a:z5d prog 40 z6Z z4p (fun n=>(Lit.int .u32 n).wf=true):=q5G underlying40
theorem z8E{n:Nat}(h:n<4294967296):(Lit.int .u32 (n:Int)).wf=true:=by simp[Lit.wf,IntKind.min,IntKind.max,IntKind.signed,IntKind.bits];omega
end
section
open Go.RowKit Go.Sort
theorem y6H(A B cap a b:Nat)(d:Array Int)(w:World)(hH:Holds z4q w A B d)(hl:A<w.heap.size)(aI:a<b)(hb:b<=d.size)(aO:d.size<1152921504606846976):
  Calls prog 148 #[.slice (some ⟨A,B,none⟩) d.size cap,.int .i64 a,.int .i64 b] w fun e w'=>e= .returned (.bool (Sort.partialInsertionSort ltInt d a b).2)/\z0s w A B d (Sort.partialInsertionSort ltInt d a b).1 w':=by
 have H0:=z7 (z0s.refl hH hl);clear hH;go_enter func148,ntmps148;go_wp2;go_loopw[7,8] (fun vi vs wr=>∃(i s:Nat) (R:Array Int),vi= .int .i64 i/\vs= .int .i64 s/\s<=5/\a<i/\i<=b/\Hid (z0s w A B d R wr)/\Hid (partialIns ltInt a b (5 - s) i R=partialIns ltInt a b 5 (a+1) d)) (fun _ vs _=>5 - (intOf vs).toNat)
 case atStart=>exact⟨a+1,0,d,by go_num,rfl,by omega,by omega,by omega,H0,z7 rfl⟩
 case round=>
  obtain⟨i,s,R,rfl,rfl,aN,aJ,aC,I,hO⟩:=hrel;by_cases hs:s<5
  ·go_upto_block 2 with fail
   go_cut[7] (fun v wx=>∃k:Nat,v= .int .i64 k/\i<=k/\k<=b/\Hid (z0s w A B d R wx)/\Hid (scanSorted ltInt R b i=k))
   case first=>
    go_wp2_with fail;go_loopw[7] (fun vi a2=>∃k:Nat,vi= .int .i64 k/\i<=k/\k<=b/\Hid (z0s w A B d R a2)/\Hid (scanSorted ltInt R b k=scanSorted ltInt R b i)) (fun vi _=>b - (intOf vi).toNat)
    case atStart=>exact⟨i,rfl,Nat.le_refl _,aC,I,z7 rfl⟩
    case round=>
     clear I;obtain⟨k,rfl,a4,a0,I,hS⟩:=hrel;obtain⟨G,J,N,U⟩:=I.o.fam;by_cases hkb':k<b
     ·go_wp2_with fail
      go_big_quiet (first|(go_at_call 149;refine Calls.quiet_of_same (z1A _ _ _)))
      go_wp2
      ·have hl:ltInt (G k) (G (k - 1))=false:=by
        have h:(!ltInt (G k) (G (k - 1)))=true:=(by assumption);simpa using h
       go_roundw
       case rel=>exact⟨k+1,by go_num,by omega,by omega,z7 (I.o.drewN nq),z7 (by rw[<-hS.o,scanSorted_go ltInt R b k hkb' (by rw[<-J.o,<-J.o];exact hl)])⟩
       case measure=>simp[intOf];omega
      ·have hl:ltInt (G k) (G (k - 1))=true:=by
        have h:(!ltInt (G k) (G (k - 1)))=false:=(by assumption);simpa using h
       go_meet
       exact⟨k,rfl,a4,a0,z7 (I.o.drewN nq),z7 (by rw[<-hS.o,scanSorted_stop ltInt R b k (Or.inr (by rw[<-J.o,<-J.o];exact hl))])⟩
     ·go_wp2_with fail
      go_big_quiet (first|(go_at_call 149;refine Calls.quiet_of_same (z1A _ _ _)))
      go_wp2;go_meet
      exact⟨k,rfl,a4,a0,z7 (I.o.drewN nq),z7 (by rw[<-hS.o,scanSorted_stop ltInt R b k (Or.inl hkb')])⟩
   case rest=>
   clear I;obtain⟨k,rfl,a4,a0,I,hK⟩:=hcut;by_cases hkb':k=b
   ·subst hkb';go_wp2;go_ret;have hv:=pi_true ltInt a k s i R hs hK.o;unfold Sort.partialInsertionSort;rw[<-hO.o,hv];exact⟨rfl,I.o⟩
   have aM:((k:Int)==b)=false:=(by simpa using(by omega:¬(k:Int)=b));have aH:¬((k:Int)=b):=(by omega);by_cases h50:b - a<50
   ·have a8:(b:Int) - a<50:=(by omega);go_wp2;go_ret;have hv:=pi_short ltInt a b s i R hs (by rw[hK.o];exact hkb') h50;unfold Sort.partialInsertionSort;rw[<-hO.o,hv];exact⟨rfl,I.o⟩
   have a8:¬((b:Int) - a<50):=(by omega);have HV:Hid _:=z7 (pi_go ltInt a b s i k R hs hK.o hkb' h50);obtain⟨G,J,N,U⟩:=I.o.fam;obtain⟨v3,a7⟩:=cell?_setCell_some (w:=wc) (p:=⟨A,B+k,none⟩) (x:= .int .u32 (G (k - 1))) (q:=⟨A,B+(k - 1),none⟩) (N (k - 1) (by omega))
   go_upto_if 61 with go_region
   have a9:=z7 (I.o.swap J.o k (k - 1) (by omega) (by omega) 1);obtain⟨w2,a6⟩:=zN (((wc.setCell ⟨A,B+k,none⟩ (.int .u32 (G (k - 1)))).setCell ⟨A,B+(k - 1),none⟩ (.int .u32 (G k))).drew);have O:Hid (z0s w A B d (swp R k (k - 1)) w2):=z7 (by rw[a6];exact a9.o);rw[<-a6];obtain⟨d2,aA⟩:=zN (swp R k (k - 1));rw[<-aA]at O HV;clear J N U a7 a6 aA a9 I
   go_cut[] (fun wx=>Hid (z0s w A B d (fixDown ltInt a k d2) wx))
   case first=>
    by_cases hk2:k - a>=2
    ·have a1:2<=(k:Int) - a:=(by omega);have HD:Hid (fixDown ltInt a k d2=shiftDown ltInt (k - 1) d2):=z7 (by unfold fixDown;rw[if_pos hk2]);go_wp2_with fail;go_loopw[9] (fun vj a2=>∃(j:Nat) (L:Array Int),vj= .int .i64 j/\j<=k - 1/\Hid (z0s w A B d L a2)/\Hid (shiftDown ltInt j L=shiftDown ltInt (k - 1) d2)) (fun vj _=>(intOf vj).toNat)
     case atStart=>exact⟨k - 1,d2,by go_num,Nat.le_refl _,O,z7 rfl⟩
     case round=>
      clear O;obtain⟨j,L,rfl,aF,I,hS⟩:=hrel;by_cases hj0:j=0
      ·subst hj0;have a5:shiftDown ltInt 0 L=L:=shiftDown_stop ltInt 0 L (.inl rfl);go_wp2;go_meet
       exact z7 (by rw[HD.o,<-hS.o,a5];exact I.o)
      ·have aE:1<=(j:Int):=(by omega);obtain⟨G,J,N,U⟩:=I.o.fam;go_wp2_with fail
       go_big_quiet (first|(go_at_call 149;refine Calls.quiet_of_same (z1A _ _ _)))
       go_wp2
       ·have hl:ltInt (G j) (G (j - 1))=false:=by
         have h:(!ltInt (G j) (G (j - 1)))=true:=(by assumption);simpa using h
        go_meet
        exact z7 (by rw[HD.o,<-hS.o,shiftDown_stop ltInt j L (.inr (by rw[<-J.o,<-J.o];exact hl))];exact I.o.drewN nq)
       ·have hl:ltInt (G j) (G (j - 1))=true:=by
         have h:(!ltInt (G j) (G (j - 1)))=false:=(by assumption);simpa using h
        have Y:=z7 (I.o.drewN nq)
        generalize wr.drewN nq=w4 at Y ⊢
        have a3:Hid (shiftDown ltInt j L=shiftDown ltInt (j - 1) (swp L j (j - 1))):=z7 (shiftDown_go ltInt j L (by omega) (by rw[<-J.o,<-J.o];exact hl));clear J N U hl;obtain⟨G,J,N,U⟩:=Y.o.fam;obtain⟨v3,a7⟩:=cell?_setCell_some (w:=w4) (p:=⟨A,B+j,none⟩) (x:= .int .u32 (G (j - 1))) (q:=⟨A,B+(j - 1),none⟩) (N (j - 1) (by omega));go_region
        all_goals go_wp2
        all_goals go_roundw
        case rel=>exact⟨j - 1,swp L j (j - 1),by go_num,by omega,z7 (Y.o.swap J.o j (j - 1) (by omega) (by omega) 1),z7 (by rw[<-a3.o];exact hS.o)⟩
        case measure=>simp[intOf];omega
    ·have a1:¬(2<=(k:Int) - a):=(by omega);go_wp2;go_meet
     exact z7 (by unfold fixDown;rw[if_neg hk2];exact O.o)
   case rest=>
   clear O;have O:Hid (z0s w A B d (fixDown ltInt a k d2) wc):=hcut;obtain⟨d3,aB⟩:=zN (fixDown ltInt a k d2);rw[<-aB]at O HV;clear hcut aB
   go_upto_if 98 with fail
   by_cases hk2:b - k>=2
   ·have a1:2<=(b:Int) - k:=(by omega);have HD:Hid (fixUp ltInt b k d3=shiftUp ltInt b (k+1) d3):=z7 (by unfold fixUp;rw[if_pos hk2]);go_wp2_with fail;go_loopw[10] (fun vj a2=>∃(j:Nat) (L:Array Int),vj= .int .i64 j/\k+1<=j/\j<=b/\Hid (z0s w A B d L a2)/\Hid (shiftUp ltInt b j L=shiftUp ltInt b (k+1) d3)) (fun vj _=>b - (intOf vj).toNat)
    case atStart=>exact⟨k+1,d3,by go_num,Nat.le_refl _,by omega,O,z7 rfl⟩
    case round=>
     clear O;obtain⟨j,L,rfl,aF,aL,I,hS⟩:=hrel;by_cases hj0:¬j<b
     ·have aG:¬((j:Int)<b):=(by omega);have a5:shiftUp ltInt b j L=L:=shiftUp_stop ltInt b j L (.inl hj0);go_wp2
      go_roundw
      case rel=>exact⟨k,s+1,fixUp ltInt b k d3,rfl,by go_num,by omega,by omega,a0,z7 (by rw[HD.o,<-hS.o,a5];exact I.o),z7 (by rw[<-HV.o];exact hO.o)⟩
      case measure=>simp[intOf];omega
     ·have aE:(j:Int)<b:=(by omega);obtain⟨G,J,N,U⟩:=I.o.fam;go_wp2_with fail
      go_big_quiet (first|(go_at_call 149;refine Calls.quiet_of_same (z1A _ _ _)))
      go_wp2
      ·have hl:ltInt (G j) (G (j - 1))=false:=by
        have h:(!ltInt (G j) (G (j - 1)))=true:=(by assumption);simpa using h
       go_roundw
       case rel=>exact⟨k,s+1,fixUp ltInt b k d3,rfl,by go_num,by omega,by omega,a0,z7 (by rw[HD.o,<-hS.o,shiftUp_stop ltInt b j L (.inr (by rw[<-J.o,<-J.o];exact hl))];exact I.o.drewN nq),z7 (by rw[<-HV.o];exact hO.o)⟩
       case measure=>simp[intOf];omega
      ·have hl:ltInt (G j) (G (j - 1))=true:=by
        have h:(!ltInt (G j) (G (j - 1)))=false:=(by assumption);simpa using h
       have Y:=z7 (I.o.drewN nq)
       generalize wr.drewN nq=w4 at Y ⊢
       have a3:Hid (shiftUp ltInt b j L=shiftUp ltInt b (j+1) (swp L j (j - 1))):=z7 (shiftUp_go ltInt b j L (by omega) (by rw[<-J.o,<-J.o];exact hl));clear J N U hl;obtain⟨G,J,N,U⟩:=Y.o.fam;obtain⟨v3,a7⟩:=cell?_setCell_some (w:=w4) (p:=⟨A,B+j,none⟩) (x:= .int .u32 (G (j - 1))) (q:=⟨A,B+(j - 1),none⟩) (N (j - 1) (by omega));go_region
       all_goals go_wp2
       all_goals go_roundw
       case rel=>exact⟨j+1,swp L j (j - 1),by go_num,by omega,by omega,z7 (Y.o.swap J.o j (j - 1) (by omega) (by omega) 1),z7 (by rw[<-a3.o];exact hS.o)⟩
       case measure=>simp[intOf];omega
   ·have a1:¬(2<=(b:Int) - k):=(by omega);go_wp2
    go_roundw
    case rel=>exact⟨k,s+1,fixUp ltInt b k d3,rfl,by go_num,by omega,by omega,a0,z7 (by unfold fixUp;rw[if_neg hk2];exact O.o),z7 (by rw[<-HV.o];exact hO.o)⟩
    case measure=>simp[intOf];omega
  ·obtain rfl:s=5:=by omega
   go_wp2;go_ret;have hv:=pi_end ltInt a b i R;unfold Sort.partialInsertionSort;rw[<-hO.o,hv];exact⟨rfl,I.o⟩
theorem y7b(A B cap a b:Nat)(d:Array Int)(w:World)(U:Holds z4q w A B d)(hl:A<w.heap.size)(a0:a<b)(hb:b<=d.size)(a6:d.size<4611686018427387904):
  Calls prog 147 #[.slice (some ⟨A,B,none⟩) d.size cap,.int .i64 a,.int .i64 b] w fun e w'=>e= .returned (.tuple #[])/\∃R,z0s w A B d R w'/\PermIn a b d R:=by
 have H0:=z7 (z0s.refl U hl);clear U;go_enter func147,ntmps147;go_wp2;go_loopw[6,7] (fun N O wr=>∃(i j:Nat) (I:Array Int),N= .int .i64 i/\O= .int .i64 j/\a<=i/\j<b/\i<=j+1/\Hid (z0s w A B d I wr)/\Hid (PermIn a b d I)) (fun N O _=>(intOf O).toNat+1 - (intOf N).toNat)
 case atStart=>exact⟨a,b - 1,d,rfl,by go_num,Nat.le_refl _,by omega,by omega,H0,z7 (permIn_refl _ _ _)⟩
 case round=>
  obtain⟨i,j,I,rfl,rfl,a1,a4,a3,J,Y⟩:=hrel;obtain⟨G,HG,L,a2⟩:=J.o.fam;go_wp2
  ·have a5:i<j:=(by assumption);obtain⟨v3,a7⟩:=cell?_setCell_some (w:=wr) (p:=⟨A,B+i,none⟩) (x:= .int .u32 (G j)) (q:=⟨A,B+j,none⟩) (L j (by omega));go_region
   all_goals go_wp2
   go_roundw
   case rel=>
    refine⟨i+1,j - 1,swp I i j,by go_num,by go_num,by omega,by omega,by omega,z7 (J.o.swap HG.o i j (by omega) (by omega) 1),z7 ?_⟩;exact permIn_trans _ _ _ _ _ Y.o (swp_permIn I a b i j (by omega) (by omega) (by omega) (by omega) (by rw[J.o.size];omega))
   case measure=>simp[intOf];omega
  ·go_end0
   exact⟨rfl,I,J.o,Y.o⟩
structure z7A (w0:World) (blk off:Nat) (d0 dk:Array Int) (sb:Nat) (w:World):Prop where
 row:z0s w0 blk off d0 dk w
 new:w0.heap.size<=sb
 num:∃s,w.cell? ⟨sb,0,none⟩=some (.int .i64 s)
 soft:w.frozen? ⟨sb,0,none⟩=false
theorem z9E(w0:World)(B I cap a b:Nat)(d N:Array Int)(L:Nat)(ha:a<d.size)(hb:b<d.size)(w:World)(J:z7A w0 B I d N L w):
  Calls prog 194 #[.slice (some ⟨B,I,none⟩) d.size cap,.int .i64 a,.int .i64 b,.pointer (some ⟨L,0,none⟩)] w fun e w'=>(∃x y:Nat,e= .returned (.tuple #[.int .i64 x,.int .i64 y])/\((x=a/\y=b)\/(x=b/\y=a)))/\z7A w0 B I d N L w':=by
 obtain⟨G,Y,O,R⟩:=J.row.fam;obtain⟨s,U⟩:=J.num;have hf:=J.soft;have A:=z7 J;clear J;go_enter func194,ntmps194;go_wp2;go_quiet (first|(go_at_call 149;refine Calls.quiet_of_same (z1A _ _ _)))
 go_wp2
 ·go_ret2;refine⟨⟨b,a,rfl,.inr ⟨rfl,rfl⟩⟩,(A.o.row.drewN nq).setNew L 0 _ A.o.new,A.o.new,⟨_,World.cell?_setCell_same _ _ _ (u:= .int .i64 s) (by simpa using U)⟩,?_⟩;simpa using A.o.soft
 ·go_ret2;exact⟨⟨a,b,rfl,.inl ⟨rfl,rfl⟩⟩,A.o.row.drewN nq,A.o.new,A.o.num,A.o.soft⟩
theorem y2N(w0:World)(A B cap a b c:Nat)(d J:Array Int)(I:Nat)(ha:a<d.size)(hb:b<d.size)(hc:c<d.size)(w:World)(hR:z7A w0 A B d J I w):
  Calls prog 178 #[.slice (some ⟨A,B,none⟩) d.size cap,.int .i64 a,.int .i64 b,.int .i64 c,.pointer (some ⟨I,0,none⟩)] w fun e w'=>(∃p:Nat,e= .returned (.int .i64 p)/\(p=a\/p=b\/p=c))/\z7A w0 A B d J I w':=by
 have HR:=z7 hR;clear hR;go_enter func178,ntmps178;go_wp2_with fail;refine(z9E w0 A B cap a b d J I ha hb _ HR.o).mono ?_;rintro e w1 ⟨⟨x1,y1,rfl,h1⟩,L⟩;have R:=z7 L;have a0:x1<d.size:=by omega
 have a2:y1<d.size:=by omega
 have H1:=z7 h1;clear L h1;go_wp2_with fail;refine(z9E w0 A B cap y1 c d J I a2 hc _ R.o).mono ?_;rintro e w2 ⟨⟨x2,y2,rfl,h2⟩,N⟩;have U:=z7 N;have a1:x2<d.size:=by omega
 have H2:=z7 h2;clear N h2;go_wp2_with fail;refine(z9E w0 A B cap x1 x2 d J I a0 a1 _ U.o).mono ?_;rintro e w3 ⟨⟨x3,y3,rfl,h3⟩,O⟩;have Y:=z7 O;have H3:=z7 h3;clear O h3;go_wp2;go_ret;have h1:=H1.o;have h2:=H2.o;have h3:=H3.o;exact⟨⟨y3,rfl,by omega⟩,Y.o⟩
theorem y3O(w0:World)(A B cap a:Nat)(d N:Array Int)(J:Nat)(a0:1<=a)(Y:a+1<d.size)(a1:d.size<4611686018427387904)(w:World)(R:z7A w0 A B d N J w):
  Calls prog 177 #[.slice (some ⟨A,B,none⟩) d.size cap,.int .i64 a,.pointer (some ⟨J,0,none⟩)] w fun e w'=>(∃p:Nat,e= .returned (.int .i64 p)/\a - 1<=p/\p<=a+1)/\z7A w0 A B d N J w':=by
 have H:=z7 (y2N w0 A B cap (a - 1) a (a+1) d N J (by omega) (by omega) Y w R);clear R;go_enter func177,ntmps177;go_wp2_with fail;have h:=H.o;rw[show((a - 1:Nat):Int)=(a:Int) - 1 by omega,show((a+1:Nat):Int)=(a:Int)+1 by omega]at h;refine h.mono ?_;rintro e w1 ⟨⟨p,rfl,O⟩,I⟩;have L:=z7 I;have U:=z7 O;clear I O h;go_wp2;go_ret;have O:=U.o;exact⟨⟨p,rfl,by omega,by omega⟩,L.o⟩
theorem y0H(w0:World)(A B cap:Nat)(a b c:Int)(d J:Array Int)(I:Nat)(N:0<=a/\a<d.size)(hb:0<=b/\b<d.size)(O:0<=c/\c<d.size)(w:World)(L:z7A w0 A B d J I w):
  Calls prog 178 #[.slice (some ⟨A,B,none⟩) d.size cap,.int .i64 a,.int .i64 b,.int .i64 c,.pointer (some ⟨I,0,none⟩)] w fun e w'=>(∃p:Int,e= .returned (.int .i64 p)/\(p=a\/p=b\/p=c))/\z7A w0 A B d J I w':=by
 have h:=y2N w0 A B cap a.toNat b.toNat c.toNat d J I (by omega) (by omega) (by omega) w L;rw[Int.toNat_of_nonneg N.1,Int.toNat_of_nonneg hb.1,Int.toNat_of_nonneg O.1]at h;exact h.mono fun e w' ⟨⟨p,h1,h2⟩,h3⟩=>⟨⟨p,h1,by omega⟩,h3⟩
theorem z6b(w0:World)(A B cap:Nat)(a:Int)(d J:Array Int)(I:Nat)(O:1<=a)(R:a+1<d.size)(L:d.size<4611686018427387904)(w:World)(N:z7A w0 A B d J I w):
  Calls prog 177 #[.slice (some ⟨A,B,none⟩) d.size cap,.int .i64 a,.pointer (some ⟨I,0,none⟩)] w fun e w'=>(∃p:Int,e= .returned (.int .i64 p)/\a - 1<=p/\p<=a+1)/\z7A w0 A B d J I w':=by
 have h:=y3O w0 A B cap a.toNat d J I (by omega) (by omega) L w N;rw[Int.toNat_of_nonneg (by omega)]at h;exact h.mono fun e w' ⟨⟨p,h1,h2,h4⟩,h3⟩=>⟨⟨p,h1,by omega,by omega⟩,h3⟩
theorem q0V(B I cap a b:Nat)(d:Array Int)(w:World)(hH:Holds z4q w B I d)(hl:B<w.heap.size)(a9:a+8<=b)(hb:b<=d.size)(O:d.size<4611686018427387904):
  Calls prog 146 #[.slice (some ⟨B,I,none⟩) d.size cap,.int .i64 a,.int .i64 b] w fun e w'=>(∃(p:Nat) (h:Nat),e= .returned (.tuple #[.int .i64 p,.int .i64 h])/\h<=2/\a<=p/\p<b)/\z0s w B I d d w':=by
 have H0:=z7 (z0s.refl hH hl);clear hH;have HP:Hid (z7A w B I d d w.heap.size (w.alloc (.cells #[.int .i64 0] 3))):=z7 ⟨H0.o.alloc _,Nat.le_refl _,⟨0,by simp⟩,by simp⟩;go_enter func146,ntmps146;go_wp2_with fail
 ·obtain⟨D,hD⟩:=zN (((b:Int) - a)/4);rw[<-hD];have a8:12<=D/\4*D<=(b:Int) - a:=by omega
  clear hD;refine(z6b w B I cap _ d d w.heap.size (by omega) (by omega) O _ HP.o).mono ?_;rintro e w1 ⟨⟨p1,rfl,a5,Y⟩,J⟩;have a2:=z7 J;clear J;go_wp2_with fail;refine(z6b w B I cap _ d d w.heap.size (by omega) (by omega) O _ a2.o).mono ?_;rintro e w2 ⟨⟨p2,rfl,a6,a0⟩,R⟩;have a3:=z7 R;clear R;go_wp2_with fail;refine(z6b w B I cap _ d d w.heap.size (by omega) (by omega) O _ a3.o).mono ?_;rintro e w3 ⟨⟨p3,rfl,a7,a1⟩,U⟩;have a4:=z7 U;clear U;go_wp2_with fail;refine(y0H w B I cap _ _ _ d d w.heap.size ⟨by omega,by omega⟩ ⟨by omega,by omega⟩ ⟨by omega,by omega⟩ _ a4.o).mono ?_;rintro e w4 ⟨⟨p,rfl,hp⟩,N⟩;obtain⟨s,hs⟩:=N.num;have L:=z7 N.row;have A:Hid ((a:Int)<=p/\p<b):=z7 (by omega);obtain⟨p,rfl⟩:∃q:Nat,p=q:=⟨p.toNat,by have:=A.o.1;omega⟩;clear hp N a5 Y a6 a0 a7 a1;go_wp2;all_goals go_ret2
  ·exact⟨⟨p,1,rfl,by omega,by have:=A.o.1;omega,by have:=A.o.2;omega⟩,L.o⟩
  ·exact⟨⟨p,2,rfl,by omega,by have:=A.o.1;omega,by have:=A.o.2;omega⟩,L.o⟩
  ·exact⟨⟨p,0,rfl,by omega,by have:=A.o.1;omega,by have:=A.o.2;omega⟩,L.o⟩
 ·refine(y0H w B I cap _ _ _ d d w.heap.size ?_ ?_ ?_ _ HP.o).mono ?_;iterate 3 (exact⟨by omega,by omega⟩)
  rintro e w1 ⟨⟨p,rfl,hp⟩,J⟩;obtain⟨s,hs⟩:=J.num;have L:=z7 J.row;have A:Hid ((a:Int)<=p/\p<b):=z7 (by omega);obtain⟨p,rfl⟩:∃q:Nat,p=q:=⟨p.toNat,by have:=A.o.1;omega⟩;clear hp J;go_wp2;all_goals go_ret2
  ·exact⟨⟨p,1,rfl,by omega,by have:=A.o.1;omega,by have:=A.o.2;omega⟩,L.o⟩
  ·exact⟨⟨p,2,rfl,by omega,by have:=A.o.1;omega,by have:=A.o.2;omega⟩,L.o⟩
  ·exact⟨⟨p,0,rfl,by omega,by have:=A.o.1;omega,by have:=A.o.2;omega⟩,L.o⟩
theorem q2y(n:Int)(B:0<=n)(I:n<=255)(w:World):Calls prog 153 #[.int .u64 n] w fun e w'=>e= .returned (.int .i64 (Lib.bitLen n.toNat))/\w'=w:=by
 have A:=Lib.len8_of n B I;have N:=Lib.bitLen_le8' n B I;have L:wrap64 (Lib.len8 n)=Lib.len8 n:=by rw[A];unfold wrap64;omega
 have J:=z7 A;clear A N;have O:¬(4294967296<=n):=by omega
 have R:¬(65536<=n):=by omega
 have U:¬(256<=n):=by omega
 go_enter func153,ntmps153;go_wp2;go_ret;refine⟨?_,rfl⟩;simp only[L,J.o];rfl
theorem q2A(n:Int)(A:0<=n)(B:n<=255)(w:World):Calls prog 121 #[.int .u64 n] w fun e w'=>e= .returned (.int .i64 (Lib.bitLen n.toNat))/\w'=w:=by
 have H:=z7 (q2y n A B);go_enter func121,ntmps121;go_wp2_with (go_at_call 153;refine(H.o _).mono ?_;rintro e w' ⟨rfl,rfl⟩);go_ret;exact⟨rfl,rfl⟩
theorem y7g(n:Nat)(N:1<=n)(O:n<=255)(w:World):Calls prog 175 #[.int .i64 n] w fun e w'=>(∃M:Nat,e= .returned (.int .u64 M)/\1<=M/\M<=2*n)/\w'=w:=by
 have A:=z7 (q2A n (by omega) (by omega));have hb:Lib.bitLen ((n:Int)).toNat=bitsLen n:=by rw[Int.toNat_natCast,bitLen_eq _ (by omega)]
 have L:bitsLen n<=62:=(bitsLen_le_iff n 62).2 (by omega);have R:=wrap_two_pow (bitsLen n) L;have B:1<=1<<<bitsLen n:=by rw[Nat.one_shiftLeft];exact Nat.two_pow_pos _
 have I:1<<<bitsLen n<=2*n:=by rw[Nat.one_shiftLeft];exact two_pow_bitsLen_le (by omega)
 have J:=z7 (And.intro B I);rw[hb]at A;clear B I hb;go_enter func175,ntmps175;go_wp2_with (go_at_call 121;refine(A.o _).mono ?_;rintro e w' ⟨rfl,rfl⟩);go_ret;exact⟨⟨_,rfl,J.o.1,J.o.2⟩,rfl⟩
theorem z9U{a b:Int}(A:0<=a/\a<18446744073709551616)(hb:0<=b/\b<18446744073709551616):∃C:Nat,C<18446744073709551616/\bits .xor .u64 a b=(C:Int):=by
 obtain⟨x,rfl⟩:∃x:Nat,a=x:=⟨a.toNat,by omega⟩;obtain⟨y,rfl⟩:∃y:Nat,b=y:=⟨b.toNat,by omega⟩;exact⟨x^^^y,Nat.xor_lt_two_pow (n:=64) (by omega) (by omega),bits_xor_u64_nat _ _ (by omega) (by omega)⟩
theorem q3C(I X:Nat)(hX:X<18446744073709551616)(w:World)(hc:w.cell? ⟨I,0,none⟩=some (.int .u64 X))(hf:w.frozen? ⟨I,0,none⟩=false):
  Calls prog 176 #[.pointer (some ⟨I,0,none⟩)] w fun e w'=>∃C:Nat,C<18446744073709551616/\e= .returned (.int .u64 C)/\w'=(w.setCell ⟨I,0,none⟩ (.int .u64 C)).drewN 3:=by
 have wr:∀a:Int,0<=IntKind.u64.wrap a/\IntKind.u64.wrap a<18446744073709551616:=fun a=>by rw[IntKind.wrap_u64];omega
 obtain⟨A,lA,R⟩:=z9U (a:=X) (b:=IntKind.u64.wrap ((X:Int)*8192)) ⟨by omega,by omega⟩ (wr _);obtain⟨B,lB,U⟩:=z9U (a:=A) (b:=(A:Int)/128) ⟨by omega,by omega⟩ ⟨by omega,by omega⟩;obtain⟨C,O,Y⟩:=z9U (a:=B) (b:=IntKind.u64.wrap ((B:Int)*131072)) ⟨by omega,by omega⟩ (wr _);have N:∀v J,(w.setCell ⟨I,0,none⟩ v).setCell ⟨I,0,none⟩ J=w.setCell ⟨I,0,none⟩ J:=setCell_setCell w I 0;have L:=z7 O;clear wr;go_enter func176,ntmps176;go_wp2;go_region
 all_goals go_wp2
 all_goals go_region
 all_goals go_wp2
 all_goals go_region
 all_goals go_wp2
 go_ret;exact⟨C,L.o,rfl,rfl⟩
structure y1f (w0:World) (blk off:Nat) (d0 dk:Array Int) (rb:Nat) (w:World):Prop where
 row:z0s w0 blk off d0 dk w
 new:w0.heap.size<=rb
 num:∃X:Nat,X<18446744073709551616/\w.cell? ⟨rb,0,none⟩=some (.int .u64 X)
 soft:w.frozen? ⟨rb,0,none⟩=false
theorem q2l(w0:World)(B I:Nat)(J L:Array Int)(A:Nat)(w:World)(h:y1f w0 B I J L A w):
  Calls prog 176 #[.pointer (some ⟨A,0,none⟩)] w fun e w'=>(∃C:Nat,C<18446744073709551616/\e= .returned (.int .u64 C))/\y1f w0 B I J L A w':=by
 obtain⟨X,R,O⟩:=h.num;refine(q3C A X R w O h.soft).mono ?_;rintro e w' ⟨C,N,rfl,rfl⟩;refine⟨⟨C,N,rfl⟩,(h.row.setNew A 0 _ h.new).drewN 3,h.new,⟨C,N,World.cell?_setCell_same _ _ _ O⟩,?_⟩;show((w.setCell ⟨A,0,none⟩ (.int .u64 C)).drewN 3).frozen? ⟨A,0,none⟩=false;have:=h.soft;simpa using this
theorem y1f.swap{w0 wr:World}{A B:Nat}{d J:Array Int}{L:Nat}(h:y1f w0 A B d J L wr){G:Nat->Int}(N:∀t,G t=J[t]!)(j k:Nat)(U:j<d.size)(Y:k<d.size)(q:Nat):
  y1f w0 A B d (swp J j k) L (((wr.drewN q).setCell ⟨A,B+j,none⟩ (.int .u32 (G k))).setCell ⟨A,B+k,none⟩ (.int .u32 (G j))):=by
 obtain⟨X,O,R⟩:=h.num;have I:A≠L:=by have:=h.row.low;have:=h.new;omega
 refine⟨h.row.swap N j k U Y q,h.new,⟨X,O,?_⟩,?_⟩
 ·rw[World.cell?_setCell_other _ _ _ _ (by simp[I]),World.cell?_setCell_other _ _ _ _ (by simp[I])];exact R
 ·have:=h.soft;simpa using this
theorem y4Z(n:Int)(B:1<=n)(A:n<=255)(w:World):Calls prog 175 #[.int .i64 n] w fun e w'=>(∃M:Nat,e= .returned (.int .u64 M)/\1<=M/\M<=2*n)/\w'=w:=by
 have h:=y7g n.toNat (by omega) (by omega) w;rw[Int.toNat_of_nonneg (by omega)]at h;exact h.mono fun e w' ⟨⟨M,A,h2,h3⟩,h4⟩=>⟨⟨M,A,h2,by omega⟩,h4⟩
theorem q4W(C M:Nat)(A:C<18446744073709551616)(B:1<=M)(I:M<=1000):∃O:Nat,O<=M - 1/\bits .and .u64 (C:Int) ((M:Int) - 1)=(O:Int):=by
 refine⟨C&&&(M - 1),Nat.and_le_right,?_⟩;rw[show((M:Int) - 1)=((M - 1:Nat):Int) by omega,bits_and_u64_nat _ _ A (by omega)]
theorem q2Z(A B cap a b:Nat)(d:Array Int)(w:World)(hH:Holds z4q w A B d)(hl:A<w.heap.size)(a6:a+8<=b)(hb:b<=d.size)(a8:d.size<=255):
  Calls prog 145 #[.slice (some ⟨A,B,none⟩) d.size cap,.int .i64 a,.int .i64 b] w fun e w'=>e= .returned (.tuple #[])/\∃d',z0s w A B d d' w'/\PermIn a b d d':=by
 have H0:=z7 (z0s.refl hH hl);have L:∀v:Nat,v<18446744073709551616->y1f w A B d d w.heap.size (w.alloc (.cells #[.int .u64 v] 309)):=fun v hv=>⟨H0.o.alloc _,Nat.le_refl _,⟨v,hv,by simp⟩,by simp⟩;have U:=z7 (L (b - a) (by omega));rw[show((b - a:Nat):Int)=(b:Int) - a by omega]at U;clear hH L;go_enter func145,ntmps145;go_wp2_with fail
 ·refine(y4Z _ ?_ ?_ _).mono ?_;iterate 2 omega
  rintro e w' ⟨⟨M,rfl,a0,a3⟩,rfl⟩;go_wp2_with fail;go_loopw[9] (fun vi wr=>∃(t:Nat) (J:Array Int),vi= .int .i64 t/\(a:Int)+((b:Int) - a)/4*2 - 1<=t/\t<=(a:Int)+((b:Int) - a)/4*2+2/\Hid (y1f w A B d J w.heap.size wr)/\Hid (PermIn a b d J)) (fun vi _=>b+5 - (intOf vi).toNat)
  case atStart=>exact⟨((a:Int)+((b:Int) - a)/4*2 - 1).toNat,d,by congr 1;omega,by omega,by omega,U,z7 (permIn_refl _ _ _)⟩
  case round=>
   clear U;obtain⟨t,J,rfl,a9,aA,hR,hP⟩:=hrel;go_wp2_with fail
   ·refine(q2l w A B d J w.heap.size _ hR.o).mono ?_;rintro e w1 ⟨⟨C,Y,rfl⟩,N⟩;have I:=z7 N;obtain⟨O,a4,a5⟩:=q4W C M Y a0 (by omega);have HC:=z7 Y;clear N Y hR;obtain⟨G,HG,R,a7⟩:=I.o.row.fam;go_wp2_with fail
    ·obtain⟨P,a1⟩:∃P:Nat,(O:Int) - ((b:Int) - a)=P:=⟨((O:Int) - ((b:Int) - a)).toNat,by omega⟩;rw[a1];obtain⟨v3,a2⟩:=cell?_setCell_some (w:=w1) (p:=⟨A,B+t,none⟩) (x:= .int .u32 (G (a+P))) (q:=⟨A,B+(a+P),none⟩) (R (a+P) (by omega));go_region
     all_goals go_wp2
     all_goals go_roundw
     case rel=>
      refine⟨t+1,swp J t (a+P),by go_num,by omega,by omega,z7 (I.o.swap HG.o t (a+P) (by omega) (by omega) 1),z7 ?_⟩;exact permIn_trans _ _ _ _ _ hP.o (swp_permIn J a b t (a+P) (by omega) (by omega) (by omega) (by omega) (by rw[I.o.row.size];omega))
     case measure=>simp[intOf];omega
    ·obtain⟨v3,a2⟩:=cell?_setCell_some (w:=w1) (p:=⟨A,B+t,none⟩) (x:= .int .u32 (G (a+O))) (q:=⟨A,B+(a+O),none⟩) (R (a+O) (by omega));go_region
     all_goals go_wp2
     all_goals go_roundw
     case rel=>
      refine⟨t+1,swp J t (a+O),by go_num,by omega,by omega,z7 (I.o.swap HG.o t (a+O) (by omega) (by omega) 1),z7 ?_⟩;exact permIn_trans _ _ _ _ _ hP.o (swp_permIn J a b t (a+O) (by omega) (by omega) (by omega) (by omega) (by rw[I.o.row.size];omega))
     case measure=>simp[intOf];omega
   ·go_end0
    exact⟨rfl,J,hR.o.row,hP.o⟩
def z7s(a b:Nat)(d R:Array Int):Prop:=PermIn a b d R/\SortedIn ltInt a b R
def z8P(a b:Nat)(d:Array Int):Prop:=Go.Sort.Below ltInt a b d
theorem z7s.of_perm{a b:Nat}{d A R:Array Int}(h:PermIn a b d A)(k:z7s a b A R):z7s a b d R:=⟨permIn_trans _ _ _ _ _ h k.1,k.2⟩
theorem q5k:∀(N B I cap a b:Nat) (aG:Int) (d:Array Int) (w:World),b - a<N->Holds z4q w B I d->B<w.heap.size->a<=b->b<=d.size->d.size<=255->z8P a b d->
  Calls prog 120 #[.slice (some ⟨B,I,none⟩) d.size cap,.int .i64 a,.int .i64 b,.int .i64 aG] w fun e w'=>e= .returned (.tuple #[])/\∃R,z0s w B I d R w'/\z7s a b d R:=by
 intro N
 induction N with
 | zero=>intro B I cap a b aG d w h;omega
 | succ N ih=>
 intro B I cap a b aG d w hN hH hl aX hb aS hB;have IH:=z7 ih;have H0:=z7 (z0s.refl hH hl);have HB:=z7 hB;clear hH ih hB;go_enter func120,ntmps120;go_wp2;go_loopw[1,2,3,8,9] (fun va vb vl v8 v9 wr=>∃(a' O:Nat) (L:Int) (wb wp:Bool) (dk:Array Int),va= .int .i64 a'/\vb= .int .i64 O/\vl= .int .i64 L/\v8= .bool wb/\v9= .bool wp/\a'<=O/\O<=d.size/\O - a'<=b - a/\
   Hid (z0s w B I d dk wr)/\Hid (z8P a' O dk)/\Hid (∀R,z7s a' O dk R->z7s a b d R)) (fun va vb _ _ _ _=>(intOf vb).toNat - (intOf va).toNat)
 case atStart=>exact⟨a,b,aG,true,true,d,rfl,rfl,rfl,rfl,rfl,aX,hb,Nat.le_refl _,H0,HB,z7 fun R h=>h⟩
 case round=>
  obtain⟨a',O,L,wb,wp,dk,rfl,rfl,rfl,rfl,rfl,a8,J,b1,A,aN,hK⟩:=hrel;have HS:=z7 A.o.size;by_cases h12:O - a'<=12
  ·have aJ:(O:Int) - a'<=12:=(by omega);have Y:=z7 (y4c B I cap a' O dk _ A.o.there A.o.lowr a8 (by rw[HS.o];exact J) (by rw[HS.o];omega));rw[A.o.size]at Y;go_wp2_with (go_at_call 143;refine Y.o.mono ?_;rintro e w2 ⟨rfl,a2⟩;have a0:=z7 (A.o.trans a2);clear a2)
   (try simp only[Exit.inBlock,Exit.then])
   refine bodyPost_ret (results_none rfl _ _ _) rfl ?_;exact⟨rfl,_,a0.o,hK.o _ (insertionSort_holds swo_ltInt dk a' O a8 (by rw[HS.o];exact J))⟩
  have aJ:¬((O:Int) - a'<=12):=by omega
  by_cases hL0:L=0
  ·have Y:=z7 (q3n B I cap a' O dk _ A.o.there A.o.lowr a8 (by rw[HS.o];exact J) (by rw[HS.o];omega));rw[A.o.size]at Y;subst hL0;go_wp2_with (go_at_call 144;refine Y.o.mono ?_;rintro e w2 ⟨rfl,a2⟩;have a0:=z7 (A.o.trans a2);clear a2)
   (try simp only[Exit.inBlock,Exit.then])
   refine bodyPost_ret (results_none rfl _ _ _) rfl ?_;exact⟨rfl,_,a0.o,hK.o _ (heapSort_holds swo_ltInt dk a' O a8 (by rw[HS.o];exact J))⟩
  have aV:(L==0)=false:=by simpa using hL0
  go_upto_if 35 with fail
  go_cut[3] (fun v wx=>∃(L':Int) (d1:Array Int),v= .int .i64 L'/\Hid (z0s w B I d d1 wx)/\Hid (PermIn a' O dk d1))
  case first=>
   cases wb with
   | true=>
    go_wp2;go_meet
    exact⟨L,dk,rfl,A,z7 (permIn_refl _ _ _)⟩
   | false=>
    have Y:=z7 (q2Z B I cap a' O dk _ A.o.there A.o.lowr (by omega) (by rw[HS.o];exact J) (by rw[HS.o];omega));rw[A.o.size]at Y;go_wp2_with (go_at_call 145;refine Y.o.mono ?_;rintro e w2 ⟨rfl,d1,a2,a5⟩;have a0:=z7 (A.o.trans a2);have aT:=z7 a5;clear a2 a5);go_meet
    exact⟨_,d1,rfl,a0,aT⟩
  case rest=>
  clear aV hL0 A;obtain⟨L',d1,rfl,A,aI⟩:=hcut;have a9:=z7 A.o.size;have Y:=z7 (q0V B I cap a' O d1 _ A.o.there A.o.lowr (by omega) (by rw[a9.o];exact J) (by rw[a9.o];omega));rw[A.o.size]at Y
  go_upto_if 50 with(go_at_call 146;refine Y.o.mono ?_;rintro e w2 ⟨⟨p,h,rfl,aW,a7,a5⟩,a2⟩;have a0:=z7 (A.o.trans a2);clear a2)
  clear Y
  go_cut[11,12] (fun v1 v2 wx=>∃(p' h':Nat) (d2:Array Int),v1= .int .i64 p'/\v2= .int .i64 h'/\a'<=p'/\p'<O/\Hid (z0s w B I d d2 wx)/\Hid (PermIn a' O dk d2))
  case first=>
   by_cases hh:h=2
   ·subst hh;have Y:=z7 (y7b B I cap a' O d1 _ a0.o.there a0.o.lowr (by omega) (by rw[a9.o];exact J) (by rw[a9.o];omega));rw[a0.o.size]at Y;go_wp2_with (go_at_call 147;refine Y.o.mono ?_;rintro e w3 ⟨rfl,d2,a3,aO⟩;have U:=z7 (a0.o.trans a3);have aU:=z7 aO;clear a3 aO);go_meet
    refine⟨O - 1 - (p - a'),1,d2,?_,rfl,by omega,by omega,U,z7 (permIn_trans _ _ _ _ _ aI.o aU.o)⟩
    congr 1
    omega
   ·have b0:((h:Int)==2)=false:=(by simpa using(by omega:¬(h:Int)=2));go_wp2;go_meet
    exact⟨p,h,d1,rfl,rfl,a7,a5,a0,aI⟩
  case rest=>
  clear a0 A aI a9 a7 a5 aW;obtain⟨p',h',d2,rfl,rfl,a7,a5,A,aA⟩:=hcut;go_upto_region 15 with fail
  go_cut[68] (fun v wx=>∃tb:Bool,v= .bool tb/\Hid (z0s w B I d d2 wx))
  case first=>
   cases wb<;>cases wp<;>(go_wp2_with fail)<;>go_meet<;>exact⟨_,rfl,A⟩
  case rest=>
  clear A;obtain⟨tb,rfl,A⟩:=hcut;have aC:=z7 A.o.size;have aL:Hid (z8P a' O d2):=z7 (Below.perm aN.o (by rw[HS.o];exact J) aA.o)
  go_upto_if 68 with fail
  go_cut[] (fun wx=>∃d3:Array Int,Hid (z0s w B I d d3 wx)/\Hid (PermIn a' O dk d3))
  case first=>
   cases tb with
   | false=>
    go_wp2;go_meet
    exact⟨d2,A,aA⟩
   | true=>
    have Y:=z7 (y6H B I cap a' O d2 _ A.o.there A.o.lowr (by omega) (by rw[aC.o];exact J) (by rw[aC.o];omega));rw[A.o.size]at Y;have aF:=z7 (partialInsertionSort_holds swo_ltInt d2 a' O (by omega) (by rw[aC.o];exact J) aL.o);obtain⟨pr,aR⟩:=zN (Sort.partialInsertionSort ltInt d2 a' O);rw[<-aR]at Y aF;obtain⟨pa,pb⟩:=pr;clear aR;go_wp2_with (go_at_call 148;refine Y.o.mono ?_;rintro e w3 ⟨rfl,a3⟩;have U:=z7 (A.o.trans a3);clear a3)
    ·(try simp only[Exit.inBlock,Exit.then])
     refine bodyPost_ret (results_none rfl _ _ _) rfl ?_;refine⟨rfl,pa,U.o,hK.o _ (z7s.of_perm aA.o ⟨aF.o.1,aF.o.2 ?_⟩)⟩;first|assumption|rfl
    ·go_meet
     exact⟨pa,U,z7 (permIn_trans _ _ _ _ _ aA.o aF.o.1)⟩
  case rest=>
  clear A aC aL aA;obtain⟨d3,A,aE⟩:=hcut;have a4:=z7 A.o.size;have aM:Hid (z8P a' O d3):=z7 (Below.perm aN.o (by rw[HS.o];exact J) aE.o);obtain⟨G,HG,aZ,aD⟩:=A.o.fam;go_upto_region 17 with fail
  go_cut[87] (fun v wx=>∃tb:Bool,v= .bool tb/\Hid (tb=true->0<a'/\ltInt d3[a' - 1]! d3[p']! =false)/\Hid (z0s w B I d d3 wx))
  case first=>
   by_cases ha:0<a'
   ·have aY:decide (0<(a':Int))=true:=(by simpa using ha);go_wp2_with fail
    go_big_quiet (first|(go_at_call 149;refine Calls.quiet_of_same (z1A _ _ _)))
    go_wp2_with fail;go_meet
    refine⟨_,rfl,z7 fun h=>⟨ha,?_⟩,z7 (A.o.drewN nq)⟩;rw[<-HG.o,<-HG.o];simpa using h
   ·have aY:decide (0<(a':Int))=false:=(by simp;omega);go_wp2_with fail
    go_big_quiet (first|(go_at_call 149;refine Calls.quiet_of_same (z1A _ _ _)))
    go_wp2_with fail;go_meet
    exact⟨false,rfl,z7 fun h=>(by cases h),z7 (A.o.drewN nq)⟩
  case rest=>
  clear A HG aZ aD;obtain⟨tb,rfl,hT,A⟩:=hcut;cases tb with
  | true=>
   have Y:=z7 (y8I B I cap a' O p' d3 _ A.o.there A.o.lowr a7 a5 (by rw[a4.o];exact J) (by rw[a4.o];omega));rw[A.o.size]at Y;obtain⟨a1,d4,hx⟩:∃a1 d4,Sort.partitionEqual ltInt d3 a' O p'=(a1,d4):=⟨_,_,rfl⟩;rw[hx]at Y;obtain⟨r1,r2,r3,r4,r5⟩:=round_eq swo_ltInt (partitionEqual_holds ltInt) (hT.o rfl).1 a7 a5 (by rw[a4.o];exact J) aM.o (hT.o rfl).2 hx;have R4:=z7 r4;have R5:=z7 r5;clear hx r4 r5;go_wp2_with (go_at_call 150;refine Y.o.mono ?_;rintro e w3 ⟨rfl,a3⟩;have U:=z7 (A.o.trans a3);clear a3)
   go_roundw
   case rel=>exact⟨a1,O,L',wb,wp,d4,rfl,rfl,rfl,rfl,rfl,by omega,J,by omega,U,R4,z7 fun R h=>hK.o R (z7s.of_perm aE.o (R5.o R h.1 h.2))⟩
   case measure=>simp[intOf];omega
  | false=>
   have Y:=z7 (q3k B I cap a' O p' d3 _ A.o.there A.o.lowr a7 a5 (by rw[a4.o];exact J) (by rw[a4.o];omega));rw[A.o.size]at Y;obtain⟨a1,ap,d4,hx⟩:∃a1 ap d4,Sort.partition ltInt d3 a' O p'=(a1,ap,d4):=⟨_,_,_,rfl⟩;rw[hx]at Y;obtain⟨r1,r2,r3,r4,r5,r6,r7⟩:=round_part swo_ltInt (partition_holds ltInt) a7 a5 (by rw[a4.o];exact J) aM.o hx;have R4:=z7 r4;have R5:=z7 r5;have R6:=z7 r6;have R7:=z7 r7;clear hx r4 r5 r6 r7;go_wp2_with (go_at_call 151;refine Y.o.mono ?_;rintro e w3 ⟨rfl,a3⟩;have U:=z7 (A.o.trans a3);clear a3)
   ·have hj:=IH.o B I cap a' a1 L' d4 w3 (by omega) U.o.there U.o.lowr r1 (by rw[r3,a4.o];omega) (by rw[r3,a4.o];exact aS) R4.o;rw[U.o.size]at hj;refine hj.mono ?_;rintro e w4 ⟨rfl,R,aB,a6⟩;have aH:=z7 (U.o.trans aB);obtain⟨q1,q2⟩:=R6.o R a6.1 a6.2;have Q1:=z7 q1;have Q2:=z7 q2;clear hj aB a6 q1 q2 Y;go_wp2
    go_roundw
    case rel=>exact⟨a1+1,O,L',_,ap,R,by go_num,rfl,rfl,rfl,rfl,by omega,J,by omega,aH,Q1,z7 fun X h=>hK.o X (z7s.of_perm aE.o (Q2.o X h.1 h.2))⟩
    case measure=>simp[intOf];omega
   ·have hj:=IH.o B I cap (a1+1) O L' d4 w3 (by omega) U.o.there U.o.lowr (by omega) (by rw[r3,a4.o];omega) (by rw[r3,a4.o];exact aS) R5.o;rw[U.o.size,show((a1+1:Nat):Int)=(a1:Int)+1 by omega]at hj;refine hj.mono ?_;rintro e w4 ⟨rfl,R,aB,a6⟩;have aH:=z7 (U.o.trans aB);obtain⟨q1,q2⟩:=R7.o R a6.1 a6.2;have Q1:=z7 q1;have Q2:=z7 q2;clear hj aB a6 q1 q2 Y;go_wp2
    go_roundw
    case rel=>exact⟨a',a1,L',_,ap,R,rfl,rfl,rfl,rfl,rfl,by omega,by omega,by omega,aH,Q1,z7 fun X h=>hK.o X (z7s.of_perm aE.o (Q2.o X h.1 h.2))⟩
    case measure=>simp[intOf];omega
def z5H(l:List Int):List Int:=l.mergeSort fun x y=>decide (x<=y)
theorem q1k{A:List Int}{R:Array Int}(h:z7s 0 A.length A.toArray R):R=(z5H A).toArray:=by
 have B:=sorted_unique_holds (lt:=ltInt) swo_ltInt (fun x y B I=>by simp only[ltInt,decide_eq_false_iff_not]at B I;omega) A.toArray R (by simpa using h.1) (by simpa using h.2);have I:R.toList=z5H A:=by
  rw[B];unfold z5H
  congr 1
  funext x y
  show(!decide (y<x))=decide (x<=y);by_cases h:x<=y<;>first|(simp[h];done)|(simp[h];omega)
 rw[<-I]
theorem q3S(B I cap:Nat)(A:List Int)(w:World)(L:Holds z4q w B I A.toArray)(hl:B<w.heap.size)(J:A.length<=255):
  Calls prog 79 #[.slice (some ⟨B,I,none⟩) A.length cap] w fun e w'=>e= .returned (.tuple #[])/\z0s w B I A.toArray (z5H A).toArray w':=by
 have U:=z7 (q5k (A.length+1) B I cap 0 A.length (Lib.bitLen ((A.length:Int)).toNat) A.toArray w (by omega) L hl (Nat.zero_le _) (by simp) (by simpa using J) (.inl rfl));rw[show A.toArray.size=A.length by simp]at U;have hL:=z7 (q2A A.length (by omega) (by omega));clear L;go_enter func79,ntmps79;go_wp2_with (first
  | (go_at_call 121;refine(hL.o _).mono ?_;rintro e w' ⟨rfl,rfl⟩)
  | (go_at_call 120;refine U.o.mono ?_;rintro e w' ⟨rfl,R,N,O⟩;have Y:=z7 N;have HS:=z7 O;clear N O))
 go_end0
 refine⟨rfl,?_⟩;rw[<-q1k HS.o];exact Y.o
end
section
open Go.RowKit Go.Maps
theorem q5T{n:Int}(A: -9223372036854775808<=n)(B:n<=9223372036854775807):IntKind.i64.wrap n=n:=by
 unfold IntKind.wrap;simp[IntKind.bits,IntKind.signed];omega
theorem q5N{n:Int}(A:0<=n)(B:n<=18446744073709551615):IntKind.u64.wrap n=n:=by
 unfold IntKind.wrap;simp[IntKind.bits,IntKind.signed];omega
theorem bitsLen(n:Nat)(h:n<=1)(w:World):Calls prog 121 #[.int .u64 n] w fun e w'=>e= .returned (.int .i64 n)/\w=w':=by
 have A:Calls prog 153 #[.int .u64 n] w fun e w'=>e= .returned (.int .i64 n)/\w=w':=by
  obtain rfl|rfl:n=0\/n=1:=by omega
  ·go_enter func153,ntmps153;go_wp2;go_ret;exact⟨by kernel_rfl,rfl⟩
  ·go_enter func153,ntmps153;go_wp2;go_ret;exact⟨by kernel_rfl,rfl⟩
 have H:=z7 A;clear A;go_enter func121,ntmps121;go_wp2_with (refine H.o.mono ?_;rintro e w' ⟨rfl,rfl⟩);go_ret;exact⟨rfl,rfl⟩
theorem q2u(a:Option Addr)(n c:Nat)(h:n<=1)(w:World):Calls prog 143 #[.slice a n c,.int .i64 0,.int .i64 n] w fun e w'=>e= .returned (.tuple #[])/\w=w':=by
 have B:¬((1:Int)<n):=by omega
 go_enter func143,ntmps143;go_wp2;go_loopw[6] (fun A wr=>A= .int .i64 1/\w=wr) (fun _ _=>0)
 case atStart=>exact⟨rfl,rfl⟩
 case round=>
  obtain⟨rfl,rfl⟩:=hrel;go_wp2
  go_end0
  exact⟨rfl,rfl⟩
theorem q1O(a:Option Addr)(n c:Nat)(h:n<=1)(w:World):Calls prog 120 #[.slice a n c,.int .i64 0,.int .i64 n,.int .i64 n] w fun e w'=>e= .returned (.tuple #[])/\w=w':=by
 have I:(n:Int)<=12:=by omega
 have A:IntKind.i64.wrap (n:Int)=n:=q5T (by omega) (by omega);have B:IntKind.i64.wrap ((n:Int) - 0)=n:=by simpa using A
 go_enter func120,ntmps120;go_wp2;refine wp_loop_rounds 1 ?_;rw[rounds_succ];go_wp2_with (go_at_call 143;refine(q2u a n c h _).mono ?_;rintro e w' ⟨rfl,rfl⟩)
 (try simp only[Exit.inBlock,Exit.then])
 refine bodyPost_ret (results_none rfl _ _ _) rfl ?_;exact⟨rfl,rfl⟩
theorem q0F(a:Option Addr)(n c:Nat)(h:n<=1)(w:World):Calls prog 79 #[.slice a n c] w fun e w'=>e= .returned (.tuple #[])/\w=w':=by
 have A:IntKind.u64.wrap (n:Int)=n:=q5N (by omega) (by omega);go_enter func79,ntmps79;go_wp2_with (first
  | (go_at_call 121;refine(bitsLen n h _).mono ?_;rintro e w' ⟨rfl,rfl⟩)
  | (go_at_call 120;refine(q1O a n c h _).mono ?_;rintro e w' ⟨rfl,rfl⟩))
 go_end0
 exact⟨rfl,rfl⟩
theorem q0z:(prog.info? 40).map (fun i=>(i.zero,i.size,i.bytes))=some (some (.int .u32 0),1,4):=by kernel_rfl
theorem z8I{w:World}{B t n:Nat}{v:Value}{L:List Value}(h:w.ownsRow B t 1 v n L):∃a c,v= .slice a n c:=by
 rcases h.2 with⟨A,J⟩|⟨g,cap,I,A,_⟩
 ·exact⟨none,0,by rw[A,J]⟩
 ·exact⟨_,_,A⟩
theorem y4f{w:World}{B t g cap:Nat}{I:List Int}(h:w.ownsRow B t 1 (.slice (some ⟨g,0,none⟩) I.length cap) I.length (I.map z4q)):Go.Sort.Holds z4q w g 0 I.toArray/\g<w.heap.size/\B<=g:=by
 have U:=h;obtain⟨h0,⟨J,_⟩|⟨g',L,O,J,R,N,h4,h5,h6,h7⟩⟩:=h
 ·cases J
 ·simp only[Value.slice.injEq,Option.some.injEq,Addr.mk.injEq]at J;obtain⟨⟨rfl,_⟩,_,rfl⟩:=J;refine⟨fun j Y=>⟨?_,?_⟩,(Array.getElem?_eq_some_iff.1 N).1,R⟩
  ·have A:j<I.length:=(by simpa using Y);have:=U.cellAt j (by simpa using A);rw[Nat.zero_add];simpa[A]using this
  ·simp[World.frozen?,N]
theorem z0s.owns{w wr:World}{B t g cap:Nat}{A I:List Int}(h:w.ownsRow B t 1 (.slice (some ⟨g,0,none⟩) A.length cap) A.length (A.map z4q))(U:z0s w g 0 A.toArray I.toArray wr)(R:I.length=A.length):
  wr.ownsRow B t 1 (.slice (some ⟨g,0,none⟩) A.length cap) A.length (I.map z4q)/\w.grownBy wr (some g):=by
 obtain⟨m,os,rfl⟩:=U.eq;have hg:=U.low;obtain⟨h0,⟨L,_⟩|⟨g',O,J,L,Y,h3,h4,h5,h6,h7⟩⟩:=h
 ·cases L
 simp only[Value.slice.injEq,Option.some.injEq,Addr.mk.injEq]at L;obtain⟨⟨rfl,_⟩,_,rfl⟩:=L;have hb:(Go.Sort.grow (Go.Sort.putRow z4q (Go.Sort.ahead w m) g 0 I.toArray) os).heap[g]? =some (.cells (Go.Sort.putCells z4q 0 I.toArray J) t (0,0)):=by
  rw[Go.Sort.heap_grow_old _ _ (by simpa using hg)];simp[Go.Sort.putRow,Go.Sort.mapBlock,Go.Sort.ahead,Array.getElem?_modify,h3,Go.Sort.onCells]
 refine⟨⟨by simp[R],.inr ⟨g,cap,_,rfl,Y,hb,h4,h5,by simp[Go.Sort.putCells,h6],?_⟩⟩,rfl,rfl,rfl,by simp,fun k hk N=>?_⟩
 ·rw[Nat.mul_one,<-R];apply List.ext_getElem?;intro j;by_cases hj:j<I.length
  ·rw[List.getElem?_take_of_lt hj,Array.getElem?_toList];simp[Go.Sort.putCells,hj,show j<J.size by omega]
  ·rw[List.getElem?_take_eq_none (by omega),List.getElem?_eq_none (by simp;omega)]
 ·rw[Go.Sort.heap_grow_old _ _ (by simpa using hk)];have:g≠k:=fun e=>N (by rw[e]);simp[Go.Sort.putRow,Go.Sort.mapBlock,Go.Sort.ahead,Array.getElem?_modify,this]
theorem q2W(B:Nat)(a:Option Addr)(cap:Nat)(A:List Int)(w:World)(h:w.ownsRow B 40 1 (.slice a A.length cap) A.length (A.map z4q))(hn:A.length<=255):
  Calls prog 79 #[.slice a A.length cap] w fun e w'=>e= .returned (.tuple #[])/\w'.ownsRow B 40 1 (.slice a A.length cap) A.length ((z5H A).map z4q)/\w.grownBy w' (Value.slice a A.length cap).ownBlock:=by
 have L:(z5H A).length=A.length:=by unfold z5H;exact List.length_mergeSort A
 cases a with
 | none=>
  have R:A.length=0:=by
   rcases h.2 with⟨I,N⟩|⟨g',J,O,I,_⟩
   ·exact N
   ·cases I
  have hk:A= []:=List.eq_nil_of_length_eq_zero R;subst hk;refine(q0F none 0 cap (by omega) w).mono ?_;rintro e w' ⟨rfl,rfl⟩;exact⟨rfl,by simpa[z5H]using h,⟨rfl,rfl,rfl,Nat.le_refl _,fun _ _ _=>rfl⟩⟩
 | some ad=>
  have hf:=h.2;obtain⟨g,rfl⟩:∃g,ad=⟨g,0,none⟩:=by
   rcases h.2 with⟨I,N⟩|⟨g',J,O,I,_⟩
   ·cases I
   ·simp only[Value.slice.injEq,Option.some.injEq]at I;exact⟨g',I.1⟩
  obtain⟨I,N,h3⟩:=y4f h;refine(q3S g 0 cap A w I N hn).mono ?_;rintro e w' ⟨rfl,hr⟩;obtain⟨U,Y⟩:=hr.owns h L;exact⟨rfl,U,Y⟩
end

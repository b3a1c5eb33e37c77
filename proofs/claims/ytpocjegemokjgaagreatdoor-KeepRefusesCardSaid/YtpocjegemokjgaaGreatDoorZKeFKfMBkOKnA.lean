/-
  The walk of keep's Open where the journal has no notes; Book.
-/
import Derived.Test.YtpocjegemokjgaaGreatDoorZTaIATaKKeETaIN
namespace Go.Proofs.YtpocjegemokjgaaGreatDoor
open Go.Proofs.Tryz
set_option linter.all false
set_option maxRecDepth 100000
set_option maxHeartbeats 12800000
open Go.RowKit Go.Maps
abbrev y7h (s b c wi t d:Int):Array Value:= #[.int .i64 s,.int .i64 b,.int .i64 c,.int .i64 wi,.int .i64 t,.int .i64 d]
theorem y8y(sb:Nat)(s:FsS)(F:List Nat)(ns nc:Nat)(b wi t d:Int)(hR:y6Y ns b nc wi t d)(h1:(z2F s z1R).1=0)(h2:(z2F s z1R).2.2= [])(w:World)(h:z1v w sb s F)(ok:s.Ok)(b0:z1u w)(aW:0∉F):
  Calls prog 7 #[.pointer (some ⟨sb,0,none⟩),.agg (y7h ns b nc wi t d)] w fun e w'=>∃kb rb bb tb mb B E S F',e= .returned (.tuple #[.pointer (some ⟨kb,0,none⟩),.int .u16 0])/\KIn w' kb rb bb tb mb sb B E S F' ⟨ns,nc, []⟩ 0 (z2F s z1R).2.1/\Chg F F' w w'/\(∀x,S x->w.heap.size<=x)/\w.heap.size<=rb/\w.heap.size<=kb/\w.heap.size<=tb/\w.heap.size<=bb:=by
 have a5:=z7 ((z0K.start (fun k=>k∈F) w).new (.cells (y7h ns b nc wi t d) 30));have aX:=q5 w (.cells (y7h ns b nc wi t d) 30);have bF:1<=ns/\ns<=64:=by have:=hR.s;omega
 have bC:1<=nc/\nc<=24:=by have:=hR.c;omega
 have hO:=fun w' (hb:Below w.heap.size w w')=>q3I sb s F z1R (by decide) w' (h.low hb) ok;have R:=y8L ok z1R;have b6:=h.lt;obtain⟨⟨e1,s1,L⟩,hT⟩:∃r,r=z2F s z1R:=⟨_,rfl⟩;have Y:=hO;unfold z3N at Y;rw[<-hT]at Y h1 h2 R ⊢;simp only at h1 h2 Y R ⊢;subst h1 h2;have aN:=z7 Y;have bB:=z7 (fun w'=>q2j ns b nc wi t d hR w');have aM:=z7 (fun w'=>q1b ns nc bF bC w');have aI:=z7 aX;have aJ:=z7 b0;have bA:=z7 R;clear h ok b0 hO Y hT aX R hR;obtain⟨c0,c1,c2,c3,c4,c5,cf⟩:=y6D (a5.o.get 0 rfl);have l0:=a5.o.lt 0 rfl;go_enter func7,ntmps7;go_wp2_with fail;refine(bB.o _).mono ?_;rintro e w1 ⟨rfl,aH⟩;have aE:=z7 (a5.o.call aH);have a1:Below w.heap.size w w1:=aI.o.trans (aH.mono aI.o.size);have a6:=z7 (aN.o w1 a1);have aB:=z7 a1;clear aH a1 c0 c1 c2 c3 c4 c5 cf l0;go_wp2_with fail;refine a6.o.mono ?_;rintro e w2 ⟨F2,aT,aG,⟨bE, -⟩|⟨-,tb,a,cc,xs,rfl,aV,b1,b2, -,b4, -⟩⟩
 ·exact absurd rfl bE
 have bG:xs= []:=by simpa using b4
 subst bG;have aU:=aE.o.go (S':=fun k=>k∈F) aG.only (fun k hk=> .inl hk) (fun q hq O=>by have h1:=b6 _ O;have h2:=(aE.o.blk q hq).2;omega);have aF:=z7 aU;have aL:=z7 aT;have a4:=z7 aG;have aS:=z7 aV;have b7:=z7 b1;have b9:=z7 b2;obtain⟨c0,c1,c2,c3,c4,c5,cf⟩:=y6D (aF.o.get 0 rfl);have l0:=aF.o.lt 0 rfl;clear aU aT aG aV b1 b2 b4 aN a6;go_wp2_with fail;refine(aM.o _).mono ?_;rintro e w3 ⟨bb,mb,S,rfl,aD,aY⟩;have aC:=z7 aD;have a3:=z7 aY;clear aD aY;go_wp2_with fail;refine(q4Z bb _).mono ?_;rintro e w4 ⟨rb,rfl,b3,aA,aZ⟩;have aO:=z7 b3;have I:=z7 aA;have U:=z7 aZ;clear b3 aA aZ;go_wp2_with fail;obtain⟨W5,a0⟩:=zN (w4.alloc (.cells #[.pointer (some ⟨rb,0,none⟩),.pointer (some ⟨bb,0,none⟩),.pointer (some ⟨tb,0,none⟩)] 67));refine z0G a0 ?_;have J:Below w2.heap.size w2 W5:=by
  rw[a0];exact(a3.o.trans (U.o.mono a3.o.size)).trans ((q5 w4 _).mono (Nat.le_trans a3.o.size U.o.size))
 have a2:Below w4.heap.size w4 W5:=by rw[a0];exact q5 w4 _
 have a7:Below w3.heap.size w3 W5:=U.o.trans (a2.mono U.o.size);have bJ:w.heap.size<=w1.heap.size:=aB.o.size;have bL:w1.heap.size<=w2.heap.size:=a4.o.size;have bM:w2.heap.size<=w3.heap.size:=a3.o.size;have bN:w3.heap.size<=w4.heap.size:=U.o.size;have A:∀x∈F2,x<w2.heap.size:=fun x hx=>aL.o.lt x hx;have bO:tb<w2.heap.size:=aS.o.lt;have N:∀x,S x->w2.heap.size<=x/\x<w3.heap.size:=fun x hx=>aC.o.lo x hx;have bH:rb<w4.heap.size:=aO.o.lt;have a9:∀x∈F2,x∈F\/w1.heap.size<=x:=a4.o.fresh;have bI:=aJ.o.lt;have a8:z1u w2:=(aJ.o.low aB.o).only a4.o.only aW;have K5:KIn W5 w4.heap.size rb bb tb mb sb w2.heap.size [] S F2 ⟨ns,nc, []⟩ 0 s1:=by
  refine⟨by rw[a0];exact j8 _ _,aO.o.low a2,aC.o.low a7,aS.o.low J,aL.o.low J,bA.o,a8.low J,by omega,by have:=I.o;omega,fun O=>?_,fun O=>?_,b9.o,fun O=>?_,fun O=>?_,fun O=>?_,fun x hx hs=>?_,?_,fun O=>?_,fun O=>?_⟩
  ·have:=A _ O;omega
  ·have:=A _ O;have:=I.o;omega
  ·have:=(N _ O).2;omega
  ·have:=(N _ O).2;have:=I.o;omega
  ·have:=(N _ O).1;omega
  ·have:=A x hx;have:=(N x hs).1;omega
  ·have:=I.o;omega
  ·have:=(N _ O).1;omega
  ·rcases a9 _ O with e|e
   ·exact aW e
   ·omega
 have b8:=z7 K5;have b5:=z7 (show Chg F F2 w W5 from((Chg.of_below aB.o).trans a4.o).trans (Chg.of_below J));have aR:=z7 N;clear K5 J a2 a7 A N a9 a8 a0 c0 c1 c2 c3 c4 c5 cf l0 aF aE a5;go_loopw[40] (fun kv wr=>kv= .int .i64 0/\wr=W5) (fun _ _=>0)
 case atStart=>exact⟨rfl,rfl⟩
 case round=>
  obtain⟨rfl,rfl⟩:=hrel;go_wp2;go_ret2;refine⟨w4.heap.size,rb,bb,tb,mb,w2.heap.size, [],S,F2,rfl,b8.o,b5.o,fun x hx=>?_,?_,?_,?_,?_⟩
  ·have:=(aR.o x hx).1;omega
  ·have:=I.o;omega
  ·omega
  ·have:=b7.o;omega
  ·have:=(aR.o bb aC.o.own.1).1;omega
theorem y0x(B I A J:Nat)(w:World)(h:z2B w B I A J):Calls prog 13 #[.pointer (some ⟨B,0,none⟩)] w fun e w'=>e= .returned (.pointer (some ⟨A,0,none⟩))/\w'=w:=by
 obtain⟨N,O,R,U⟩:=h.cells;have L:=h.lt;clear h;go_enter func13,ntmps13;go_wp2;go_ret;exact⟨rfl,rfl⟩
theorem q0B(A B ep:Nat)(w:World)(h:z0z w A B ep):Calls prog 16 #[.pointer (some ⟨A,0,none⟩)] w fun e w'=>e= .returned (.int .u32 ep)/\w'=w:=by
 obtain⟨J,L,N⟩:=h.cells;have I:=h.lt;clear h;go_enter func16,ntmps16;go_wp2;go_ret;exact⟨rfl,rfl⟩
theorem filter_one(a:Int):∀(l:List Int),l.Pairwise (·≠·)->l.length<=(l.filter fun x=>decide (x≠a)).length+1
 | [],_=>by simp
 | x::l,h=>by
  obtain⟨B,I⟩:=List.pairwise_cons.1 h;rw[List.filter_cons];split
  ·have:=filter_one a l I;simp only[List.length_cons];omega
  ·rename_i J;have A:x=a:=(by simpa using J);have:l.filter (fun y=>decide (y≠a))=l:=List.filter_eq_self.2 fun y L=>by
    have:=B y L;rw[A]at this;simp only[ne_eq,decide_not,Bool.not_eq_true',decide_eq_false_iff_not];exact fun e=>this e.symm
   rw[this];simp
theorem q0Q:∀(n:Nat) (l:List Int),l.Pairwise (·≠·)->(∀x∈l,0<=x/\x<n)->l.length<=n
 | 0,l,h,hb=>by
  cases l with
  | nil=>simp
  | cons x l=>have:=hb x List.mem_cons_self;omega
 | n+1,l,h,hb=>by
  have B:=filter_one (n:Int) l h;have I:=q0Q n (l.filter fun x=>decide (x≠(n:Int))) (h.sublist List.filter_sublist) (fun x A=>by
   rw[List.mem_filter]at A;have J:=hb x A.1;have L:x≠(n:Int):=of_decide_eq_true A.2;omega)
  omega
theorem q4k(b:z0j)(hd:b.all.Pairwise fun p q=>p.1≠q.1)(N:∀p∈b.all,0<=p.1/\p.1<64)(U:b.most=64){id:Nat}(hid:id<64):z3A b id=0:=by
 unfold z3A;rw[if_neg];rintro⟨I,R⟩;have J:=z7L I;have L:=q0Q 64 ((id:Int)::b.all.map Prod.fst) (by
  rw[List.pairwise_cons];refine⟨fun y O=>?_,?_⟩
  ·obtain⟨p,A,rfl⟩:=List.mem_map.1 O;exact fun e=>J p A e.symm
  ·rw[List.pairwise_map];exact hd) (fun x B=>by
  rcases List.mem_cons.1 B with rfl|B
  ·omega
  ·obtain⟨p,A,rfl⟩:=List.mem_map.1 B;exact N p A)
 rw[List.length_cons,List.length_map]at L;omega
structure q4N (ab kb:z0j):Prop where
 front:∀id,z4y (z0g kb id) (z0g ab id)
 most:kb.most=64
 size:kb.size=24
 keys:∀p∈kb.all,0<=p.1/\p.1<64
theorem q4N.start(A:z0j)(B:∀id,(z0g A id).Ok):q4N A ⟨64,24, []⟩:=⟨fun id=>y4p (B id),rfl,rfl,fun p I=>by cases I⟩
theorem z8b{k v:Bs}:∀{L:List (Bs×Bs)},L.Pairwise (fun p q=>p.1≠q.1)->z0P k L=some v->v.length+total (z2d k L)=total L
 | [],_,h=>by cases h
 | p::L,hd,h=>by
  obtain⟨B,I⟩:=List.pairwise_cons.1 hd;unfold z0P at h;rw[List.find?_cons]at h;by_cases hk:p.1=k
  ·simp only[hk,decide_true,Option.map_some,Option.some.injEq]at h;have A:z2d k (p::L)=L:=by
    unfold z2d;rw[List.filter_cons,if_neg (by simp[hk]),List.filter_eq_self.2 fun q J=>by
     have:=B q J;rw[hk]at this;simp only[ne_eq,decide_not,Bool.not_eq_true',decide_eq_false_iff_not];exact fun e=>this e.symm]
   rw[A,z1q,h]
  ·simp only[hk,decide_false]at h;have A:z2d k (p::L)=p::z2d k L:=by
    unfold z2d;rw[List.filter_cons,if_pos (by simp[hk])]
   have N:=z8b I (k:=k) (v:=v) h;rw[A,z1q,z1q];omega
theorem y2F{s:FsS}{k:Bs}(hd:s.files.Pairwise fun p q=>p.1≠q.1)(I:s.has k=true)(B:s.left=none):(z2k s k).1=0/\(z2k s k).2.used=s.used/\(z2k s k).2.room=s.room/\(z2k s k).2.left=none/\(z2k s k).2.has k=true:=by
 have A:s.go=true:=by unfold FsS.go;rw[B];rfl
 have N:s.went=s:=by unfold FsS.went;rw[B]
 have L:z2k s k=(0,{s with files:=z1B z2Z k (s.get k) s.files,waits:=z0Y k s.waits}):=by
  unfold z2k;rw[I,A,N];rfl
 rw[L];refine⟨rfl,?_,rfl,B,?_⟩
 ·show total (z1B z2Z k (s.get k) s.files)+total (z0Y k s.waits)=total s.files+total s.waits;obtain⟨v,J⟩:=Option.isSome_iff_exists.1 (show(z0P k s.files).isSome=true from I);have O:=z8b hd J;have R:=y0a k s.waits;have U:=z7Y k s.waits;have Y:(s.get k).length=v.length+(pieces k s.waits).length:=by unfold FsS.get;rw[J,List.length_append];rfl
  rw[z5B];omega
 ·show(z0P k (z1B z2Z k (s.get k) s.files)).isSome=true;rw[z6g];rfl
theorem q4K{s:FsS}(ok:s.Ok)(hd:s.files.Pairwise fun p q=>p.1≠q.1)(N:s.has z1R=true)(O:s.left=none)(n:List UInt8)(Y:n.length<=600):
  ((wrS s n).1=0/\s.used<(wrS s n).2.used/\(wrS s n).2.room=s.room/\(wrS s n).2.left=none/\(wrS s n).2.has z1R=true)\/((wrS s n).1=82/\wrS s n=(82,s)):=by
 have L:s.go=true:=by unfold FsS.go;rw[O];rfl
 have U:s.went=s:=by unfold FsS.went;rw[O]
 have A:(z2c n).length≠0:=by unfold z2c;simp
 have R:z2g s z1R n=z1f s z1R (z2c n):=by unfold z2g;rw[if_neg (by omega)]
 by_cases hr:s.room - s.used<(z2c n).length
 ·right
  have J:z1f s z1R (z2c n)=(82,s):=by unfold z1f;rw[if_neg (by rw[N];simp),if_neg A,if_pos hr]
  have I:wrS s n=(82,s):=by unfold wrS;rw[R,J];exact if_pos (show(82:Int)≠0 by decide)
  exact⟨by rw[I],I⟩
 ·left
  have J:z1f s z1R (z2c n)=(0,{s with waits:=s.waits++ [(z1R,z2c n)]}):=by unfold z1f;rw[if_neg (by rw[N];simp),if_neg A,if_neg hr,L,U];rfl
  have I:wrS s n=z2k {s with waits:=s.waits++ [(z1R,z2c n)]} z1R:=by unfold wrS;rw[R,J];exact if_neg (show ¬((0:Int)≠0) by decide)
  have B:=y2F (s:={s with waits:=s.waits++ [(z1R,z2c n)]}) (k:=z1R) hd N O;rw[I];refine⟨B.1,?_,B.2.2.1,B.2.2.2.1,B.2.2.2.2⟩;rw[B.2.1];show total s.files+total s.waits<total s.files+total (s.waits++ [(z1R,z2c n)]);rw[z5h,z1q];show _<_+(_+((z2c n).length+_));omega
def z2f(s:z0U):List z1c:=s.parts.flatMap fun x=>z2l x.1.st
theorem z4W(a b:List z1c):z0T (a++b)=z0T a++z0T b:=by unfold z0T;rw[List.flatMap_append]
theorem y2Z{α β:Type}(f:α->List β)(l:List α)(k:Nat)(a:α)(h:l[k]? =some a):(l.take (k+1)).flatMap f=(l.take k).flatMap f++f a:=by
 rw[List.take_add_one,h,List.flatMap_append,Option.toList_some,List.flatMap_singleton]
theorem z0U.parts_small{s:z0U}(h:s.Ok):∀x∈s.parts,x.1.Ok:=fun x A=>by
 unfold z0U.parts at A;rw[List.mem_append,List.mem_map,List.mem_singleton]at A;rcases A with⟨y,B,rfl⟩|rfl
 ·exact(h.done y B).1
 ·exact h.cur
theorem y7p{s:z0U}(h:s.Ok):∀k,((s.parts.take k).flatMap fun x=>z2l x.1.st).length<=k*24:=by
 intro k;have key:∀(l:List (z0N×Bool)),(∀x∈l,x.1.Ok)->(l.flatMap fun x=>z2l x.1.st).length<=l.length*24:=by
  intro l
  induction l with
  | nil=>intro _;exact Nat.le_refl _
  | cons x r ih=>
   intro B;rw[List.flatMap_cons,List.length_append,List.length_cons];have I:=ih fun y L=>B y (List.mem_cons_of_mem _ L);have A:=(B x List.mem_cons_self).len;have N:(z2l x.1.st).length=x.1.st.length:=by unfold z2l;rw[List.length_map]
   omega
 have I:=key (s.parts.take k) fun x J=>z0U.parts_small h x (List.mem_of_mem_take J);have A:(s.parts.take k).length<=k:=by rw[List.length_take];omega
 have:(s.parts.take k).length*24<=k*24:=Nat.mul_le_mul_right _ A;omega
theorem z6Q(l:List z1c):∀u∈z0T l,u.oneCell'=true:=fun u A=>by
 unfold z0T at A;obtain⟨s, -,h⟩:=List.mem_flatMap.1 A;simp only[List.mem_cons,List.not_mem_nil,or_false]at h;rcases h with rfl|rfl<;>rfl
def y6h(s:z0U)(w:World)(e:Ending)(w':World):Prop:=
 ∃a n c,e= .returned (.slice a n c)/\w'.ownsRow w.heap.size 71 2 (.slice a n c) n (z0T (z2f s))/\n=(z2f s).length/\Below w.heap.size w w'
theorem y0X(bb mb B:Nat)(E:List (Int×z0C))(b:z0j)(S:Nat->Prop)(id:Nat)(hid:id<4294967296)(a6:(z0g b id).done.length<=1000000000)(w:World)(h:z0q w bb mb E b B S)(hT:z1u w):
  Calls prog 14 #[.pointer (some ⟨bb,0,none⟩),.int .u32 id] w (y6h (z0g b id) w):=by
 obtain⟨iS,bA,aV,aX,aY⟩:=info_parts y0S;have aZ:=z7 (z9e bb mb B E b S id hid w h);have aJ:=z7 a6;have HT:=z7 hT;clear h a6 hT;go_enter func14,ntmps14;go_wp2_with fail;refine aZ.o.mono ?_;rintro e w1 ⟨X,rfl,hX,aC,hb, -⟩;have HX:=z7 hX;have b7:=z7 aC;have HB:=z7 hb;have b9:X.done.length<=1000000000:=by have:=aJ.o;rw[<-aC,X.done_len]at this;exact this
 have aT:=hX.ok;have aH:=X.parts_len;obtain⟨s0,s1,s2,sf⟩:=hX.cells;have ls:=hX.lts X.sb (.inl rfl);obtain⟨n,hn⟩:=zN X.done.length;rw[<-hn]at s0 b9 aH;have b3:=z7 aT;have aL:=z7 aH;have A:=z7 hb;clear hX aC hb hn aT aH;go_wp2_with fail;go_loopw[5,18] (fun ov kv wr=>∃(k m:Nat) (a:Option Addr) (c:Nat),ov= .slice a m c/\kv= .int .i64 k/\k<=n+1/\Hid (wr.ownsRow w1.heap.size 71 2 (.slice a m c) m (z0T ((X.ser.parts.take k).flatMap fun x=>z2l x.1.st)))/\Hid (m=((X.ser.parts.take k).flatMap fun x=>z2l x.1.st).length)/\Hid (Below w1.heap.size w1 wr)) (fun _ kv _=>match kv with | .int _ y=>n+1 - y.toNat|_=>0)
 case atStart=>exact⟨0,0,none,0,rfl,rfl,Nat.zero_le _,z7 (World.ownsRow_nil _ _ _ _),z7 rfl,z7 (Below.refl _ _)⟩
 case round=>
  obtain⟨k,m,a,c,rfl,rfl,hk,a7,hm,I⟩:=hrel;by_cases hkn:k<n+1
  ·have d1:decide ((k:Int)<(n:Int)+1)=true:=decide_eq_true (by omega);obtain⟨⟨x,cl⟩,a4⟩:∃y,X.parts[k]? =some y:=⟨_,List.getElem?_eq_getElem (by have:=aL.o;omega)⟩;have a2:=HX.o.low I.o;have lg:=a2.lts X.g (.inr (.inl rfl));have aR:=(a2.partOk a4).1;have hc:=z7 (a2.partAt a4 rfl);have bF:(0:Int)<=k/\(k:Int)<(n:Int)+1:=(by omega);have b6:=z7 a4;have L:=z7 aR;have aO:=A.o.trans (I.o.mono A.o.size);have b4:=z7 (HT.o.low aO);clear a2 aR a4 aO;obtain⟨bl,aG⟩:=zN x.b.length;obtain⟨N,hN⟩:=zN x.p.l.length;obtain⟨W2,aB,a1⟩:=((Loc.start wr).new (.cells (x.vals cl).toArray 100)).named;have a0:=z7 a1;have J:=z7 (q0p x.a bl x.c x.p.l x.b W2 (by rw[aG];exact(L.o.rd.now).low a1.low) (by have:=L.o.ok.bits;omega) (b4.o.low a1.low));rw[<-hN]at J;have aD:=z7 aG;have HN:=z7 hN;have a9:Hid (W2.ownsRow w1.heap.size 71 2 (.slice a m c) m (z0T ((X.ser.parts.take k).flatMap fun x=>z2l x.1.st))):=z7 (by rw[aB];exact a7.o.alloc _);have b5:=z7 aB;clear a1 aG hN aB;go_upto_region 5 with(first|refine z0J rfl 100 _ rfl X.g (k*11) rfl _ hc.o z3j z0S ?_|(refine z0f rfl 100 _ _ rfl wr.heap.size 0 rfl (x.vals cl).toArray rfl (by exact z0w (j8 wr _) rfl) (by exact z0y (j8 wr _)) z0S (x.one cl) ?_;rw[z3x _ _ _ _ (by rfl)]))
   refine z0G b5.o ?_;have c0:=z1X (a0.o.get 0 rfl) 0 (.slice x.a bl x.c) (by rw[aD.o];rfl);have c1:=z1X (a0.o.get 0 rfl) 1 (.int .i64 N) (by rw[HN.o];rfl);simp only[Nat.zero_add]at c0 c1;have l2:=a0.o.lt 0 rfl;clear hc;go_wp2_with fail;refine J.o.mono ?_;rintro e w3 ⟨⟨st,av,cv,aU,rfl,Y⟩|⟨bB,rfl⟩,aE⟩
   ·obtain rfl:st=x.p.st:=by
     have:=L.o.ok.rd;rw[aU]at this;exact Option.some.inj this
    have R:=z7 Y;have b0:=z7 (a0.o.call aE);have a8:=z7 (ownsRow_below a9.o aE (Nat.le_refl _));obtain⟨pn,a3⟩:=zN x.p.st.length;rw[<-a3]at R ⊢;have b2:=z7 a3;have bC:pn<=24:=(by rw[a3];exact L.o.ok.len);clear aU Y aE a3 c0 c1 l2 J;go_upto_region 6 with fail
    obtain⟨w4,aI,aA⟩:=(b0.o.new (.cells #[.int .i64 ((z0m z0h x.p.st).n:Nat),.int .i64 (z0m z0h x.p.st).last,.int .i64 (z0m z0h x.p.st).delta,.bool (z0m z0h x.p.st).val.has,.int .u64 ((z0m z0h x.p.st).val.prev:Nat),.int .u8 ((z0m z0h x.p.st).val.lead:Nat),.int .u8 ((z0m z0h x.p.st).val.width:Nat)] 98)).named;refine z0G aI ?_;have aF:Below w3.heap.size w3 w4:=(by rw[aI];exact q5 _ _);have O:=z7 (ownsRow_below a8.o aF (Nat.le_refl _));have aM:=z7 (z0e (ownsRow_below R.o aF (Nat.le_refl _)));have b1:=z7 aA;have bG:m<=24*1000000001:=by
     have h1:=y7p b3.o k;have h2:=hm.o;have h3:k<=1000000001:=(by omega);have:k*24<=1000000001*24:=Nat.mul_le_mul_right _ h3;omega
    have U:Hid (w1.heap.size<=w4.heap.size):=z7 (by have:=I.o.size;have:=aA.low.size;omega);have bH:IntKind.i64.wrap ((k:Int)+1)=((k+1:Nat):Int):=z0n (by omega) (by omega);clear aI aF aA;go_wp2_with (at_builtin;refine z1V rfl _ _ 41 rfl w1.heap.size 71 iS _ 2 16 underlying41 bA aV aX aY rfl (by decide) (.slice a m c) m _ rfl O.o _ pn _ rfl aM.o (z6Q _) (by unfold maxLen;omega) (by omega) U.o ?_;intro v5 w5 h5 aN bE b8;obtain⟨a5,c5,rfl⟩:=z2n h5;(have H5:=z7 h5;have aW:=z7 aN;clear h5 aN bE b8));have aS:Hid (X.ser.parts[k]? =some (x.p,cl)):=z7 (by rw[X.parts_ser,List.getElem?_map,b6.o];rfl);refine⟨⟨k+1,m+pn,a5,c5,rfl,rfl,by omega,?_,?_,?_⟩,by show n+1 - ((k+1:Nat):Int).toNat<n+1 - (k:Int).toNat;omega⟩
    ·rw[y2Z _ _ _ _ aS.o,z4W];exact z7 H5.o
    ·rw[y2Z _ _ _ _ aS.o,List.length_append];refine z7 ?_;rw[<-hm.o,b2.o];show _=m+(z2l x.p.st).length;unfold z2l;rw[List.length_map]
    ·exact z7 ((I.o.trans (b1.o.low.mono I.o.size)).grown aW.o U.o (fun j hj=>(O.o.lt j hj).1))
   ·exact absurd bB (by rw[L.o.ok.rd];simp)
  ·have d1:decide ((k:Int)<(n:Int)+1)=false:=decide_eq_false (by omega);obtain rfl:k=n+1:=by omega
   go_wp2;go_ret;have J:X.ser.parts.take (n+1)=X.ser.parts:=List.take_of_length_le (by rw[X.parts_ser,List.length_map];have:=aL.o;omega);have h1:=a7.o;have h2:=hm.o;rw[J]at h1 h2;rw[<-b7.o];exact⟨a,m,c,rfl,z0c h1 A.o.size,h2,A.o.trans (I.o.mono A.o.size)⟩
structure FrL where
 kind:Nat
 epoch:Nat
 series:Nat
 p:Nat×Nat×Nat
 count:Nat
 closed:Bool
 sum:Nat
 bits:List Bool
def FrL.fr(r:FrL)(b:List UInt8):Fr:=⟨r.kind,r.epoch,r.series,r.p.1,r.p.2.1,r.p.2.2,r.count,r.closed,r.sum,b,(r.bits.length:Nat)⟩
def y0k.frl(r:y0k):FrL:=⟨0,0,r.series,r.p,r.count,r.closed,r.sum,r.bits⟩
theorem y0k.frl_fr(r:y0k)(b:List UInt8):r.frl.fr b=r.fr b:=rfl
structure FrC where
 r:FrL
 a:Option Addr
 c:Nat
 b:List UInt8
def FrC.v(x:FrC):Value:=frV (x.r.fr x.b) (.slice x.a x.b.length x.c)
def FrC.cells(x:FrC):List Value:=(j9 (x.r.fr x.b) (.slice x.a x.b.length x.c)).toList
theorem FrC.cells_len(x:FrC):x.cells.length=11:=rfl
theorem FrC.one(x:FrC):∀u∈x.cells,u.oneCell'=true:=fun u A=>by
 unfold FrC.cells j9 at A;simp only[List.mem_cons,List.not_mem_nil,or_false]at A;rcases A with rfl|rfl|rfl|rfl|rfl|rfl|rfl|rfl|rfl|rfl|rfl<;>rfl
structure FrC.Ok (w:World) (B:Nat) (x:FrC):Prop where
 row:w.ownsRow B 5 1 (.slice x.a x.b.length x.c) x.b.length (z0b x.b)
 bits:z0R x.b x.r.bits
structure z2S (w:World) (B:Nat) (a:Option Addr) (n c:Nat) (xs:List FrC):Prop where
 row:w.ownsRow B 51 11 (.slice a n c) n (xs.flatMap FrC.cells)
 len:n=xs.length
 each:∀x∈xs,x.Ok w B
theorem FrC.Ok.below{w w':World}{B C:Nat}{x:FrC}(h:x.Ok w B)(hb:Below C w w')(A:w.heap.size<=C):x.Ok w' B:=⟨ownsRow_below h.row hb A,h.bits⟩
theorem z2S.low{w w':World}{B:Nat}{a:Option Addr}{n c:Nat}{A:List FrC}(h:z2S w B a n c A)(hb:Below w.heap.size w w'):z2S w' B a n c A:=
 ⟨ownsRow_below h.row hb (Nat.le_refl _),h.len,fun x I=>(h.each x I).below hb (Nat.le_refl _)⟩
theorem z2S.base{w:World}{B A:Nat}{a:Option Addr}{n c:Nat}{L:List FrC}(h:z2S w B a n c L)(I:A<=B):z2S w A a n c L:=
 ⟨z0c h.row I,h.len,fun x J=>⟨z0c (h.each x J).row I,(h.each x J).bits⟩⟩
theorem z2S.nil(w:World)(B:Nat):z2S w B none 0 0 []:=⟨World.ownsRow_nil _ _ _ _,rfl,fun x A=>by cases A⟩
theorem z7v{w:World}{B Y e R s s' n n' k:Nat}{v U:Value}{xs L:List Value}(h:w.ownsRow B e s v n xs)(h':w.ownsRow Y R s' U n' L)(he:e≠R)(J:v.ownBlock=some k):U.ownBlock≠some k:=by
 intro I;rcases h.2 with⟨rfl, -⟩|⟨g,cap,a0,rfl, -,hg, -⟩
 ·cases J
 ·rcases h'.2 with⟨rfl, -⟩|⟨g',N,O,rfl, -,A, -⟩
  ·cases I
  ·simp only[Value.ownBlock,Option.some.injEq]at J I;subst J;subst I;rw[hg]at A;simp only[Option.some.injEq,Obj.cells.injEq]at A;exact he A.2.1
theorem z2S.snoc{w w':World}{B:Nat}{a a':Option Addr}{n c c':Nat}{L:List FrC}{x:FrC}(h:z2S w B a n c L)(O:x.Ok w B)(N:w.grownBy w' (Value.slice a n c).ownBlock)(J:w'.ownsRow B 51 11 (.slice a' (n+1) c') (n+1) (L.flatMap FrC.cells++x.cells)):z2S w' B a' (n+1) c' (L++ [x]):=by
 have I:∀y:FrC,y.Ok w B->y.Ok w' B:=fun y A=>⟨j7 A.row fun k I=>N.block k (A.row.lt k I).2 fun e=>z7v A.row h.row (by decide) I e.symm,A.bits⟩;refine⟨by rw[List.flatMap_append,List.flatMap_singleton];exact J,by rw[List.length_append,List.length_singleton,h.len],fun y A=>?_⟩;rcases List.mem_append.1 A with A|A
 ·exact I y (h.each y A)
 ·rw[List.mem_singleton]at A;subst A;exact I _ O
def z5x(id k:Nat)(x:z0N×Bool):FrL:=⟨0,0,id,(k,0,0),x.1.st.length,x.2,0,x.1.l⟩
def z0A(id:Nat):Nat->List (z0N×Bool)->List FrL
 | _, []=> []
 | k,x::l=>if 0<x.1.st.length then z5x id k x::z0A id (k+1) l else z0A id (k+1) l
def z7R(id:Nat)(s:z0U):List FrL:=z0A id 0 s.parts
theorem z4m(id:Nat):∀(l m:List (z0N×Bool)) (k:Nat),z0A id k (l++m)=z0A id k l++z0A id (k+l.length) m
 | [],m,k=>by simp[z0A]
 | x::l,m,k=>by
  have A:=z4m id l m (k+1);rw[show k+1+l.length=k+(x::l).length by rw[List.length_cons];omega]at A;by_cases h:0<x.1.st.length
  ·rw[List.cons_append,z0A,if_pos h,A,z0A,if_pos h,List.cons_append]
  ·rw[List.cons_append,z0A,if_neg h,A,z0A,if_neg h]
theorem z9X(id:Nat)(l:List (z0N×Bool))(k:Nat)(x:z0N×Bool)(h:l[k]? =some x):z0A id 0 (l.take (k+1))=z0A id 0 (l.take k)++if 0<x.1.st.length then [z5x id k x]else []:=by
 have A:k<l.length:=(List.getElem?_eq_some_iff.1 h).1;rw[List.take_add_one,h,Option.toList_some,z4m,List.length_take,Nat.zero_add,Nat.min_eq_left (by omega)];unfold z0A;split<;>simp[z0A]
theorem y3p(E:List Nat)(I:Nat)(A:Int)(h:∀n,n<E.length->((E.getD n 0:Nat):Int) - I<=A):∀(f n:Nat),n<=E.length->E.length - n<=f->z5K E I A f n=E.length
 | 0,n,h1,h2=>by unfold z5K;omega
 | f+1,n,h1,h2=>by
  unfold z5K;split
  ·rename_i B;exact y3p E I A h f (n+1) B.1 (by omega)
  ·rename_i B;by_cases hn:n<E.length
   ·exact absurd ⟨hn,h n hn⟩ B
   ·omega
theorem q0y(p:z0N):toP p 0=0:=rfl
theorem y2K{s:z0U}(R:s.Ok)(id k:Nat)(x:z0N)(cl:Bool)(B:s.parts[k]? =some (x,cl))(L:0<x.st.length):(z6P s id (k,0,0) (x.l.length:Nat)).frl=z5x id k (x,cl)/\(z6P s id (k,0,0) (x.l.length:Nat)).err=0:=by
 have J:=z0U.parts_small R _ (List.mem_of_getElem? B);simp only at J;have O:z4j s (k,0,0)=some (x,cl):=by
  unfold z4j;simp only[B];rw[if_neg];rintro(h|⟨-,h⟩|h)
  ·omega
  ·omega
  ·exact h (q0y x)
 have I:((k,0,0):Nat×Nat×Nat)≠z2v s:=fun e=>by
  unfold z2v at e;simp only[Prod.mk.injEq]at e;have A:s.parts[k]? =some (s.cur,false):=by
   unfold z0U.parts;rw[e.1,List.getElem?_append_right (by simp)];simp
  rw[B]at A;simp only[Option.some.injEq,Prod.mk.injEq]at A;rw[A.1]at L;omega
 have N:y1P x 0 0 (x.l.length:Nat)=x.st.length:=by
  unfold y1P;have:=y3p (z1p x.st) 0 (x.l.length:Nat) (fun n U=>by
   rw[<-y6f];have:=z9c J (n+1);omega) (x.st.length - (0+1)) (0+1) (by rw[z4u];omega) (by rw[z4u];omega)
  rw[this,z4u]
 unfold z6P;rw[O];simp only;rw[if_neg I];unfold y0k.frl z5x;simp only[N,decide_true,Bool.and_true,y0B J,List.drop_zero,Nat.sub_zero,List.take_length,List.take_zero];exact⟨rfl,trivial⟩
def y7K(id:Nat)(s:z0U)(w:World)(e:Ending)(w':World):Prop:=
 ∃a n c xs,e= .returned (.slice a n c)/\z2S w' w.heap.size a n c xs/\xs.map FrC.r=z7R id s/\Below w.heap.size w w'
theorem y3t(id:Nat):∀(l:List (z0N×Bool)) (k:Nat),(z0A id k l).length<=l.length
 | [],k=>Nat.le_refl _
 | x::l,k=>by
  unfold z0A;have:=y3t id l (k+1);split
  ·simp only[List.length_cons];omega
  ·simp only[List.length_cons];omega
theorem y1p:(prog.info? 51).map (fun i=>(i.zero,i.size,i.bytes))=some (some (.agg z1W),11,72):=by kernel_rfl
theorem q0g(bb mb B:Nat)(E:List (Int×z0C))(b:z0j)(S:Nat->Prop)(id:Nat)(hid:id<4294967296)(aJ:(z0g b id).done.length<=1000000000)(w:World)(h:z0q w bb mb E b B S):
  Calls prog 8 #[.pointer (some ⟨bb,0,none⟩),.int .u32 id] w (y7K id (z0g b id) w):=by
 obtain⟨iF,bZ,bH,bI,bJ⟩:=info_parts y1p;have bL:=z7 (z9e bb mb B E b S id hid w h);have H:=z7 h;have aH:=z7 aJ;clear h aJ;go_enter func8,ntmps8;go_wp2_with fail;refine bL.o.mono ?_;rintro e w1 ⟨X,rfl,hX,aX,hb, -⟩;have HX:=z7 hX;have b7:=z7 aX;have bY:X.done.length<=1000000000:=by have:=aH.o;rw[<-aX,X.done_len]at this;exact this
 have bF:=hX.ok;have aW:=X.parts_len;obtain⟨s0,s1,s2,sf⟩:=hX.cells;have ls:=hX.lts X.sb (.inl rfl);obtain⟨n,hn⟩:=zN X.done.length;rw[<-hn]at s0 bY aW;have bT:=z7 bF;have b4:=z7 aW;have J:=z7 hb;clear hX aX hb hn bF aW;go_wp2_with fail;go_loopw[5,18] (fun ov kv wr=>∃(k m:Nat) (a:Option Addr) (c:Nat),ov= .slice a m c/\kv= .int .i64 (k:Nat)/\k<=n+1/\Hid (∃I,z2S wr w1.heap.size a m c I/\I.map FrC.r=z0A id 0 (X.ser.parts.take k))/\Hid (Below w1.heap.size w1 wr)) (fun _ kv _=>match kv with | .int _ y=>n+1 - y.toNat|_=>0)
 case atStart=>exact⟨0,0,none,0,rfl,rfl,Nat.zero_le _,z7 ⟨[],z2S.nil _ _,rfl⟩,z7 (Below.refl _ _)⟩
 case round=>
  obtain⟨k,m,a,c,rfl,rfl,hk,aL,A⟩:=hrel;have cG:IntKind.i64.wrap ((k:Int)+1)=((k+1:Nat):Int):=z0n (by omega) (by omega);by_cases hkn:k<n+1
  ·have d1:decide ((k:Int)<(n:Int)+1)=true:=decide_eq_true (by omega);obtain⟨⟨x,cl⟩,aA⟩:∃y,X.parts[k]? =some y:=⟨_,List.getElem?_eq_getElem (by have:=b4.o;omega)⟩;have aC:=HX.o.low A.o;have lg:=aC.lts X.g (.inr (.inl rfl));have aG:=(aC.partOk aA).1;have hc:=z7 (aC.partAt aA rfl);have cE:(0:Int)<=k/\(k:Int)<(n:Int)+1:=(by omega);have cB:=z7 aA;have cA:=z7 aG;have b1:Hid (X.ser.parts[k]? =some (x.p,cl)):=z7 (by rw[X.parts_ser,List.getElem?_map,aA];rfl);have aZ:=J.o.trans (A.o.mono J.o.size);obtain⟨W2,b9,aB⟩:=((Loc.start wr).new (.cells (x.vals cl).toArray 100)).named;have a2:=z7 aB;obtain⟨N,hN⟩:=zN x.p.l.length;obtain⟨L,b0⟩:=zN x.p.st.length;have cC:N<=3504:=(by rw[hN];exact aG.ok.bits);have bD:L<=24:=(by rw[b0];exact aG.ok.len);have bN:=z7 (q4O bb mb B E b S id hid k 0 0 (by omega) (by omega) (by omega) (N:Int) (by omega) aH.o W2 (H.o.low (aZ.trans (aB.low.mono aZ.size))));have a8:∃I,z2S W2 w1.heap.size a m c I/\I.map FrC.r=z0A id 0 (X.ser.parts.take k):=(by obtain⟨I,h1,h2⟩:=aL.o;exact⟨I,h1.low aB.low,h2⟩);have a4:=z7 a8;have HN:=z7 hN;have a3:=z7 b0;have bU:=z7 b9;clear aC aG aA aZ aB hN b0 b9 a8;go_upto_region 5 with(first|refine z0J rfl 100 _ rfl X.g (k*11) rfl _ hc.o z3j z0S ?_|(refine z0f rfl 100 _ _ rfl wr.heap.size 0 rfl (x.vals cl).toArray rfl (by exact z0w (j8 wr _) rfl) (by exact z0y (j8 wr _)) z0S (x.one cl) ?_;rw[z3x _ _ _ _ (by rfl)]))
   refine z0G bU.o ?_;have c1:=z1X (a2.o.get 0 rfl) 1 (.int .i64 N) (by rw[HN.o];rfl);have c2:=z1X (a2.o.get 0 rfl) 2 (.slice x.ea L x.ec) (by rw[a3.o];rfl);simp only[Nat.zero_add]at c1 c2;have l2:=a2.o.lt 0 rfl;clear hc;by_cases hp0:0<L
   ·have d2:decide ((0:Int)<(L:Int))=true:=decide_eq_true (by omega);go_wp2_with fail;refine bN.o.mono ?_;rintro e O ⟨U,Y,bc,rfl,a9,a0,aE⟩;obtain⟨a6,aF⟩:=y2K bT.o id k x.p cl b1.o (by rw[<-a3.o];exact hp0);rw[b7.o,<-HN.o]at a6 aF;obtain⟨R,hR⟩:=zN (z6P (z0g b id) id (k,0,0) (N:Int));rw[<-hR]at a6 aF a0 ⊢;obtain⟨⟨D,EB,EC⟩,hD⟩:∃d,d=R.dest:=⟨_,rfl⟩;rw[<-hD,aF];have HR:=z7 a6;have aS:=z7 a9;have aM:=z7 a0;have bO:=z7 (a2.o.call aE);have aR:Hid (∃I,z2S O w1.heap.size a m c I/\I.map FrC.r=z0A id 0 (X.ser.parts.take k)):=z7 (by obtain⟨I,h1,h2⟩:=a4.o;exact⟨I,h1.low aE,h2⟩);have aN:=z7 ((bO.o.new (.cells z1W 51)).new' (.cells #[.int .u32 0,.int .u32 0,.int .u32 0] 45) (n:=O.heap.size+1) (by simp));obtain⟨bl,aY⟩:=zN bc.length;have bC:frV (R.fr bc) (.slice U bc.length Y)= .agg #[.int .u8 0,.int .u32 0,.int .u32 id,.int .u32 (k:Nat),.int .u32 0,.int .u32 0,.int .u32 L,.bool cl,.int .u64 0,.slice U bl Y,.int .i64 N]:=by
     rw[<-y0k.frl_fr,a6];unfold z5x FrL.fr frV j9;simp only;rw[<-a3.o,<-HN.o,aY];rfl
    rw[bC];have bM:=z7 aY;have bW:=z7 (z0w (aN.o.get 1 rfl) (n:=11) rfl);have c8:=z7 (z0y (aN.o.get 1 rfl));obtain⟨KT,bV⟩:=zN (([(wr.heap.size,.cells (x.vals cl).toArray 100 (0,0))]:List (Nat×Obj)));obtain⟨W6,bA,b8⟩:=((z0K.of (S:=fun _=>False) aN.o).lay (K':= [(O.heap.size+1,.cells #[.int .u32 0,.int .u32 0,.int .u32 0] 45 (0,0)),(O.heap.size,.cells #[.int .u8 0,.int .u32 0,.int .u32 id,.int .u32 (k:Nat),.int .u32 0,.int .u32 0,.int .u32 L,.bool cl,.int .u64 0,.slice U bl Y,.int .i64 N] 51 (0,0)),(wr.heap.size,.cells (x.vals cl).toArray 100 (0,0))]) 1 0 [.int .u8 0,.int .u32 0,.int .u32 id,.int .u32 (k:Nat),.int .u32 0,.int .u32 0,.int .u32 L,.bool cl,.int .u64 0,.slice U bl Y,.int .i64 N] rfl rfl rfl rfl).named;have b6:=z7 bA;have aO:=z7 b8;obtain⟨q0,q1,q2,qf⟩:=cells3 (aO.o.get 0 rfl);have lq:=aO.o.lt 0 rfl;have c9:=z7 aE;clear a9 a0 aE b8 bA bC hR hD a6 aF c1 c2 l2 aY bV;go_upto_region 7 with(refine z0f rfl 51 _ _ rfl O.heap.size 0 rfl #[.int .u8 0,.int .u32 0,.int .u32 id,.int .u32 (k:Nat),.int .u32 0,.int .u32 0,.int .u32 L,.bool cl,.int .u64 0,.slice U bl Y,.int .i64 N] rfl bW.o c8.o z0B (by simp[Value.oneCell']) ?_;refine z8L b6.o ?_)
    obtain⟨W7,aU,aT⟩:=(aO.o.lay (K':= [(O.heap.size+1,.cells #[.int .u32 D,.int .u32 EB,.int .u32 EC] 45 (0,0)),(O.heap.size,.cells #[.int .u8 0,.int .u32 0,.int .u32 id,.int .u32 (k:Nat),.int .u32 0,.int .u32 0,.int .u32 L,.bool cl,.int .u64 0,.slice U bl Y,.int .i64 N] 51 (0,0)),(wr.heap.size,.cells (x.vals cl).toArray 100 (0,0))]) 0 0 [.int .u32 D,.int .u32 EB,.int .u32 EC] rfl rfl rfl rfl).named;refine z0G aU ?_;have a7:Below wr.heap.size wr W7:=aT.low.toBelow;have b2:Below O.heap.size O W7:=by
     have h5:Below O.heap.size O ((O.alloc (.cells z1W 51)).alloc (.cells #[.int .u32 0,.int .u32 0,.int .u32 0] 45)):=(q5 _ _).trans ((q5 _ _).mono (by simp));have o6:z0t (fun k=>O.heap.size<=k) ((O.alloc (.cells z1W 51)).alloc (.cells #[.int .u32 0,.int .u32 0,.int .u32 0] 45)) W6:=by
      rw[b6.o];exact z0t.setCells (S:=fun k=>O.heap.size<=k) (Nat.le_refl _) _ _ _
     have o7:z0t (fun k=>O.heap.size<=k) W6 W7:=by
      rw[aU];exact z0t.setCells (S:=fun k=>O.heap.size<=k) (Nat.le_succ _) _ _ _
     exact z0t.below (((z0t.of_below h5).trans o6 fun k hk=> .inl hk).trans o7 fun k hk=> .inl hk) (Nat.le_refl _) (fun k hk=>hk)
    have aD:∃I,z2S W7 w1.heap.size a m c I/\I.map FrC.r=z0A id 0 (X.ser.parts.take k):=(by obtain⟨I,h1,h2⟩:=aR.o;exact⟨I,h1.low b2,h2⟩);have bR:=z7 aT;have bS:=z7 (ownsRow_below aS.o b2 (Nat.le_refl _));have a1:Hid (Below w1.heap.size w1 W7):=z7 (A.o.trans (a7.mono A.o.size));obtain⟨I,hF,bG⟩:=aD;have HF:=z7 hF;have aI:=z7 bG;clear aU aT b2 a7 hF bG q0 q1 q2 qf lq;have aV:Hid (z2S (W7.alloc (.cells #[.int .u8 0,.int .u32 0,.int .u32 id,.int .u32 (k:Nat),.int .u32 0,.int .u32 0,.int .u32 L,.bool cl,.int .u64 0,.slice U bl Y,.int .i64 N] 51)) w1.heap.size a m c I):=z7 (HF.o.low (q5 _ _));have b5:Hid (Rd (W7.alloc (.cells #[.int .u8 0,.int .u32 0,.int .u32 id,.int .u32 (k:Nat),.int .u32 0,.int .u32 0,.int .u32 L,.bool cl,.int .u64 0,.slice U bl Y,.int .i64 N] 51)) (.slice (some ⟨W7.heap.size,0,none⟩) 1 1) 11 1 [.int .u8 0,.int .u32 0,.int .u32 id,.int .u32 (k:Nat),.int .u32 0,.int .u32 0,.int .u32 L,.bool cl,.int .u64 0,.slice U bl Y,.int .i64 N]):=z7 (z3z _ _ _ 1 11 (by decide) rfl);have cF:m<=1000000001:=by
     have h1:=HF.o.len;have h2:(I.map FrC.r).length=I.length:=List.length_map _;rw[aI.o]at h2;have h3:=y3t id (X.ser.parts.take k) 0;have h4:(X.ser.parts.take k).length<=k:=(by rw[List.length_take];omega);omega
    have a5:Hid (w1.heap.size<=(W7.alloc (.cells #[.int .u8 0,.int .u32 0,.int .u32 id,.int .u32 (k:Nat),.int .u32 0,.int .u32 0,.int .u32 L,.bool cl,.int .u64 0,.slice U bl Y,.int .i64 N] 51)).heap.size):=z7 (by have:=a1.o.size;simp;omega);go_wp2_with (first|refine z0J rfl 51 _ rfl O.heap.size 0 rfl #[.int .u8 0,.int .u32 0,.int .u32 id,.int .u32 (k:Nat),.int .u32 0,.int .u32 0,.int .u32 L,.bool cl,.int .u64 0,.slice U bl Y,.int .i64 N] (z1X (bR.o.get 1 rfl)) z1y z0B ?_|(at_builtin;refine z1H rfl _ _ 38 rfl w1.heap.size 51 iF _ 11 72 underlying38 bZ bH bI bJ rfl (by decide) a m c _ rfl aV.o.row _ 1 [.int .u8 0,.int .u32 0,.int .u32 id,.int .u32 (k:Nat),.int .u32 0,.int .u32 0,.int .u32 L,.bool cl,.int .u64 0,.slice U bl Y,.int .i64 N] rfl b5.o (by decide) (by simp[Value.oneCell']) (by unfold maxLen;omega) (by omega) a5.o ?_;intro g5 c5 w5 h5 bE bX;(have H5:=z7 h5;have b3:=z7 bE;clear h5 bE bX)));have c7:FrC.Ok (W7.alloc (.cells #[.int .u8 0,.int .u32 0,.int .u32 id,.int .u32 (k:Nat),.int .u32 0,.int .u32 0,.int .u32 L,.bool cl,.int .u64 0,.slice U bl Y,.int .i64 N] 51)) w1.heap.size ⟨z5x id k (x.p,cl),U,Y,bc⟩:=by
     refine⟨z0c ((bS.o).alloc _) (by have:=A.o.size;have:=a2.o.low.size;omega),?_⟩;have h9:=aM.o;rw[show R.bits=(R.frl).bits from rfl,HR.o]at h9;exact h9
    have c6:=aV.o.snoc c7 b3.o (a':=some ⟨g5,0,none⟩) (c':=c5) (by
     have h9:=H5.o;have e9:FrC.cells ⟨z5x id k (x.p,cl),U,Y,bc⟩= [.int .u8 0,.int .u32 0,.int .u32 id,.int .u32 (k:Nat),.int .u32 0,.int .u32 0,.int .u32 L,.bool cl,.int .u64 0,.slice U bl Y,.int .i64 N]:=by
      unfold FrC.cells z5x FrL.fr j9;simp only;rw[<-a3.o,<-HN.o,bM.o];rfl
     rw[e9];exact h9)
    exact⟨⟨k+1,m+1,some ⟨g5,0,none⟩,c5,rfl,rfl,by omega,z7 ⟨_,c6,by rw[List.map_append,aI.o,z9X id _ _ _ b1.o,if_pos (by rw[<-a3.o];exact hp0)];rfl⟩,z7 ((a1.o.trans ((q5 _ _).mono a1.o.size)).grown b3.o a5.o (fun j hj=>(aV.o.row.lt j hj).1))⟩,by show n+1 - ((k+1:Nat):Int).toNat<n+1 - (k:Int).toNat;omega⟩
   ·have d2:decide ((0:Int)<(L:Int))=false:=decide_eq_false (by omega);go_wp2;obtain⟨I,h1,h2⟩:=a4.o;exact⟨⟨k+1,m,a,c,rfl,rfl,by omega,z7 ⟨I,h1,by rw[h2,z9X id _ _ _ b1.o,if_neg (by rw[<-a3.o];exact hp0),List.append_nil]⟩,z7 (A.o.trans (a2.o.low.mono A.o.size))⟩,by show n+1 - ((k+1:Nat):Int).toNat<n+1 - (k:Int).toNat;omega⟩
  ·have d1:decide ((k:Int)<(n:Int)+1)=false:=decide_eq_false (by omega);obtain rfl:k=n+1:=by omega
   go_wp2;go_ret;have bB:X.ser.parts.take (n+1)=X.ser.parts:=List.take_of_length_le (by rw[X.parts_ser,List.length_map];have:=b4.o;omega);obtain⟨I,h1,h2⟩:=aL.o;rw[bB]at h2;rw[<-b7.o];exact⟨a,m,c,I,rfl,h1.base J.o.size,h2,J.o.trans (A.o.mono J.o.size)⟩
def knF:Fr:=⟨2,1,5,0,0,0,1,false,0,List.replicate 16 0,128⟩
def knL:List Bool:=List.replicate 128 false
def knS:FsS:=(z2F (z6U 9000) z1R).2.1
def knK:Int×List Bs×z0j×Nat×FsS:=tkS ⟨2,4, []⟩ 0 knS knF knL
theorem y7Z:(z2F (z6U 9000) z1R).1=0/\(z2F (z6U 9000) z1R).2.2= []:=by decide+kernel
theorem q1K:z1D knF=true:=by decide+kernel
theorem q3E:z3d ⟨2,4, []⟩ 0 knF knL=(0,0,1):=by decide+kernel
theorem q0G:(wrS knS (z3y knF knL)).1=0:=by decide+kernel
theorem q5a:z3d (takeB ⟨2,4, []⟩ knF knL) 1 knF knL=(0,4,1):=by decide+kernel
theorem q4R:(z2f (z0g (takeB ⟨2,4, []⟩ knF knL) 5)).length=1:=by decide+kernel
theorem q6l:knK=(0, [z6N (z5u (takeB ⟨2,4, []⟩ knF knL) 4 1 5)],takeB ⟨2,4, []⟩ knF knL,1,(wrS knS (z3y knF knL)).2):=by
 unfold knK tkS;rw[q3E];simp only;rw[if_neg (by simp),if_neg (by simp),if_neg (by rw[q0G];simp)];rfl
theorem q5M:tkS (takeB ⟨2,4, []⟩ knF knL) 1 (wrS knS (z3y knF knL)).2 knF knL=(0, [z6N (z5u (takeB ⟨2,4, []⟩ knF knL) 4 1 5)],takeB ⟨2,4, []⟩ knF knL,1,(wrS knS (z3y knF knL)).2):=by
 unfold tkS;rw[q5a];simp only;rw[if_neg (by simp),if_pos (by simp)];rfl
theorem q3G:(z0g (takeB ⟨2,4, []⟩ knF knL) 5).done.length<=1:=by decide+kernel

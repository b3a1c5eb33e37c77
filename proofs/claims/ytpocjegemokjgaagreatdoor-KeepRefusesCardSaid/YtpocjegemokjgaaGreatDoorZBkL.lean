/-
  What a book's Cut tells (plain), and its walk.
-/
import Derived.Test.YtpocjegemokjgaaGreatDoorZBkIBkJRoBBkK
import Derived.Deep.CutBlock
namespace Go.Proofs.YtpocjegemokjgaaGreatDoor
open Go.Proofs.Tryz
set_option linter.all false
set_option maxRecDepth 100000
set_option maxHeartbeats 12800000
open Go.RowKit Go.Maps
def z5K(E:List Nat)(pb:Nat)(most:Int):Nat->Nat->Nat
 | 0,n=>n
 | f+1,n=>if n<E.length/\((E.getD n 0:Nat):Int) - pb<=most then z5K E pb most f (n+1)else n
theorem z8m(E:List Nat)(B:Nat)(A:Int):∀(f n:Nat),n<=E.length->n<=z5K E B A f n/\z5K E B A f n<=E.length
 | 0,n,h=>⟨Nat.le_refl _,h⟩
 | f+1,n,h=>by
  unfold z5K;split
  ·rename_i I;have:=z8m E B A f (n+1) I.1;omega
  ·exact⟨Nat.le_refl _,h⟩
def y1P(x:z0N)(pb pc:Nat)(most:Int):Nat:=z5K (z1p x.st) pb most (x.st.length - (pc+1)) (pc+1)
structure y0k where
 err:Nat
 series:Nat
 p:Nat×Nat×Nat
 count:Nat
 closed:Bool
 bits:List Bool
 sum:Nat
 dest:Nat×Nat×Nat
def z6P(s:z0U)(id:Nat)(p:Nat×Nat×Nat)(most:Int):y0k:=
 match z4j s p with
 | none=>⟨122,0,(0,0,0),0,false, [],0,(0,0,0)⟩
 | some (x,cl)=>
  if p=z2v s then⟨0,0,(0,0,0),0,false, [],0,p⟩
  else
   ⟨0,id,p,y1P x p.2.1 p.2.2 most,cl&&decide (y1P x p.2.1 p.2.2 most=x.st.length),(x.l.drop p.2.1).take (toP x (y1P x p.2.1 p.2.2 most) - p.2.1),z3r 0 (x.l.take p.2.1),
    if(cl&&decide (y1P x p.2.1 p.2.2 most=x.st.length))=true then(p.1+1,0,0)else(p.1,toP x (y1P x p.2.1 p.2.2 most),y1P x p.2.1 p.2.2 most)⟩
def y0k.fr(r:y0k)(b:List UInt8):Fr:=⟨0,0,r.series,r.p.1,r.p.2.1,r.p.2.2,r.count,r.closed,r.sum,b,(r.bits.length:Nat)⟩
def q3K(r:y0k)(w:World)(e:Ending)(w':World):Prop:=
 ∃a c b,e= .returned (.tuple #[frV (r.fr b) (.slice a b.length c),z4z r.dest,.int .u16 (r.err:Nat)])/\w'.ownsRow w.heap.size 5 1 (.slice a b.length c) b.length (z0b b)/\z0R b r.bits/\Below w.heap.size w w'
theorem z4u(A:List z1d):(z1p A).length=A.length:=by unfold z1p;rw[List.length_map]
theorem y0B{p:z0N}(h:p.Ok):toP p p.st.length=p.l.length:=by
 have A:=(z3C h.rd).2.2.1;unfold toP z6u at*;cases hs:p.st.getLast? with
 | none=>
  rw[List.getLast?_eq_none_iff]at hs;rw[hs]at A ⊢;simpa using A
 | some x=>
  rw[hs]at A;have B:p.st≠ []:=fun e=>by rw[e]at hs;cases hs
  have I:0<p.st.length:=List.length_pos_iff.2 B;rw[if_neg (by omega)];unfold z1p;rw[List.getElem?_map,<-List.getLast?_eq_getElem?,hs];simpa using A
theorem y4r{p:z0N}(h:p.Ok){n m:Nat}(I:n<=m)(N:m<=p.st.length):toP p n<=toP p m:=by
 unfold toP;by_cases h0:n=0
 ·rw[if_pos h0];exact Nat.zero_le _
 ·rw[if_neg h0,if_neg (by omega)];by_cases e:n=m
  ·rw[e];exact Nat.le_refl _
  ·have J:=(z3C h.rd).2.2.2.2;have A:n - 1<p.st.length:=(by omega);have B:m - 1<p.st.length:=(by omega);have L:=(List.pairwise_iff_getElem.1 J (n - 1) (m - 1) A B (by omega)).1;unfold z1p;rw[List.getElem?_map,List.getElem?_map,List.getElem?_eq_getElem A,List.getElem?_eq_getElem B];show p.st[n - 1].at_<=p.st[m - 1].at_;omega
theorem y6f(p:z0N)(n:Nat):toP p (n+1)=(z1p p.st).getD n 0:=by
 unfold toP;rw[if_neg (by omega),Nat.add_sub_cancel,List.getD_eq_getElem?_getD]
theorem y3r{s:z0U}(O:s.Ok){p:Nat×Nat×Nat}{x:z0N}{cl:Bool}(h:z4j s p=some (x,cl))(J:p≠z2v s):p.2.2<x.st.length:=by
 obtain⟨A,L,N,I⟩:=z8A h;refine Nat.lt_of_le_of_ne L fun e=>?_;cases cl with
 | true=>exact N ⟨rfl,e⟩
 | false=>
  have B:p.1=s.done.length/\x=s.cur:=by
   unfold z0U.parts at A;by_cases hlt:p.1<s.done.length
   ·rw[List.getElem?_append_left (by simpa using hlt),List.getElem?_map,List.getElem?_eq_getElem hlt]at A;simp at A
   ·rw[List.getElem?_append_right (by simp;omega)]at A;simp only[List.length_map]at A;by_cases e0:p.1 - s.done.length=0
    ·rw[e0]at A;simp only[List.getElem?_cons_zero,Option.some.injEq,Prod.mk.injEq,and_true]at A;exact⟨by omega,A.symm⟩
    ·rw[List.getElem?_eq_none (by simp;omega)]at A;cases A
  refine J ?_;obtain⟨R,p2,p3⟩:=p;simp only at B e I;rw[e,B.2,y0B O.cur]at I;unfold z2v;rw[B.1,<-I,e,B.2]
def q5R(B:Nat)(L:List Bool)(p:Array Value)(w:World):Prop:=∃a b c,p= #[.slice a b.length c,.int .i64 (L.length:Nat)]/\w.ownsRow B 5 1 (.slice a b.length c) b.length (z0b b)/\z0R b L
theorem z1y:(prog.underlying 51).map z7t=some true:=by kernel_rfl
theorem z0B:(prog.info? 51).map (·.size)=some 11:=by kernel_rfl
theorem z7Q:(prog.underlying 45).map z7t=some true:=by kernel_rfl
theorem z3b:(prog.info? 45).map (·.size)=some 3:=by kernel_rfl
abbrev z1W:Array Value:= #[.int .u8 0,.int .u32 0,.int .u32 0,.int .u32 0,.int .u32 0,.int .u32 0,.int .u32 0,.bool false,.int .u64 0,.slice none 0 0,.int .i64 0]
theorem y0K:z1W.all (·.oneCell')=true:=by simp[Value.oneCell']
theorem q4O(bb mb B:Nat)(E:List (Int×z0C))(b:z0j)(S:Nat->Prop)(id:Nat)(hid:id<4294967296)(J O R:Nat)(h1:J<4294967296)(h2:O<4294967296)(h3:R<4294967296)(U:Int)(hm: -9223372036854775808<=U/\U<=9223372036854775807)(bJ:(z0g b id).done.length<=1000000000)(w:World)(h:z0q w bb mb E b B S):
  Calls prog 25 #[.pointer (some ⟨bb,0,none⟩),.int .u32 id,z4z (J,O,R),.int .i64 U] w (q3K (z6P (z0g b id) id (J,O,R) U) w):=by
 have d3:=z7 ((((Loc.start w).new (.cells #[.int .u32 J,.int .u32 O,.int .u32 R] 45)).new' (.cells z1W 51) (n:=w.heap.size+1) (by simp)).new' (.cells #[.int .u32 0,.int .u32 0,.int .u32 0] 45) (n:=w.heap.size+1+1) (by simp));have H:=z7 h;have d0:=z7 bJ;have e2:=z7 (z9e bb mb B E b S id hid _ (h.low d3.o.low));have d7:=z7 (fun w' h'=>y7M bb mb B E b S id hid J O R h1 h2 h3 bJ w' h');clear h bJ;go_enter func25,ntmps25;go_wp2_with fail;refine e2.o.mono ?_;rintro e w1 ⟨X,rfl,hX,cL,hb,dY⟩;have dE:Hid (∀k,X.In k->k<w.heap.size\/w.heap.size+1+1<k):=z7 fun k Y=>by
  rcases dY with h|⟨-,h⟩
  ·exact .inl (H.o.lo k ((H.o.each _ (z1z h)).2 k Y).1).2
  ·have:=h k Y;have h0:((w.alloc (.cells #[.int .u32 J,.int .u32 O,.int .u32 R] 45)).alloc (.cells z1W 51)).heap.size=w.heap.size+1+1:=(by simp);simp at this;exact .inr (by omega)
 clear dY;have bS:=z7 (d3.o.call hb);have eA:=z7 hX;have bT:=z7 cL;obtain⟨p0,p1,p2,pf⟩:=cells3 (bS.o.get 2 rfl);have l0:=bS.o.lt 2 rfl;have dW:X.done.length<=1000000000:=by have:=d0.o;rw[<-cL,X.done_len]at this;exact this
 have dV:=z7 (y8e X dW J O R h1 h2 h3 w1 hX);clear hb hX cL;go_wp2_with fail;refine dV.o.mono ?_;rintro e w2 ⟨⟨dT,rfl⟩|⟨x,cl,dD,aG,fH,rfl⟩,hb⟩
 ·have aC:=z7 (bS.o.call hb);have aS:Hid (z6P (z0g b id) id (J,O,R) U=⟨122,0,(0,0,0),0,false, [],0,(0,0,0)⟩):=z7 (by unfold z6P;rw[<-bT.o,dT]);clear dT hb p0 p1 p2 pf;obtain⟨q0,q1,q2,qf⟩:=cells3 (aC.o.get 0 rfl);have l1:=aC.o.lt 0 rfl;go_upto_region 4 with fail
  obtain⟨W3,dI,dG⟩:=((z0K.of (S:=fun _=>False) aC.o).lay (K':= [(w.heap.size+1+1,.cells #[.int .u32 0,.int .u32 0,.int .u32 0] 45 (0,0)),(w.heap.size+1,.cells z1W 51 (0,0)),(w.heap.size,.cells #[.int .u32 J,.int .u32 O,.int .u32 R] 45 (0,0))]) 1 0 z1W.toList rfl rfl rfl rfl).named;have a0:=z7 dG;have e9:=z7 dI;have eO:=z7 (z0w (aC.o.get 1 rfl) (n:=11) rfl);have eH:=z7 (z0y (aC.o.get 1 rfl));have eR:=z7 (z0w (a0.o.get 0 rfl) (n:=3) rfl);have eI:=z7 (z0y (a0.o.get 0 rfl));clear dG dI q0 q1 q2 qf;go_wp2_with (first|(refine z0f rfl 51 _ _ rfl (w.heap.size+1) 0 rfl z1W rfl eO.o eH.o z0B y0K ?_;refine z8L e9.o ?_)|(refine z0f rfl 45 _ _ rfl (w.heap.size+1+1) 0 rfl #[.int .u32 0,.int .u32 0,.int .u32 0] rfl eR.o eI.o z3b (by simp[Value.oneCell']) ?_));have cE:=a0.o.lay (K':= [(w.heap.size+1+1,.cells #[.int .u32 0,.int .u32 0,.int .u32 0] 45 (0,0)),(w.heap.size+1,.cells z1W 51 (0,0)),(w.heap.size,.cells #[.int .u32 J,.int .u32 O,.int .u32 R] 45 (0,0))]) 0 0 [.int .u32 0,.int .u32 0,.int .u32 0] rfl rfl rfl rfl;refine bodyPost_ret (y0z rfl rfl (cE.get 1 rfl) z1y z0B rfl (cE.get 0 rfl) z7Q z3b) rfl ?_;rw[aS.o];exact⟨none,0, [],rfl,World.ownsRow_nil _ _ _ _,z0R.nil,cE.low.toBelow⟩
 ·have aC:=z7 (bS.o.call hb);have d8:=z7 (eA.o.low hb);have aA:=z7 dD;have b8:=z7 aG;have bH:=z7 (fun w' h'=>y6r X dW w' h');obtain⟨⟨D,EB,EC⟩,cC⟩:∃e,e=z2v X.ser:=⟨_,rfl⟩;rw[<-cC]at bH;obtain⟨cY,bW⟩:=zN (decide ((J,O,R)=(D,EB,EC)));have HE:=z7 bW.symm;have c7:=z7 cC;clear dD aG hb p0 p1 p2 pf l0 dV cC bW;go_upto_region 5 with fail
  refine q6 5 119 (fun D v w'=>Below w2.heap.size w2 w') (Below.refl _ _).drew ?_;simp only[z0v];iterate 2 (refine q8.rd (e:=?_) (fun D v w' I A=>?_) ?_;rotate_left;(obtain⟨p0,p1,p2,pf⟩:=cells3 ((aC.o.call A).get 2 rfl);have l0:=(aC.o.call A).lt 2 rfl;clear A I;go_simp;try with_reducible rfl);go_simp)
  refine q8.ca (z4z (D,EB,EC)) (fun D v w' I A=>?_) ?_;(focus (have HZ:=z7 A;clear A I;skip;go_simp;go_at_call 55;refine(bH.o w' (d8.o.low HZ.o)).mono ?_;rintro e cD ⟨rfl,hb⟩;exact⟨rfl,HZ.o.trans (hb.mono HZ.o.size)⟩));go_simp;refine q8.rl (.bool cY) (fun D v w h=>h) (fun _ v w' I A=>z4G _ _ _ rfl (J,O,R) (D,EB,EC) rfl rfl cY HE.o) ?_;go_simp;iterate 1 (refine q8.rd (e:=?_) (fun D v w' I A=>?_) ?_;rotate_left;(clear A I;go_simp;try with_reducible rfl);go_simp)
  refine q8.fin (fun v w3 A=>?_);have a0:=z7 (aC.o.call A);have bA:=z7 (d8.o.low A);clear A bH;cases cY with
  | true=>
   have aS:Hid (z6P (z0g b id) id (J,O,R) U=⟨0,0,(0,0,0),0,false, [],0,(J,O,R)⟩):=z7 (by
    unfold z6P;rw[<-bT.o,b8.o];simp only;rw[if_pos];rw[<-c7.o];exact of_decide_eq_true HE.o)
   go_upto_region 6 with fail
   refine q6 5 119 (fun D v w'=>z6a w3 (w.heap.size+1) (w.heap.size+1+1) 51 45 z1W z1W #[.int .u32 0,.int .u32 0,.int .u32 0] #[.int .u32 J,.int .u32 O,.int .u32 R] 2 3 D w') (z6a.start (a0.o.get 1 rfl) (a0.o.get 0 rfl)) ?_;simp only[z0v];have a8:¬(w.heap.size+1=w.heap.size+1+1):=(by omega);have dU:Hid (∀w',z0t (fun k=>k=w.heap.size+1\/k=w.heap.size+1+1) w3 w'->w'.heap[w.heap.size]? =some (.cells #[.int .u32 J,.int .u32 O,.int .u32 R] 45 (0,0))):=z7 fun w' ho=>(ho.block _ (a0.o.lt 2 rfl) (by omega)).trans (a0.o.get 2 rfl);iterate 2 (refine q8.rl (e:=?_) (fun D v w h=>h.other _ (by decide) (by decide) (Below.refl _ _)) (fun D v w' I A=>?_) ?_;rotate_left;(obtain⟨p0,p1,p2,pf⟩:=cells3 (dU.o w' A.low);have l0:=(Array.getElem?_eq_some_iff.1 (dU.o w' A.low)).1;clear A I;go_simp;try with_reducible rfl);go_simp)
   refine q8.ca undef (fun D v w' I A=>?_) ?_
   ·exact z1P _ _ _ rfl (w.heap.size+1) 0 rfl z1W rfl (A.size1 rfl) (z0y A.b1) z0B y0K ⟨undef,rfl,rfl,A.st1 a8 (by decide) rfl⟩
   go_simp;refine q8.ca undef (fun D v w' I A=>?_) ?_
   ·exact z1P _ _ _ rfl (w.heap.size+1+1) 0 rfl #[.int .u32 J,.int .u32 O,.int .u32 R] rfl (A.size2 rfl) (z0y A.b2) z3b (by simp[Value.oneCell']) ⟨undef,rfl,rfl,A.st2 a8 (by decide) rfl⟩
   go_simp;iterate 1 (refine q8.rl (e:=?_) (fun D v w h=>h.other _ (by decide) (by decide) (Below.refl _ _)) (fun D v w' I A=>?_) ?_;rotate_left;(clear A I;go_simp;try with_reducible rfl);go_simp)
   refine q8.fin (fun v w4 A=>?_);have a6:=A.b1;have a7:=A.b2;have a5:=A.low;simp only[show decide (2<5)=true from rfl,show decide (3<5)=true from rfl,if_true]at a6 a7;have b3:=z7 a6;have b4:=z7 a7;have aT:=z7 a5;clear A a6 a7 a5;go_wp2;refine bodyPost_ret (y0z rfl rfl b3.o z1y z0B rfl b4.o z7Q z3b) rfl ?_;rw[aS.o];exact⟨none,0, [],rfl,World.ownsRow_nil _ _ _ _,z0R.nil,a0.o.low.trans (aT.o.below a0.o.low.size (fun k Y=>by omega))⟩
  | false=>
   have dJ:=bA.o.ok;have bN:=y3r dJ b8.o (by rw[<-c7.o];exact of_decide_eq_false HE.o);have cS:=(bA.o.partOk aA.o).1;have dZ:=cS.ok.len;obtain⟨pn,aV⟩:=zN x.p.st.length;obtain⟨EN,aW⟩:=zN (z1p x.p.st);have aY:EN.length=pn:=(by rw[aW,aV,z4u]);simp only at bN;rw[<-aV]at bN dZ;have d6:=z7 aV;have fA:=z7 aW;have dH:Hid (∀n,n<pn->EN.getD n 0<=3504):=z7 fun n hn=>by rw[aW,<-y6f];exact q1y cS.ok _
   have aE:Hid (∀w',Below w3.heap.size w3 w'->X.g<w'.heap.size/\w'.cell? ⟨X.g,J*11+2,none⟩=some (.slice x.ea pn x.ec)/\w'.cell? ⟨X.g,J*11+3+7,none⟩=some (.bool cl)):=z7 fun w' hb=>by
    have h1:=bA.o.low hb;exact⟨h1.lts X.g (.inr (.inl rfl)),by rw[aV];exact h1.partAt aA.o rfl 2 _ rfl,h1.partAt aA.o rfl 10 _ rfl⟩
   have bI:Hid (∀w',Below w3.heap.size w3 w'->∀n,n<pn->∃ad,x.ea=some ad/\w'.cell? (ad.add n)=some (.int .i64 ((EN.getD n 0:Nat):Int))):=z7 fun w' hb n hn=>by
    have h1:=((bA.o.low hb).partOk aA.o).1.ends.now;rw[<-aV,<-aW]at h1;rcases h1.2 with⟨-,h2⟩|⟨ad,cp,h2,h3⟩
    ·omega
    ·simp only[Value.slice.injEq,true_and]at h2;refine⟨ad,h2.1,h3 n _ ?_⟩;unfold z2p;rw[List.getElem?_map,List.getElem?_eq_getElem (by omega),List.getD_eq_getElem?_getD,List.getElem?_eq_getElem (by omega)];rfl
   obtain⟨M,hM⟩:=zN (y1P x.p O R U);have cF:z5K EN O U (pn - (R+1)) (R+1)=M:=(by rw[hM];unfold y1P;rw[aW,aV]);have HM:=z7 hM;have eS:IntKind.i64.wrap (R:Int)=(R:Int):=(by rw[IntKind.wrap_i64];omega);have eT:IntKind.i64.wrap ((R:Int)+1)=((R:Int)+1):=(by rw[IntKind.wrap_i64];omega);have eY:IntKind.i64.wrap (O:Int)=(O:Int):=(by rw[IntKind.wrap_i64];omega);obtain⟨p0,p1,p2,pf⟩:=cells3 (a0.o.get 2 rfl);have l0:=a0.o.lt 2 rfl;clear dJ cS aV aW hM
   go_upto_block 1 with fail
   go_cut[13] (fun nv wx=>nv= .int .i64 (M:Nat)/\Hid (Below w3.heap.size w3 wx))
   case first=>
    go_wp2_with fail;go_loopw[13] (fun nv wr=>∃n:Nat,nv= .int .i64 (n:Nat)/\z5K EN O U (pn - n) n=M/\R+1<=n/\n<=pn/\Hid (Below w3.heap.size w3 wr)) (fun nv _=>match nv with | .int _ y=>pn - y.toNat|_=>0)
    case atStart=>exact⟨R+1,rfl,cF,Nat.le_refl _,by omega,z7 (Below.refl _ _)⟩
    case round=>
     obtain⟨n,rfl,hG,fF,fG,hb⟩:=hrel;obtain⟨lg,c2,cA⟩:=aE.o wr hb.o;clear p0 p1 p2 pf l0;obtain⟨p0,p1,p2,pf⟩:=cells3 ((a0.o.call hb.o).get 2 rfl);have l0:=(a0.o.call hb.o).lt 2 rfl;have cN:=z7 hb;by_cases hnl:n<pn
     ·obtain⟨ad,dR,dM⟩:=bI.o wr hb.o n hnl;have fN:=World.block_lt_of_cell? _ _ dM;have eE:=dH.o n hnl;obtain⟨T,hT⟩:=zN (EN.getD n 0);rw[<-hT]at dM eE;rw[dR]at c2;have d1:decide ((n:Int)<(pn:Int))=true:=decide_eq_true (by omega);have fE:(0:Int)<=n/\(n:Int)<pn:=(by omega);have fM:IntKind.i64.wrap ((T:Int) - (O:Int))=(T:Int) - (O:Int):=(by rw[IntKind.wrap_i64];omega);have fL:IntKind.i64.wrap ((n:Int)+1)=((n+1:Nat):Int):=z0n (by omega) (by omega);have HG:=z7 hG;have HT:=z7 hT;have cW:=z7 aY;clear dR hT hG aY hb;by_cases hle:(T:Int) - (O:Int)<=U
      ·have d2:decide ((T:Int) - (O:Int)<=U)=true:=decide_eq_true hle;have hf:z5K EN O U (pn - (n+1)) (n+1)=M:=by
        have h9:=HG.o;rw[show pn - n=(pn - (n+1))+1 by omega,z5K,if_pos ⟨by rw[cW.o];exact hnl,by rw[<-HT.o];exact hle⟩]at h9;exact h9
       have HF:=z7 hf;clear hf;go_wp2_with fail;go_quiet (fail)
       go_wp2;exact⟨⟨n+1,rfl,HF.o,by omega,by omega,z7 (z0k cN.o.o)⟩,by show pn - ((n+1:Nat):Int).toNat<pn - (n:Int).toNat;omega⟩
      ·have d2:decide ((T:Int) - (O:Int)<=U)=false:=decide_eq_false hle;have hf:n=M:=by
        have h9:=HG.o;rw[show pn - n=(pn - (n+1))+1 by omega,z5K,if_neg (by rintro⟨-,h⟩;rw[<-HT.o]at h;exact hle h)]at h9;exact h9
       have HF:=z7 hf;clear hf;go_wp2_with fail;go_quiet (fail)
       go_wp2;go_meet
       exact⟨by rw[HF.o],z7 (z0k cN.o.o)⟩
     ·have d1:decide ((n:Int)<(pn:Int))=false:=decide_eq_false (by omega);have hf:n=M:=by
       have e0:pn - n=0:=(by omega);rw[e0,z5K]at hG;exact hG
      have HF:=z7 hf;clear hf hG hb;go_wp2_with fail;go_quiet (fail)
      go_wp2;go_meet
      exact⟨by rw[HF.o],z7 (z0k cN.o.o)⟩
   case rest=>
    obtain⟨rfl,bE⟩:=hcut;have hM:=z8m EN O U (pn - (R+1)) (R+1) (by omega);rw[cF,aY]at hM;have a4:=z7 (a0.o.call bE.o);have d9:=z7 (bA.o.low bE.o);have eW:=z7 (H.o.low a4.o.low);obtain⟨cd,dL⟩:=zN ((cl&&decide (M=pn)));have fI:IntKind.u32.wrap (M:Int)=(M:Int):=(by rw[IntKind.wrap_u32];omega);have aM:Hid (∀w',Below wc.heap.size wc w'->X.g<w'.heap.size/\w'.cell? ⟨X.g,J*11+2,none⟩=some (.slice x.ea pn x.ec)/\w'.cell? ⟨X.g,J*11+3+7,none⟩=some (.bool cl)):=z7 fun w' hb=>aE.o w' (bE.o.trans (hb.mono bE.o.size));have c6:=z7 dL;clear dL bE p0 p1 p2 pf l0 cF aY bI aE eS eT;go_upto_region 10 with fail
    go_cut[14] (fun u wx=>Hid (∃g,u= .pointer (some ⟨g,0,none⟩)/\Loc w [(g,.cells #[.int .u8 0,.int .u32 0,.int .u32 id,.int .u32 J,.int .u32 O,.int .u32 R,.int .u32 (M:Nat),.bool cd,.int .u64 0,.slice none 0 0,.int .i64 0] 51 (0,0)),(w.heap.size+1+1,.cells #[.int .u32 0,.int .u32 0,.int .u32 0] 45 (0,0)),(w.heap.size+1,.cells z1W 51 (0,0)),(w.heap.size,.cells #[.int .u32 J,.int .u32 O,.int .u32 R] 45 (0,0))] wx/\Below wc.heap.size wc wx/\wc.heap.size<=g))
    case first=>
     cases cl with
     | false=>
      have dN:cd=false:=(by rw[c6.o];rfl);have e4:=z7 dN;clear dN;refine q6 19 119 (fun D v w'=>AlS wc 18 51 z1W D v w') (AlS.start _ _ _ _) ?_;simp only[z0v];iterate 9 (refine q8.rl (e:=?_) (fun D v w h=>⟨h.low,h.made⟩) (fun D v w' I A=>?_) ?_;rotate_left;(obtain⟨p0,p1,p2,pf⟩:=cells3 ((a4.o.call A.low).get 2 rfl);have l0:=(a4.o.call A.low).lt 2 rfl;obtain⟨lg,c2,cA⟩:=aM.o w' A.low;clear A I;go_simp;try with_reducible rfl);go_simp)
      iterate 7 (refine q8.sk (fun D v w h=>⟨h.low,h.made⟩) ?_;go_simp)
      iterate 2 (refine q8.rl (e:=?_) (fun D v w h=>⟨h.low,h.made⟩) (fun D v w' I A=>?_) ?_;rotate_left;(clear A I;go_simp;try with_reducible rfl);go_simp)
      refine q8.re (fun D v w' I A=>?_) ?_
      ·have aU:=z7 A.make;clear A I;go_simp;exact aU.o
      go_simp;refine q8.fin (fun v w5 A=>?_);obtain⟨g,hv,bM,aN⟩:=A.made rfl;rw[hv];have aI:=a4.o.call A.low;have aJ:=(z0K.of (S:=fun _=>False) aI).cons aN (by have:=a4.o.low.size;omega) (fun q hq=>by have:=a4.o.lts hq;omega);have a1:=z7 aJ;have b7:=z7 A.low;have b6:=z7 bM;clear A hv bM aN aI aJ;have cU:=z7 (z0w (a1.o.get 0 rfl) (n:=11) rfl);have cO:=z7 (z0y (a1.o.get 0 rfl));go_wp2_with (refine z0f rfl 51 _ _ rfl g 0 rfl #[.int .u8 0,.int .u32 0,.int .u32 id,.int .u32 J,.int .u32 O,.int .u32 R,.int .u32 (M:Nat),.bool false,.int .u64 0,.slice none 0 0,.int .i64 0] rfl cU.o cO.o z0B (by simp[Value.oneCell']) ?_);go_meet
      rw[e4.o];exact z7 ⟨g,rfl,(a1.o.lay (K':= [(g,.cells #[.int .u8 0,.int .u32 0,.int .u32 id,.int .u32 J,.int .u32 O,.int .u32 R,.int .u32 (M:Nat),.bool false,.int .u64 0,.slice none 0 0,.int .i64 0] 51 (0,0)),(w.heap.size+1+1,.cells #[.int .u32 0,.int .u32 0,.int .u32 0] 45 (0,0)),(w.heap.size+1,.cells z1W 51 (0,0)),(w.heap.size,.cells #[.int .u32 J,.int .u32 O,.int .u32 R] 45 (0,0))]) 0 0 [.int .u8 0,.int .u32 0,.int .u32 id,.int .u32 J,.int .u32 O,.int .u32 R,.int .u32 (M:Nat),.bool false,.int .u64 0,.slice none 0 0,.int .i64 0] rfl rfl rfl rfl).toLoc,z0t.below ((z0t.of_below (S:=fun k=>k=g) b7.o).trans (z0t.setCells (S:=fun k=>k=g) rfl _ 0 _) fun k Y=> .inl Y) (Nat.le_refl _) (fun k Y=>by have:=b6.o;omega),b6.o⟩
     | true=>
      have e5:=z7 (show decide (M=pn)=cd by rw[c6.o,Bool.true_and]);refine q6 19 119 (fun D v w'=>AlS wc 18 51 z1W D v w') (AlS.start _ _ _ _) ?_;simp only[z0v];iterate 9 (refine q8.rl (e:=?_) (fun D v w h=>⟨h.low,h.made⟩) (fun D v w' I A=>?_) ?_;rotate_left;(obtain⟨p0,p1,p2,pf⟩:=cells3 ((a4.o.call A.low).get 2 rfl);have l0:=(a4.o.call A.low).lt 2 rfl;obtain⟨lg,c2,cA⟩:=aM.o w' A.low;clear A I;go_simp;try with_reducible rfl);go_simp)
      iterate 6 (refine q8.rl (e:=?_) (fun D v w h=>⟨h.low,h.made⟩) (fun D v w' I A=>?_) ?_;rotate_left;(obtain⟨p0,p1,p2,pf⟩:=cells3 ((a4.o.call A.low).get 2 rfl);have l0:=(a4.o.call A.low).lt 2 rfl;obtain⟨lg,c2,cA⟩:=aM.o w' A.low;clear A I;go_simp;try with_reducible rfl);go_simp)
      refine q8.rl (.bool cd) (fun D v w h=>⟨h.low,h.made⟩) (fun D v w' I A=>?_) ?_
      ·clear A I;go_simp;rw[<-e5.o,Bool.eq_iff_iff];simp only[beq_iff_eq,decide_eq_true_eq];omega
      go_simp;iterate 2 (refine q8.rl (e:=?_) (fun D v w h=>⟨h.low,h.made⟩) (fun D v w' I A=>?_) ?_;rotate_left;(clear A I;go_simp;try with_reducible rfl);go_simp)
      refine q8.re (fun D v w' I A=>?_) ?_
      ·have aU:=z7 A.make;clear A I;go_simp;exact aU.o
      go_simp;refine q8.fin (fun v w5 A=>?_);obtain⟨g,hv,bM,aN⟩:=A.made rfl;rw[hv];have aI:=a4.o.call A.low;have aJ:=(z0K.of (S:=fun _=>False) aI).cons aN (by have:=a4.o.low.size;omega) (fun q hq=>by have:=a4.o.lts hq;omega);have a1:=z7 aJ;have b7:=z7 A.low;have b6:=z7 bM;clear A hv bM aN aI aJ;have cU:=z7 (z0w (a1.o.get 0 rfl) (n:=11) rfl);have cO:=z7 (z0y (a1.o.get 0 rfl));go_wp2_with (refine z0f rfl 51 _ _ rfl g 0 rfl #[.int .u8 0,.int .u32 0,.int .u32 id,.int .u32 J,.int .u32 O,.int .u32 R,.int .u32 (M:Nat),.bool cd,.int .u64 0,.slice none 0 0,.int .i64 0] rfl cU.o cO.o z0B (by simp[Value.oneCell']) ?_);go_meet
      exact z7 ⟨g,rfl,(a1.o.lay (K':= [(g,.cells #[.int .u8 0,.int .u32 0,.int .u32 id,.int .u32 J,.int .u32 O,.int .u32 R,.int .u32 (M:Nat),.bool cd,.int .u64 0,.slice none 0 0,.int .i64 0] 51 (0,0)),(w.heap.size+1+1,.cells #[.int .u32 0,.int .u32 0,.int .u32 0] 45 (0,0)),(w.heap.size+1,.cells z1W 51 (0,0)),(w.heap.size,.cells #[.int .u32 J,.int .u32 O,.int .u32 R] 45 (0,0))]) 0 0 [.int .u8 0,.int .u32 0,.int .u32 id,.int .u32 J,.int .u32 O,.int .u32 R,.int .u32 (M:Nat),.bool cd,.int .u64 0,.slice none 0 0,.int .i64 0] rfl rfl rfl rfl).toLoc,z0t.below ((z0t.of_below (S:=fun k=>k=g) b7.o).trans (z0t.setCells (S:=fun k=>k=g) rfl _ 0 _) fun k Y=> .inl Y) (Nat.le_refl _) (fun k Y=>by have:=b6.o;omega),b6.o⟩
    case rest=>
     obtain⟨g,rfl,aI,bV,dS⟩:=hcut;have a1:=z7 aI;have dC:Hid (∀k,X.In k->k≠g):=z7 fun k Y e=>by have:=d9.o.lts k Y;omega
     have eB:=z7 (d9.o.low bV);have bZ:Hid (∀w',Below wc.heap.size wc w'->X.g<w'.heap.size/\w'.cell? ⟨X.g,J*11+2,none⟩=some (.slice x.ea pn x.ec)/\w'.cell? ⟨X.g,J*11+3+7,none⟩=some (.bool cl)):=z7 fun w' hb=>aM.o w' (bV.trans (hb.mono bV.size));have bR:=d7.o wc (H.o.low a1.o.low);obtain⟨SM,cH⟩:=zN (z3r 0 (x.p.l.take O));have dX:z8y (z0g b id) (J,O,R)=(SM,0):=by unfold z8y;rw[<-bT.o,b8.o,cH]
     rw[dX]at bR;have HS:=z7 bR;have e7:=z7 cH;obtain⟨f0,f1,f2,f3,f4,f5,f6,f7,f8,f9,cB,ff⟩:=z0o (a1.o.get 0 rfl);obtain⟨p0,p1,p2,pf⟩:=cells3 (a1.o.get 3 rfl);have l0:=a1.o.lt 3 rfl;have l1:=a1.o.lt 0 rfl;clear aI bV bR cH dX aM dS;go_wp2_with fail;refine HS.o.mono ?_;rintro e w6 ⟨rfl,hb⟩;have c8:=z7 (a1.o.call hb);have dA:=z7 (eB.o.low hb);have dO:Hid (∀w',Below w6.heap.size w6 w'->X.g<w'.heap.size/\w'.cell? ⟨X.g,J*11+2,none⟩=some (.slice x.ea pn x.ec)/\w'.cell? ⟨X.g,J*11+3+7,none⟩=some (.bool cl)):=z7 fun w' eF=>bZ.o w' (hb.trans (eF.mono hb.size));clear hb f0 f1 f2 f3 f4 f5 f6 f7 f8 f9 cB ff p0 p1 p2 pf l0 l1 bZ;obtain⟨f0,f1,f2,f3,f4,f5,f6,f7,f8,f9,cB,ff⟩:=z0o (c8.o.get 0 rfl);have l1:=c8.o.lt 0 rfl;go_upto_region 12 with fail
     have bU:=(z0K.of (S:=fun _=>False) c8.o).lay (K':= [(g,.cells #[.int .u8 0,.int .u32 0,.int .u32 id,.int .u32 J,.int .u32 O,.int .u32 R,.int .u32 (M:Nat),.bool cd,.int .u64 (SM:Nat),.slice none 0 0,.int .i64 0] 51 (0,0)),(w.heap.size+1+1,.cells #[.int .u32 0,.int .u32 0,.int .u32 0] 45 (0,0)),(w.heap.size+1,.cells z1W 51 (0,0)),(w.heap.size,.cells #[.int .u32 J,.int .u32 O,.int .u32 R] 45 (0,0))]) 0 8 [.int .u64 (SM:Nat)] rfl rfl rfl rfl;obtain⟨w7,cX,bU⟩:=bU.named;refine z0G cX ?_;have cZ:z0t (fun k=>k=g) w6 w7:=(by rw[cX];exact z0t.setCells (S:=fun k=>k=g) rfl _ _ _);have cI:=dA.o.keep (fun k Y=>cZ.block k (dA.o.lts k Y) (dC.o k Y)) cZ.size;have a2:=z7 bU;have dB:=z7 cI;obtain⟨T2,bC⟩:=zN (toP x.p M);have cG:M<=x.p.st.length:=(by have:=d6.o;omega);have cV:=z7 (fun w' h'=>q4w X J x cl aA.o _ rfl M cG w' h');have aZ:=(cI.partOk aA.o).1;have aG:=z8A b8.o;have bY:T2<=x.p.l.length:=(by rw[bC];exact z9c aZ.ok M);have eM:O<=T2:=by
      have h9:=aG.2.2.2;simp only at h9;rw[bC,<-h9];exact y4r aZ.ok (by omega) cG
     have eU:=aZ.ok.bits;obtain⟨N,hN⟩:=zN x.p.l.length;obtain⟨bl,cM⟩:=zN x.b.length;have bG:=z7 (fun w' (h':z0D w' X)=>q0k x.a bl x.c x.p.l x.b O T2 w' (by rw[cM];exact((h'.partOk aA.o).1).rd.now) (by omega) eM bY);obtain⟨L,hL⟩:=zN ((x.p.l.drop O).take (T2 - O));rw[<-hN,<-hL]at bG;rw[<-bC]at cV;have e8:=z7 bC;have e6:=z7 hL;have HN:=z7 hN;have e3:=z7 cM;have eV:T2<=3504:=(by omega);have eZ:IntKind.i64.wrap (M:Int)=(M:Int):=by rw[IntKind.wrap_i64];omega
     have eJ:=a2.o.lt 0 rfl;have aD:Hid (∀w',z0t (fun k=>k=g) w7 w'->z0D w' X/\w'.heap[w.heap.size]? =some (.cells #[.int .u32 J,.int .u32 O,.int .u32 R] 45 (0,0))):=z7 fun w' ho=>⟨dB.o.keep (fun k Y=>ho.block k (dB.o.lts k Y) (dC.o k Y)) ho.size,(ho.block _ (a2.o.lt 3 rfl) (fun e=>by have:=a2.o.nodup;rw[e]at this;simp at this)).trans (a2.o.get 3 rfl)⟩;clear bU cX cZ cI aZ aG bY eU bC hL hN cM cG f0 f1 f2 f3 f4 f5 f6 f7 f8 f9 cB ff l1 dO;refine q6 16 119 (fun D v w'=>CfS w7 10 2 (.int .u16 0) (q5R (w.heap.size+1+1+1) L) g 51 [.int .u8 0,.int .u32 0,.int .u32 id,.int .u32 J,.int .u32 O,.int .u32 R,.int .u32 (M:Nat),.bool cd,.int .u64 (SM:Nat),.slice none 0 0,.int .i64 0] 9 D v w') (CfS.start (a2.o.get 0 rfl)) ?_;simp only[z0v];iterate 9 (refine q8.rl (e:=?_) (fun D v w h=>h.other _ (by decide) (by decide) (by decide) (by decide) (Below.refl _ _)) (fun D v w' I A=>?_) ?_;rotate_left;(obtain⟨aL,aH⟩:=aD.o w' A.low;obtain⟨p0,p1,p2,pf⟩:=cells3 aH;have l0:=(Array.getElem?_eq_some_iff.1 aH).1;have lg:=aL.lts X.g (.inr (.inl rfl));have c0:=aL.partAt aA.o rfl 0 (.slice x.a bl x.c) (by rw[e3.o];rfl);have c1:=aL.partAt aA.o rfl 1 (.int .i64 (N:Nat)) (by rw[HN.o];rfl);simp only[Nat.add_zero]at c0;clear aL aH;clear A I;go_simp;try with_reducible rfl);go_simp)
     refine q8.ca (.int .i64 (T2:Nat)) (fun D v w' I A=>?_) ?_
     ·have HZ:=z7 A;have bB:=z7 (aD.o w' A.low).1;clear A I;go_simp;go_at_call 58;refine(cV.o w' bB.o).mono ?_;rintro e cD ⟨rfl,rfl⟩;exact⟨rfl,HZ.o.other 9 (by decide) (by decide) (by decide) (by decide) (Below.refl _ _)⟩
     go_simp;refine q8.re (fun D v w' I A=>?_) ?_
     ·have HZ:=z7 A;have bB:=z7 (aD.o w' A.low).1;have eC:=z7 I.self;clear A I;go_simp;go_at_call 57;refine(bG.o w' bB.o).mono ?_;rintro e cD ⟨a',n',c',b',rfl,aB,rfl,eG,hb⟩;exact HZ.o.call eC.o hb #[.slice a' b'.length c',.int .i64 (L.length:Nat)] (fun k=>(Value.slice a' b'.length c').ownBlock=some k) rfl (by simp[Value.oneCell']) (fun w3 Y=>⟨a',b',c',rfl,z0c (j7 aB fun k eL=>Y k eL) (by have:=HZ.o.low.size;have:=a2.o.lt 1 rfl;omega),eG⟩) (fun k Y=>aB.lt k Y)
     go_simp;refine q8.re (fun D v w' I A=>?_) ?_;(focus (have d:=I.pre 10 (by kernel_rfl);have aU:=z7 (A.move d);clear A I;go_simp;exact aU.o));go_simp;refine q8.re (fun D v w' I A=>?_) ?_;(focus (obtain⟨d,hm⟩:=A.m (I.pre 11 (by kernel_rfl));obtain⟨p,F,hp, -⟩:=A.c d;have aU:=z7 (A.ext d hp (I.post 15 _ rfl (by kernel_rfl)));rw[hp]at hm;clear A I hp;go_simp;exact aU.o));go_simp;refine q8.rl (.int .u16 0) (fun D v w h=>h.other 13 (by decide) (by decide) (by decide) (by decide) (Below.refl _ _)) (fun D v w' I A=>?_) ?_;(focus (obtain⟨d,hm⟩:=A.m (I.pre 11 (by kernel_rfl));obtain⟨p,F,hp, -⟩:=A.c d;rw[hp]at hm;clear A I hp;go_simp));go_simp;refine q8.rl (e:=?_) (fun D v w h=>h.other 14 (by decide) (by decide) (by decide) (by decide) (Below.refl _ _)) (fun D v w' I A=>?_) ?_;rotate_left;(clear A I;go_simp;try with_reducible rfl);go_simp;refine q8.ca undef (fun D v w' I A=>?_) ?_;(focus (have d5:D 15=false:=I.self;obtain⟨d,he⟩:=A.e (I.pre 12 (by kernel_rfl));obtain⟨p,F,hp,aG,eN, -⟩:=A.c d;have hv:=he p hp;refine z1P _ _ _ rfl g 9 rfl p hv (fun j hj=>z0w (A.b0 d5) rfl (9+j) (by rw[aG]at hj;simp;omega) |>fun h=>by rw[Nat.zero_add]at h;exact h) (z0y (A.b0 d5)) (by rw[aG];exact y2R) eN ?_;exact⟨undef,rfl,rfl,A.store eJ d d5 hv (by rw[aG];simp)⟩));go_simp;refine q8.fin (fun v w8 A=>?_);obtain⟨p,F,hp, -, -,hR, -⟩:=A.c rfl;obtain⟨p',cT,aN⟩:=A.b1 rfl;have c5:=(A.e rfl).2 p hp;rw[c5]at cT
     simp only[Value.agg.injEq]at cT;subst cT;obtain⟨a9,b9,c9,rfl,aB,bF⟩:=hR.now;have a3:=A.low;obtain⟨cJ,bO⟩:=aD.o w8 a3;have aO:g≠w.heap.size+1+1/\g≠w.heap.size+1:=by
      have:=a2.o.nodup;simp at this;omega
     have dF:=z7 ((a3.block _ (a2.o.lt 2 rfl) (fun e=>aO.2 e.symm)).trans (a2.o.get 2 rfl));have d4:=z7 ((a3.block _ (a2.o.lt 1 rfl) (fun e=>aO.1 e.symm)).trans (a2.o.get 1 rfl));have aF:Hid (Below w.heap.size w w8):=z7 (a2.o.low.toBelow.trans (a3.below a2.o.low.size (fun k Y=>by have:=a2.o.ge 0 rfl;omega)));have bL:w8.heap[g]? =some (.cells #[.int .u8 0,.int .u32 0,.int .u32 id,.int .u32 J,.int .u32 O,.int .u32 R,.int .u32 (M:Nat),.bool cd,.int .u64 (SM:Nat),.slice a9 b9.length c9,.int .i64 (L.length:Nat)] 51 (0,0)):=aN;have aX:=z7 aB;have b5:=z7 bF;have a8:¬(w.heap.size+1=w.heap.size+1+1):=(by omega);have aR:Hid (∀w',z0t (fun k=>k=w.heap.size+1\/k=w.heap.size+1+1) w8 w'->z0D w' X/\w'.heap[g]? =some (.cells #[.int .u8 0,.int .u32 0,.int .u32 id,.int .u32 J,.int .u32 O,.int .u32 R,.int .u32 (M:Nat),.bool cd,.int .u64 (SM:Nat),.slice a9 b9.length c9,.int .i64 (L.length:Nat)] 51 (0,0))/\w'.heap[w.heap.size]? =some (.cells #[.int .u32 J,.int .u32 O,.int .u32 R] 45 (0,0))):=z7 fun w' ho=>
      ⟨cJ.keep (fun k Y=>ho.block k (cJ.lts k Y) (fun e=>by have:=dE.o k Y;omega)) ho.size,(ho.block g (Array.getElem?_eq_some_iff.1 bL).1 (fun e=>e.elim aO.2 aO.1)).trans bL,(ho.block _ (Array.getElem?_eq_some_iff.1 bO).1 (by omega)).trans bO⟩
     have bD:Hid (∀k,(Value.slice a9 b9.length c9).ownBlock=some k->¬(k=w.heap.size+1\/k=w.heap.size+1+1)):=z7 fun k Y=>by have:=(aB.lt k Y).1;omega
     have eX:J<=1000000000:=by
      have:=(List.getElem?_eq_some_iff.1 aA.o).1;rw[X.parts_len]at this;omega
     have eD:IntKind.u32.wrap ((J:Int)+1)=((J:Int)+1):=(by rw[IntKind.wrap_u32];omega);have fJ:IntKind.u32.wrap (T2:Int)=(T2:Int):=(by rw[IntKind.wrap_u32];omega);obtain⟨g0,g1,g2,g3,g4,g5,g6,g7,fC,g9,fB,gf⟩:=z0o bL;have e1:=(Array.getElem?_eq_some_iff.1 bL).1;clear A hp hR aN c5 a3 cJ bO aB bF aO bL;have bX:Hid (z6P (z0g b id) id (J,O,R) U=⟨0,id,(J,O,R),M,cd,L,SM,if cd=true then(J+1,0,0)else(J,T2,M)⟩):=z7 (by
      unfold z6P;rw[<-bT.o,b8.o];simp only;rw[if_neg (by rw[<-c7.o];exact of_decide_eq_false HE.o),<-HM.o,<-d6.o,<-c6.o,<-e8.o,<-e6.o,<-e7.o])
     cases cd with
     | true=>
      have aS:Hid (z6P (z0g b id) id (J,O,R) U=⟨0,id,(J,O,R),M,true,L,SM,(J+1,0,0)⟩):=z7 bX.o;go_upto_region 14 with fail
      refine q6 8 119 (fun D v w'=>z6a w8 (w.heap.size+1) (w.heap.size+1+1) 51 45 z1W #[.int .u8 0,.int .u32 0,.int .u32 id,.int .u32 J,.int .u32 O,.int .u32 R,.int .u32 (M:Nat),.bool true,.int .u64 (SM:Nat),.slice a9 b9.length c9,.int .i64 (L.length:Nat)] #[.int .u32 0,.int .u32 0,.int .u32 0] #[.int .u32 ((J:Int)+1),.int .u32 0,.int .u32 0] 5 6 D w') (z6a.start dF.o d4.o) ?_;simp only[z0v];refine q8.rl (.agg #[.int .u8 0,.int .u32 0,.int .u32 id,.int .u32 J,.int .u32 O,.int .u32 R,.int .u32 (M:Nat),.bool true,.int .u64 (SM:Nat),.slice a9 b9.length c9,.int .i64 (L.length:Nat)]) (fun D v w h=>h.other _ (by decide) (by decide) (Below.refl _ _)) (fun D v w' I A=>z1o _ _ rfl g 0 rfl _ (z1X (aR.o w' A.low).2.1) z1y z0B) ?_;go_simp;iterate 4 (refine q8.rl (e:=?_) (fun D v w h=>h.other _ (by decide) (by decide) (Below.refl _ _)) (fun D v w' I A=>?_) ?_;rotate_left;(obtain⟨aL,cR,aH⟩:=aR.o w' A.low;obtain⟨p0,p1,p2,pf⟩:=cells3 aH;have l0:=(Array.getElem?_eq_some_iff.1 aH).1;have e1:=(Array.getElem?_eq_some_iff.1 cR).1;clear aL;clear A I;go_simp;try with_reducible rfl);go_simp)
      refine q8.ca undef (fun D v w' I A=>?_) ?_
      ·exact z1P _ _ _ rfl (w.heap.size+1) 0 rfl #[.int .u8 0,.int .u32 0,.int .u32 id,.int .u32 J,.int .u32 O,.int .u32 R,.int .u32 (M:Nat),.bool true,.int .u64 (SM:Nat),.slice a9 b9.length c9,.int .i64 (L.length:Nat)] rfl (A.size1 rfl) (z0y A.b1) z0B (by simp[Value.oneCell']) ⟨undef,rfl,rfl,A.st1 a8 (by decide) rfl⟩
      go_simp;refine q8.ca undef (fun D v w' I A=>?_) ?_
      ·exact z1P _ _ _ rfl (w.heap.size+1+1) 0 rfl #[.int .u32 ((J:Int)+1),.int .u32 0,.int .u32 0] rfl (A.size2 rfl) (z0y A.b2) z3b (by simp[Value.oneCell']) ⟨undef,rfl,rfl,A.st2 a8 (by decide) rfl⟩
      go_simp;iterate 1 (refine q8.rl (e:=?_) (fun D v w h=>h.other _ (by decide) (by decide) (Below.refl _ _)) (fun D v w' I A=>?_) ?_;rotate_left;(clear A I;go_simp;try with_reducible rfl);go_simp)
      refine q8.fin (fun v w9 A=>?_);have a6:=A.b1;have a7:=A.b2;have a5:=A.low;simp only[show decide (5<8)=true from rfl,show decide (6<8)=true from rfl,if_true]at a6 a7;have b3:=z7 a6;have b4:=z7 a7;have aT:=z7 a5;clear A a6 a7 a5;go_wp2;refine bodyPost_ret (y0z rfl rfl b3.o z1y z0B rfl b4.o z7Q z3b) rfl ?_;rw[aS.o];refine⟨a9,c9,b9,?_,z0c (j7 aX.o fun k Y=>aT.o.block k (aX.o.lt k Y).2 (bD.o k Y)) (by omega),b5.o,aF.o.trans (aT.o.below aF.o.size (fun k Y=>by omega))⟩;rfl
     | false=>
      have aS:Hid (z6P (z0g b id) id (J,O,R) U=⟨0,id,(J,O,R),M,false,L,SM,(J,T2,M)⟩):=z7 bX.o;go_upto_region 15 with fail
      refine q6 13 119 (fun D v w'=>z6a w8 (w.heap.size+1) (w.heap.size+1+1) 51 45 z1W #[.int .u8 0,.int .u32 0,.int .u32 id,.int .u32 J,.int .u32 O,.int .u32 R,.int .u32 (M:Nat),.bool false,.int .u64 (SM:Nat),.slice a9 b9.length c9,.int .i64 (L.length:Nat)] #[.int .u32 0,.int .u32 0,.int .u32 0] #[.int .u32 J,.int .u32 (T2:Nat),.int .u32 (M:Nat)] 10 11 D w') (z6a.start dF.o d4.o) ?_;simp only[z0v];refine q8.rl (.agg #[.int .u8 0,.int .u32 0,.int .u32 id,.int .u32 J,.int .u32 O,.int .u32 R,.int .u32 (M:Nat),.bool false,.int .u64 (SM:Nat),.slice a9 b9.length c9,.int .i64 (L.length:Nat)]) (fun D v w h=>h.other _ (by decide) (by decide) (Below.refl _ _)) (fun D v w' I A=>z1o _ _ rfl g 0 rfl _ (z1X (aR.o w' A.low).2.1) z1y z0B) ?_;go_simp;iterate 4 (refine q8.rl (e:=?_) (fun D v w h=>h.other _ (by decide) (by decide) (Below.refl _ _)) (fun D v w' I A=>?_) ?_;rotate_left;(obtain⟨aL,cR,aH⟩:=aR.o w' A.low;obtain⟨p0,p1,p2,pf⟩:=cells3 aH;have l0:=(Array.getElem?_eq_some_iff.1 aH).1;have e1:=(Array.getElem?_eq_some_iff.1 cR).1;clear aL;clear A I;go_simp;try with_reducible rfl);go_simp)
      refine q8.ca (.int .i64 (T2:Nat)) (fun D v w' I A=>?_) ?_
      ·have HZ:=z7 A;have bB:=z7 (aR.o w' A.low).1;clear A I;go_simp;go_at_call 58;refine(cV.o w' bB.o).mono ?_;rintro e cD ⟨rfl,rfl⟩;exact⟨rfl,HZ.o.other 5 (by decide) (by decide) (Below.refl _ _)⟩
      go_simp;iterate 4 (refine q8.rl (e:=?_) (fun D v w h=>h.other _ (by decide) (by decide) (Below.refl _ _)) (fun D v w' I A=>?_) ?_;rotate_left;(clear A I;go_simp;try with_reducible rfl);go_simp)
      refine q8.ca undef (fun D v w' I A=>?_) ?_
      ·exact z1P _ _ _ rfl (w.heap.size+1) 0 rfl #[.int .u8 0,.int .u32 0,.int .u32 id,.int .u32 J,.int .u32 O,.int .u32 R,.int .u32 (M:Nat),.bool false,.int .u64 (SM:Nat),.slice a9 b9.length c9,.int .i64 (L.length:Nat)] rfl (A.size1 rfl) (z0y A.b1) z0B (by simp[Value.oneCell']) ⟨undef,rfl,rfl,A.st1 a8 (by decide) rfl⟩
      go_simp;refine q8.ca undef (fun D v w' I A=>?_) ?_
      ·exact z1P _ _ _ rfl (w.heap.size+1+1) 0 rfl #[.int .u32 J,.int .u32 (T2:Nat),.int .u32 (M:Nat)] rfl (A.size2 rfl) (z0y A.b2) z3b (by simp[Value.oneCell']) ⟨undef,rfl,rfl,A.st2 a8 (by decide) rfl⟩
      go_simp;iterate 1 (refine q8.rl (e:=?_) (fun D v w h=>h.other _ (by decide) (by decide) (Below.refl _ _)) (fun D v w' I A=>?_) ?_;rotate_left;(clear A I;go_simp;try with_reducible rfl);go_simp)
      refine q8.fin (fun v w9 A=>?_);have a6:=A.b1;have a7:=A.b2;have a5:=A.low;simp only[show decide (10<13)=true from rfl,show decide (11<13)=true from rfl,if_true]at a6 a7;have b3:=z7 a6;have b4:=z7 a7;have aT:=z7 a5;clear A a6 a7 a5;go_wp2;refine bodyPost_ret (y0z rfl rfl b3.o z1y z0B rfl b4.o z7Q z3b) rfl ?_;rw[aS.o];refine⟨a9,c9,b9,?_,z0c (j7 aX.o fun k Y=>aT.o.block k (aX.o.lt k Y).2 (bD.o k Y)) (by omega),b5.o,aF.o.trans (aT.o.below aF.o.size (fun k Y=>by omega))⟩;rfl

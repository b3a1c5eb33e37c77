/- The walk of a book's Sum. -/
import Derived.Test.YtabnnclcpkdkeaaGreatDoorZZ
import Derived.Deep.CutBlock
namespace Go.Proofs.YtabnnclcpkdkeaaGreatDoor
open Go.Proofs.Tryz
set_option linter.all false
set_option maxRecDepth 100000
set_option maxHeartbeats 0
open Go.RowKit Go.Maps
structure q6r (W:World) (s:z0T) (p:Nat×Nat×Nat) (D:Nat->Bool) (v:Nat->Value) (w':World):Prop where
 low:Below W.heap.size W w'
 at_:D 2=true->∃X,v 2= .pointer (some ⟨X.sb,0,none⟩)/\z0H w' X/\X.ser=s
 pt:D 4=true->∃X u,v 4=u/\z0H w' X/\X.ser=s/\y6r X p (.returned u)
 as_:D 5=true->D 4=true/\v 5=v 4
theorem q6r.other{W w' A:World}{s:z0T}{p:Nat×Nat×Nat}{D:Nat->Bool}{v:Nat->Value}(h:q6r W s p D v w')(k:Nat)(R:k≠2)(L:k≠4)(U:k≠5)(hb:Below w'.heap.size w' A):q6r W s p (mark D k) v A:=
 ⟨h.low.trans (hb.mono h.low.size),(fun e=>by
  rw[q9 R]at e;obtain⟨X,I,J,O⟩:=h.at_ e;exact⟨X,I,J.low hb,O⟩),(fun e=>by
  rw[q9 L]at e;obtain⟨X,u,N,I,J⟩:=h.pt e;exact⟨X,u,N,I.low hb,J⟩),fun e=>by rw[q9 U]at e;rw[q9 L];exact h.as_ e⟩
theorem y0j{p:z0R}(h:p.Ok)(n:Nat):toP p n<=p.l.length:=by
 unfold toP;split
 .omega
 cases hg:(z1C p.st)[n - 1]? with
 | none=>exact uA _
 | some e=>
  unfold z1C at hg;rw[uF,uM]at hg;obtain⟨x,A,rfl⟩:=hg;exact((z3T h.rd).2.2.2.1 x (wX A)).2.2.2.1
theorem z9s{s:z0T}{p:Nat×Nat×Nat}{x:z0R}{cl:Bool}(h:z4M s p=some (x,cl)):s.parts[p.1]? =some (x,cl)/\p.2.2<=x.st.length/\¬(cl=true/\p.2.2=x.st.length)/\toP x p.2.2=p.2.1:=by
 unfold z4M at h;split at h
 .cases h
 rename_i y J I;split at h
 .cases h
 rename_i A;simp only[wK,wk]at h;obtain⟨rfl,rfl⟩:=h;refine⟨I,iQ fun e=>A (.inl e),fun e=>A (.inr (.inl e)),?_⟩;by_cases e:toP y p.2.2=p.2.1
 .exact e
 exact absurd (.inr (.inr e)) A
def z9t(s:z0T)(p:Nat×Nat×Nat):Nat×Nat:=
 match z4M s p with
 | none=>(0,122)
 | some (x,_)=>(z3h 0 (x.l.take p.2.1),0)
theorem y4i:(prog.info? 49).map (·.size)=some 2:=by kernel_rfl
def q8r(L:List Bool)(p:Array Value)(w:World):Prop:=∃a b c,p= #[.slice a b.length c,.int .i64 (L.length:Nat)]/\z0r w a b.length c L b
theorem y8E(bb mb B:Nat)(E:List (Int×z0I))(b:z0h)(S:Nat->Prop)(id:Nat)(b1:id<4294967296)(ck R pc:Nat)(h1:ck<4294967296)(h2:R<4294967296)(h3:pc<4294967296)(a5:(j9 b id).done.length<=1000000000)(w:World)(h:z0w w bb mb E b B S):
  Calls prog 31 #[.pointer (some ⟨bb,0,none⟩),.int .u32 id,z4k (ck,R,pc)] w fun e w'=>e= .returned (.tuple #[.int .u64 ((z9t (j9 b id) (ck,R,pc)).1:Nat),.int .u16 ((z9t (j9 b id) (ck,R,pc)).2:Nat)])/\Below w.heap.size w w':=by
 have aX:=z7 ((Loc.start w).new (.cells #[.int .u32 ck,.int .u32 R,.int .u32 pc] 45));have H:=z7 h;have aG:=z7 a5;have aT:=z7 (fun w' h=>z9G bb mb B E b S id b1 w' h);clear h a5;go_enter func31,ntmps31;go_upto_region 1 with fail
 obtain⟨W,hW,hL⟩:=aX.o.named;refine z0s hW ?_;have HL:=z7 hL;clear hL hW;refine q6 6 33 (fun D v w'=>q6r W (j9 b id) (ck,R,pc) D v w') ⟨wD.drew,(fun e=>by cases e),(fun e=>by cases e),fun e=>by cases e⟩ ?_;simp only[z0C];iterate 2 (refine q8.rl ?_ (fun D v w h=>⟨h.low,h.at_,h.pt,h.as_⟩) (fun D v w' I A=>?_) ?_;rotate_left;(clear A I;go_simp;try rfl);go_simp)
 refine q8.re (fun D v w' I A=>?_) ?_
 .have d4:D 4=false:=I.post 4 _ rfl (by kernel_rfl);have O:=z7 A;clear A I;go_simp;go_at_call 28;refine(aT.o w' (H.o.low (HL.o.call O.o.low).low)).mono ?_;rintro e aS ⟨X,rfl,hX,J,hb, -⟩;exact⟨O.o.low.trans (hb.mono O.o.low.size),(fun _=>⟨X,z0q _ _ _,hX,J⟩),(fun e=>by rw[q9 wG,d4]at e;cases e),fun e=>by rw[q9 wG]at e;have:=(O.o.as_ e).1;rw[d4]at this;cases this⟩
 go_simp;(refine q8.rl ?_ (fun D v w h=>⟨h.low,h.at_,h.pt,h.as_⟩) (fun D v w' I A=>?_) ?_;rotate_left;(obtain⟨p0,p1,p2,pf⟩:=cells3 ((HL.o.call A.low).get 0 rfl);have l0:=(HL.o.call A.low).lt 0 rfl;clear A I;go_simp;try rfl);go_simp)
 refine q8.re (fun D v w' I A=>?_) ?_
 .obtain⟨X,b9,hX,J⟩:=A.at_ (I.pre 2 (by kernel_rfl));have d4:=z7 I.self;have aE:=z7 (q0y X (by have:=aG.o;rw[<-J,X.done_len]at this;exact this) ck R pc h1 h2 h3 w' hX);have HX:=z7 hX;have aW:=z7 J;have O:=z7 A;clear A I hX J;go_simp;go_at_call 29;refine aE.o.mono ?_;rintro e aS ⟨a6,hb⟩;obtain⟨u,rfl⟩:∃u,e= .returned u:=by
   rcases a6 with⟨-,rfl⟩|⟨_,_, -, -, -,rfl⟩
   .exact⟨_,rfl⟩
   exact⟨_,rfl⟩
  refine⟨O.o.low.trans (hb.mono O.o.low.size),(fun e=>?_),(fun _=>⟨X,u,z0q _ _ _,HX.o.low hb,aW.o,a6⟩),fun e=>?_⟩
  .rw[q9 wG]at e;rw[z0g wG];obtain⟨Y,g1,g2,g3⟩:=O.o.at_ e;exact⟨Y,g1,g2.low hb,g3⟩
  rw[q9 wG]at e;have:=(O.o.as_ e).1;rw[d4.o]at this;cases this
 go_simp;refine q8.re (fun D v w' I A=>?_) ?_
 .have d4:=I.pre 4 (by kernel_rfl);have O:=z7 A;clear A I;go_simp;refine⟨O.o.low,(fun e=>?_),(fun e=>?_),fun _=>⟨by rw[q9 wG];exact d4,by rw[z0q,z0g wG]⟩⟩
  .rw[z0g wG];rw[q9 wG]at e;exact O.o.at_ e
  rw[z0g wG];rw[q9 wG]at e;exact O.o.pt e
 go_simp;refine q8.fin (fun v w1 A=>?_);obtain⟨X,u,aN,hX,J,aE⟩:=A.pt rfl;have aO:=(A.as_ rfl).2;rw[aO,aN];have a3:=z7 (HL.o.call A.low);clear A aN aO;rcases aE with⟨aI,hu⟩|⟨x,cl,aF,U,b3,hu⟩
 .simp only[ek]at hu;subst hu;have a8:Hid (z9t (j9 b id) (ck,R,pc)=(0,122)):=z7 (by unfold z9t;rw[<-J,aI]);clear aI hX J;go_wp2;go_ret2;rw[a8.o];exact⟨rfl,a3.o.low⟩
 simp only[ek]at hu;subst hu;obtain⟨b6, -, -,aJ⟩:=z9s U;have a4:=(hX.partOk aF).1;have a9:z9t (j9 b id) (ck,R,pc)=(z3h 0 (x.p.l.take R),0):=by unfold z9t;rw[<-J,U]
 have aL:R<=x.p.l.length:=by have:=y0j a4.ok pc;simp only at aJ;omega
 have b5:=a4.ok.bits;obtain⟨N,hN⟩:=zN x.p.l.length;obtain⟨bl,aA⟩:=zN x.b.length;have hcut:=z7 (fun w' (hb:Below w1.heap.size w1 w')=>q2D x.a bl x.c x.p.l x.b 0 R w' (by rw[aA];exact(a4.next fun k hk=>hb.block k (hX.lt k hk)).rd.now) wF (uA _) aL);rw[<-hN,kQ,qt]at hcut;obtain⟨L,hL⟩:=zN (x.p.l.take R);rw[<-hL]at a9 hcut;have b7:L.length<=3504:=by rw[hL,uR];omega
 have aM:=z7 (fun a' n' c' b' w' (h':z0r w' a' n' c' L b')=>q8g a' n' c' L b' w' h' wF);have aH:=z7 (fun w' (hb:Below w1.heap.size w1 w')=>(hX.low hb).partAt aF rfl);have bA:IntKind.i64.wrap (R:Int)=(R:Int):=by rw[uL];omega
 have HN:=z7 hN;have aV:=z7 aA;have a8:=z7 a9;have aD:=z7 (fun w' (hb:Below w1.heap.size w1 w')=>(hX.low hb).lts X.g (.inr (.inl rfl)));clear hX J aF U b3 b6 aJ a4 a9 aL hN aA hL b5;go_upto_region 4 with fail
 refine q6 14 33 (fun D v w'=>CsS w1 7 2 49 (.int .u16 0) (q8r L) D v w') (CsS.start _ _ _ _ _ _) ?_;simp only[z0C];iterate 7 (refine q8.rl ?_ (fun D v w h=>h.other _ wG wG wG wG wG wD) (fun D v w' I A=>?_) ?_;rotate_left;(obtain⟨p0,p1,p2,pf⟩:=cells3 ((a3.o.call A.low).get 0 rfl);have l0:=(a3.o.call A.low).lt 0 rfl;have lg:=aD.o w' A.low;have c0:=aH.o w' A.low 0 (.slice x.a bl x.c) (by rw[aV.o];rfl);have c1:=aH.o w' A.low 1 (.int .i64 (N:Nat)) (by rw[HN.o];rfl);simp only[dp]at c0;clear A I;go_simp;try rfl);go_simp)
 refine q8.re (fun D v w' I A=>?_) ?_
 .have O:=z7 A;have d7:=z7 I.self;clear A I;go_simp;go_at_call 32;refine(hcut.o w' O.o.low).mono ?_;rintro e aS ⟨a',n',c',b',rfl,a7,rfl,b0,hb⟩;exact O.o.call d7.o hb #[.slice a' b'.length c',.int .i64 (L.length:Nat)] (fun k=>(Value.slice a' b'.length c').ownBlock=some k) rfl (by simp[Value.oneCell']) (fun w3 hk=>⟨a',b',c',rfl,z5F (j7 a7 fun k b2=>hk k b2) rfl b0⟩) (fun k hk=>a7.lt k hk)
 go_simp
 refine q8.re (fun D v w' I A=>?_) ?_;(focus (have d:=I.pre 7 (by kernel_rfl);have a0:=z7 (A.move d);clear A I;go_simp;exact a0.o));go_simp;refine q8.re (fun D v w' I A=>?_) ?_;(focus (obtain⟨d,hm⟩:=A.m (I.pre 8 (by kernel_rfl));obtain⟨p,F,hp, -⟩:=A.c d;have a0:=z7 (A.ext d hp (I.post 12 _ rfl (by kernel_rfl)));rw[hp]at hm;clear A I hp;go_simp;exact a0.o));go_simp;refine q8.rl (.int .u16 0) (fun D v w h=>h.other 10 wG wG wG wG wG wD) (fun D v w' I A=>?_) ?_;(focus (obtain⟨d,hm⟩:=A.m (I.pre 8 (by kernel_rfl));obtain⟨p,F,hp, -⟩:=A.c d;rw[hp]at hm;clear A I hp;go_simp));go_simp;refine q8.re (fun D v w' I A=>?_) ?_;(focus (have a0:=z7 (A.make (I.post 12 _ rfl (by kernel_rfl)) (Z:= #[.slice none 0 0,.int .i64 0]) rfl);clear A I;go_simp;exact a0.o));go_simp;refine q8.ca undef (fun D v w' I A=>?_) ?_;(focus (have d2:=I.pre 9 (by kernel_rfl);have d4:=I.pre 11 (by kernel_rfl);obtain⟨d,he⟩:=A.e d2;obtain⟨p,F,hp,U,b4, -⟩:=A.c d;have hv:=he p hp;obtain⟨g,cs,hg, -,a2,aC, -⟩:=A.al d4;refine z2y _ _ _ rfl g 0 hg p hv (z0B a2 wF) (z0y a2) (by rw[U];exact y4i) b4 ?_;exact⟨undef,rfl,rfl,A.store d2 d4 hg hv U⟩));go_simp;(refine q8.rl ?_ (fun D v w h=>h.other _ wG wG wG wG wG wD) (fun D v w' I A=>?_) ?_;rotate_left;(clear A I;go_simp;try rfl);go_simp)
 refine q8.fin (fun v w2 A=>?_);obtain⟨p,F,hp, -, -,hR, -⟩:=A.c rfl;obtain⟨g,cs,hg,b8,a2, -,aC⟩:=A.al rfl;have aR:=(A.e rfl).2 p hp;have aB:=aC rfl;rw[aR]at aB;simp only[Value.agg.injEq]at aB;subst aB;obtain⟨a',b',c',rfl,a1⟩:=hR.now;rw[hg];have aY:=z7 (a3.o.call A.low);have aU:=z7 a1;obtain⟨q0,q1,qf⟩:=z0m a2;clear A hp hR hg a2 aC aR a1;go_wp2_with fail;refine(aM.o a' _ c' b' w2 aU.o).mono ?_;rintro e w3 ⟨rfl,hb⟩;have aZ:=z7 (aY.o.call hb);clear hb;go_wp2;go_ret2;rw[a8.o];exact⟨rfl,aZ.o.low⟩
def z6u(E:List Nat)(pb:Nat)(most:Int):Nat->Nat->Nat
 | 0,n=>n
 | f+1,n=>if n<E.length/\((E.getD n 0:Nat):Int) - pb<=most then z6u E pb most f (n+1)else n
theorem z7v(E:List Nat)(I:Nat)(A:Int):∀(f n:Nat),n<=E.length->n<=z6u E I A f n/\z6u E I A f n<=E.length
 | 0,n,h=>⟨wJ _,h⟩
 | f+1,n,h=>by
  unfold z6u;split
  .rename_i J;have:=z7v E I A f (n+1) J.1;omega
  exact⟨wJ _,h⟩
def y1l(x:z0R)(pb pc:Nat)(most:Int):Nat:=z6u (z1C x.st) pb most (x.st.length - (pc+1)) (pc+1)
structure z9M where
 err:Nat
 series:Nat
 p:Nat×Nat×Nat
 count:Nat
 closed:Bool
 bits:List Bool
 sum:Nat
 dest:Nat×Nat×Nat
def z4B(s:z0T)(id:Nat)(p:Nat×Nat×Nat)(most:Int):z9M:=
 match z4M s p with
 | none=>⟨122,0,(0,0,0),0,false, [],0,(0,0,0)⟩
 | some (x,cl)=>
  if p=z1P s then⟨0,0,(0,0,0),0,false, [],0,p⟩
  else
   ⟨0,id,p,y1l x p.2.1 p.2.2 most,cl&&decide (y1l x p.2.1 p.2.2 most=x.st.length),(x.l.drop p.2.1).take (toP x (y1l x p.2.1 p.2.2 most) - p.2.1),z3h 0 (x.l.take p.2.1),
    if(cl&&decide (y1l x p.2.1 p.2.2 most=x.st.length))=true then(p.1+1,0,0)else(p.1,toP x (y1l x p.2.1 p.2.2 most),y1l x p.2.1 p.2.2 most)⟩
def z9M.fr(r:z9M)(b:List UInt8):Fr:=⟨0,0,r.series,r.p.1,r.p.2.1,r.p.2.2,r.count,r.closed,r.sum,b,(r.bits.length:Nat)⟩
def q0B(r:z9M)(w:World)(e:Ending)(w':World):Prop:=
 ∃a c b,e= .returned (.tuple #[frV (r.fr b) (.slice a b.length c),z4k r.dest,.int .u16 (r.err:Nat)])/\w'.ownsRow w.heap.size 5 1 (.slice a b.length c) b.length (z0c b)/\z0S b r.bits/\Below w.heap.size w w'
theorem z4l(A:List z1t):(z1C A).length=A.length:=by unfold z1C;rw[we]
theorem y1y{p:z0R}(h:p.Ok):toP p p.st.length=p.l.length:=by
 have A:=(z3T h.rd).2.2.1;unfold toP z6T at*;cases hs:p.st.getLast? with
 | none=>
  rw[List.getLast?_eq_none_iff]at hs;rw[hs]at A ⊢;simpa using A
 | some x=>
  rw[hs]at A;have I:p.st≠ []:=fun e=>by rw[e]at hs;cases hs
  have J:0<p.st.length:=qD.2 I;rw[wR wF];unfold z1C;rw[uF,<-List.getLast?_eq_getElem?,hs];simpa using A
theorem y6x{p:z0R}(h:p.Ok){n m:Nat}(L:n<=m)(R:m<=p.st.length):toP p n<=toP p m:=by
 unfold toP;by_cases A:n=0
 .rw[wZ A];exact uA _
 rw[wR A,wR wF];by_cases e:n=m
 .rw[e];exact wJ _
 have N:=(z3T h.rd).2.2.2.2;have I:n - 1<p.st.length:=wF;have J:m - 1<p.st.length:=wF;have O:=(et.1 N (n - 1) (m - 1) I J wF).1;unfold z1C;rw[uF,uF,wL I,wL J];show p.st[n - 1].at_<=p.st[m - 1].at_;omega
theorem y6y(p:z0R)(n:Nat):toP p (n+1)=(z1C p.st).getD n 0:=by
 unfold toP;rw[wR wF,rj,wu]
theorem y0n{s:z0T}(Y:s.Ok){p:Nat×Nat×Nat}{x:z0R}{cl:Bool}(h:z4M s p=some (x,cl))(N:p≠z1P s):p.2.2<x.st.length:=by
 obtain⟨A,R,U,L⟩:=z9s h;refine Nat.lt_of_le_of_ne R fun e=>?_;cases cl with
 | true=>exact U ⟨rfl,e⟩
 | false=>
  have J:p.1=s.done.length/\x=s.cur:=by
   unfold z0T.parts at A;by_cases I:p.1<s.done.length
   .rw[uX (by simpa using I),uF,wL I]at A;simp at A
   rw[uO (by simp;omega)]at A;simp only[we]at A;by_cases O:p.1 - s.done.length=0
   .rw[O]at A;simp only[uv,wK,wk,dc]at A;exact⟨wF,A.symm⟩
   rw[uw (by simp;omega)]at A;cases A
  refine N ?_;obtain⟨p1,p2,p3⟩:=p;simp only at J e L;rw[e,J.2,y1y Y.cur]at L;unfold z1P;rw[J.1,<-L,e,J.2]
def q8t(B:Nat)(L:List Bool)(p:Array Value)(w:World):Prop:=∃a b c,p= #[.slice a b.length c,.int .i64 (L.length:Nat)]/\w.ownsRow B 5 1 (.slice a b.length c) b.length (z0c b)/\z0S b L
theorem z1R:(prog.underlying 51).map z6N=some true:=by kernel_rfl
theorem z0D:(prog.info? 51).map (·.size)=some 11:=by kernel_rfl
theorem z8I:(prog.underlying 45).map z6N=some true:=by kernel_rfl
theorem z2U:(prog.info? 45).map (·.size)=some 3:=by kernel_rfl
abbrev z1W:Array Value:= #[.int .u8 0,.int .u32 0,.int .u32 0,.int .u32 0,.int .u32 0,.int .u32 0,.int .u32 0,.bool false,.int .u64 0,.slice none 0 0,.int .i64 0]
theorem y2b:z1W.all (·.oneCell')=true:=by simp[Value.oneCell']
theorem q4w(bb mb B:Nat)(E:List (Int×z0I))(b:z0h)(S:Nat->Prop)(id:Nat)(dV:id<4294967296)(J O R:Nat)(h1:J<4294967296)(h2:O<4294967296)(h3:R<4294967296)(U:Int)(hm: -9223372036854775808<=U/\U<=9223372036854775807)(bJ:(j9 b id).done.length<=1000000000)(w:World)(h:z0w w bb mb E b B S):
  Calls prog 8 #[.pointer (some ⟨bb,0,none⟩),.int .u32 id,z4k (J,O,R),.int .i64 U] w (q0B (z4B (j9 b id) id (J,O,R) U) w):=by
 have d6:=z7 ((((Loc.start w).new (.cells #[.int .u32 J,.int .u32 O,.int .u32 R] 45)).new' (.cells z1W 51) (n:=w.heap.size+1) wH).new' (.cells #[.int .u32 0,.int .u32 0,.int .u32 0] 45) (n:=w.heap.size+1+1) wH);have H:=z7 h;have d4:=z7 bJ;have e5:=z7 (z9G bb mb B E b S id dV _ (h.low d6.o.low));have d9:=z7 (fun w' h'=>y8E bb mb B E b S id dV J O R h1 h2 h3 bJ w' h');clear h bJ;go_enter func8,ntmps8;go_wp2_with fail;refine e5.o.mono ?_;rintro e w1 ⟨X,rfl,hX,cM,hb,dW⟩;have dG:Hid (∀k,X.In k->k<w.heap.size\/w.heap.size+1+1<k):=z7 fun k Y=>by
  rcases dW with h|⟨-,h⟩
  .exact .inl (H.o.lo k ((H.o.each _ (z1q h)).2 k Y).1).2
  have:=h k Y;have h0:((w.alloc (.cells #[.int .u32 J,.int .u32 O,.int .u32 R] 45)).alloc (.cells z1W 51)).heap.size=w.heap.size+1+1:=wH;simp at this;exact .inr wF
 clear dW;have bS:=z7 (d6.o.call hb);have eE:=z7 hX;have bT:=z7 cM;obtain⟨p0,p1,p2,pf⟩:=cells3 (bS.o.get 2 rfl);have l0:=bS.o.lt 2 rfl;have e3:X.done.length<=1000000000:=by have:=d4.o;rw[<-cM,X.done_len]at this;exact this
 have dZ:=z7 (q0y X e3 J O R h1 h2 h3 w1 hX);clear hb hX cM;go_wp2_with fail;refine dZ.o.mono ?_;rintro e w2 ⟨⟨dX,rfl⟩|⟨x,cl,e2,aG,fL,rfl⟩,hb⟩
 .have aC:=z7 (bS.o.call hb);have aS:Hid (z4B (j9 b id) id (J,O,R) U=⟨122,0,(0,0,0),0,false, [],0,(0,0,0)⟩):=z7 (by unfold z4B;rw[<-bT.o,dX]);clear dX hb p0 p1 p2 pf;obtain⟨q0,q1,q2,qf⟩:=cells3 (aC.o.get 0 rfl);have l1:=aC.o.lt 0 rfl;go_upto_region 4 with fail
  obtain⟨W3,dL,dI⟩:=((z0U.of (S:=fun _=>False) aC.o).lay (K':= [(w.heap.size+1+1,.cells #[.int .u32 0,.int .u32 0,.int .u32 0] 45 (0,0)),(w.heap.size+1,.cells z1W 51 (0,0)),(w.heap.size,.cells #[.int .u32 J,.int .u32 O,.int .u32 R] 45 (0,0))]) 1 0 z1W.toList rfl rfl rfl rfl).named;have a0:=z7 dI;have eC:=z7 dL;have eT:=z7 (z0B (aC.o.get 1 rfl) (n:=11) rfl);have eL:=z7 (z0y (aC.o.get 1 rfl));have eU:=z7 (z0B (a0.o.get 0 rfl) (n:=3) rfl);have eM:=z7 (z0y (a0.o.get 0 rfl));clear dI dL q0 q1 q2 qf;go_wp2_with (first|(refine z0e rfl 51 _ _ rfl (w.heap.size+1) 0 rfl z1W rfl eT.o eL.o z0D y2b ?_;refine z5J eC.o ?_)|(refine z0e rfl 45 _ _ rfl (w.heap.size+1+1) 0 rfl #[.int .u32 0,.int .u32 0,.int .u32 0] rfl eU.o eM.o z2U (by simp[Value.oneCell']) ?_));have cF:=a0.o.lay (K':= [(w.heap.size+1+1,.cells #[.int .u32 0,.int .u32 0,.int .u32 0] 45 (0,0)),(w.heap.size+1,.cells z1W 51 (0,0)),(w.heap.size,.cells #[.int .u32 J,.int .u32 O,.int .u32 R] 45 (0,0))]) 0 0 [.int .u32 0,.int .u32 0,.int .u32 0] rfl rfl rfl rfl;refine wU (y1C rfl rfl (cF.get 1 rfl) z1R z0D rfl (cF.get 0 rfl) z8I z2U) rfl ?_;rw[aS.o];exact⟨none,0, [],rfl,uN _ _ _ _,z0S.nil,cF.low.toBelow⟩
 have aC:=z7 (bS.o.call hb);have dA:=z7 (eE.o.low hb);have aA:=z7 e2;have b8:=z7 aG;have bH:=z7 (fun w' h'=>y8F X e3 w' h');obtain⟨⟨D,EB,EC⟩,cE⟩:∃e,e=z1P X.ser:=⟨_,rfl⟩;rw[<-cE]at bH;obtain⟨cD,c5⟩:=zN (decide ((J,O,R)=(D,EB,EC)));have HE:=z7 c5.symm;have c8:=z7 cE;clear e2 aG hb p0 p1 p2 pf l0 dZ cE c5;go_upto_region 5 with fail
 refine q6 5 119 (fun D v w'=>Below w2.heap.size w2 w') wD.drew ?_;simp only[z0C];iterate 2 (refine q8.rd ?_ (fun D v w' I A=>?_) ?_;rotate_left;(obtain⟨p0,p1,p2,pf⟩:=cells3 ((aC.o.call A).get 2 rfl);have l0:=(aC.o.call A).lt 2 rfl;clear A I;go_simp;try rfl);go_simp)
 refine q8.ca (z4k (D,EB,EC)) (fun D v w' I A=>?_) ?_;(focus (have HZ:=z7 A;clear A I;skip;go_simp;go_at_call 30;refine(bH.o w' (dA.o.low HZ.o)).mono ?_;rintro e d0 ⟨rfl,hb⟩;exact⟨rfl,HZ.o.trans (hb.mono HZ.o.size)⟩));go_simp;refine q8.rl (.bool cD) (fun D v w h=>h) (fun _ v w' I A=>z5e _ _ _ rfl (J,O,R) (D,EB,EC) rfl rfl cD HE.o) ?_;go_simp;(refine q8.rd ?_ (fun D v w' I A=>?_) ?_;rotate_left;(clear A I;go_simp;try rfl);go_simp)
 refine q8.fin (fun v w3 A=>?_);have a0:=z7 (aC.o.call A);have bA:=z7 (dA.o.low A);clear A bH;cases cD with
 | true=>
  have aS:Hid (z4B (j9 b id) id (J,O,R) U=⟨0,0,(0,0,0),0,false, [],0,(J,O,R)⟩):=z7 (by
   unfold z4B;rw[<-bT.o,b8.o];simp only;rw[wZ];rw[<-c8.o];exact ua HE.o)
  go_upto_region 6 with fail
  refine q6 5 119 (fun D v w'=>z6M w3 (w.heap.size+1) (w.heap.size+1+1) 51 45 z1W z1W #[.int .u32 0,.int .u32 0,.int .u32 0] #[.int .u32 J,.int .u32 O,.int .u32 R] 2 3 D w') (z6M.start (a0.o.get 1 rfl) (a0.o.get 0 rfl)) ?_;simp only[z0C];have a8:¬(w.heap.size+1=w.heap.size+1+1):=wF;have dY:Hid (∀w',z0n (fun k=>k=w.heap.size+1\/k=w.heap.size+1+1) w3 w'->w'.heap[w.heap.size]? =some (.cells #[.int .u32 J,.int .u32 O,.int .u32 R] 45 (0,0))):=z7 fun w' ho=>(ho.block _ (a0.o.lt 2 rfl) wF).trans (a0.o.get 2 rfl);iterate 2 (refine q8.rl ?_ (fun D v w h=>h.other _ wG wG wD) (fun D v w' I A=>?_) ?_;rotate_left;(obtain⟨p0,p1,p2,pf⟩:=cells3 (dY.o w' A.low);have l0:=(wI.1 (dY.o w' A.low)).1;clear A I;go_simp;try rfl);go_simp)
  refine q8.ca undef (fun D v w' I A=>?_) ?_
  .exact z2y _ _ _ rfl (w.heap.size+1) 0 rfl z1W rfl (A.size1 rfl) (z0y A.b1) z0D y2b ⟨undef,rfl,rfl,A.st1 a8 wG rfl⟩
  go_simp;refine q8.ca undef (fun D v w' I A=>?_) ?_
  .exact z2y _ _ _ rfl (w.heap.size+1+1) 0 rfl #[.int .u32 J,.int .u32 O,.int .u32 R] rfl (A.size2 rfl) (z0y A.b2) z2U (by simp[Value.oneCell']) ⟨undef,rfl,rfl,A.st2 a8 wG rfl⟩
  go_simp;(refine q8.rl ?_ (fun D v w h=>h.other _ wG wG wD) (fun D v w' I A=>?_) ?_;rotate_left;(clear A I;go_simp;try rfl);go_simp)
  refine q8.fin (fun v w4 A=>?_);have a6:=A.b1;have a7:=A.b2;have a5:=A.low;simp only[show decide (2<5)=true from rfl,show decide (3<5)=true from rfl,de]at a6 a7;have b3:=z7 a6;have b4:=z7 a7;have aT:=z7 a5;clear A a6 a7 a5;go_wp2;refine wU (y1C rfl rfl b3.o z1R z0D rfl b4.o z8I z2U) rfl ?_;rw[aS.o];exact⟨none,0, [],rfl,uN _ _ _ _,z0S.nil,a0.o.low.trans (aT.o.below a0.o.low.size (fun k Y=>wF))⟩
 | false=>
  have dM:=bA.o.ok;have bN:=y0n dM b8.o (by rw[<-c8.o];exact dm HE.o);have cU:=(bA.o.partOk aA.o).1;have e1:=cU.ok.len;obtain⟨pn,aV⟩:=zN x.p.st.length;obtain⟨EN,aW⟩:=zN (z1C x.p.st);have aY:EN.length=pn:=(by rw[aW,aV,z4l]);simp only at bN;rw[<-aV]at bN e1;have d8:=z7 aV;have fE:=z7 aW;have dJ:Hid (∀n,n<pn->EN.getD n 0<=3504):=z7 fun n hn=>by rw[aW,<-y6y];exact q2L cU.ok _
  have aE:Hid (∀w',Below w3.heap.size w3 w'->X.g<w'.heap.size/\w'.cell? ⟨X.g,J*11+2,none⟩=some (.slice x.ea pn x.ec)/\w'.cell? ⟨X.g,J*11+3+7,none⟩=some (.bool cl)):=z7 fun w' hb=>by
   have h1:=bA.o.low hb;exact⟨h1.lts X.g (.inr (.inl rfl)),by rw[aV];exact h1.partAt aA.o rfl 2 _ rfl,h1.partAt aA.o rfl 10 _ rfl⟩
  have bI:Hid (∀w',Below w3.heap.size w3 w'->∀n,n<pn->∃ad,x.ea=some ad/\w'.cell? (ad.add n)=some (.int .i64 ((EN.getD n 0:Nat):Int))):=z7 fun w' hb n hn=>by
   have h1:=((bA.o.low hb).partOk aA.o).1.ends.now;rw[<-aV,<-aW]at h1;rcases h1.2 with⟨-,h2⟩|⟨ad,cp,h2,h3⟩
   .omega
   simp only[wO,oP]at h2;refine⟨ad,h2.1,h3 n _ ?_⟩;unfold z2K;rw[uF,wL wF,wu,wL wF];rfl
  obtain⟨M,hM⟩:=zN (y1l x.p O R U);have cG:z6u EN O U (pn - (R+1)) (R+1)=M:=(by rw[hM];unfold y1l;rw[aW,aV]);have HM:=z7 hM;have eV:IntKind.i64.wrap (R:Int)=(R:Int):=(by rw[uL];omega);have eX:IntKind.i64.wrap ((R:Int)+1)=((R:Int)+1):=(by rw[uL];omega);have eW:IntKind.i64.wrap (O:Int)=(O:Int):=(by rw[uL];omega);obtain⟨p0,p1,p2,pf⟩:=cells3 (a0.o.get 2 rfl);have l0:=a0.o.lt 2 rfl;clear dM cU aV aW hM
  go_upto_block 1 with fail
  go_cut[13] (fun nv wx=>nv= .int .i64 (M:Nat)/\Hid (Below w3.heap.size w3 wx))
  case first=>
   go_wp2_with fail;go_loopw[13] (fun nv wr=>∃n:Nat,nv= .int .i64 (n:Nat)/\z6u EN O U (pn - n) n=M/\R+1<=n/\n<=pn/\Hid (Below w3.heap.size w3 wr)) (fun nv _=>match nv with | .int _ y=>pn - y.toNat|_=>0)
   case atStart=>exact⟨R+1,rfl,cG,wJ _,wF,z7 wD⟩
   case round=>
    obtain⟨n,rfl,hG,fI,fJ,hb⟩:=hrel;obtain⟨lg,c2,cB⟩:=aE.o wr hb.o;clear p0 p1 p2 pf l0;obtain⟨p0,p1,p2,pf⟩:=cells3 ((a0.o.call hb.o).get 2 rfl);have l0:=(a0.o.call hb.o).lt 2 rfl;have cO:=z7 hb;by_cases cT:n<pn
    .obtain⟨ad,dT,dO⟩:=bI.o wr hb.o n cT;have fS:=dq _ _ dO;have eH:=dJ.o n cT;obtain⟨T,hT⟩:=zN (EN.getD n 0);rw[<-hT]at dO eH;rw[dT]at c2;have d1:decide ((n:Int)<(pn:Int))=true:=hQ;have fH:(0:Int)<=n/\(n:Int)<pn:=wF;have fR:IntKind.i64.wrap ((T:Int) - (O:Int))=(T:Int) - (O:Int):=(by rw[uL];omega);have fO:IntKind.i64.wrap ((n:Int)+1)=((n+1:Nat):Int):=z0l wF wF;have HG:=z7 hG;have HT:=z7 hT;have d3:=z7 aY;clear dT hT hG aY hb;by_cases bX:(T:Int) - (O:Int)<=U
     .have d2:decide ((T:Int) - (O:Int)<=U)=true:=wQ bX;have hf:z6u EN O U (pn - (n+1)) (n+1)=M:=by
       have h9:=HG.o;rw[show pn - n=(pn - (n+1))+1 by omega,z6u,wZ ⟨by rw[d3.o];exact cT,by rw[<-HT.o];exact bX⟩]at h9;exact h9
      have HF:=z7 hf;clear hf;go_wp2_with fail;go_quiet (fail)
      go_wp2;exact⟨⟨n+1,rfl,HF.o,wF,wF,z7 (z0j cO.o.o)⟩,by show pn - ((n+1:Nat):Int).toNat<pn - (n:Int).toNat;omega⟩
     have d2:decide ((T:Int) - (O:Int)<=U)=false:=wM bX;have hf:n=M:=by
      have h9:=HG.o;rw[show pn - n=(pn - (n+1))+1 by omega,z6u,wR (by rintro⟨-,h⟩;rw[<-HT.o]at h;exact bX h)]at h9;exact h9
     have HF:=z7 hf;clear hf;go_wp2_with fail;go_quiet (fail)
     go_wp2;go_meet
     exact⟨by rw[HF.o],z7 (z0j cO.o.o)⟩
    have d1:decide ((n:Int)<(pn:Int))=false:=wC;have hf:n=M:=by
     have e0:pn - n=0:=wF;rw[e0,z6u]at hG;exact hG
    have HF:=z7 hf;clear hf hG hb;go_wp2_with fail;go_quiet (fail)
    go_wp2;go_meet
    exact⟨by rw[HF.o],z7 (z0j cO.o.o)⟩
  case rest=>
   obtain⟨rfl,bE⟩:=hcut;have hM:=z7v EN O U (pn - (R+1)) (R+1) wF;rw[cG,aY]at hM;have a4:=z7 (a0.o.call bE.o);have dB:=z7 (bA.o.low bE.o);have fC:=z7 (H.o.low a4.o.low);obtain⟨cd,dN⟩:=zN ((cl&&decide (M=pn)));have fM:IntKind.u32.wrap (M:Int)=(M:Int):=(by rw[eP];omega);have aM:Hid (∀w',Below wc.heap.size wc w'->X.g<w'.heap.size/\w'.cell? ⟨X.g,J*11+2,none⟩=some (.slice x.ea pn x.ec)/\w'.cell? ⟨X.g,J*11+3+7,none⟩=some (.bool cl)):=z7 fun w' hb=>aE.o w' (bE.o.trans (hb.mono bE.o.size));have c7:=z7 dN;clear dN bE p0 p1 p2 pf l0 cG aY bI aE eV eX;go_upto_region 10 with fail
   go_cut[14] (fun u wx=>Hid (∃g,u= .pointer (some ⟨g,0,none⟩)/\Loc w [(g,.cells #[.int .u8 0,.int .u32 0,.int .u32 id,.int .u32 J,.int .u32 O,.int .u32 R,.int .u32 (M:Nat),.bool cd,.int .u64 0,.slice none 0 0,.int .i64 0] 51 (0,0)),(w.heap.size+1+1,.cells #[.int .u32 0,.int .u32 0,.int .u32 0] 45 (0,0)),(w.heap.size+1,.cells z1W 51 (0,0)),(w.heap.size,.cells #[.int .u32 J,.int .u32 O,.int .u32 R] 45 (0,0))] wx/\Below wc.heap.size wc wx/\wc.heap.size<=g))
   case first=>
    cases cl with
    | false=>
     have dR:cd=false:=(by rw[c7.o];rfl);have e7:=z7 dR;clear dR;refine q6 19 119 (fun D v w'=>AlS wc 18 51 z1W D v w') (AlS.start _ _ _ _) ?_;simp only[z0C];iterate 9 (refine q8.rl ?_ (fun D v w h=>⟨h.low,h.made⟩) (fun D v w' I A=>?_) ?_;rotate_left;(obtain⟨p0,p1,p2,pf⟩:=cells3 ((a4.o.call A.low).get 2 rfl);have l0:=(a4.o.call A.low).lt 2 rfl;obtain⟨lg,c2,cB⟩:=aM.o w' A.low;clear A I;go_simp;try rfl);go_simp)
     iterate 7 (refine q8.sk (fun D v w h=>⟨h.low,h.made⟩) ?_;go_simp)
     iterate 2 (refine q8.rl ?_ (fun D v w h=>⟨h.low,h.made⟩) (fun D v w' I A=>?_) ?_;rotate_left;(clear A I;go_simp;try rfl);go_simp)
     refine q8.re (fun D v w' I A=>?_) ?_
     .have aU:=z7 A.make;clear A I;go_simp;exact aU.o
     go_simp;refine q8.fin (fun v w5 A=>?_);obtain⟨g,hv,bM,aN⟩:=A.made rfl;rw[hv];have aI:=a4.o.call A.low;have aJ:=(z0U.of (S:=fun _=>False) aI).cons aN (by have:=a4.o.low.size;omega) (fun q hq=>by have:=a4.o.lts hq;omega);have a1:=z7 aJ;have b7:=z7 A.low;have b6:=z7 bM;clear A hv bM aN aI aJ;have cX:=z7 (z0B (a1.o.get 0 rfl) (n:=11) rfl);have cR:=z7 (z0y (a1.o.get 0 rfl));go_wp2_with (refine z0e rfl 51 _ _ rfl g 0 rfl #[.int .u8 0,.int .u32 0,.int .u32 id,.int .u32 J,.int .u32 O,.int .u32 R,.int .u32 (M:Nat),.bool false,.int .u64 0,.slice none 0 0,.int .i64 0] rfl cX.o cR.o z0D (by simp[Value.oneCell']) ?_);go_meet
     rw[e7.o];exact z7 ⟨g,rfl,(a1.o.lay (K':= [(g,.cells #[.int .u8 0,.int .u32 0,.int .u32 id,.int .u32 J,.int .u32 O,.int .u32 R,.int .u32 (M:Nat),.bool false,.int .u64 0,.slice none 0 0,.int .i64 0] 51 (0,0)),(w.heap.size+1+1,.cells #[.int .u32 0,.int .u32 0,.int .u32 0] 45 (0,0)),(w.heap.size+1,.cells z1W 51 (0,0)),(w.heap.size,.cells #[.int .u32 J,.int .u32 O,.int .u32 R] 45 (0,0))]) 0 0 [.int .u8 0,.int .u32 0,.int .u32 id,.int .u32 J,.int .u32 O,.int .u32 R,.int .u32 (M:Nat),.bool false,.int .u64 0,.slice none 0 0,.int .i64 0] rfl rfl rfl rfl).toLoc,z0n.below ((z0n.of_below (S:=fun k=>k=g) b7.o).trans (z0n.setCells (S:=fun k=>k=g) rfl _ 0 _) fun k Y=> .inl Y) wE (fun k Y=>by have:=b6.o;omega),b6.o⟩
    | true=>
     have e8:=z7 (show decide (M=pn)=cd by rw[c7.o,pL]);refine q6 19 119 (fun D v w'=>AlS wc 18 51 z1W D v w') (AlS.start _ _ _ _) ?_;simp only[z0C];iterate 9 (refine q8.rl ?_ (fun D v w h=>⟨h.low,h.made⟩) (fun D v w' I A=>?_) ?_;rotate_left;(obtain⟨p0,p1,p2,pf⟩:=cells3 ((a4.o.call A.low).get 2 rfl);have l0:=(a4.o.call A.low).lt 2 rfl;obtain⟨lg,c2,cB⟩:=aM.o w' A.low;clear A I;go_simp;try rfl);go_simp)
     iterate 6 (refine q8.rl ?_ (fun D v w h=>⟨h.low,h.made⟩) (fun D v w' I A=>?_) ?_;rotate_left;(obtain⟨p0,p1,p2,pf⟩:=cells3 ((a4.o.call A.low).get 2 rfl);have l0:=(a4.o.call A.low).lt 2 rfl;obtain⟨lg,c2,cB⟩:=aM.o w' A.low;clear A I;go_simp;try rfl);go_simp)
     refine q8.rl (.bool cd) (fun D v w h=>⟨h.low,h.made⟩) (fun D v w' I A=>?_) ?_
     .clear A I;go_simp;rw[<-e8.o,uc];simp only[mq,od];omega
     go_simp;iterate 2 (refine q8.rl ?_ (fun D v w h=>⟨h.low,h.made⟩) (fun D v w' I A=>?_) ?_;rotate_left;(clear A I;go_simp;try rfl);go_simp)
     refine q8.re (fun D v w' I A=>?_) ?_
     .have aU:=z7 A.make;clear A I;go_simp;exact aU.o
     go_simp;refine q8.fin (fun v w5 A=>?_);obtain⟨g,hv,bM,aN⟩:=A.made rfl;rw[hv];have aI:=a4.o.call A.low;have aJ:=(z0U.of (S:=fun _=>False) aI).cons aN (by have:=a4.o.low.size;omega) (fun q hq=>by have:=a4.o.lts hq;omega);have a1:=z7 aJ;have b7:=z7 A.low;have b6:=z7 bM;clear A hv bM aN aI aJ;have cX:=z7 (z0B (a1.o.get 0 rfl) (n:=11) rfl);have cR:=z7 (z0y (a1.o.get 0 rfl));go_wp2_with (refine z0e rfl 51 _ _ rfl g 0 rfl #[.int .u8 0,.int .u32 0,.int .u32 id,.int .u32 J,.int .u32 O,.int .u32 R,.int .u32 (M:Nat),.bool cd,.int .u64 0,.slice none 0 0,.int .i64 0] rfl cX.o cR.o z0D (by simp[Value.oneCell']) ?_);go_meet
     exact z7 ⟨g,rfl,(a1.o.lay (K':= [(g,.cells #[.int .u8 0,.int .u32 0,.int .u32 id,.int .u32 J,.int .u32 O,.int .u32 R,.int .u32 (M:Nat),.bool cd,.int .u64 0,.slice none 0 0,.int .i64 0] 51 (0,0)),(w.heap.size+1+1,.cells #[.int .u32 0,.int .u32 0,.int .u32 0] 45 (0,0)),(w.heap.size+1,.cells z1W 51 (0,0)),(w.heap.size,.cells #[.int .u32 J,.int .u32 O,.int .u32 R] 45 (0,0))]) 0 0 [.int .u8 0,.int .u32 0,.int .u32 id,.int .u32 J,.int .u32 O,.int .u32 R,.int .u32 (M:Nat),.bool cd,.int .u64 0,.slice none 0 0,.int .i64 0] rfl rfl rfl rfl).toLoc,z0n.below ((z0n.of_below (S:=fun k=>k=g) b7.o).trans (z0n.setCells (S:=fun k=>k=g) rfl _ 0 _) fun k Y=> .inl Y) wE (fun k Y=>by have:=b6.o;omega),b6.o⟩
   case rest=>
    obtain⟨g,rfl,aI,bV,dU⟩:=hcut;have a1:=z7 aI;have dF:Hid (∀k,X.In k->k≠g):=z7 fun k Y e=>by have:=dB.o.lts k Y;omega
    have eF:=z7 (dB.o.low bV);have bD:Hid (∀w',Below wc.heap.size wc w'->X.g<w'.heap.size/\w'.cell? ⟨X.g,J*11+2,none⟩=some (.slice x.ea pn x.ec)/\w'.cell? ⟨X.g,J*11+3+7,none⟩=some (.bool cl)):=z7 fun w' hb=>aM.o w' (bV.trans (hb.mono bV.size));have bR:=d9.o wc (H.o.low a1.o.low);obtain⟨SM,cI⟩:=zN (z3h 0 (x.p.l.take O));have dD:z9t (j9 b id) (J,O,R)=(SM,0):=by unfold z9t;rw[<-bT.o,b8.o,cI]
    rw[dD]at bR;have HS:=z7 bR;have eA:=z7 cI;obtain⟨f0,f1,f2,f3,f4,f5,f6,f7,f8,f9,cC,ff⟩:=z0t (a1.o.get 0 rfl);obtain⟨p0,p1,p2,pf⟩:=cells3 (a1.o.get 3 rfl);have l0:=a1.o.lt 3 rfl;have l1:=a1.o.lt 0 rfl;clear aI bV bR cI dD aM dU;go_wp2_with fail;refine HS.o.mono ?_;rintro e w6 ⟨rfl,hb⟩;have cA:=z7 (a1.o.call hb);have dC:=z7 (eF.o.low hb);have dS:Hid (∀w',Below w6.heap.size w6 w'->X.g<w'.heap.size/\w'.cell? ⟨X.g,J*11+2,none⟩=some (.slice x.ea pn x.ec)/\w'.cell? ⟨X.g,J*11+3+7,none⟩=some (.bool cl)):=z7 fun w' eI=>bD.o w' (hb.trans (eI.mono hb.size));clear hb f0 f1 f2 f3 f4 f5 f6 f7 f8 f9 cC ff p0 p1 p2 pf l0 l1 bD;obtain⟨f0,f1,f2,f3,f4,f5,f6,f7,f8,f9,cC,ff⟩:=z0t (cA.o.get 0 rfl);have l1:=cA.o.lt 0 rfl;go_upto_region 12 with fail
    have bU:=(z0U.of (S:=fun _=>False) cA.o).lay (K':= [(g,.cells #[.int .u8 0,.int .u32 0,.int .u32 id,.int .u32 J,.int .u32 O,.int .u32 R,.int .u32 (M:Nat),.bool cd,.int .u64 (SM:Nat),.slice none 0 0,.int .i64 0] 51 (0,0)),(w.heap.size+1+1,.cells #[.int .u32 0,.int .u32 0,.int .u32 0] 45 (0,0)),(w.heap.size+1,.cells z1W 51 (0,0)),(w.heap.size,.cells #[.int .u32 J,.int .u32 O,.int .u32 R] 45 (0,0))]) 0 8 [.int .u64 (SM:Nat)] rfl rfl rfl rfl;obtain⟨w7,cZ,bU⟩:=bU.named;refine z0s cZ ?_;have cW:z0n (fun k=>k=g) w6 w7:=(by rw[cZ];exact z0n.setCells (S:=fun k=>k=g) rfl _ _ _);have cJ:=dC.o.keep (fun k Y=>cW.block k (dC.o.lts k Y) (dF.o k Y)) cW.size;have a2:=z7 bU;have dE:=z7 cJ;obtain⟨T2,bC⟩:=zN (toP x.p M);have cH:M<=x.p.st.length:=(by have:=d8.o;omega);have cY:=z7 (fun w' h'=>q6T X J x cl aA.o _ rfl M cH w' h');have aZ:=(cJ.partOk aA.o).1;have aG:=z9s b8.o;have bZ:T2<=x.p.l.length:=(by rw[bC];exact y0j aZ.ok M);have eR:O<=T2:=by
     have h9:=aG.2.2.2;simp only at h9;rw[bC,<-h9];exact y6x aZ.ok wF cH
    have eY:=aZ.ok.bits;obtain⟨N,hN⟩:=zN x.p.l.length;obtain⟨bl,cN⟩:=zN x.b.length;have bG:=z7 (fun w' (h':z0H w' X)=>q2D x.a bl x.c x.p.l x.b O T2 w' (by rw[cN];exact((h'.partOk aA.o).1).rd.now) wF eR bZ);obtain⟨L,hL⟩:=zN ((x.p.l.drop O).take (T2 - O));rw[<-hN,<-hL]at bG;rw[<-bC]at cY;have eB:=z7 bC;have e9:=z7 hL;have HN:=z7 hN;have e6:=z7 cN;have eZ:T2<=3504:=wF;have fA:IntKind.i64.wrap (M:Int)=(M:Int):=by rw[uL];omega
    have eN:=a2.o.lt 0 rfl;have aD:Hid (∀w',z0n (fun k=>k=g) w7 w'->z0H w' X/\w'.heap[w.heap.size]? =some (.cells #[.int .u32 J,.int .u32 O,.int .u32 R] 45 (0,0))):=z7 fun w' ho=>⟨dE.o.keep (fun k Y=>ho.block k (dE.o.lts k Y) (dF.o k Y)) ho.size,(ho.block _ (a2.o.lt 3 rfl) (fun e=>by have:=a2.o.nodup;rw[e]at this;simp at this)).trans (a2.o.get 3 rfl)⟩;clear bU cZ cW cJ aZ aG bZ eY bC hL hN cN cH f0 f1 f2 f3 f4 f5 f6 f7 f8 f9 cC ff l1 dS;refine q6 16 119 (fun D v w'=>CfS w7 10 2 (.int .u16 0) (q8t (w.heap.size+1+1+1) L) g 51 [.int .u8 0,.int .u32 0,.int .u32 id,.int .u32 J,.int .u32 O,.int .u32 R,.int .u32 (M:Nat),.bool cd,.int .u64 (SM:Nat),.slice none 0 0,.int .i64 0] 9 D v w') (CfS.start (a2.o.get 0 rfl)) ?_;simp only[z0C];iterate 9 (refine q8.rl ?_ (fun D v w h=>h.other _ wG wG wG wG wD) (fun D v w' I A=>?_) ?_;rotate_left;(obtain⟨aL,aH⟩:=aD.o w' A.low;obtain⟨p0,p1,p2,pf⟩:=cells3 aH;have l0:=(wI.1 aH).1;have lg:=aL.lts X.g (.inr (.inl rfl));have c0:=aL.partAt aA.o rfl 0 (.slice x.a bl x.c) (by rw[e6.o];rfl);have c1:=aL.partAt aA.o rfl 1 (.int .i64 (N:Nat)) (by rw[HN.o];rfl);simp only[dp]at c0;clear aL aH;clear A I;go_simp;try rfl);go_simp)
    refine q8.ca (.int .i64 (T2:Nat)) (fun D v w' I A=>?_) ?_
    .have HZ:=z7 A;have bB:=z7 (aD.o w' A.low).1;clear A I;go_simp;go_at_call 33;refine(cY.o w' bB.o).mono ?_;rintro e d0 ⟨rfl,rfl⟩;exact⟨rfl,HZ.o.other 9 wG wG wG wG wD⟩
    go_simp;refine q8.re (fun D v w' I A=>?_) ?_
    .have HZ:=z7 A;have bB:=z7 (aD.o w' A.low).1;have eG:=z7 I.self;clear A I;go_simp;go_at_call 32;refine(bG.o w' bB.o).mono ?_;rintro e d0 ⟨a',n',c',b',rfl,aB,rfl,eJ,hb⟩;exact HZ.o.call eG.o hb #[.slice a' b'.length c',.int .i64 (L.length:Nat)] (fun k=>(Value.slice a' b'.length c').ownBlock=some k) rfl (by simp[Value.oneCell']) (fun w3 Y=>⟨a',b',c',rfl,z0f (j7 aB fun k eO=>Y k eO) (by have:=HZ.o.low.size;have:=a2.o.lt 1 rfl;omega),eJ⟩) (fun k Y=>aB.lt k Y)
    go_simp;refine q8.re (fun D v w' I A=>?_) ?_;(focus (have d:=I.pre 10 (by kernel_rfl);have aU:=z7 (A.move d);clear A I;go_simp;exact aU.o));go_simp;refine q8.re (fun D v w' I A=>?_) ?_;(focus (obtain⟨d,hm⟩:=A.m (I.pre 11 (by kernel_rfl));obtain⟨p,F,hp, -⟩:=A.c d;have aU:=z7 (A.ext d hp (I.post 15 _ rfl (by kernel_rfl)));rw[hp]at hm;clear A I hp;go_simp;exact aU.o));go_simp;refine q8.rl (.int .u16 0) (fun D v w h=>h.other 13 wG wG wG wG wD) (fun D v w' I A=>?_) ?_;(focus (obtain⟨d,hm⟩:=A.m (I.pre 11 (by kernel_rfl));obtain⟨p,F,hp, -⟩:=A.c d;rw[hp]at hm;clear A I hp;go_simp));go_simp;refine q8.rl ?_ (fun D v w h=>h.other 14 wG wG wG wG wD) (fun D v w' I A=>?_) ?_;rotate_left;(clear A I;go_simp;try rfl);go_simp;refine q8.ca undef (fun D v w' I A=>?_) ?_;(focus (have d5:D 15=false:=I.self;obtain⟨d,he⟩:=A.e (I.pre 12 (by kernel_rfl));obtain⟨p,F,hp,aG,eS, -⟩:=A.c d;have hv:=he p hp;refine z2y _ _ _ rfl g 9 rfl p hv (fun j hj=>z0B (A.b0 d5) rfl (9+j) (by rw[aG]at hj;simp;omega) |>fun h=>by rw[uZ]at h;exact h) (z0y (A.b0 d5)) (by rw[aG];exact y4i) eS ?_;exact⟨undef,rfl,rfl,A.store eN d d5 hv (by rw[aG];simp)⟩));go_simp;refine q8.fin (fun v w8 A=>?_);obtain⟨p,F,hp, -, -,hR, -⟩:=A.c rfl;obtain⟨p',cV,aN⟩:=A.b1 rfl;have c6:=(A.e rfl).2 p hp;rw[c6]at cV
    simp only[Value.agg.injEq]at cV;subst cV;obtain⟨a9,b9,c9,rfl,aB,bF⟩:=hR.now;have a3:=A.low;obtain⟨cL,bO⟩:=aD.o w8 a3;have aO:g≠w.heap.size+1+1/\g≠w.heap.size+1:=by
     have:=a2.o.nodup;simp at this;omega
    have dH:=z7 ((a3.block _ (a2.o.lt 2 rfl) (fun e=>aO.2 e.symm)).trans (a2.o.get 2 rfl));have d7:=z7 ((a3.block _ (a2.o.lt 1 rfl) (fun e=>aO.1 e.symm)).trans (a2.o.get 1 rfl));have aF:Hid (Below w.heap.size w w8):=z7 (a2.o.low.toBelow.trans (a3.below a2.o.low.size (fun k Y=>by have:=a2.o.ge 0 rfl;omega)));have bL:w8.heap[g]? =some (.cells #[.int .u8 0,.int .u32 0,.int .u32 id,.int .u32 J,.int .u32 O,.int .u32 R,.int .u32 (M:Nat),.bool cd,.int .u64 (SM:Nat),.slice a9 b9.length c9,.int .i64 (L.length:Nat)] 51 (0,0)):=aN;have aX:=z7 aB;have b5:=z7 bF;have a8:¬(w.heap.size+1=w.heap.size+1+1):=wF;have aR:Hid (∀w',z0n (fun k=>k=w.heap.size+1\/k=w.heap.size+1+1) w8 w'->z0H w' X/\w'.heap[g]? =some (.cells #[.int .u8 0,.int .u32 0,.int .u32 id,.int .u32 J,.int .u32 O,.int .u32 R,.int .u32 (M:Nat),.bool cd,.int .u64 (SM:Nat),.slice a9 b9.length c9,.int .i64 (L.length:Nat)] 51 (0,0))/\w'.heap[w.heap.size]? =some (.cells #[.int .u32 J,.int .u32 O,.int .u32 R] 45 (0,0))):=z7 fun w' ho=>
     ⟨cL.keep (fun k Y=>ho.block k (cL.lts k Y) (fun e=>by have:=dG.o k Y;omega)) ho.size,(ho.block g (wI.1 bL).1 (fun e=>e.elim aO.2 aO.1)).trans bL,(ho.block _ (wI.1 bO).1 wF).trans bO⟩
    have bW:Hid (∀k,(Value.slice a9 b9.length c9).ownBlock=some k->¬(k=w.heap.size+1\/k=w.heap.size+1+1)):=z7 fun k Y=>by have:=(aB.lt k Y).1;omega
    have eD:J<=1000000000:=by
     have:=(wY.1 aA.o).1;rw[X.parts_len]at this;omega
    have fB:IntKind.u32.wrap ((J:Int)+1)=((J:Int)+1):=(by rw[eP];omega);have fN:IntKind.u32.wrap (T2:Int)=(T2:Int):=(by rw[eP];omega);obtain⟨g0,g1,g2,g3,g4,g5,g6,g7,fG,g9,fF,gf⟩:=z0t bL;have e4:=(wI.1 bL).1;clear A hp hR aN c6 a3 cL bO aB bF aO bL;have bY:Hid (z4B (j9 b id) id (J,O,R) U=⟨0,id,(J,O,R),M,cd,L,SM,if cd=true then(J+1,0,0)else(J,T2,M)⟩):=z7 (by
     unfold z4B;rw[<-bT.o,b8.o];simp only;rw[wR (by rw[<-c8.o];exact dm HE.o),<-HM.o,<-d8.o,<-c7.o,<-eB.o,<-e9.o,<-eA.o])
    cases cd with
    | true=>
     have aS:Hid (z4B (j9 b id) id (J,O,R) U=⟨0,id,(J,O,R),M,true,L,SM,(J+1,0,0)⟩):=z7 bY.o;go_upto_region 14 with fail
     refine q6 8 119 (fun D v w'=>z6M w8 (w.heap.size+1) (w.heap.size+1+1) 51 45 z1W #[.int .u8 0,.int .u32 0,.int .u32 id,.int .u32 J,.int .u32 O,.int .u32 R,.int .u32 (M:Nat),.bool true,.int .u64 (SM:Nat),.slice a9 b9.length c9,.int .i64 (L.length:Nat)] #[.int .u32 0,.int .u32 0,.int .u32 0] #[.int .u32 ((J:Int)+1),.int .u32 0,.int .u32 0] 5 6 D w') (z6M.start dH.o d7.o) ?_;simp only[z0C];refine q8.rl (.agg #[.int .u8 0,.int .u32 0,.int .u32 id,.int .u32 J,.int .u32 O,.int .u32 R,.int .u32 (M:Nat),.bool true,.int .u64 (SM:Nat),.slice a9 b9.length c9,.int .i64 (L.length:Nat)]) (fun D v w h=>h.other _ wG wG wD) (fun D v w' I A=>z1E _ _ rfl g 0 rfl _ (z1o (aR.o w' A.low).2.1) z1R z0D) ?_;go_simp;iterate 4 (refine q8.rl ?_ (fun D v w h=>h.other _ wG wG wD) (fun D v w' I A=>?_) ?_;rotate_left;(obtain⟨aL,cS,aH⟩:=aR.o w' A.low;obtain⟨p0,p1,p2,pf⟩:=cells3 aH;have l0:=(wI.1 aH).1;have e4:=(wI.1 cS).1;clear aL;clear A I;go_simp;try rfl);go_simp)
     refine q8.ca undef (fun D v w' I A=>?_) ?_
     .exact z2y _ _ _ rfl (w.heap.size+1) 0 rfl #[.int .u8 0,.int .u32 0,.int .u32 id,.int .u32 J,.int .u32 O,.int .u32 R,.int .u32 (M:Nat),.bool true,.int .u64 (SM:Nat),.slice a9 b9.length c9,.int .i64 (L.length:Nat)] rfl (A.size1 rfl) (z0y A.b1) z0D (by simp[Value.oneCell']) ⟨undef,rfl,rfl,A.st1 a8 wG rfl⟩
     go_simp;refine q8.ca undef (fun D v w' I A=>?_) ?_
     .exact z2y _ _ _ rfl (w.heap.size+1+1) 0 rfl #[.int .u32 ((J:Int)+1),.int .u32 0,.int .u32 0] rfl (A.size2 rfl) (z0y A.b2) z2U (by simp[Value.oneCell']) ⟨undef,rfl,rfl,A.st2 a8 wG rfl⟩
     go_simp;(refine q8.rl ?_ (fun D v w h=>h.other _ wG wG wD) (fun D v w' I A=>?_) ?_;rotate_left;(clear A I;go_simp;try rfl);go_simp)
     refine q8.fin (fun v w9 A=>?_);have a6:=A.b1;have a7:=A.b2;have a5:=A.low;simp only[show decide (5<8)=true from rfl,show decide (6<8)=true from rfl,de]at a6 a7;have b3:=z7 a6;have b4:=z7 a7;have aT:=z7 a5;clear A a6 a7 a5;go_wp2;refine wU (y1C rfl rfl b3.o z1R z0D rfl b4.o z8I z2U) rfl ?_;rw[aS.o];refine⟨a9,c9,b9,?_,z0f (j7 aX.o fun k Y=>aT.o.block k (aX.o.lt k Y).2 (bW.o k Y)) wF,b5.o,aF.o.trans (aT.o.below aF.o.size (fun k Y=>wF))⟩;rfl
    | false=>
     have aS:Hid (z4B (j9 b id) id (J,O,R) U=⟨0,id,(J,O,R),M,false,L,SM,(J,T2,M)⟩):=z7 bY.o;go_upto_region 15 with fail
     refine q6 13 119 (fun D v w'=>z6M w8 (w.heap.size+1) (w.heap.size+1+1) 51 45 z1W #[.int .u8 0,.int .u32 0,.int .u32 id,.int .u32 J,.int .u32 O,.int .u32 R,.int .u32 (M:Nat),.bool false,.int .u64 (SM:Nat),.slice a9 b9.length c9,.int .i64 (L.length:Nat)] #[.int .u32 0,.int .u32 0,.int .u32 0] #[.int .u32 J,.int .u32 (T2:Nat),.int .u32 (M:Nat)] 10 11 D w') (z6M.start dH.o d7.o) ?_;simp only[z0C];refine q8.rl (.agg #[.int .u8 0,.int .u32 0,.int .u32 id,.int .u32 J,.int .u32 O,.int .u32 R,.int .u32 (M:Nat),.bool false,.int .u64 (SM:Nat),.slice a9 b9.length c9,.int .i64 (L.length:Nat)]) (fun D v w h=>h.other _ wG wG wD) (fun D v w' I A=>z1E _ _ rfl g 0 rfl _ (z1o (aR.o w' A.low).2.1) z1R z0D) ?_;go_simp;iterate 4 (refine q8.rl ?_ (fun D v w h=>h.other _ wG wG wD) (fun D v w' I A=>?_) ?_;rotate_left;(obtain⟨aL,cS,aH⟩:=aR.o w' A.low;obtain⟨p0,p1,p2,pf⟩:=cells3 aH;have l0:=(wI.1 aH).1;have e4:=(wI.1 cS).1;clear aL;clear A I;go_simp;try rfl);go_simp)
     refine q8.ca (.int .i64 (T2:Nat)) (fun D v w' I A=>?_) ?_
     .have HZ:=z7 A;have bB:=z7 (aR.o w' A.low).1;clear A I;go_simp;go_at_call 33;refine(cY.o w' bB.o).mono ?_;rintro e d0 ⟨rfl,rfl⟩;exact⟨rfl,HZ.o.other 5 wG wG wD⟩
     go_simp;iterate 4 (refine q8.rl ?_ (fun D v w h=>h.other _ wG wG wD) (fun D v w' I A=>?_) ?_;rotate_left;(clear A I;go_simp;try rfl);go_simp)
     refine q8.ca undef (fun D v w' I A=>?_) ?_
     .exact z2y _ _ _ rfl (w.heap.size+1) 0 rfl #[.int .u8 0,.int .u32 0,.int .u32 id,.int .u32 J,.int .u32 O,.int .u32 R,.int .u32 (M:Nat),.bool false,.int .u64 (SM:Nat),.slice a9 b9.length c9,.int .i64 (L.length:Nat)] rfl (A.size1 rfl) (z0y A.b1) z0D (by simp[Value.oneCell']) ⟨undef,rfl,rfl,A.st1 a8 wG rfl⟩
     go_simp;refine q8.ca undef (fun D v w' I A=>?_) ?_
     .exact z2y _ _ _ rfl (w.heap.size+1+1) 0 rfl #[.int .u32 J,.int .u32 (T2:Nat),.int .u32 (M:Nat)] rfl (A.size2 rfl) (z0y A.b2) z2U (by simp[Value.oneCell']) ⟨undef,rfl,rfl,A.st2 a8 wG rfl⟩
     go_simp;(refine q8.rl ?_ (fun D v w h=>h.other _ wG wG wD) (fun D v w' I A=>?_) ?_;rotate_left;(clear A I;go_simp;try rfl);go_simp)
     refine q8.fin (fun v w9 A=>?_);have a6:=A.b1;have a7:=A.b2;have a5:=A.low;simp only[show decide (10<13)=true from rfl,show decide (11<13)=true from rfl,de]at a6 a7;have b3:=z7 a6;have b4:=z7 a7;have aT:=z7 a5;clear A a6 a7 a5;go_wp2;refine wU (y1C rfl rfl b3.o z1R z0D rfl b4.o z8I z2U) rfl ?_;rw[aS.o];refine⟨a9,c9,b9,?_,z0f (j7 aX.o fun k Y=>aT.o.block k (aX.o.lt k Y).2 (bW.o k Y)) wF,b5.o,aF.o.trans (aT.o.below aF.o.size (fun k Y=>wF))⟩;rfl

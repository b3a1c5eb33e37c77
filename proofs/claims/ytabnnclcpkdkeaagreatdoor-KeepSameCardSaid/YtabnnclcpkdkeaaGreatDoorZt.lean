/- The walk of keep's Open over a journal o. -/
import Derived.Test.YtabnnclcpkdkeaaGreatDoorZs
namespace Go.Proofs.YtabnnclcpkdkeaaGreatDoor
open Go.Proofs.Tryz
set_option linter.all false
set_option maxRecDepth 100000
set_option maxHeartbeats 0
open Go.RowKit Go.Maps
structure q2P (p:Fr×List Bool):Prop where
 ok:p.1.Ok
 n:p.1.n=(p.2.length:Nat)
 bits:z0S p.1.b p.2
 may:p.1.cnt<p.1.count/\0<p.2.length/\p.1.b.length<=500
 few:p.2.length<=4000
theorem q5j(b:z0h)(p:Fr×List Bool){k:Nat}(h:∀id,(j9 b id).done.length<=k):∀id,(j9 (doS b p) id).done.length<=k+1:=fun id=>by
 unfold doS;split
 .unfold takeB;rw[z2v];split
  .exact wV (z9B _ _ _) (Nat.succ_le_succ (h _))
  exact kK (h _)
 exact kK (h _)
structure y9i (n:Nat) (A:World->Prop) (C:Value->World->Prop) (D:Nat->Bool) (v:Nat->Value) (w':World):Prop where
 pre:D n=false->A w'
 post:D n=true->C (v n) w'
theorem y9i.read{n:Nat}{A:World->Prop}{C:Value->World->Prop}{D:Nat->Bool}{v:Nat->Value}{w':World}(h:y9i n A C D v w')(k:Nat)(I:k≠n):y9i n A C (mark D k) v w':=⟨by rw[q9 I];exact h.pre,by rw[q9 I];exact h.post⟩
theorem y9i.call{n:Nat}{A:World->Prop}{C:Value->World->Prop}{D:Nat->Bool}{v:Nat->Value}{w' I:World}(h:y9i n A C D v w')(hd:D n=false){u:Value}(J:C u I):y9i n A C (mark D n) (z3d v n u) I/\True:=
 ⟨⟨fun e=>(by rw[z1T]at e;cases e),fun _=>by rw[z0q];exact J⟩,trivial⟩
theorem q3S(sb:Nat)(s:FsS)(F:List Nat)(ns Y:Nat)(b wi t d:Int)(hR:y4K ns b Y wi t d)(h1:(z2u s z1A).1=0)(P:List (Fr×List Bool))(e3:P.length<=100000000)(hP:∀p∈P,q2P p)(h2:(z2u s z1A).2.2=P.map fun p=>z2i p.1 p.2)(w:World)(h:z1L w sb s F)(ok:s.Ok)(cZ:z1H w)(cY:0∉F):
  Calls prog 7 #[.pointer (some ⟨sb,0,none⟩),.agg (y2E ns b Y wi t d)] w fun e w'=>∃kb rb bb tb mb B E S F',e= .returned (.tuple #[.pointer (some ⟨kb,0,none⟩),.int .u16 0])/\KIn w' kb rb bb tb mb sb B E S F' (P.foldl doS ⟨ns,Y, []⟩) 0 (z2u s z1A).2.1/\Chg F F' w w'/\(∀x,S x->w.heap.size<=x)/\w.heap.size<=rb/\w.heap.size<=kb/\w.heap.size<=tb/\w.heap.size<=bb:=by
 have aV:=z7 ((z0U.start (fun k=>k∈F) w).new (.cells (y2E ns b Y wi t d) 32));have cS:=q5 w (.cells (y2E ns b Y wi t d) 32);have dV:1<=ns/\ns<=64:=by have:=hR.s;omega
 have dT:1<=Y/\Y<=24:=by have:=hR.c;omega
 have hO:=fun w' (hb:Below w.heap.size w w')=>y9V sb s F z1A wG w' (h.low hb) ok;have a5:=y3L ok z1A;have dB:=h.lt;obtain⟨⟨e1,s1,L⟩,hT⟩:∃r,r=z2u s z1A:=⟨_,rfl⟩;have aI:=hO;unfold z3S at aI;rw[<-hT]at aI h1 h2 a5 ⊢;simp only at h1 h2 aI a5 ⊢;subst h1;have cE:=z7 aI;have dJ:=z7 (fun w'=>y6p ns b Y wi t d hR w');have aG:=z7 (fun w'=>y8Z ns Y dV dT w');have c8:=z7 cS;have cA:=z7 cZ;have dH:=z7 a5;have HP:=z7 hP;have cC:=z7 h2;clear h ok cZ hO aI hT cS a5 hR hP h2;obtain⟨c0,c1,c2,c3,c4,c5,cf⟩:=y2B (aV.o.get 0 rfl);have l0:=aV.o.lt 0 rfl;go_enter func7,ntmps7;go_wp2_with fail;refine(dJ.o _).mono ?_;rintro e w1 ⟨rfl,bR⟩;have bI:=z7 (aV.o.call bR);have aM:Below w.heap.size w w1:=c8.o.trans (bR.mono c8.o.size);have b4:=z7 (cE.o w1 aM);have bE:=z7 aM;clear bR aM c0 c1 c2 c3 c4 c5 cf l0;go_wp2_with fail;refine b4.o.mono ?_;rintro e J ⟨F2,cI,bM,⟨dU, -⟩|⟨-,tb,a,cc,xs,rfl,cO,cW,d2,dR,bW,dD⟩⟩
 .exact absurd rfl dU
 have dZ:xs.length=P.length:=by
  have h9:=uS List.length bW;rw[cC.o,we,we]at h9;exact h9
 have c7:=z7 dR;have dN:=z7 bW;have dM:=z7 dZ;obtain⟨n,hn⟩:=zN xs.length;try rw[<-hn]at c7
 try rw[<-hn]
 have HN:=z7 hn;have cJ:=bI.o.go (S':=fun k=>k∈F) bM.only (fun k hk=> .inl hk) (fun q hq hm=>by have h1:=dB _ hm;have h2:=(bI.o.blk q hq).2;omega);have bJ:=z7 cJ;have cB:=z7 cI;have aU:=z7 bM;have cH:=z7 cO;have dC:=z7 cW;have dG:=z7 d2;obtain⟨c0,c1,c2,c3,c4,c5,cf⟩:=y2B (bJ.o.get 0 rfl);have l0:=bJ.o.lt 0 rfl;clear cJ cI bM cO cW d2 bW cE b4;go_wp2_with fail;refine(aG.o _).mono ?_;rintro e w3 ⟨bb,mb,S,rfl,cX,cT⟩;have bG:=z7 cX;have aT:=z7 cT;clear cX cT;go_wp2_with fail;refine(q3E bb _).mono ?_;rintro e w4 ⟨rb,rfl,d4,bB,cU⟩;have cF:=z7 d4;have O:=z7 bB;have a9:=z7 cU;clear d4 bB cU;go_wp2_with fail;obtain⟨W5,aJ⟩:=zN (w4.alloc (.cells #[.pointer (some ⟨rb,0,none⟩),.pointer (some ⟨bb,0,none⟩),.pointer (some ⟨tb,0,none⟩)] 75));refine z0s aJ ?_;have I:Below J.heap.size J W5:=by
  rw[aJ];exact(aT.o.trans (a9.o.mono aT.o.size)).trans ((q5 w4 _).mono (wV aT.o.size a9.o.size))
 have aN:Below w4.heap.size w4 W5:=by rw[aJ];exact q5 w4 _
 have b6:Below w3.heap.size w3 W5:=a9.o.trans (aN.mono a9.o.size);have e8:w.heap.size<=w1.heap.size:=bE.o.size;have e9:w1.heap.size<=J.heap.size:=aU.o.size;have eA:J.heap.size<=w3.heap.size:=aT.o.size;have eB:w3.heap.size<=w4.heap.size:=a9.o.size;have N:∀x∈F2,x<J.heap.size:=fun x A=>cB.o.lt x A;have eC:tb<J.heap.size:=cH.o.lt;have a2:∀x,S x->J.heap.size<=x/\x<w3.heap.size:=fun x A=>bG.o.lo x A;have dW:rb<w4.heap.size:=cF.o.lt;have bA:∀x∈F2,x∈F\/w1.heap.size<=x:=aU.o.fresh;have e4:=cA.o.lt;have b8:z1H J:=(cA.o.low bE.o).only aU.o.only cY;have K5:KIn W5 w4.heap.size rb bb tb mb sb J.heap.size [] S F2 ⟨ns,Y, []⟩ 0 s1:=by
  refine⟨by rw[aJ];exact j8 _ _,cF.o.low aN,bG.o.low b6,cH.o.low I,cB.o.low I,dH.o,b8.low I,wF,by have:=O.o;omega,fun hm=>?_,fun hm=>?_,dG.o,fun hm=>?_,fun hm=>?_,fun hm=>?_,fun x A hs=>?_,?_,fun hm=>?_,fun hm=>?_⟩
  .have:=N _ hm;omega
  .have:=N _ hm;have:=O.o;omega
  .have:=(a2 _ hm).2;omega
  .have:=(a2 _ hm).2;have:=O.o;omega
  .have:=(a2 _ hm).1;omega
  .have:=N x A;have:=(a2 x hs).1;omega
  .have:=O.o;omega
  .have:=(a2 _ hm).1;omega
  rcases bA _ hm with e|e
  .exact cY e
  omega
 have dE:=z7 K5;have a0:=z7 (show Chg F F2 w W5 from((Chg.of_below bE.o).trans aU.o).trans (Chg.of_below I));have cG:=z7 a2;have a8:=z7 I;clear K5 I aN b6 N a2 bA b8 aJ c0 c1 c2 c3 c4 c5 cf l0 bJ bI aV;have cM:n=P.length:=by rw[HN.o];exact dM.o
 have aX:=z7 cM;clear cM;go_loopw[40] (fun kv wr=>∃k:Nat,kv= .int .i64 (k:Nat)/\k<=n/\Hid (∃E S,KIn wr w4.heap.size rb bb tb mb sb J.heap.size E S F2 ((P.take k).foldl doS ⟨ns,Y, []⟩) 0 s1/\z0n (fun x=>J.heap.size<=x) W5 wr/\(∀x,S x->J.heap.size<=x)/\∀id,(j9 ((P.take k).foldl doS ⟨ns,Y, []⟩) id).done.length<=k)) (fun kv _=>match kv with | .int _ y=>n - y.toNat|_=>0)
 case atStart=>exact⟨0,rfl,uA _,z7 ⟨[],S,dE.o,z0n.refl _ _,fun x A=>(cG.o x A).1,fun id=>uA _⟩⟩
 case round=>
  obtain⟨k,rfl,hk,d6⟩:=hrel;obtain⟨E,S,hK,hO,cN,b9⟩:=d6.o;have HK:=z7 hK;have HO:=z7 hO;have aY:=z7 cN;have aE:=z7 b9;clear d6 hK hO cN b9;by_cases e7:k<n
  .have eE:IntKind.i64.wrap ((k:Int)+1)=((k+1:Nat):Int):=z0l wF (by have:=aX.o;omega);have d1:decide ((k:Int)<(n:Int))=true:=hQ;have e5:(0:Int)<=k/\(k:Int)<n:=wF;have aL:z0E w1.heap.size wr (.slice a n cc) xs:=c7.o.keep fun b h1 h2=>(HO.o.block b (wS h2 a8.o.size) wF).trans (a8.o.block b h2);obtain⟨x,A⟩:∃x,xs[k]? =some x:=⟨_,wL (by have:=HN.o;omega)⟩;obtain⟨⟨f,l⟩,hp⟩:∃p,P[k]? =some p:=⟨_,wL (by have:=aX.o;omega)⟩;have d7:x.2=z2i f l:=by
    have h9:(xs.map Prod.snd)[k]? =some x.2:=(by rw[uF,A];rfl);rw[dN.o,cC.o,uF,hp]at h9;exact(um h9).symm
   have dX:=HP.o _ (wX hp);obtain⟨b3,b2,b1,bV,cD⟩:=dX;simp only at b3 b2 b1 bV cD;have U:=aL.row;rw[<-HN.o]at U;obtain⟨g,e2,hv, -⟩:=z2b U (fun e=>by simp only[wO]at e;omega);simp only[wO,oP]at hv;obtain⟨rfl, -⟩:=hv;have R:=aL.ent x (wX A);obtain⟨y,yc,hy⟩:=z1X R;have b0:wr.cell? ⟨g,k,none⟩=some x.1:=z6h U (by rw[uF,A];rfl);have lg:=(U.lt g rfl).2;rw[hy]at b0 R;have a3:=z0Q R;have bD:=z0d R;rw[d7]at b0 a3 bD;have aA:=z7 (y9g f l b3 b2 cD b1 bV y (z2i f l).length yc wr bD rfl a3.1 a3.2);obtain⟨nl,d3⟩:=zN ((z2i f l).length);rw[<-d3]at b0 aA;obtain⟨fl,bU⟩:=zN f.b.length;have aB:=aA.o;rw[<-bU]at aB;have aA:=z7 aB;obtain⟨b,hb⟩:=zN ((P.take k).foldl doS ⟨ns,Y, []⟩);have aR:(P.take (k+1)).foldl doS ⟨ns,Y, []⟩=doS b (f,l):=(by rw[uG,hp,ez,<-hb];rfl);rw[<-hb]at HK aE;have bL:=z7 aR;have dA:=z7 b3;have d9:=z7 b2;have d8:=z7 b1;have aF:=z7 bU;have dS:=aE.o f.series;have e6:k<=100000000:=(by have:=aX.o;omega);clear aL A hp d7 b3 b2 b1 bV U R hy a3 bD d3 aB bU hb aR;go_wp2_with fail;refine aA.o.mono ?_;rintro e w6 ⟨a6,c6,rfl,aS,aD⟩;obtain⟨PC,aZ⟩:=zN (z2m f (.slice a6 fl c6));have a1:PC.size=12:=(by rw[aZ];rfl);have cL:PC.all (·.oneCell')=true:=(by rw[aZ];unfold z2m;simp[Value.oneCell']);have b5:(prog.info? 92).map (·.size)=some PC.size:=by rw[a1];exact z0K
   have bZ:pcV f (.slice a6 fl c6)= .agg PC:=(by rw[aZ];rfl);rw[bZ];have dI:=z7 bZ;have e0:=z7 aD;obtain⟨W7,cR,bN⟩:=((Loc.start w6).new (.cells PC 92)).named;have aO:Below w6.heap.size w6 W7:=bN.low;have bS:Below wr.heap.size wr W7:=aD.trans (aO.mono aD.size);have b7:z0r W7 a6 fl c6 l f.b:=⟨by have h9:=z0d (ownsRow_below aS aO wE);unfold RdB;rw[<-aF.o];exact h9,aF.o,d8.o⟩;have dF:=z7 bN;have bF:=z7 bS;have c9:=z7 b7;have dL:=z7 cR;have a7:=z7 (HK.o.low bS);clear aZ bZ aS aD cR bN aO bS b7 aA b0 lg;go_upto_region 12 with(refine z0e rfl 92 _ _ rfl w6.heap.size 0 rfl PC rfl (fun j hj=>by exact z0B (j8 w6 _) (n:=PC.size) (by rw[a1];rfl) j hj) (by exact z0y (j8 w6 _)) b5 cL ?_;rw[z3m _ _ _ _ (by rw[du,a1];rfl)])
   refine z0s dL.o ?_;have bH:=z7 (fun w' (hb:Below W7.heap.size W7 w')=>q6S rb bb mb J.heap.size 0 E b S f a6 fl c6 l dA.o d9.o aF.o wF wF w' (a7.o.low hb).bk (a7.o.low hb).r (a7.o.low hb).rS (c9.o.low hb) (a7.o.low hb).db);have aC:=bH.o;rw[dI.o]at aC;have bH:=z7 aC;clear aC;go_upto_region 13 with fail
   refine q6 6 59 (fun D v w'=>y9i 5 (fun w'=>Below W7.heap.size W7 w') (fun u w'=>∃wm,Below W7.heap.size W7 wm/\y1K rb bb mb J.heap.size 0 S b f l wm (.returned u) w') D v w') ⟨fun _=>wD.drew,fun h=>by cases h⟩ ?_;simp only[z0C];iterate 3 (refine q8.rl ?_ (fun D v w h=>h.read _ wG) (fun D v w' hD hS=>?_) ?_;rotate_left;(clear hS hD;go_simp;try rfl);go_simp)
   (refine q8.rl ?_ (fun D v w h=>h.read _ wG) (fun D v w' hD hS=>?_) ?_;rotate_left;(have d5:D 5=false:=hD.post 5 _ rfl (by kernel_rfl);have bX:=(a7.o.low (hS.pre d5)).k;obtain⟨k0,k1,k2,kf⟩:=bX.cells;have lk:=bX.lt;clear bX d5;clear hS hD;go_simp;try rfl);go_simp)
   refine q8.rl (.agg PC) (fun D v w h=>h.read _ wG) (fun D v w' hD hS=>?_) ?_
   .have d5:D 5=false:=hD.post 5 _ rfl (by kernel_rfl);exact z1E _ _ rfl w6.heap.size 0 rfl _ (z1o ((dF.o.call (hS.pre d5)).get 0 rfl)) z1U b5
   go_simp;refine q8.re (fun D v w' hD hS=>?_) ?_
   .have d5:D 5=false:=hD.self;have HB:=z7 (hS.pre d5);have HZ:=z7 hS;have bT:=z7 (bH.o w' HB.o);clear hS hD;go_simp;go_at_call 27;refine bT.o.mono ?_;intro e eG ht;obtain⟨u,rfl⟩:∃u,e= .returned u:=by
     obtain⟨-,h, -⟩|⟨-,g,E',S',h, -⟩:=ht
     .exact⟨_,h⟩
     exact⟨_,h⟩
    exact(HZ.o.call d5 ⟨w',HB.o,ht⟩).1
   go_simp;refine q8.fin (fun v w8 hS=>?_);obtain⟨wm,aW,ht⟩:=hS.post rfl;have Km:=a7.o.low aW;have bY:z0n (fun x=>J.heap.size<=x) W5 wm:=HO.o.trans (S':=fun _=>False) (z0n.of_below (bF.o.trans (aW.mono bF.o.size))) (fun _ h=>h.elim);have bC:∃E S,KIn w8 w4.heap.size rb bb tb mb sb J.heap.size E S F2 ((P.take (k+1)).foldl doS ⟨ns,Y, []⟩) 0 s1/\z0n (fun x=>J.heap.size<=x) W5 w8/\(∀x,S x->J.heap.size<=x)/\∀id,(j9 ((P.take (k+1)).foldl doS ⟨ns,Y, []⟩) id).done.length<=k+1:=by
    have a4:=q5j b (f,l) aE.o;rw[bL.o];rcases ht with⟨h0, -,cV⟩|⟨h0, -,E',S', -, -, -,dO,aH,bO⟩
    .have e:doS b (f,l)=b:=(by unfold doS;rw[wR h0]);rw[e]at a4 ⊢;exact⟨E,S,Km.low cV,bY.trans (S':=fun _=>False) (z0n.of_below cV) (fun _ h=>h.elim),aY.o,a4⟩
    have e:doS b (f,l)=takeB b f l:=(by unfold doS;rw[wZ h0]);rw[e]at a4 ⊢;have dY:z0Z w8 rb bb 0:=(aH.block rb Km.r.lt Km.rS).trans Km.r;have eF:J.heap.size<=wm.heap.size:=wV (wV a8.o.size HO.o.size) (wV bF.o.size aW.size);refine⟨E',S',Km.upd (aH.mono fun x A=> .inl (.inr (.inl A))) dY dO (Km.fs.same (fun x A=>aH.block x (Km.fs.lt x A) (Km.sF x A)) aH.size) Km.ok bO (fun _ h=> .inl h) (fun x A hs=>?_),bY.trans aH (fun x A=> .inl (aY.o x A)),fun x A=>?_,a4⟩
    .rcases bO x hs with h|h
     .exact Km.sF x A h
     have:=Km.fs.lt x A;omega
    rcases bO x A with h|h
    .exact aY.o x h
    omega
   have aG:=z7 bC;clear hS ht aW Km bY bC;go_wp2;exact⟨⟨k+1,rfl,wF,aG⟩,by show n - ((k+1:Nat):Int).toNat<n - (k:Int).toNat;omega⟩
  have d1:decide ((k:Int)<(n:Int))=false:=wC;have d0:k=n:=wF;subst d0;go_wp2;go_ret2;have hK:=HK.o;rw[wt (by have:=aX.o;omega)]at hK;refine⟨w4.heap.size,rb,bb,tb,mb,J.heap.size,E,S,F2,rfl,hK,?_,fun x A=>?_,?_,?_,?_,?_⟩
  .exact⟨HO.o.os.trans a0.o.os,HO.o.tape.trans a0.o.tape,HO.o.output.trans a0.o.output,wV a0.o.size HO.o.size,fun j hj hn=>(HO.o.block j (wS hj a0.o.size) wF).trans (a0.o.block j hj hn),a0.o.fresh⟩
  .have:=aY.o x A;omega
  .have:=O.o;omega
  .omega
  .have:=dC.o;omega
  have:=(cG.o bb bG.o.own.1).1;omega
theorem y9Q(g:Nat->Nat):∀(l m:List Nat),l.Pairwise (·≠·)->(∀x∈l,x∈m)->(l.map g).sum<=(m.map g).sum
 | [],m,_,_=>uA _
 | x::l,m,hd,hs=>by
  have I:=List.perm_cons_erase (hs x uK);have J:=q2z (I.map g);rw[uj]at hd;have L:=y9Q g l (m.erase x) hd.2 fun y A=>(rH (fun e=>hd.1 y A e.symm)).2 (hs y (uJ _ A));rw[J,uI,uI,oK,oK];omega
theorem q6q{N:z0h}(a2:∀id,(j9 N id).Ok)(hf:∀id,(j9 N id).done.length<=1000000)(U:∀p∈N.all,0<=p.1/\p.1<64){O:List Int}(hp:O.Perm (N.all.map Prod.fst)){xs:List FrC}(a6:xs.map FrC.r=(z1K O).flatMap (z3W N))(A:∀x∈xs,z0S x.b x.r.bits):
  ∀x∈xs,q2P (z5m x)/\x.b.length=(x.r.bits.length+7)/8/\x.r.bits.length<=3504:=fun x hx=>by
 have hs:(z1K O).Perm (N.all.map Prod.fst):=by unfold z1K;exact(gq O _).trans hp
 have a5:x.r∈(z1K O).flatMap (z3W N):=by rw[<-a6];exact uC.2 ⟨x,hx,rfl⟩
 obtain⟨id,k,y,a1,L,J,hk,hr⟩:=y5R a2 (fun i hi=>by
  obtain⟨p,a3,rfl⟩:=uC.1 (hs.mem_iff.1 hi);have:=U p a3;omega) a5
 have hb:=A x hx;have aA:=L.len;have a8:=L.bits;have a0:=hb.len;have a9:=hf id;have I:x.r.bits=y.1.l:=by rw[hr];rfl
 rw[I]at hb a0;have a7:0<y.1.l.length:=by
  rcases il y.1.l.length with R|R
  .exfalso
   have Y:=L.rd;rw[wT R]at Y;have h8:z5t []=some []:=rfl;rw[h8]at Y;rw[<-um Y]at J;exact absurd J wH
  exact R
 have a4:z5m x=(⟨0,0,id,k,0,0,y.1.st.length,y.2,0,x.b,(y.1.l.length:Nat)⟩,y.1.l):=by unfold z5m;rw[hr];rfl
 refine⟨?_,by rw[I];omega,by rw[I];exact a8⟩;rw[a4];exact⟨⟨by show 0<256;omega,by show 0<4294967296;omega,a1,by show k<4294967296;omega,by show 0<4294967296;omega,by show 0<4294967296;omega,by show y.1.st.length<4294967296;omega,by show 0<18446744073709551616;omega,by show _<=((y.1.l.length:Nat):Int);omega,by show((y.1.l.length:Nat):Int)<=_;omega⟩,rfl,hb,⟨J,a7,by show x.b.length<=500;omega⟩,by show y.1.l.length<=4000;omega⟩
theorem y8j(A:List FrC):A.map ntB=(A.map z5m).map fun p=>z2i p.1 p.2:=by
 rw[dy];rfl
theorem y9w{A:List FrC}(h:∀x∈A,q2P (z5m x)/\x.b.length=(x.r.bits.length+7)/8/\x.r.bits.length<=3504):∀n∈A.map ntB,n.length<=600:=fun n I=>by
 obtain⟨x,J,rfl⟩:=uC.1 I;obtain⟨-,L,N⟩:=h x J;unfold ntB;rw[z4Y];show 24+x.b.length<=600;omega
def q4J(ab:z0h)(ids:List Nat):Nat:=(ids.map fun id=>((z1k id (j9 ab id)).map wtF).sum).sum
theorem q2c{R J:z0h}{A:List Nat}(h1:∀id∈A,j9 J id=j9 R id)(h3:∀p∈J.all,∃id∈A,p.1=(id:Int))(hk:y5B J)(U:∀p∈J.all,0<=p.1/\p.1<64){N:List Int}(hp:N.Perm (J.all.map Prod.fst)){I:List FrC}(a0:I.map FrC.r=(z1K N).flatMap (z3W J))
  (h:∀x∈I,q2P (z5m x)/\x.b.length=(x.r.bits.length+7)/8/\x.r.bits.length<=3504):((I.map ntB).flatMap z0A).length<=q4J R A:=by
 obtain⟨g1,g2, -⟩:=y3d hk hp U;rw[y6w,dy];have e1:(I.map fun x=>(z0A (ntB x)).length).sum<=(I.map fun x=>wtF x.r).sum:=q3U _ _ I fun x hx=>by
  obtain⟨-,h1,h2⟩:=h x hx;have hw:=z4u (ntB x);have hl:(ntB x).length=24+x.b.length:=by unfold ntB;rw[z4Y];rfl
  unfold wtF;omega
 have e2:(I.map fun x=>wtF x.r).sum=((I.map FrC.r).map wtF).sum:=by rw[dy];rfl
 rw[a0,y5J]at e2;have e3:((z1K N).map fun k=>((z3W J k).map wtF).sum)=(((z1K N).map Int.toNat).map fun id=>((z1k id (j9 J id)).map wtF).sum):=by rw[dy];rfl
 have O:∀id∈(z1K N).map Int.toNat,id∈A:=fun id L=>by
  obtain⟨-,p,Y,e⟩:=g2 id L;obtain⟨y,hy,e4⟩:=h3 p Y;have:y=id:=wF
  exact this▸hy
 have e5:(((z1K N).map Int.toNat).map fun id=>((z1k id (j9 J id)).map wtF).sum)=(((z1K N).map Int.toNat).map fun id=>((z1k id (j9 R id)).map wtF).sum):=kk fun id L=>by rw[h1 id (O id L)]
 have e6:=y9Q (fun id=>((z1k id (j9 R id)).map wtF).sum) _ A g1 O;rw[e3,e5]at e2;unfold q4J;have e7:(I.map ((fun x=>(z0A x).length) ∘ ntB)).sum=(I.map fun x=>(z0A (ntB x)).length).sum:=rfl;rw[e7];omega
def y5r(W2 wr:World)(kb kbb sb:Nat)(ab:z0h)(ids:List Nat)(i q T:Nat):Prop:=
 Below W2.heap.size W2 wr/\∃kbk B U,y0J wr kb kbb sb kbk 0 (fsK 1048576 B) U/\(∀x,U x->W2.heap.size<=x)/\z6V ab kbk ids i/\B.length<=480*(T+q)/\∀id,ids[i]? =some id->z7g (j9 kbk id)=q
theorem y5r.low{L wr w':World}{R I Y:Nat}{N:z0h}{A:List Nat}{i q T:Nat}(h:y5r L wr R I Y N A i q T)(hb:Below wr.heap.size wr w'):y5r L w' R I Y N A i q T:=by
 obtain⟨O,J,B,U,hK,h2⟩:=h;exact⟨O.trans (hb.mono O.size),J,B,U,hK.low hb,h2⟩
def y5w(ab:z0h)(ids:List Nat):Nat:=(ids.map fun id=>((z1k id (j9 ab id)).map wtF).sum).sum
theorem y9j(I:z0h)(A:List Nat)(id:Nat):y5w I (A++ [id])=y5w I A+((z1k id (j9 I id)).map wtF).sum:=by
 unfold y5w;rw[uV,kt];simp
theorem q2o:(prog.underlying 25).map z6N=some true:=by kernel_rfl
theorem q1e:(prog.info? 25).map (·.size)=some 2:=by kernel_rfl
def z7c(X:List z3L):Nat:=(X.map fun x=>x.xs.length).sum
theorem y7o{id:Nat}{x:z1m}:∀(A:List (Nat×List z1m)),((z4z id x A).map fun p=>p.2.length).sum=(A.map fun p=>p.2.length).sum+1
 | []=>by unfold z4z;simp
 | (i,l)::A=>by
  unfold z4z;split
  .simp;omega
  rw[uI,oK,y7o A,uI,oK];omega
theorem q0g:∀(L:List LOp) (r:z0h×List (Nat×List z1m)),((L.foldl z1e r).2.map fun p=>p.2.length).sum<=(r.2.map fun p=>p.2.length).sum+L.length
 | [],r=>wJ _
 | o::L,r=>by
  rw[pg];have A:=q0g L (z1e r o);have I:((z1e r o).2.map fun p=>p.2.length).sum<=(r.2.map fun p=>p.2.length).sum+1:=by
   unfold z1e;split
   .omega
   rw[y7o];omega
  rw[wW];omega
theorem y9C(X:List z3L)(i:Nat):z7c (X.take i)<=z7c X:=by
 unfold z7c
 conv=>rhs;rw[<-pZ i X,uV,kt]
 omega
theorem q0Q{X:List z3L}{i:Nat}{x:z3L}(h:X[i]? =some x):z7c (X.take (i+1))=z7c (X.take i)+x.xs.length:=by
 unfold z7c;rw[uG,h,uV,kt];simp
theorem q5e{x s:z0T}(N:s.Ok)(h:z3a x s)(id:Nat)(A:Int)(I:(z4B s id (z1P x) A).count=0):z1P x=z1P s:=by
 obtain⟨p,cl,L, -⟩:=y2a N h;refine kj fun J=>?_;have R:=y0n N L J;unfold z4B at I;rw[L]at I;simp only at I;rw[wR J]at I;simp only at I;unfold y1l at I;have O:=z7v (z1C p.st) (z1P x).2.1 A (p.st.length - ((z1P x).2.2+1)) ((z1P x).2.2+1) (by rw[z4l];omega);omega
theorem q6t{L J:z0h}{a1:List Nat}{i id:Nat}(h:z6V L J a1 i)(ha:∀id,(j9 L id).Ok)(hr:∀id,z6I (j9 L id))(hd:J.all.Pairwise fun p q=>p.1≠q.1)(hk:∀p∈J.all,0<=p.1/\p.1<64)(hi:a1[i]? =some id)(a2:id<64)(A:Int)(b:List UInt8)
  (hb:z0S b (z4B (j9 L id) id (z1P (j9 J id)) A).bits) (hc:(z4B (j9 L id) id (z1P (j9 J id)) A).count≠0):
  ∃x',z3u J 0 (z7l (z4B (j9 L id) id (z1P (j9 J id)) A) b) (z4B (j9 L id) id (z1P (j9 J id)) A).bits=(0,0,0)/\
  takeB J (z7l (z4B (j9 L id) id (z1P (j9 J id)) A) b) (z4B (j9 L id) id (z1P (j9 J id)) A).bits=J.set id x'/\z3a x' (j9 L id)/\z7g (j9 J id)<z7g x':=by
 have hF:=h.at_ id hi;obtain⟨U,hz|⟨st,I⟩⟩:=y0w (ha id) (hr id) hF id A
 .exact absurd hz hc
 obtain⟨r,a0⟩:=zN (z4B (j9 L id) id (z1P (j9 J id)) A);rw[<-a0]at hb hc I ⊢;clear U a0;have O:=q0f J hd hk h.most a2;have R:z1j J (j9 J id) (z7l r b) r.bits=(0,⟨(j9 J id).cur.l++r.bits,st⟩):=z8U (z7l r b) I O (by rw[h.size];exact wJ _) rfl rfl rfl;have N:(z7l r b).series=id:=I.series;have hx:=hF.ok (ha id);have hj:z4j J (z7l r b)=0:=by
  unfold z4j;rw[N,wZ ⟨by show 2≠3;decide,by show r.p=_;exact I.p⟩,y0t hx,wR];show ¬(z3h 0 (j9 J id).cur.l≠r.sum);rw[I.sum];simp
 have a3:z3O J (z7l r b) r.bits=0:=by
  unfold z3O;rw[N,R]
 have hp:=I.p;have Y:(z7l r b).cnt<(z7l r b).count/\0<r.bits.length/\(z7l r b).b.length<=500:=by
  refine⟨?_,I.bits0,?_⟩
  .show r.p.2.2<r.count;rw[hp];exact I.more
  show b.length<=500;have:=hb.len;have:=I.bits1;omega
 refine⟨z4F (j9 J id) ⟨(j9 J id).cur.l++r.bits,st⟩ r.closed,?_,?_,I.grow,?_⟩
 .unfold z3u;rw[wR (by show ¬(2<1\/3<2);omega),wR (by show ¬(0<0);omega),hj,wR wG,wR wG,wR]
  .rfl
  rintro(g|g)
  .exact g Y
  exact g a3
 .unfold takeB;rw[N,R];rfl
 rw[q4W,q4g];have:=I.more;have:=I.len;show _+_<_+st.length;omega
theorem y5s(a4:Int)(hs: -9223372036854775808<=a4/\a4<=9223372036854775807)(a:Option Addr)(n c:Nat)(L:List LOp)(hL:∀o∈L,o.Ok)(ka:Option Addr)(kn kc:Nat)(aJ:Int)(KL:List Bool)(lR:kn=KL.length)(lo: -9223372036854775808<=aJ)(nA:aJ<=9223372036854775807)(w0:World)(h0:y1L w0 a n L)(kM:RdK w0 (.slice ka kn kc) KL)(gE:z1H w0):
  Calls prog 3 #[.int .i64 a4,.slice a n c,.agg #[.slice ka kn kc,.int .i64 aJ]] w0 fun e w'=>e= .returned (.bool true)/\Below w0.heap.size w0 w':=by
 obtain⟨w,hw⟩:=zN (w0.alloc (.cells #[.slice ka kn kc,.int .i64 aJ] 25));have aN:Below w0.heap.size w0 w:=by rw[hw];exact q5 _ _
 have h:=h0.low aN;have iW:=gE.low aN;have k4:=z7 (kM.low aN);have iI:=z7 (fun w' (hb:Below w.heap.size w w')=>aN.trans (hb.mono aN.size));have lS:w.heap[w0.heap.size]? =some (.cells #[.slice ka kn kc,.int .i64 aJ] 25 (0,0)):=by rw[hw];exact j8 _ _
 obtain⟨lb,eA⟩:=zN w0.heap.size;have gR:0<kn->∀k,(Value.slice ka kn kc).ownBlock=some k->k<w.heap.size:=fun hp k hk=>by
  obtain⟨bb,pA,cc,he,_,hb⟩:=RdK.at k4.o (k:=0) wF;simp only[wO]at he;obtain⟨rfl, -⟩:=he;simp only[Value.ownBlock,wK]at hk;omega
 have jV:=z7 gR;have jU:=z7 lR;have cS:=z7 lS;rw[<-eA]at cS;have nR:w.cell? ⟨lb,0,none⟩=some (.slice ka kn kc):=by have A:=z1o cS.o 0 _ rfl;rwa [uZ]at A
 have nT:lb<w.heap.size:=(wI.1 cS.o).1;have nS:=z0y cS.o;have i7:=z7 (fun w' h=>q2A w' h);have cO:=z7 iW;have H:=z7 h;have mM:=z7 hL;have iJ:=z7 hw;have cT:=z7 eA;have oR:=iW.lt;clear hw eA h iW hL h0 gE kM lS aN gR lR;by_cases oH:40<n
 .have d1:decide ((40:Int)<(n:Int))=true:=hQ;go_enter func3,ntmps3;go_upto_region 1 with fail
  refine z0s iJ.o ?_;rw[<-cT.o];go_wp2_with fail;refine(i7.o w cO.o).mono ?_;rintro e w1 ⟨rfl,aL⟩;have aO:=z7 (iI.o w1 aL);clear aL;go_wp2;go_ret;exact⟨rfl,aO.o⟩
 have d1:decide ((40:Int)<(n:Int))=false:=wC;by_cases oI:60<kn
 .have d2:decide ((60:Int)<(kn:Int))=true:=hQ;go_enter func3,ntmps3;go_upto_region 1 with fail
  refine z0s iJ.o ?_;rw[<-cT.o];go_wp2_with fail;refine(i7.o w cO.o).mono ?_;rintro e w1 ⟨rfl,aL⟩;have aO:=z7 (iI.o w1 aL);clear aL;go_wp2;go_ret;exact⟨rfl,aO.o⟩
 have d2:decide ((60:Int)<(kn:Int))=false:=wC;go_enter func3,ntmps3;go_upto_region 1 with fail
 refine z0s iJ.o ?_;rw[<-cT.o];go_wp2_with fail;refine(i7.o w cO.o).mono ?_;rintro e w1 ⟨rfl,aL⟩;have fT:=z7 (q8a a4 hs a n c L mM.o wF w1 (H.o.low aL) (cO.o.low aL));have aO:=z7 aL;clear aL;go_wp2_with fail;refine fT.o.mono ?_;rintro e W1 ⟨kC,X,a1,m1,c1,rfl,kU,l4,kD⟩;have iB:=z7 kU;have cC:=z7 l4;have aR:=z7 kD;have l5:Below W1.heap.size W1 (W1.alloc (.cells (y2E (64:Nat) 9000 (24:Nat) 500 10 1048576) 32)):=q5 _ _;have jC:=z7 l5;clear kU l4 kD l5 fT;obtain⟨W2,fA⟩:=zN (W1.alloc (.cells (y2E (64:Nat) 9000 (24:Nat) 500 10 1048576) 32));go_upto_region 5 with fail
 refine z0s fA ?_;have dT:W2.heap[W1.heap.size]? =some (.cells (y2E (64:Nat) 9000 (24:Nat) 500 10 1048576) 32 (0,0)):=by rw[fA];exact j8 _ _
 have iV:Below W1.heap.size W1 W2:=by rw[fA];exact jC.o
 obtain⟨cb,gB⟩:=zN W1.heap.size;rw[<-gB]at dT ⊢;have jH:=z7 dT;have oC:=z7 iV;have lG:cb<W2.heap.size:=(wI.1 dT).1;have dE:=iB.o.next iV
 have a6:=z7 dE;have dH:Below w.heap.size w W2:=aO.o.trans (dE.low.mono aO.o.size);have b0:=z7 dH;have gF:=cO.o.low dH;have bV:=z7 gF;have fU:=z7 (q4O 1048576 wF wF W2);obtain⟨c0,c1,c2,c3,c4,c5,cf⟩:=y2B dT;clear dT iV fA gB dE dH gF jC;go_wp2_with fail;refine fU.o.mono ?_;rintro e w3 ⟨sb,F,rfl,hF,dA,fB⟩;have dU:=(fB.block cb lG).trans jH.o;have k0:=z7 (y9P sb (z7F 1048576) F 64 24 9000 500 10 1048576 ⟨wF,wF,wF,wF,wF,wF⟩ (by rw[y5f]) (by rw[y5f]) w3 hF (y6Q wF wF) (bV.o.low fB) (fun hm=>by have:=dA _ hm;have:=bV.o.lt;omega));have fS:=z7 dA;have gY:=z7 fB;have fL:=z7 dU;clear hF dA fB fU c0 c1 c2 c3 c4 c5 cf dU;go_wp2_with (refine z0u rfl 32 _ rfl cb 0 rfl (y2E (64:Nat) 9000 (24:Nat) 500 10 1048576) (z1o fL.o) y9I y6G ?_);refine k0.o.mono ?_;rintro e w4 ⟨kb,rb,a2,tb,mb,B,E,S,F2,rfl,hK,hC,hS,nJ,nF,nL,iY⟩;rw[y5f]at hK;simp only at hK;have l7:Below W2.heap.size W2 w4:=gY.o.trans (hC.below gY.o.size fS.o);have hU:∀x,KU rb S F2 x->W2.heap.size<=x:=fun x hx=>by
  have lX:=gY.o.size;rcases hx with h|h|h
  .omega
  .have:=hS x h;omega
  rcases hC.fresh x h with e|e
  .exact fS.o x e
  omega
 have bW:∀id,(j9 (y1w a4 L).1 id).Ok:=fun id=>by
  obtain⟨mb,E,S,h1, -, -⟩:=iB.o.bk;exact h1.serOk id
 obtain⟨ab,iT⟩:=zN ((y1w a4 L).1);rw[<-iT]at a6 aR bW;obtain⟨I,aV⟩:=zN (X.map z3L.id);have a7:y5r W2 w4 kb a2 sb ab I 0 0 0:=⟨l7,_, [],_,⟨rb,tb,mb,B,E,S,F2,hK,rfl⟩,hU,z6V.start bW I,uA _,fun id _=>rfl⟩;obtain⟨aI,j2⟩:=q4l a4 L;rw[<-iT]at aI;have k7:=z7 a7;have Y:=z7 bW;have mL:=z7 aI;have gM:∀x∈X,x.id<64:=fun x hx=>q0a L (⟨64,z3G a4, []⟩, []) (fun p hp=>by cases hp) (x.id,x.xs) (by
  have A:=cC.o;unfold y1w at A;rw[<-A];exact uC.2 ⟨x,hx,rfl⟩)
 have bY:=z7 gM;have o4:m1<=40:=by
  have h1:=uS List.length cC.o;rw[we]at h1;have h2:=a6.o.len;have h3:=H.o.1;omega
 have lU:I.Pairwise (·≠·):=by
  rw[aV,oy];have A:=aI.nd;rw[<-cC.o,oy]at A;exact A
 have gT:∀x∈X,z2A (j9 ab x.id)=x.xs/\x.xs≠ []:=fun x hx=>aI.eq (x.id,x.xs) (by rw[<-cC.o];exact uC.2 ⟨x,hx,rfl⟩);have jD:=z7 lU;have cV:=z7 gT;have aM:=z7 aV;have eB:z7c X<=40:=by
  have h1:=q0g L (⟨64,z3G a4, []⟩, []);have h2:=cC.o;unfold y1w at h2;rw[<-h2,dy]at h1;have h3:=H.o.1;unfold z7c;simp only[pQ,List.sum_nil,uZ]at h1;have h4:(X.map ((fun p:Nat×List z1m=>p.2.length) ∘ fun x:z3L=>(x.id,x.xs))).sum=(X.map fun x=>x.xs.length).sum:=rfl;omega
 have bF:=z7 eB;clear eB;have oX:=(z0Q a6.o.row).2;have jZ:=z7 a6.o.len;have lM:I.length=m1:=by rw[aV,we];exact a6.o.len.symm
 have eU:=z7 lM;clear a7 bW l7 hU hK hC hS nJ nF nL iY k0 fL iT iB aI gM lU gT aV lM j2 nR nS;go_wp2_with fail;go_loopw[13,14] (fun mv iv wr=>∃i M:Nat,mv= .int .i64 M/\iv= .int .i64 i/\i<=m1/\M<=i*20500/\Hid (M=y5w ab (I.take i))/\Hid (y5r W2 wr kb a2 sb ab I i 0 (z7c (X.take i)))) (fun _ iv _=>match iv with | .int _ y=>m1 - y.toNat|_=>0)
 case atStart=>exact⟨0,0,rfl,rfl,uA _,uA _,z7 rfl,k7⟩
 case round=>
  obtain⟨i,MM,rfl,rfl,hi,oL,iM,dC⟩:=hrel;by_cases nB:i<m1
  .have nM:IntKind.i64.wrap ((i:Int)+1)=((i+1:Nat):Int):=z0l wF wF;have d3:decide ((i:Int)<(m1:Int))=true:=hQ;obtain⟨⟨id,xa,xc,xs⟩,hx⟩:∃x,X[i]? =some x:=⟨_,wL (by have:=jZ.o;omega)⟩;have aB:id<64:=bY.o _ (wX hx);have gL:I[i]? =some id:=(by rw[aM.o,uF,hx];rfl);obtain⟨aZ,aD⟩:=cV.o _ (wX hx);simp only at aZ aD;have lH:z7g (j9 ab id)=xs.length:=(by unfold z7g;rw[aZ]);have m3:0<xs.length:=by
    rcases il xs.length with A|A
    .exact absurd (wT A) aD
    exact A
   have bA:=q0Q hx;have gO:=y9C X (i+1);simp only at bA;obtain⟨T0,l1⟩:=zN (z7c (X.take i));obtain⟨T1,iN⟩:=zN (z7c (X.take (i+1)));rw[<-l1]at bA dC;rw[<-iN]at bA gO;have mU:=z7 iN;have c7:0<z2B (j9 ab id):=z8Z (by rw[aZ];exact aD);have aG:=a6.o.next dC.o.1
   obtain⟨mD,rfl,b8⟩:=aG.at' hx;obtain⟨j6,iR,iS,iU⟩:=b8 wr wD;have b9:(0:Int)<=i/\(i:Int)<m1:=wF;have e0:(j9 ab id).done.length<=40:=(by have:=aR.o.few id;have:=H.o.1;omega);have o2:xs.length<=40:=(by have:=bF.o;omega);have O:=z7 gL;have mH:=z7 dC.o;have i0:=z7 lH;have jX:=z7 bA;have o0:T1<=40:=(by have:=bF.o;omega);clear hx aG b8 iS gL aZ aD lH bA gO l1 iN;go_wp2_with fail;clear iR j6 iU b9;go_loopw[16] (fun nv w9=>∃k q:Nat,nv= .int .i64 (k:Nat)/\k<=60/\k<=q/\Hid (y5r W2 w9 kb a2 sb ab I i q T0)) (fun nv _=>match nv with | .int _ y=>60 - y.toNat|_=>0)
   case atStart=>exact⟨0,0,rfl,uA _,wJ _,mH⟩
   case round=>
    obtain⟨k,q,rfl,hk,oU,kN⟩:=hrel;have p8:IntKind.i64.wrap ((k:Int)+1)=((k+1:Nat):Int):=z0l wF wF;have o8:q<=xs.length:=by
     obtain⟨-,a8,BY,U, -, -,a3, -,hq⟩:=kN.o;rw[<-hq id O.o,<-i0.o];exact y4j (a3.at_ id O.o)
    have oV:=jX.o;by_cases o3:k<60
    .have d4:decide ((k:Int)<60)=true:=hQ;obtain⟨dL,a8,BY,U,⟨rb,tb,mb,B,E,S,F,aA,rfl⟩,hU,a3,cZ,hq⟩:=kN.o;obtain⟨s,cF⟩:=zN (fsK 1048576 BY);rw[<-cF]at aA;have eY:=z7 cF;have cN:=z7 cZ;have HQ:=z7 (hq id O.o);have cD:=z7 (z9S kb rb a2 tb wr aA.k);have e0:(j9 ab id).done.length<=40:=(by have:=aR.o.few id;have:=H.o.1;omega);have j1:=a3.at_ id O.o;have n2:(j9 a8 id).done.length<=40:=wV j1.le e0;have d0:=z7 (y9y a2 mb B E a8 S id wF wF wr aA.bk);have e6:=j1.ok (Y.o id);have l6:=e6.cur.len;have iY:=e6.cur.bits;obtain⟨⟨DC,EB,EC⟩,eZ⟩:∃e,e=z1P (j9 a8 id):=⟨_,rfl⟩;have cW:=eZ;unfold z1P at cW;simp only[wk]at cW;have nD:DC<=40:=wF;have kH:EB<4294967296:=wF;have kJ:EC<4294967296:=wF
     rw[<-eZ]at d0;have bC:=z7 eZ;have b1:=z7 aA;have HU:=z7 hU;have aC:=z7 a3;have a5:=z7 dL;clear dL aA hU a3 cZ hq cF j1 e6 eZ cW l6 iY;go_wp2_with fail;refine cD.o.mono ?_;rintro e w' ⟨rfl,dD⟩;cases dD.symm;go_wp2_with fail;refine d0.o.mono ?_;rintro e w5 ⟨rfl,l8⟩;have cI:=z7 l8;clear l8 cD d0;have kO:=Loc.start w5;have mJ:=z7 kO;have dN:Below W2.heap.size W2 w5:=a5.o.trans (cI.o.mono a5.o.size);obtain⟨jA,EA,SA,b3, -, -⟩:=(a6.o.next dN).bk;have bU:=z7 (q4w kC jA w1.heap.size EA ab SA id wF DC EB EC wF kH kJ 1 wF wF w5 b3);have nX:=z7 dN;obtain⟨R,eW⟩:=zN (z4B (j9 ab id) id (DC,EB,EC) 1);have fC:=y0w (Y.o id) (aR.o.rise id) (aC.o.at_ id O.o) id 1;rw[<-bC.o,<-eW]at fC;have aU:=bU.o;unfold q0B at aU;rw[<-eW]at aU;have bU:=z7 aU;have eX:=z7 eW;have mE:=z7 fC.2;have dZ:=fC.1;obtain⟨oA,rs,⟨p1,p2,p3⟩,M,cd,bl,sm,⟨t1,t2,t3⟩⟩:=R;simp only at dZ;subst dZ;clear kO dN b3 eW fC aU;go_wp2_with fail;refine bU.o.mono ?_;rintro e w7 ⟨ca,cc,b7,rfl,eG,c6,iX⟩;have i8:=z7 (((mJ.o.call iX).new (.cells z1W 51)).new' (.cells #[.int .u32 0,.int .u32 0,.int .u32 0] 45) (n:=w7.heap.size+1) wH);obtain⟨bn,iZ⟩:=zN b7.length
     have gH:frV ((⟨0,rs,(p1,p2,p3),M,cd,bl,sm,(t1,t2,t3)⟩:z9M).fr b7) (.slice ca b7.length cc)= .agg #[.int .u8 0,.int .u32 0,.int .u32 rs,.int .u32 p1,.int .u32 p2,.int .u32 p3,.int .u32 M,.bool cd,.int .u64 sm,.slice ca bn cc,.int .i64 (bl.length:Nat)]:=(by rw[iZ];rfl);rw[gH];have jE:=z7 iZ;have iC:=z7 eG;have bT:=z7 c6;have oF:=z7 iX;have lX:=z7 (z0B (i8.o.get 1 rfl) (n:=11) rfl);have nO:=z7 (z0y (i8.o.get 1 rfl));clear eG c6 iX iZ gH bU;obtain⟨W8,l3,kS⟩:=((z0U.of (S:=fun _=>False) i8.o).lay (K':= [(w7.heap.size+1,.cells #[.int .u32 0,.int .u32 0,.int .u32 0] 45 (0,0)),(w7.heap.size,.cells #[.int .u8 0,.int .u32 0,.int .u32 rs,.int .u32 p1,.int .u32 p2,.int .u32 p3,.int .u32 M,.bool cd,.int .u64 sm,.slice ca bn cc,.int .i64 (bl.length:Nat)] 51 (0,0))]) 1 0 [.int .u8 0,.int .u32 0,.int .u32 rs,.int .u32 p1,.int .u32 p2,.int .u32 p3,.int .u32 M,.bool cd,.int .u64 sm,.slice ca bn cc,.int .i64 (bl.length:Nat)] rfl rfl rfl rfl).named;have kB:=z7 l3;have i9:=z7 kS;obtain⟨q0,q1,q2,qf⟩:=cells3 (i9.o.get 0 rfl);have lq:=i9.o.lt 0 rfl;clear l3 kS;go_upto_region 20 with(refine z0e rfl 51 _ _ rfl w7.heap.size 0 rfl #[.int .u8 0,.int .u32 0,.int .u32 rs,.int .u32 p1,.int .u32 p2,.int .u32 p3,.int .u32 M,.bool cd,.int .u64 sm,.slice ca bn cc,.int .i64 (bl.length:Nat)] rfl lX.o nO.o z0D (by simp[Value.oneCell']) ?_;refine z5J kB.o ?_)
     obtain⟨W9,iO,kT⟩:=(i9.o.lay (K':= [(w7.heap.size+1,.cells #[.int .u32 t1,.int .u32 t2,.int .u32 t3] 45 (0,0)),(w7.heap.size,.cells #[.int .u8 0,.int .u32 0,.int .u32 rs,.int .u32 p1,.int .u32 p2,.int .u32 p3,.int .u32 M,.bool cd,.int .u64 sm,.slice ca bn cc,.int .i64 (bl.length:Nat)] 51 (0,0))]) 0 0 [.int .u32 t1,.int .u32 t2,.int .u32 t3] rfl rfl rfl rfl).named;refine z0s iO ?_;have eV:=z7 kT.toLoc;have m5:Below w7.heap.size w7 W9:=by
      have h5:Below w7.heap.size w7 ((w7.alloc (.cells z1W 51)).alloc (.cells #[.int .u32 0,.int .u32 0,.int .u32 0] 45)):=(q5 _ _).trans ((q5 _ _).mono wH);have o6:z0n (fun k=>w7.heap.size<=k) ((w7.alloc (.cells z1W 51)).alloc (.cells #[.int .u32 0,.int .u32 0,.int .u32 0] 45)) W8:=by
       rw[kB.o];exact z0n.setCells (S:=fun k=>w7.heap.size<=k) wE _ _ _
      have o7:z0n (fun k=>w7.heap.size<=k) W8 W9:=by
       rw[iO];exact z0n.setCells (S:=fun k=>w7.heap.size<=k) (rK _) _ _ _
      exact z0n.below (((z0n.of_below h5).trans o6 fun k hk=> .inl hk).trans o7 fun k hk=> .inl hk) wE (fun k hk=>hk)
     have fI:=z7 m5;have gA:Below wr.heap.size wr W9:=cI.o.trans (eV.o.low.mono cI.o.size);have fJ:=z7 gA;clear kT iO m5 q0 q1 q2 qf lq gA;obtain⟨f0,f1,f2,f3,f4,f5,f6,f7,f8,f9,mZ,ff⟩:=z0t (eV.o.get 1 rfl);have lf:=eV.o.lt 1 rfl;by_cases hM:M=0
     .have d5:((M:Int)==0)=true:=(by rw[hM];rfl);have gG:j9 a8 id=j9 ab id:=q1W (Y.o id) (aC.o.at_ id O.o) (q5e (Y.o id) (aC.o.at_ id O.o) id 1 (by rw[<-bC.o,<-eX.o];exact hM));have eN:y5r W2 W9 kb a2 sb ab I (i+1) 0 T1:=by
       have lA:Below W2.heap.size W2 W9:=a5.o.trans (fJ.o.mono a5.o.size);have mW:y0J W9 kb a2 sb a8 0 (fsK 1048576 BY) (KU rb S F):=(by rw[<-eY.o];exact⟨rb,tb,mb,B,E,S,F,b1.o.low fJ.o,rfl⟩);refine⟨lA,a8,BY,_,mW,HU.o,aC.o.next Y.o O.o gG (by rw[i0.o];exact m3),by have:=cN.o;omega,fun y hy=>?_⟩;rw[aC.o.rest (i+1) y wF hy];rfl
      have k8:=z7 eN;have g8:Below W2.heap.size W2 W9:=eN.1;obtain⟨jA,EA,SA,b3, -, -⟩:=(a6.o.next g8).bk;have jJ:=z7 (y4D kC jA w1.heap.size EA ab SA id wF wF W9 b3);have lE:=(y0o (j9 ab id)).2;have gW:=z7 (z5U (Y.o id) id).1;have jG:=z7 (z5U (Y.o id) id).2;obtain⟨N,hN⟩:=zN (z2B (j9 ab id));rw[<-hN]at c7 lE gW jG;clear eN g8 b3 gG hN;go_wp2_with fail;refine jJ.o.mono ?_;rintro e m7 ⟨oM,cn,oO,fs,rfl,cB,eE,g7⟩;have n1:cn=N:=by
       have A:=uS List.length eE;rw[we,gW.o]at A;have:=cB.len;omega
      subst n1;obtain⟨g9,nZ,j5, -⟩:=z2b cB.row (fun e=>by simp only[wO]at e;omega);simp only[wO,oP]at j5;obtain⟨rfl, -⟩:=j5;have bZ:=z7 cB;have jY:=z7 eE;have iF:=z7 (k8.o.low g7);clear cB eE g7 jJ;go_wp2_with fail;go_loopw[13,23] (fun mv nv w9=>∃j M':Nat,mv= .int .i64 M'/\nv= .int .i64 j/\j<=cn/\M'<=MM+j*500/\Hid (M'=MM+(((z1k id (j9 ab id)).take j).map wtF).sum)/\w9=m7) (fun _ nv _=>match nv with | .int _ y=>cn - y.toNat|_=>0)
      case atStart=>exact⟨0,MM,rfl,rfl,uA _,wF,z7 wH,rfl⟩
      case round=>
       obtain⟨j,M',rfl,rfl,hj,oJ,cE,m0⟩:=hrel;have e9:=m0.symm;clear m0;subst e9;by_cases nC:j<cn
       .have p7:IntKind.i64.wrap ((j:Int)+1)=((j+1:Nat):Int):=z0l wF wF;have d6:decide ((j:Int)<(cn:Int))=true:=hQ;have b9:(0:Int)<=j/\(j:Int)<cn:=wF;obtain⟨x,hx⟩:∃x,fs[j]? =some x:=⟨_,wL (by have:=bZ.o.len;omega)⟩;have iD:=y7H bZ.o hx 9 (.slice x.a x.b.length x.c) rfl;have fH:(z1k id (j9 ab id))[j]? =some x.r:=(by rw[<-jY.o,uF,hx];rfl);have lB:=(bZ.o.each x (wX hx)).bits.len;obtain⟨p,cl,hp,nH,lF⟩:=jG.o j nC;have nI:=(z7j (Y.o id) hp).bits;have p9:x.r.bits.length<=3504:=(by rw[lF]at fH;rw[<-um fH];exact nI);have eO:M'+(24+x.b.length+6)=MM+(((z1k id (j9 ab id)).take (j+1)).map wtF).sum:=by
         rw[uG,fH,uV,kt,cE.o];simp only[og,uI,pQ,oK,List.sum_nil];unfold wtF;omega
        obtain⟨xn,m4⟩:=zN x.b.length;rw[<-m4]at iD eO lB;have oT:=(bZ.o.row.lt g9 rfl).2;have o9:xn<=438:=wF;have p0:IntKind.i64.wrap ((24:Int)+(xn:Int))=(24:Int)+xn:=z0l wF wF;have p5:IntKind.i64.wrap ((24:Int)+(xn:Int)+6)=(24:Int)+xn+6:=z0l wF wF;have p6:IntKind.i64.wrap ((M':Int)+((24:Int)+(xn:Int)+6))=(M':Int)+((24:Int)+xn+6):=z0l wF wF;have k9:=z7 eO;clear hx fH hp nH lF eO m4 lB;go_wp2;exact⟨⟨j+1,M'+(24+xn+6),uS (Value.int .i64) wF,rfl,wF,wF,k9,by first|trivial|rfl⟩,by show cn - ((j+1:Nat):Int).toNat<cn - (j:Int).toNat;omega⟩
       have d6:decide ((j:Int)<(cn:Int))=false:=wC;have nE:j=cn:=wF;subst nE;have kX:M'=y5w ab (I.take (i+1)):=by
        rw[uG,O.o,og,y9j,<-iM.o,cE.o,wt (by rw[gW.o];exact wJ _)]
       have mN:=z7 kX;have iG:Hid (y5r W2 m7 kb a2 sb ab I (i+1) 0 (z7c (X.take (i+1)))):=z7 (by rw[<-mU.o];exact iF.o);clear kX;go_wp2;exact⟨⟨i+1,M',rfl,rfl,wF,wF,mN,iG⟩,by show m1 - ((i+1:Nat):Int).toNat<m1 - (i:Int).toNat;omega⟩
     have d5:((M:Int)==0)=false:=uy wF;obtain⟨st,a7⟩:=mE.o.resolve_left hM;go_upto_region 22 with fail
     have b2:=eV.o.set 1 rfl 0 (.int .u8 2);have eS:z0n (fun k=>k=w7.heap.size) W9 (W9.setCell ⟨w7.heap.size,0,none⟩ (.int .u8 2)):=z0n.setCell W9 _ rfl;obtain⟨cY,dG⟩:=zN (W9.setCell ⟨w7.heap.size,0,none⟩ (.int .u8 2));refine z0s dG ?_;rw[<-dG]at b2 eS;have gJ:cY.heap[w7.heap.size]? =some (.cells #[.int .u8 2,.int .u32 0,.int .u32 rs,.int .u32 p1,.int .u32 p2,.int .u32 p3,.int .u32 M,.bool cd,.int .u64 sm,.slice ca bn cc,.int .i64 (bl.length:Nat)] 51 (0,0)):=b2.get 1 rfl;have dJ:Below w7.heap.size w7 cY:=fI.o.trans (eS.below fI.o.size (fun k hk=>wF));have dR:Below wr.heap.size wr cY:=cI.o.trans (b2.low.mono cI.o.size);obtain⟨f,hf⟩:=zN (z7l ⟨0,rs,(p1,p2,p3),M,cd,bl,sm,(t1,t2,t3)⟩ b7);have e7:=q6t aC.o Y.o (aR.o.rise) (y3D b1.o.bk) (fun q hq=>by
      obtain⟨j,y,e,hj, -⟩:=aC.o.keys q hq;have hy:y<64:=by
       have A:=wX hj;rw[aM.o]at A;obtain⟨z,hz,rfl⟩:=uC.1 A;exact bY.o z hz
      omega) O.o aB 1 b7 (by rw[<-bC.o,<-eX.o];exact bT.o) (by rw[<-bC.o,<-eX.o];exact hM)
     rw[<-bC.o,<-eX.o,<-hf]at e7;obtain⟨x',lO⟩:=e7;have cF:rs=id:=a7.series;have lV:(p1,p2,p3)=(DC,EB,EC):=(by have A:=a7.p;rw[<-bC.o]at A;exact A);simp only[wk]at lV;have lY:sm<18446744073709551616:=by
      have A:sm=z3h 0 (j9 a8 id).cur.l:=a7.sum;rw[A];exact gQ (y2F _ _ wG) wG
     have kV:M<=24:=a7.count;have lC:0<bl.length:=a7.bits0;have o1:bl.length<=3504:=a7.bits1;have j3:(j9 a8 id).cur.st.length<M:=a7.more;have l9:=bT.o.len;have kI:EC=(j9 a8 id).cur.st.length:=(by have A:=bC.o;unfold z1P at A;simp only[wk]at A;exact A.2.2);have e1:f.Ok:=by
      rw[hf];exact⟨(by decide:2<256),(by decide:0<4294967296),(by show rs<_;omega),(by show p1<_;omega),(by show p2<_;omega),(by show p3<_;omega),(by show M<_;omega),lY,(by show _<=((bl.length:Nat):Int);omega),(by show((bl.length:Nat):Int)<=_;omega)⟩
     have bO:z2l f=true:=by
      rw[hf];show z5B (z7l ⟨0,rs,(p1,p2,p3),M,cd,bl,sm,(t1,t2,t3)⟩ b7)=true;unfold z5B z7l;simp only;rw[z2V bT.o];simp only[pL,uh,od];omega
     have lJ:f.n=((bl.length:Nat):Int):=(by rw[hf];rfl);have c8:z0S f.b bl:=(by rw[hf];exact bT.o);have dW:f.b.length=bn:=(by rw[hf];exact jE.o.symm);have lI:f.kind≠1:=(by rw[hf];show 2≠1;decide);have e5:f.series=id:=(by rw[hf];exact cF);have gU:RdB cY (.slice ca f.b.length cc) f.b:=by
      have A:=z0d (ownsRow_below iC.o dJ wE);rw[hf];exact A
     have dY:=z8j f ca cc cY e1 (by rw[dW,jE.o];omega) gU bO;have lL:frV f (.slice ca f.b.length cc)= .agg #[.int .u8 2,.int .u32 0,.int .u32 rs,.int .u32 p1,.int .u32 p2,.int .u32 p3,.int .u32 M,.bool cd,.int .u64 sm,.slice ca bn cc,.int .i64 (bl.length:Nat)]:=(by rw[dW,hf];rfl);rw[lL]at dY;have fM:=z7 dY;have nY:=z7 b2;have jS:=z7 gJ;have cJ:=z7 dR;have bE:=z7 lO;have bX:=z7 e1;have i3:=z7 bO;have mG:=z7 lJ;have i1:=z7 c8;have mF:=z7 lI;have i5:=z7 e5;clear b2 eS dG gJ dJ dR hf lO cF lV lY kV lC j3 l9 kI e1 bO lJ c8 dW lI e5 gU dY lL a7 f0 f1 f2 f3 f4 f5 f6 f7 f8 f9 mZ ff lf;go_wp2_with (refine z0u rfl 51 _ rfl w7.heap.size 0 rfl _ (z1o jS.o) z1R z0D ?_);refine fM.o.mono ?_;rintro e cG ⟨ea,em,ec,rfl,⟨j0,aY⟩,g5⟩;have bL:Below wr.heap.size wr cG:=cJ.o.trans (g5.mono cJ.o.size);have fV:=b1.o.low bL;have dS:=z0Q aY;have gV:∀w',Below cG.heap.size cG w'->RdB w' (.slice ea em ec) (z0L f):=fun w' hb=>by have A:=z0d (ownsRow_below aY hb wE);unfold RdB;rw[<-j0];exact A
     have dX:=y3H bX.o i3.o;have kA:=z7 (y4P kb rb a2 tb mb sb B 0 E S F a8 s ea em ec (z0L f) f bl j0 dS.1 dS.2 dX.1 dX.2 mF.o mG.o i1.o wF wF (by rw[i5.o];omega) cG fV (gV cG wD));have fF:(z2i f bl).length<=600:=by
      rw[z4Y];have A:=i1.o.len;omega
     have nN:=z4u (z2i f bl);have oW:=HQ.o;have o5:(z2i f bl).length<=470:=by
      rw[z4Y];have A:=i1.o.len;omega
     have m2:wrS s (z2i f bl)=(0,fsK 1048576 (BY++z0A (z2i f bl))):=(by rw[eY.o];exact q7K fF (by have:=cN.o;omega));have oZ:z7g x'<=xs.length:=(by rw[<-i0.o];exact y4j bE.o.2.2.1);have fX:(BY++z0A (z2i f bl)).length<=480*(T0+z7g x'):=(by rw[wP];have:=cN.o;have:=bE.o.2.2.2;omega);have lW:tkS a8 0 s f bl=(0, [z7Y (z6s (a8.set id x') 4 0 f.series)],a8.set id x',0,fsK 1048576 (BY++z0A (z2i f bl))):=by
      unfold tkS;rw[bE.o.1,m2];simp only;rw[wR wH,wR wH,wR wH,bE.o.2.1]
     have HT:=kA.o;rw[lW]at HT;have HT:=z7 HT;have gD:=z7 bL;have jF:=z7 fX;have a7:=aC.o.step jD.o O.o bE.o.2.2.1 (by have:=bE.o.2.2.2;omega);have iH:=z7 a7;have oD:=bE.o.2.2.2;clear bL fV dS gV dX fF nN m2 fX lW a7 j0 aY fM kA g5;go_wp2_with fail;refine HT.o.mono ?_;rintro e nU ⟨mX,dB,fW,g4,⟨nG, -⟩|⟨-,oa,om,oc,ox,rfl, -⟩⟩
     .exact absurd rfl nG
     simp only at dB;have aS:Below W2.heap.size W2 cG:=a5.o.trans (gD.o.mono a5.o.size);have eM:y5r W2 nU kb a2 sb ab I i (z7g x') T0:=⟨aS.trans (fW.below aS.size HU.o),_,_,mX,dB,fun x hx=>by
      rcases g4 x hx with A|A
      .exact HU.o x A
      have:=aS.size;omega,iH.o,jF.o,fun y hy=>by
      rw[O.o]at hy;cases hy;rw[z2v,wZ rfl]⟩
     have iE:=z7 eM;clear dB fW g4 aS eM HT;go_wp2;exact⟨⟨k+1,z7g x',rfl,wF,wF,iE⟩,by show 60 - ((k+1:Nat):Int).toNat<60 - (k:Int).toNat;omega⟩
    exfalso
    omega
  have d3:decide ((i:Int)<(m1:Int))=false:=wC;have lN:m1=i:=wF;subst lN;obtain⟨dL,kF,BY,U,⟨rb,tb,mb,B,E,S,F,aA,rfl⟩,hU,a3,cZ, -⟩:=dC.o;have cE:=iM.o;rw[wt (by rw[eU.o];exact wJ _)]at cE;have l2:z7c (X.take m1)<=40:=wV (y9C X m1) bF.o;rw[<-eU.o]at a3;have bM:=y3D aA.bk;obtain⟨b5,gI,b6⟩:=a3.fin jD.o bM;have gN:∀id∈I,∃p∈kF.all,p.1=(id:Int):=fun id J=>by
   obtain⟨j,hj,rfl⟩:=pO J;exact a3.all j _ (wL hj) (.inl hj)
  have bR:∀id,id∉I->j9 kF id=z4T:=fun id J=>by
   have h0:z0J (id:Int) kF.all=none:=by
    rcases ho:z0J (id:Int) kF.all with _|v
    .rfl
    exfalso
    obtain⟨y,hy,e2⟩:=b6 _ (z1q ho);simp only at e2;have:y=id:=wF;exact J (this▸hy)
   unfold j9;rw[h0];rfl
  have bN:∀id,(j9 kF id).done.length<=40:=fun id=>by
   by_cases J:id∈I
   .rw[b5 id J];have:=aR.o.few id;have:=H.o.1;omega
   rw[bR id J];exact uA _
  have fD:∀id,(j9 kF id).Ok:=fun id=>aA.bk.serOk id;have bD:∀id,z6I (j9 kF id):=fun id=>by
   by_cases J:id∈I
   .rw[b5 id J];exact aR.o.rise id
   rw[bR id J];exact y8C (Y.o id) (z6H (Y.o id)) (aR.o.rise id)
  have aB:∀id∈I,id<64:=fun id J=>by
   rw[aM.o]at J;obtain⟨z,hz,rfl⟩:=uC.1 J;exact bY.o z hz
  have kE:∀p∈kF.all,0<=p.1/\p.1<64:=fun p hp=>by
   obtain⟨id,J,e⟩:=b6 p hp;have:=aB id J;omega
  have c7:∀(id:Nat),(∃p∈kF.all,p.1=(id:Int))->0<z2B (j9 kF id):=fun id J=>by
   obtain⟨p,hp,e⟩:=J;obtain⟨y,hy,e2⟩:=b6 p hp;have e3:y=id:=wF;subst e3;rw[b5 y hy];rw[aM.o]at hy;obtain⟨z,hz,rfl⟩:=uC.1 hy;obtain⟨g1,g2⟩:=cV.o z hz;exact z8Z (by rw[g1];exact g2)
  have jM:=z7 (y8m kb rb a2 tb mb sb B 0 E S F kF (fsK 1048576 BY) (fun id=>by have:=bN id;omega) wr aA);have i6:=z7 gN;have fO:=z7 b5;have fR:=z7 gI;have jR:=z7 b6;have fN:=z7 bN;have bX:=z7 fD;have eT:=z7 bD;have gX:=z7 kE;have jL:=z7 c7;have mO:=z7 cE;have mV:=z7 l2;have cN:=z7 cZ;have HU:=z7 hU;have a5:=z7 dL;have cR:=z7 bM;clear dL hU a3 cZ cE l2 bM b5 gI b6 gN bR bN fD bD aB kE c7 aA dC iM k7;go_wp2_with fail;refine jM.o.mono ?_;rintro e m8 ⟨ns,ks,F',a0,eR,bJ,rfl,aE,g0,fZ⟩;have b9:=q6q bX.o (fun id=>by have:=fN.o id;omega) gX.o a0 eR bJ;have aX:=q2c fO.o jR.o cR.o gX.o a0 eR b9;have lT:MM=q4J ab I:=mO.o;rw[<-lT]at aX;have aW:=y9w b9;have e7:ks.length<=64:=by
   have h1:=a0.length_eq;rw[we]at h1;have:=fR.o;have:=eU.o;omega
  have fF:=y7y (fun id=>by have:=fN.o id;omega) e7 eR;have lD:z4q (fsK 1048576 BY) z1A (ns.map ntB)=(0,fsK 1048576 ((ns.map ntB).flatMap z0A)):=q4N aW (by have:=cN.o;have:=mV.o;omega);rw[lD]at aE ⊢;simp only at aE ⊢;have fG:=q2B (room:=1048576) aW;obtain⟨eJ,eL⟩:=q1S bX.o eT.o cR.o gX.o jL.o a0 eR bJ;obtain⟨kR,fE⟩:=zN ((ns.map z5m).foldl doS ⟨64,24, []⟩);rw[<-fE]at eJ eL;have kW:∀id∈I,j9 kR id=j9 ab id:=fun id J=>(eJ id (i6.o id J)).trans (fO.o id J);have l0:kR.all.length=I.length:=eL.trans fR.o;obtain⟨NB,kY⟩:=zN ((ns.map ntB).flatMap z0A);rw[<-kY]at aE aX fG;obtain⟨P,hP⟩:=zN (ns.map z5m);rw[<-hP]at fE;have n0:P.length=ns.length:=by rw[hP,we]
  have g3:∀p∈P,q2P p:=fun p hp=>by
   rw[hP]at hp;obtain⟨x,hx,rfl⟩:=uC.1 hp;exact(b9 x hx).1
  rw[y8j,<-hP]at fG;obtain⟨nl,eF⟩:=zN NB.length;have oY:nl<=MM:=(by rw[eF];exact aX);have nW:MM<=820000:=wF;have d9:decide ((MM:Int)<(nl:Int))=false:=wC;have mY:¬(MM<nl):=wF;have oG:decide (MM<nl)=false:=wM mY;have bG:=y1A sb (fsK 1048576 NB) F' m8 aE.fs aE.ok;rw[y7I,<-eF]at bG;have cX:=z7 bG;have dM:Below W2.heap.size W2 m8:=a5.o.trans (g0.below a5.o.size HU.o);have d7:∀x∈F',W2.heap.size<=x:=fun x hx=>by
   rcases fZ x hx with A|A
   .exact HU.o x (.inr (.inr A))
   have:=a5.o.size;omega
  have i2:=z7 d7;have cL:=z7 dM;have i4:=z7 aE.fs;have cU:=z7 aE.ok;have k1:=z7 fG;have k2:=z7 g3;have mI:=z7 fE;have k3:=z7 kW;have mS:=z7 l0;have kZ:P.length<=100000000:=wF;have mR:=z7 kZ;have oS:0<W2.heap.size:=bV.o.lt;clear kZ bG dM d7 aE fG g3 fE kW l0 a0 eR bJ g0 fZ b9 aX lT aW e7 fF lD eJ eL kY hP n0 eF jM;go_wp2_with fail;refine cX.o.mono ?_;rintro e jB ⟨rfl,dI⟩;have bI:Below W2.heap.size W2 jB:=cL.o.trans (dI.mono cL.o.size);have bH:Below w.heap.size w jB:=b0.o.trans (bI.mono b0.o.size);have e8:=(bH.block lb nT).trans cS.o;have iA:=z7 e8;have jN:=z7 (q2n sb (fsK 1048576 NB) F' ka kn kc aJ KL jB (i4.o.low dI) cU.o (k4.o.low bH) jU.o wF (fun hp k hk hm=>by
   have h1:=jV.o hp k hk;have h2:=i2.o k hm;have h3:=b0.o.size;omega) lo nA)
  have bB:=z7 bI;clear bI bH e8 dI cX;go_wp2_with (refine z0u rfl 25 _ rfl lb 0 rfl #[.slice ka kn kc,.int .i64 aJ] (z1o iA.o) q2o q1e ?_);refine jN.o.mono ?_;rintro e m9 ⟨rfl,F3,e4,dV⟩;rw[q2h]at e4;have aT:Below W2.heap.size W2 m9:=bB.o.trans (dV.below bB.o.size i2.o);have iL:∀x∈F3,W2.heap.size<=x:=fun x hx=>by
   rcases dV.fresh x hx with A|A
   .exact i2.o x A
   have:=bB.o.size;omega
  have gC:=(aT.block cb lG).trans jH.o;have jI:=z7 gC;have cA:=k1.o;have dF:=q3S sb (fsK 1048576 NB) F3 64 24 9000 500 10 1048576 ⟨wF,wF,wF,wF,wF,wF⟩ (by rw[cA]) P mR.o k2.o (by rw[cA]) m9 e4 cU.o (bV.o.low aT) (fun hm=>by have:=iL _ hm;omega);rw[cA]at dF;simp only at dF;rw[<-mI.o]at dF;have jW:=z7 dF;have cM:=z7 aT;have mC:=z7 iL;clear e4 dV aT iL gC cA dF jN;go_wp2_with (refine z0u rfl 32 _ rfl cb 0 rfl (y2E (64:Nat) 9000 (24:Nat) 500 10 1048576) (z1o jI.o) y9I y6G ?_);refine jW.o.mono ?_;rintro e wg ⟨kp,rb,a2,tb,mb,B,E,S,F4,rfl,aA,fY, -, -, -, -, -⟩;have kG:Below W2.heap.size W2 wg:=cM.o.trans (fY.below cM.o.size mC.o);have a5:=z7 kG;have b1:=z7 aA;have mA:Hid (Below wg.heap.size wg wg):=z7 wD;clear aA kG fY jW;go_wp2_with fail;go_loopw[28] (fun iv wr=>∃i:Nat,iv= .int .i64 i/\i<=m1/\Hid (Below wg.heap.size wg wr)) (fun iv _=>match iv with | .int _ y=>m1 - y.toNat|_=>0)
  case atStart=>exact⟨0,rfl,uA _,mA⟩
  case round=>
   obtain⟨i,rfl,hi,aF⟩:=hrel;have dO:Below W2.heap.size W2 wr:=a5.o.trans (aF.o.mono a5.o.size);have aG:=a6.o.next dO
   by_cases nB:i<m1
   .have nM:IntKind.i64.wrap ((i:Int)+1)=((i+1:Nat):Int):=z0l wF wF;have d3:decide ((i:Int)<(m1:Int))=true:=hQ;have b9:(0:Int)<=i/\(i:Int)<m1:=wF;obtain⟨x,hx⟩:∃x,X[i]? =some x:=⟨_,wL (by have:=jZ.o;omega)⟩;have bS:=wX hx;have aB:=bY.o x bS;have n3:(j9 kR x.id).done.length<=40:=by
     rw[k3.o x.id (by rw[aM.o];exact uC.2 ⟨x,bS,rfl⟩)];have:=aR.o.few x.id;have:=H.o.1;omega
    have j4:z2A (j9 kR x.id)=x.xs:=by
     rw[k3.o x.id (by rw[aM.o];exact uC.2 ⟨x,bS,rfl⟩)];exact(cV.o x bS).1
    obtain⟨mD,rfl,b8⟩:=aG.at' hx;have b4:=aG.ent x bS;have eC:x.xs.length<=40:=by
     have A:=y5o L (⟨64,z3G a4, []⟩, []) 0 (fun p hp=>by cases hp) (x.id,x.xs) (by
      have A:=cC.o;unfold y1w at A;rw[<-A];exact uC.2 ⟨x,bS,rfl⟩)
     have:=H.o.1;simp only at A;omega
    obtain⟨id,xa,xc,xs⟩:=x;unfold z3L.v at b8 b4;simp only at b8 b4 j4 aB eC n3;obtain⟨sn,eI⟩:=zN xs.length;rw[<-eI]at b8 b4 eC;have jT:=z7 b8;have jO:=z7 b4;have k6:=z7 eI;have k5:=z7 (fun w' (hb:Below wr.heap.size wr w')=>y2g a2 mb B E kR S id wF wF w' (b1.o.low (aF.o.trans (hb.mono aF.o.size))).bk (b1.o.low (aF.o.trans (hb.mono aF.o.size))).db);have gZ:=z7 (fun w' (hb:Below wr.heap.size wr w')=>z9S kp rb a2 tb w' (b1.o.low (aF.o.trans (hb.mono aF.o.size))).k);have mT:=z7 j4;clear hx bS b8 b4 eI j4 aG dO;go_wp2_with fail;refine q6 15 189 (fun D v w'=>SmS wr 7 sn xs D v w') ⟨wD.drew,fun e=>by cases e⟩ ?_;simp only[z0C];(refine q8.rl ?_ (fun D v w h=>h.read _ wG) (fun D v w' hD hS=>?_) ?_;rotate_left;(clear hS hD;go_simp;try rfl);go_simp)
    refine q8.ca (.pointer (some ⟨a2,0,none⟩)) (fun D v w' hD hS=>?_) ?_
    .have HZ:=z7 hS;have aH:=z7 (gZ.o w' hS.low);clear hS hD;go_simp;go_at_call 9;refine aH.o.mono ?_;rintro e m6 ⟨rfl,dD⟩;cases dD.symm;exact⟨rfl,HZ.o.read 1 wG⟩
    go_simp;iterate 5 (refine q8.rl ?_ (fun D v w h=>h.read _ wG) (fun D v w' hD hS=>?_) ?_;rotate_left;(obtain⟨j6,iR,iS,iU⟩:=jT.o w' hS.low;clear hS hD;go_simp;try rfl);go_simp)
    refine q8.re (fun D v w' hD hS=>?_) ?_
    .have HZ:=z7 hS;have aH:=z7 (k5.o w' hS.low);clear hS hD;go_simp;go_at_call 18;refine aH.o.mono ?_;rintro e m6 ⟨a,n,c,rfl,gS,hn,hb⟩;rw[mT.o]at gS hn;rw[<-k6.o]at hn;subst hn;exact⟨HZ.o.low.trans (hb.mono HZ.o.low.size),fun _=>⟨a,c,z0q _ _ _,z0f gS HZ.o.low.size⟩⟩
    go_simp;iterate 5 (refine q8.rl ?_ (fun D v w h=>h.read _ wG) (fun D v w' hD hS=>?_) ?_;rotate_left;(obtain⟨j6,iR,iS,iU⟩:=jT.o w' hS.low;clear hS hD;go_simp;try rfl);go_simp)
    refine q8.ca (.bool true) (fun D v w' hD hS=>?_) ?_
    .obtain⟨a9,c9,j5,eH⟩:=hS.smp (hD.pre 7 (by kernel_rfl));have HZ:=z7 hS;have aH:=z7 (q6F a9 xa sn c9 xc _ _ xs k6.o wF w' eH (ownsRow_below jO.o hS.low wE));clear hS hD eH;go_simp;go_at_call 17;refine aH.o.mono ?_;rintro e m6 ⟨rfl,hb⟩;exact⟨rfl,HZ.o.after 13 wG hb⟩
    go_simp;(refine q8.rl ?_ (fun D v w h=>h.read _ wG) (fun D v w' hD hS=>?_) ?_;rotate_left;(clear hS hD;go_simp;try rfl);go_simp)
    refine q8.fin (fun v nV hS=>?_);have cH:=z7 (aF.o.trans (hS.low.mono aF.o.size));clear hS;go_wp2;exact⟨⟨i+1,rfl,wF,cH⟩,by show m1 - ((i+1:Nat):Int).toNat<m1 - (i:Int).toNat;omega⟩
   have d3:decide ((i:Int)<(m1:Int))=false:=wC;have eD:=b1.o.low aF.o;have gZ:=z7 (z9S kp rb a2 tb wr eD.k);have eY:=z7 (y3C a2 mb B E kR S wr eD.bk);have kL:E.length=m1:=by
    have h1:=uS List.length eD.bk.all;rw[we]at h1;have h2:=mS.o;have h3:=eU.o;omega
   have aO:=z7 (b0.o.trans ((a5.o.trans (aF.o.mono a5.o.size)).mono b0.o.size));have mB:=z7 kL;clear eD aG dO kL;go_wp2_with fail;refine gZ.o.mono ?_;rintro e w' ⟨rfl,dD⟩;cases dD.symm;go_wp2_with fail;refine eY.o.mono ?_;rintro e nV ⟨sa,sc,sn,ks,rfl,eI,a0, -,g6⟩;have lZ:sn=m1:=by
    have h1:=a0.length_eq;rw[we]at h1;have:=mB.o;omega
   subst lZ;have d8:((sn:Int)==(sn:Int))=true:=wH;have cH:=z7 (aO.o.trans (g6.mono aO.o.size));clear g6 eI a0;go_wp2;go_ret;exact⟨rfl,iI.o _ cH.o⟩

/- The walk of a book's Put. -/
import Derived.Test.YtabnnclcpkdkeaaGreatDoorZY
import Derived.Laws.StructEq
import Derived.Deep.DeepCutAuto
namespace Go.Proofs.YtabnnclcpkdkeaaGreatDoor
open Go.Proofs.Tryz
set_option linter.all false
set_option maxRecDepth 100000
set_option maxHeartbeats 0
open Go.RowKit Go.Maps
theorem q6x(a:Option Addr)(n c:Nat)(A:a=none->n=0/\c=0)(L:n<=1000000)(J:n<=c)(w:World):
  Calls prog 52 #[.slice a n c] w fun e w'=>e= .returned (.slice a n n)/\Below w.heap.size w w':=by
 cases a with
 | none=>
  obtain⟨rfl,rfl⟩:=A rfl;go_enter func52,ntmps52;go_wp2;go_ret;exact⟨rfl,wN _ _⟩
 | some ad=>
  have I:(n:Int)<=c:=wF
  go_enter func52,ntmps52;go_wp2;go_ret;exact⟨rfl,wN _ _⟩
structure ClS (W:World) (N n:Nat) (xs:List Value) (D:Nat->Bool) (v:Nat->Value) (w':World):Prop where
 low:Below W.heap.size W w'
 made:D 6=true->∃g,v 6= .slice (some ⟨g,0,none⟩) 1 1/\W.heap.size<=g/\w'.heap[g]? =some (.cells #[.int .i64 N] 3 (0,0))
 app:D 7=true->∃g c,v 7= .slice (some ⟨g,0,none⟩) (n+1) c/\W.heap.size<=g/\w'.ownsRow W.heap.size 3 1 (.slice (some ⟨g,0,none⟩) (n+1) c) (n+1) (xs++ [.int .i64 N])
theorem ClS.call{W w' A:World}{N n:Nat}{O:List Value}{D:Nat->Bool}{v:Nat->Value}(h:ClS W N n O D v w')(k:Nat)(R:k≠6)(U:k≠7)(hb:Below w'.heap.size w' A):ClS W N n O (mark D k) v A:=
 ⟨h.low.trans (hb.mono h.low.size),(fun e=>by
  rw[q9 R]at e;obtain⟨g,J,L,I⟩:=h.made e;exact⟨g,J,L,(hb.block g (wI.1 I).1).trans I⟩),fun e=>by
  rw[q9 U]at e;obtain⟨g,c,J,L,I⟩:=h.app e;exact⟨g,c,J,L,ownsRow_below I hb wE⟩⟩
theorem ClS.make{W w':World}{N n:Nat}{A:List Value}{D:Nat->Bool}{v:Nat->Value}(h:ClS W N n A D v w')(I:D 7=false):ClS W N n A (mark D 6) (z3d v 6 (.slice (some ⟨w'.heap.size,0,none⟩) 1 1)) (w'.alloc (.cells #[.int .i64 N] 3)):=
 ⟨h.low.trans ((q5 w' _).mono h.low.size),(fun _=>⟨w'.heap.size,z0q _ _ _,h.low.size,j8 _ _⟩),fun e=>by rw[q9 wG,I]at e;cases e⟩
theorem z0n.toBelow{w w':World}(h:z0n (fun _=>False) w w'):Below w.heap.size w w':=⟨h.os,h.tape,h.output,h.size,fun k A=>h.block k A fun e=>e⟩
theorem y6k{b:z0h}{id:Nat}{t:Int}(h:z7o b id t=0)(I:0<(j9 b id).cur.st.length):y2Y (j9 b id).cur<t:=by
 unfold z7o at h;split at h
 .split at h
  .cases h
  rename_i A;unfold z6X at A;rw[wZ I]at A;simp only[oP]at A;omega
 contradiction
theorem y5Q{b:z0h}{id:Nat}{t:Int}(h:z7o b id t=0):z3Q b id=0:=by
 unfold z7o at h;split at h
 .assumption
 contradiction
theorem y8L(A:List z1t)(x:z1t):z0o z0i (A++ [x])=x.e:=by simp[z0o]
def z9z(b:z0h)(id:Nat)(s:z1m):z0h:=b.set id (z4F (j9 b id) (z3r (j9 b id).cur s) (decide ((j9 b id).cur.st.length+1=b.size)))
def q0d(bb mb B:Nat)(S:Nat->Prop)(b:z0h)(id:Nat)(s:z1m)(w:World)(e:Ending)(w':World):Prop:=
 (z7o b id s.t≠0/\e= .returned (.int .u16 (z7o b id s.t:Nat))/\Below w.heap.size w w')\/
 (z7o b id s.t=0/\e= .returned (.int .u16 0)/\∃E' S',z0w w' bb mb E' (z9z b id s) B S'/\z0n S w w'/\∀k,S' k->S k\/w.heap.size<=k)
theorem q7w(bb mb B:Nat)(E:List (Int×z0I))(b:z0h)(S:Nat->Prop)(id:Nat)(cR:id<4294967296)(t:Int)(v:Nat)(hs:z1m.Ok ⟨t,v⟩)(aR:(j9 b id).done.length<=1000000000)(cU:(j9 b id).cur.st.length<b.size)(w:World)(h:z0w w bb mb E b B S)(hT:z1H w):
  Calls prog 22 #[.pointer (some ⟨bb,0,none⟩),.int .u32 id,.agg #[.int .i64 t,.int .u64 (v:Nat)]] w (q0d bb mb B S b id ⟨t,v⟩ w):=by
 have c9:=z7 ((Loc.start w).new (.cells #[.int .i64 t,.int .u64 (v:Nat)] 79));have H:=z7 h;have HM:=z7 (q7u bb mb B E b S id cR t v aR _ (h.low c9.o.low));have HT:=z7 hT;by_cases hm:z7o b id t=0
 .rw[hm]at HM;have dZ:=z7 (fun w1 (hb:z0w w1 bb mb E b B S)=>z9G bb mb B E b S id cR w1 hb);have aU:=z7 hm;have HS:=z7 hs;have e4:=z7 cU;have bV:=z7 aR;clear h hT hm hs cU aR;go_enter func22,ntmps22;go_wp2_with fail;refine HM.o.mono ?_;rintro e w1 ⟨rfl,hb⟩;have a7:=z7 (c9.o.call hb);clear hb;go_wp2_with fail;refine(dZ.o _ (H.o.low a7.o.low)).mono ?_;rintro e w2 ⟨X,rfl,hX,cI,hb,hw⟩;have e2:=z7 (a7.o.call hb);have eC:=z7 hX;have aF:=z7 cI;have bL:=z7 hw;have e3:=z7 (z8w X (by have:=bV.o;rw[<-cI,X.done_len]at this;exact this) w2 hX);clear hb hX cI hw;go_wp2_with fail;refine e3.o.mono ?_;rintro e w3 ⟨rfl,hb⟩;have d0:=z7 (e2.o.call hb);have cE:=z7 (eC.o.low hb);clear hb;obtain⟨o,ho⟩:=zN (X.done.length*11);rw[<-ho];have HO:=z7 ho;clear ho;obtain⟨en,el,ed,aY,prev,a4,width,hE⟩:∃en el ed aY prev a4 width,(⟨en,el,ed,⟨aY,prev,a4,width⟩⟩:z2g)=z0o z0i X.cur.p.st:=⟨_,_,_,_,_,_,_,rfl⟩;obtain⟨pn,bT⟩:=zN X.cur.p.st.length;obtain⟨bl,cL⟩:=zN X.cur.b.length;obtain⟨N,hN⟩:=zN X.cur.p.l.length;have hv:(X.cur.vals false).toArray= #[.slice X.cur.a bl X.cur.c,.int .i64 (N:Nat),.slice X.cur.ea pn X.cur.ec,.int .i64 (en:Nat),.int .i64 el,.int .i64 ed,.bool aY,.int .u64 (prev:Nat),.int .u8 (a4:Nat),.int .u8 (width:Nat),.bool false]:=by
   unfold z1J.vals;rw[<-hE,<-bT,<-cL,<-hN]
  have cT:=cE.o.lastAt HO.o;rw[hv]at cT;have d4:=z7 cT;have HE:=z7 hE;have aV:=z7 bT;have dW:=z7 cL;have e7:=z7 hN;clear cT hE bT cL hN hv;go_upto_region 6 with(refine z0u rfl 108 _ rfl X.g o rfl _ d4.o z3w z1a ?_)
  obtain⟨W4,bR,dC⟩:=((z0U.of (S:=fun _=>False) d0.o).new (.cells #[.slice X.cur.a bl X.cur.c,.int .i64 (N:Nat),.slice X.cur.ea pn X.cur.ec,.int .i64 (en:Nat),.int .i64 el,.int .i64 ed,.bool aY,.int .u64 (prev:Nat),.int .u8 (a4:Nat),.int .u8 (width:Nat),.bool false] 108)).named;rw[<-bR];have d8:Hid (z0H W4 X):=z7 (by rw[bR];exact cE.o.low (q5 _ _));have a8:=z7 dC;obtain⟨p,hp⟩:=zN w3.heap.size;rw[<-hp]at a8 ⊢;have eA:Hid (z1H W4):=z7 (by rw[bR];exact(HT.o.low d0.o.low).low (q5 _ _));have bE:Hid (∀k,X.In k->k<p):=z7 fun k A=>by rw[hp];exact cE.o.lts k A
  clear dC bR hp;have aJ:=d8.o.cur;have eH:en<=1099511627776:=by
   have h2:=aJ.n;rw[<-HE.o]at h2;have h3:=aJ.ok.len;have h4:en=X.cur.p.st.length:=h2;omega
  have dG:0<en->el<t:=fun h0=>by
   have h2:=aJ.n;rw[<-HE.o]at h2;have h3:=y6k aU.o (by rw[<-aF.o];show 0<X.cur.p.st.length;have h4:en=X.cur.p.st.length:=h2;omega);rw[<-aF.o]at h3;unfold y2Y at h3;have h5:X.ser.cur=X.cur.p:=rfl;rw[h5,<-HE.o]at h3;exact h3
  have a3:=z7 (q7d X.cur.a bl X.cur.c X.cur.p.l X.cur.b en el ed aY prev a4 width t v (by rw[HE.o];exact(z3T aJ.ok.rd).1) HS.o dG eH W4 (by rw[dW.o];exact aJ.rd.now) (by have:=aJ.ok.bits;omega) eA.o);rw[<-e7.o]at a3;obtain⟨y0,y1,y2,y3,y4,y5,y6,y7,y8,y9,aA,yf⟩:=z0t (a8.o.get 0 rfl);obtain⟨z0,z1,zf⟩:=z0m (a8.o.get 1 rfl);have l0:=a8.o.lt 0 rfl;obtain⟨CW,cF⟩:=zN (z3p ⟨en,el,ed,⟨aY,prev,a4,width⟩⟩ ⟨t,v⟩);rw[<-cF]at a3;obtain⟨cl,⟨aI,aH,aG,⟨a2,U,R,I⟩⟩⟩:=CW;obtain⟨l',cS⟩:=zN (X.cur.p.l++cl);unfold y2Z at a3;simp only at a3;rw[<-cS]at a3;have e0:=z7 cF;have cW:=z7 cS;clear aJ cF cS;go_wp2_with fail;refine a3.o.mono ?_;rintro e w5 ⟨a',n',c',b',rfl,bD,rfl,b8,hb⟩;have d1:=z7 (a8.o.call hb);have d9:=z7 (d8.o.low hb);have aM:=z7 bD;have c8:=z7 b8;obtain⟨y0,y1,y2,y3,y4,y5,y6,y7,y8,y9,aA,yf⟩:=z0t (d1.o.get 0 rfl);clear a3 hb bD b8 z0 z1 zf;go_upto_region 7 with fail
  have bN:z0U (fun _=>False) w [(p,.cells #[.slice a' b'.length c',.int .i64 (l'.length:Nat),.slice X.cur.ea pn X.cur.ec,.int .i64 aI,.int .i64 aH,.int .i64 aG,.bool a2,.int .u64 U,.int .u8 R,.int .u8 I,.bool false] 108 (0,0)),(w.heap.size,.cells #[.int .i64 t,.int .u64 (v:Nat)] 79 (0,0))] ((w5.setCells p 0 [.slice a' b'.length c',.int .i64 (l'.length:Nat)]).setCells p 3 [.int .i64 aI,.int .i64 aH,.int .i64 aG,.bool a2,.int .u64 U,.int .u8 R,.int .u8 I]):=
   z0U.lay 0 (z0U.lay 0 d1.o 0 [.slice a' b'.length c',.int .i64 (l'.length:Nat)] rfl rfl rfl rfl) 3 _ rfl rfl rfl rfl
  obtain⟨W6,cG,bN⟩:=bN.named;have e6:z0n (fun k=>k=p) w5 W6:=by
   rw[cG];exact(z0n.setCells (S:=fun k=>k=p) rfl _ _ _).trans (z0n.setCells (S:=fun k=>k=p) rfl _ _ _) fun k h=> .inl h
  refine z0s cG ?_;have bJ:=z7 bN;have aD:=z7 (d9.o.keep (fun k A=>e6.block k (d9.o.lts k A) (by have:=bE.o k A;omega)) e6.size);have cA:=z7 (j7 aM.o fun k A=>e6.block k (aM.o.lt k A).2 (by have:=(aM.o.lt k A).1;have:=a8.o.lt 0 rfl;omega));clear bN cG e6 y0 y1 y2 y3 y4 y5 y6 y7 y8 y9 aA yf;have cO:Hid (∀w',Below W6.heap.size W6 w'->Rd w' (.slice X.cur.ea pn pn) 1 pn (z2K (z1C X.cur.p.st))):=z7 fun w' hb=>by
   have L:=(aD.o.low hb).cur.ends.now;rw[<-aV.o]at L;refine⟨L.1,?_⟩;rcases L.2 with⟨h2,h3⟩|⟨ad,cp,h2,h3⟩
   .simp only[wO]at h2;exact .inl ⟨by rw[h2.1,h2.2.1],h3⟩
   simp only[wO,oP]at h2;exact .inr ⟨ad,pn,by rw[h2.1],h3⟩
  obtain⟨iS,eJ,dU,dV,dX⟩:=oq y6a;have bT:pn<=24:=by rw[aV.o];exact aD.o.cur.ok.len
  have dH:X.cur.ea=none->pn=0/\X.cur.ec=0:=fun e=>by
   have L:=aD.o.cur.ends.now.2;rw[<-aV.o,e]at L;rcases L with⟨L,h2⟩|⟨ad,c,L, -⟩
   .simp only[wO,oP]at L;exact L
   simp at L
  have dI:pn<=X.cur.ec:=by rw[aV.o];exact aD.o.cur.cap
  have cN:=z7 (q6x X.cur.ea pn X.cur.ec dH wF dI);refine q6 9 63 (fun D v w'=>ClS W6 l'.length pn (z2K (z1C X.cur.p.st)) D v w') ⟨wD.drew,(fun e=>by cases e),fun e=>by cases e⟩ ?_;simp only[z0C];have cM:Hid (∀w',Below W6.heap.size W6 w'->p<w'.heap.size/\w'.cell? ⟨p,1,none⟩=some (.int .i64 (l'.length:Nat))/\w'.cell? ⟨p,2,none⟩=some (.slice X.cur.ea pn X.cur.ec)):=z7 fun w' hb=>by
   have L:=(bJ.o.call hb).get 0 rfl;obtain⟨y0,y1,y2,y3,y4,y5,y6,y7,y8,y9,aA,yf⟩:=z0t L;exact⟨(bJ.o.call hb).lt 0 rfl,y1,y2⟩
  iterate 2 (refine q8.rl ?_ (fun D v w h=>⟨h.low,h.made,h.app⟩) (fun D v w' hD J=>?_) ?_;rotate_left;(obtain⟨lp,q1,q2⟩:=cM.o w' J.low;clear J hD;go_simp;try rfl);go_simp)
  refine q8.ca (.slice X.cur.ea pn pn) (fun D v w' hD J=>?_) ?_
  .have HZ:=z7 J;clear J hD;go_simp;go_at_call 52;refine(cN.o w').mono ?_;rintro e eR ⟨rfl,hb⟩;exact⟨rfl,HZ.o.call 2 wG wG hb⟩
  go_simp;iterate 3 (refine q8.rl ?_ (fun D v w h=>⟨h.low,h.made,h.app⟩) (fun D v w' hD J=>?_) ?_;rotate_left;(obtain⟨lp,q1,q2⟩:=cM.o w' J.low;clear J hD;go_simp;try rfl);go_simp)
  refine q8.re (fun D v w' hD J=>?_) ?_
  .have e9:=z7 (J.make (hD.post 7 _ rfl (by kernel_rfl)));clear J hD;go_simp;exact e9.o
  go_simp;refine q8.re (fun D v w' hD J=>?_) ?_
  .obtain⟨g,e6,eI,aL⟩:=J.made (hD.pre 6 (by kernel_rfl));have HZ:=z7 J;have eO:=cO.o w' J.low;clear J hD;refine y2P _ _ 102 rfl 3 iS _ 1 8 underlying102 eJ dU dV dX rfl X.cur.ea pn _ rfl eO ⟨g,0,none⟩ 1 1 [.int .i64 (l'.length:Nat)] e6 rfl (fun j u hu=>?_) wG (by unfold maxLen;omega) wF ?_
   .rw[y1H,uZ,pT w' g j _ _ _ aL];simpa using hu
   intro c' eR L h2;refine⟨_,rfl,⟨HZ.o.low.trans (h2.mono HZ.o.low.size),(fun e=>?_),fun e=>⟨_,c',z0q _ _ _,HZ.o.low.size,z0f L HZ.o.low.size⟩⟩,trivial⟩;exact⟨g,by rw[z0g wG];exact e6,eI,(h2.block g (wI.1 aL).1).trans aL⟩
  go_simp;(refine q8.rl ?_ (fun D v w h=>⟨h.low,h.made,h.app⟩) (fun D v w' hD J=>?_) ?_;rotate_left;(obtain⟨lp,q1,q2⟩:=cM.o w' J.low;clear J hD;go_simp;try rfl);go_simp)
  refine q8.fin (fun vv w7 J=>?_);obtain⟨g7,c7,dT,dJ,bF⟩:=J.app rfl;rw[dT];have d2:=z7 (bJ.o.call J.low);have dA:=z7 (aD.o.low J.low);have aC:=z7 (ownsRow_below cA.o J.low wE);have aB:=z7 bF;obtain⟨y0,y1,y2,y3,y4,y5,y6,y7,y8,y9,aA,yf⟩:=z0t (d2.o.get 0 rfl);have e1:=z7 dJ;clear J dT bF dJ;go_upto_region 8 with fail
  have bO:z0U (fun _=>False) w [(p,.cells #[.slice a' b'.length c',.int .i64 (l'.length:Nat),.slice (some ⟨g7,0,none⟩) (pn+1) c7,.int .i64 aI,.int .i64 aH,.int .i64 aG,.bool a2,.int .u64 U,.int .u8 R,.int .u8 I,.bool false] 108 (0,0)),(w.heap.size,.cells #[.int .i64 t,.int .u64 (v:Nat)] 79 (0,0))] (w7.setCells p 2 [.slice (some ⟨g7,0,none⟩) (pn+1) c7]):=
   z0U.lay 0 d2.o 2 _ rfl rfl rfl rfl
  obtain⟨W8,cH,bO⟩:=bO.named;refine z0s cH ?_;have e8:z0n (fun k=>k=p) w7 W8:=by rw[cH];exact z0n.setCells (S:=fun k=>k=p) rfl _ _ _
  have aZ:=z7 bO;have eB:=z7 (dA.o.keep (fun k A=>e8.block k (dA.o.lts k A) (by have:=bE.o k A;omega)) e8.size);have cB:=z7 (j7 aC.o fun k A=>e8.block k (aC.o.lt k A).2 (by have:=(aC.o.lt k A).1;omega));have eV:=bJ.o.lt 0 rfl;have bI:=z7 (j7 aB.o fun k A=>e8.block k (aB.o.lt k A).2 (by have:=(aB.o.lt k A).1;omega));have bU:Hid (∀w',Below W8.heap.size W8 w'->z0w w' bb mb E b B S):=z7 fun w' hb=>H.o.low (aZ.o.low.toBelow.trans (hb.mono aZ.o.low.size));clear bO cH e8 y0 y1 y2 y3 y4 y5 y6 y7 y8 y9 aA yf;obtain⟨aX,b9⟩:=zN (decide (pn+1=b.size));have eD:((pn:Int)+1==(b.size:Int))=aX:=by
   rw[b9];by_cases h:pn+1=b.size
   .rw[wQ h,mq];omega
   rw[wM h];exact uy wF
  have cZ:=z7 b9;clear b9;refine q6 9 63 (fun D v w'=>Below W8.heap.size W8 w') wD.drew ?_;simp only[z0C];iterate 9 (refine q8.rd ?_ (fun D v w' hD J=>?_) ?_;rotate_left;(obtain⟨y0,y1,y2,y3,y4,y5,y6,y7,y8,y9,aA,yf⟩:=z0t ((aZ.o.call J).get 0 rfl);have l0:=(aZ.o.call J).lt 0 rfl;have cJ:=bU.o w' J;obtain⟨b0,b1,b2,bf⟩:=cJ.cells;have lb:=(cJ.lo bb cJ.own.1).2;clear J hD;go_simp;try rfl);go_simp)
  refine q8.fin (fun vv w9 J=>?_);have d3:=z7 (aZ.o.call J);have dB:=z7 (eB.o.low J);have aE:=z7 (ownsRow_below cB.o J wE);have a5:=z7 (ownsRow_below bI.o J wE);have eT:Hid (∀w',Below w9.heap.size w9 w'->z0w w' bb mb E b B S):=z7 fun w' hb=>bU.o w' (J.trans (hb.mono J.size));obtain⟨y0,y1,y2,y3,y4,y5,y6,y7,y8,y9,aA,yf⟩:=z0t (d3.o.get 0 rfl);clear J;go_upto_region 9 with fail
  have aN:z0U (fun _=>False) w [(p,.cells #[.slice a' b'.length c',.int .i64 (l'.length:Nat),.slice (some ⟨g7,0,none⟩) (pn+1) c7,.int .i64 aI,.int .i64 aH,.int .i64 aG,.bool a2,.int .u64 U,.int .u8 R,.int .u8 I,.bool aX] 108 (0,0)),(w.heap.size,.cells #[.int .i64 t,.int .u64 (v:Nat)] 79 (0,0))] (w9.setCells p 10 [.bool aX]):=
   z0U.lay 0 d3.o 10 _ rfl rfl rfl rfl
  obtain⟨bM,b4,aN⟩:=aN.named;refine z0s b4 ?_;have aW:z0n (fun k=>k=p) w9 bM:=by rw[b4];exact z0n.setCells (S:=fun k=>k=p) rfl _ _ _
  have b5:=dB.o.keep (fun k A=>aW.block k (dB.o.lts k A) (by have:=bE.o k A;omega)) aW.size;have a6:=j7 aE.o fun k A=>aW.block k (aE.o.lt k A).2 (by have:=(aE.o.lt k A).1;omega);have a0:=j7 a5.o fun k A=>aW.block k (a5.o.lt k A).2 (by have:=(a5.o.lt k A).1;omega);have c5:X.ser.cur=X.cur.p:=rfl;have bS:z3p (z0o z0i X.cur.p.st) ⟨t,v⟩=(cl,⟨aI,aH,aG,⟨a2,U,R,I⟩⟩):=by rw[<-HE.o];exact e0.o.symm
  have cX:(z3r X.cur.p ⟨t,v⟩).l=l':=by unfold z3r;simp only[bS];exact cW.o.symm
  have dR:z0o z0i (z3r X.cur.p ⟨t,v⟩).st=⟨aI,aH,aG,⟨a2,U,R,I⟩⟩:=by unfold z3r;simp only[bS,y8L]
  have aT:(z3r X.cur.p ⟨t,v⟩).st.length=pn+1:=by unfold z3r;rw[aV.o];simp
  have aS:z2K (z1C (z3r X.cur.p ⟨t,v⟩).st)=z2K (z1C X.cur.p.st)++ [.int .i64 (l'.length:Nat)]:=by
   unfold z3r z2K z1C;simp only[bS,cW.o,uV,uI,pQ,wP]
  have bH:((⟨a',c',b',some ⟨g7,0,none⟩,c7,z3r X.cur.p ⟨t,v⟩⟩:z1J).vals aX).toArray= #[.slice a' b'.length c',.int .i64 (l'.length:Nat),.slice (some ⟨g7,0,none⟩) (pn+1) c7,.int .i64 aI,.int .i64 aH,.int .i64 aG,.bool a2,.int .u64 U,.int .u8 R,.int .u8 I,.bool aX]:=by
   unfold z1J.vals;simp only[cX,dR,aT]
  have bZ:(z3r X.cur.p ⟨t,v⟩).Ok:=q6E b5.cur.ok (by
   have L:=e4.o;rw[<-aF.o,c5]at L;have h2:=H.o.size.2;omega) HS.o (fun h0=>by
   have h3:=y6k aU.o (by rw[<-aF.o];exact h0);rw[<-aF.o]at h3;exact h3)
  have c6:z1J.Ok (fun k=>(Value.slice a' b'.length c').ownBlock=some k\/k=g7) bM ⟨a',c',b',some ⟨g7,0,none⟩,c7,z3r X.cur.p ⟨t,v⟩⟩:=by
   refine⟨fun w' A=>?_,fun w' A=>?_,bZ,by show(z3r X.cur.p ⟨t,v⟩).st.length<=c7;rw[aT];exact(z0Q a0).1⟩
   .show z0r w' a' b'.length c' (z3r X.cur.p ⟨t,v⟩).l b';rw[cX];exact z5F (j7 a6 fun k h=>A k (.inl h)) rfl c8.o
   show Rd w' (.slice (some ⟨g7,0,none⟩) (z3r X.cur.p ⟨t,v⟩).st.length c7) 1 (z3r X.cur.p ⟨t,v⟩).st.length (z2K (z1C (z3r X.cur.p ⟨t,v⟩).st));rw[aT,aS];exact z0d (j7 a0 fun k h=>A k (.inr (by simp only[Value.ownBlock,wK]at h;exact h.symm)))
  have b3:∀k,((Value.slice a' b'.length c').ownBlock=some k\/k=g7)->p<k/\k<bM.heap.size:=fun k A=>by
   rcases A with A|rfl
   .have L:=(aM.o.lt k A).1;exact⟨wF,(a6.lt k A).2⟩
   exact⟨by have:=e1.o;omega,(a0.lt k rfl).2⟩
  have dM:=z7 (y9U X ⟨a',c',b',some ⟨g7,0,none⟩,c7,z3r X.cur.p ⟨t,v⟩⟩ aX _ (by have:=bV.o;rw[<-aF.o,X.done_len]at this;exact this) bM b5 c6 (fun k A=>⟨(b3 k A).2,by have:=bE.o X.sb (.inl rfl);have:=(b3 k A).1;omega,by have:=bE.o X.g (.inr (.inl rfl));have:=(b3 k A).1;omega⟩) (by show 0<(z3r X.cur.p ⟨t,v⟩).st.length;omega));rw[bH]at dM;have O:=z7 aN;have d6:=z7 b3;have dD:=z7 (H.o.low O.o.low.toBelow);clear aN b4 aW b5 a6 a0 c5 bS cX dR aT aS bH bZ c6 b3 y0 y1 y2 y3 y4 y5 y6 y7 y8 y9 aA yf;have dN:=O.o.get 0 rfl;go_wp2_with (refine z0u rfl 108 _ rfl p 0 rfl _ (z1o dN) z3w z1a ?_);refine dM.o.mono ?_;rintro e dY ⟨rfl,X',bW,bG,dE,bC,bA⟩;have d7:=z7 dE;have cC:=z7 bG;have cD:=z7 bA;have a9:=z7 bC;have aO:∀k,S k->(∀Y,z0J (id:Int) E=some Y->¬Y.In k)->dY.heap[k]? =w.heap[k]? :=fun k A hn=>by
   have eL:=(H.o.lo k A).2;have eM:=O.o.low.size;refine(bC.block k wF fun e=>?_).trans (O.o.low.block k eL fun e=>e);have b6:X.In k:=by
    rcases e with rfl|rfl
    .exact .inr (.inl rfl)
    exact .inl rfl
   rcases bL.o with hw|⟨-,hw⟩
   .exact hn X hw b6
   have:=hw k b6;have:=a7.o.low.size;omega
  have cY:=z7 aO;have cV:∀Y,z0J (id:Int) E=some Y->¬Y.In bb/\¬Y.In mb:=fun Y hY=>⟨fun A=>((H.o.each _ (z1q hY)).2 bb A).2.1 rfl,fun A=>((H.o.each _ (z1q hY)).2 mb A).2.2 rfl⟩;have b7:=(aO bb H.o.own.1 fun Y hY=>(cV Y hY).1).trans H.o.blk;have bB:y0S dY mb E:=H.o.map.same (aO mb H.o.own.2 fun Y hY=>(cV Y hY).2);obtain⟨b0,b1,b2,bf⟩:=cells3 b7;have e5:=z7 bB;rw[<-bW];have eG:E.length<maxLen:=by have:=H.o.few;unfold maxLen;omega
  clear dE bG bA bC aO b7 bB bW;go_wp2_with (at_mapUpdate;refine z2I z4S rfl _ _ _ 142 rfl 97 underlying142 rfl e5.o eG (id:Int) rfl (z9r cR) X' rfl rfl ?_;intro eS bY bX dS;have d5:=z7 bY;have a1:=z7 bX;clear bY bX dS);go_ret;have dO:∀k,X'.In k->k≠mb:=fun k A e=>by
   subst e;have eW:=(H.o.lo k H.o.own.2).2;rcases cD.o k A with L|L|L
   .rcases bL.o with hw|⟨-,hw⟩
    .exact(cV X hw).2 L
    have:=hw k L;have:=a7.o.low.size;omega
   .have:=(d6.o k L).1;have:=a8.o.ge 0 rfl;omega
   have:=O.o.low.size;omega
  have dF:z0H eS X':=d7.o.keep (fun k A=>a1.o.block k (d7.o.lts k A) fun e=>dO k A (by simpa using e)) a1.o.size;have eY:=a9.o.size;have eX:=O.o.low.size;have eZ:=a1.o.size;obtain⟨S',eE,eF⟩:=H.o.upd id X' dF d5.o wF (fun k A=>by
   rcases cD.o k A with L|L|L
   .rcases bL.o with hw|⟨-,hw⟩
    .exact .inl ⟨X,hw,L⟩
    have:=hw k L;have:=a7.o.low.size;exact .inr wF
   .have:=(d6.o k L).1;have:=a8.o.ge 0 rfl;exact .inr wF
   .exact .inr wF) (fun k A eN hn=>(a1.o.block k (by have:=(H.o.lo k A).2;omega) fun e=>eN (by simpa using e)).trans (cY.o k A hn)) (fun hn=>by
   have L:=y5Q aU.o;unfold z3Q at L;split at L
   .cases L
   rename_i hr;have eU:b.all.length=E.length:=(by rw[H.o.all];simp);have dL:z0J (id:Int) b.all=none:=(by rw[H.o.all,z9F,hn];rfl);have:¬b.most<=b.all.length:=fun h=>hr ⟨dL,h⟩;omega)
  refine .inr ⟨aU.o,rfl,z1d z4e (id:Int) X' E,S',?_,?_,eF⟩
  .have:z9z b id ⟨t,v⟩=b.set id X'.ser:=by
    unfold z9z;rw[cC.o,<-aF.o,cZ.o,aV.o];rfl
   rw[this];exact eE
  refine⟨a1.o.os.trans (a9.o.os.trans O.o.low.os),a1.o.tape.trans (a9.o.tape.trans O.o.low.tape),a1.o.output.trans (a9.o.output.trans O.o.low.output),wF,fun k A hn=>?_⟩;refine(a1.o.block k wF fun e=>hn (by rw[show k=mb by simpa using e];exact H.o.own.2)).trans ((a9.o.block k wF fun e=>?_).trans (O.o.low.block k A fun e=>e));have b6:X.In k:=by
   rcases e with rfl|rfl
   .exact .inr (.inl rfl)
   exact .inl rfl
  rcases bL.o with hw|⟨-,hw⟩
  .exact hn ((H.o.each _ (z1q hw)).2 k b6).1
  have:=hw k b6;have:=a7.o.low.size;omega
 have aU:=z7 hm;have f0:((z7o b id t:Int) !=0)=true:=by rw[gn];omega
 clear h hT hm hs cU aR;go_enter func22,ntmps22;go_wp2_with fail;refine HM.o.mono ?_;rintro e w1 ⟨rfl,hb⟩;have a7:=z7 (c9.o.call hb);clear hb;go_wp2;go_ret;exact .inl ⟨aU.o,rfl,a7.o.low⟩
def z6K(f:Fr):Nat×Nat×Nat:=(f.chunk,f.bits,f.cnt)
def y4m(x:z0T)(f:Fr):List Bool:=if z6K f=z1P x then x.cur.l else []
def firstT(st:List z1t):Int:=(st.head?.map fun x=>x.s.t).getD 0
def y7s(b:z0h)(x:z0T)(f:Fr)(st:List z1t):Bool:=decide (st.length≠f.count\/f.count<=f.cnt\/b.size<st.length\/(z5Y x.done=true/\firstT st<=z4h x.done))
def z1j(b:z0h)(x:z0T)(f:Fr)(l:List Bool):Nat×z0R:=
 if z3Q b f.series≠0 then(z3Q b f.series,z1Y)
 else if z6K f≠z1P x/\z6K f≠((z1P x).1,0,0)then(122,z1Y)
 else match z5t (y4m x f++l)with
  | none=>(61,z1Y)
  | some st=>if y7s b x f st then(61,z1Y)else(0,⟨y4m x f++l,st⟩)
def z7Z(b:z0h)(x:z0T)(f:Fr)(l:List Bool)(w:World)(e:Ending)(w':World):Prop:=
 Below w.heap.size w w'/\(((z1j b x f l).1≠0/\e= .returned (.tuple #[.agg (z1Z.vals false).toArray,.int .u16 ((z1j b x f l).1:Nat)]))\/
  ((z1j b x f l).1=0/\∃(y:z1J) (T':Nat->Prop),e= .returned (.tuple #[.agg (y.vals f.closed).toArray,.int .u16 0])/\y.p=(z1j b x f l).2/\y.Ok T' w'/\0<y.p.st.length/\∀k,T' k->w.heap.size<=k/\k<w'.heap.size))
theorem y1S(bb mb B:Nat)(E:List (Int×z0I))(b:z0h)(S:Nat->Prop)(X:z0I)(f:Fr)(a:Option Addr)(n c:Nat)(l:List Bool)(hf:f.Ok)(d5:f.n=(l.length:Nat))(cJ:n=f.b.length)(hl:l.length<=1000000)(bD:X.done.length<=1000000000)(w:World)(h:z0w w bb mb E b B S)(hX:z0H w X)(bO:z0r w a n c l f.b)(hT:z1H w):
  Calls prog 116 #[.pointer (some ⟨bb,0,none⟩),.pointer (some ⟨X.sb,0,none⟩),frV f (.slice a n c)] w (z7Z b X.ser f l w):=by
 have aN:=z7 (((Loc.start w).new (.cells (z0b f (.slice a n c)) 51)).new' (.cells #[.slice none 0 0,.int .i64 0,.slice none 0 0,.int .i64 0,.int .i64 0,.int .i64 0,.bool false,.int .u64 0,.int .u8 0,.int .u8 0,.bool false] 108) (n:=w.heap.size+1) wH);have H:=z7 h;have HX:=z7 hX;have cS:=z7 bO;have HT:=z7 hT;have HR:=z7 (q0w bb mb B E b S f.series hf.series _ (h.low aN.o.low));have aD:=z7 (fun w' (h':z0H w' X)=>y8F X bD w' h');have bM:=hf;obtain⟨kind,epoch,series,O,R,N,cnt,closed,sum,fb,fn⟩:=f;simp only at d5 cJ;subst d5;have dV:=z7 cJ;clear cJ;obtain⟨⟨D,EB,EC⟩,aS⟩:∃e,e=z1P X.ser:=⟨_,rfl⟩;simp only[<-aS]at aD;have cT:=z7 aS;have dE:=z7 bM;unfold frV z0b;unfold z0b at aN HR;simp only at aN HR cS ⊢;rcases y3x b series with Y|Y
 .rw[Y]at HR;have dI:=z7 Y;by_cases aY:(O=D/\R=EB/\N=EC)\/(O=D/\R=0/\N=0)
  .have cM:=z7 aY;clear h hX bO hT hf Y bM aS aY;obtain⟨aE,a6⟩:=zN (decide ((O,R,N)=(D,EB,EC)));obtain⟨BS,aZ⟩:=zN (y4m X.ser ⟨kind,epoch,series,O,R,N,cnt,closed,sum,fb,(l.length:Nat)⟩);have bI:Hid (BS=if aE then X.cur.p.l else []):=z7 (by
    rw[aZ,a6];unfold y4m z6K;rw[<-cT.o];simp only[od];rfl)
   have cO:=z7 aZ;have dZ:BS.length<=3504:=by
    rw[bI.o];split
    .exact HX.o.cur.ok.bits
    exact uA _
   have d8:Hid (decide ((O,R,N)≠(D,EB,EC))=!aE):=z7 (by rw[a6];simp);have dM:Hid (aE=false->decide ((O,R,N)≠(D,0,0))=false):=z7 fun hi=>by
    rw[hi]at a6;rcases cM.o with⟨rfl,rfl,rfl⟩|⟨rfl,rfl,rfl⟩
    .simp at a6
    simp
   have dN:Hid (decide ((O,R,N)=(D,EB,EC))=aE):=z7 a6.symm;clear a6 aZ;go_enter func116,ntmps116;go_wp2_with fail;refine HR.o.mono ?_;rintro e w1 ⟨rfl,hb⟩;have a0:=z7 (aN.o.call hb);clear hb;obtain⟨f0,f1,f2,f3,f4,f5,f6,f7,f8,f9,J,ff⟩:=z0t (a0.o.get 1 rfl);go_wp2_with fail;refine(aD.o w1 (HX.o.low a0.o.low)).mono ?_;rintro e w2 ⟨rfl,hb⟩;have aO:=z7 (a0.o.call hb);clear hb f0 f1 f2 f3 f4 f5 f6 f7 f8 f9 J ff;obtain⟨f0,f1,f2,f3,f4,f5,f6,f7,f8,f9,J,ff⟩:=z0t (aO.o.get 1 rfl);go_upto_region 5 with fail
   obtain⟨W3,b3,aW⟩:=(aO.o.new (.cells #[.int .u32 D,.int .u32 EB,.int .u32 EC] 45)).named;refine z0s b3 ?_;have a8:=z7 aW;clear aW b3 f0 f1 f2 f3 f4 f5 f6 f7 f8 f9 J ff;obtain⟨f0,f1,f2,f3,f4,f5,f6,f7,f8,f9,J,ff⟩:=z0t (a8.o.get 2 rfl);obtain⟨p0,p1,p2,pf⟩:=cells3 (a8.o.get 0 rfl);have l1:=a8.o.lt 2 rfl;have l2:=a8.o.lt 0 rfl
   go_cut[39] (fun v wx=>v= .bool false/\wx=W3)
   case first=>
    cases aE with
    | true=>
     go_wp2_with (refine z3g (by rfl) (.bool false) (z4d _ _ _ rfl (O,R,N) (D,EB,EC) rfl rfl false d8.o) ?_);go_meet
     exact⟨rfl,rfl⟩
    | false=>
     go_wp2_with (first|refine z3g (by rfl) (.bool true) (z4d _ _ _ rfl (O,R,N) (D,EB,EC) rfl rfl true d8.o) ?_|refine z3g (by rfl) (.bool false) (z4d _ _ _ rfl (O,R,N) (D,0,0) rfl rfl false (dM.o rfl)) ?_);go_meet
     exact⟨rfl,rfl⟩
   case rest=>
    obtain⟨rfl,rfl⟩:=hcut;go_upto_region 8 with fail
    obtain⟨W4,d0,aC⟩:=(a8.o.new (.cells #[.slice none 0 0,.int .i64 0] 49)).named;refine z0s d0 ?_;have aG:=z7 aC;clear aC d0 f0 f1 f2 f3 f4 f5 f6 f7 f8 f9 J ff p0 p1 p2 pf l2;obtain⟨f0,f1,f2,f3,f4,f5,f6,f7,f8,f9,J,ff⟩:=z0t (aG.o.get 3 rfl);obtain⟨p0,p1,p2,pf⟩:=cells3 (aG.o.get 1 rfl);have cX:=z7 (z8w X bD W4 (HX.o.low aG.o.low))
    go_upto_if 44 with(refine z3g (by rfl) (.bool aE) (z5e _ _ _ rfl (O,R,N) (D,EB,EC) rfl rfl aE dN.o) ?_)
    obtain⟨q,hq⟩:=zN wc.heap.size;rw[<-hq]at aG ⊢;clear hq;go_simp
    go_cut[] (fun wx=>Hid (∃ab nb cb bJ,Loc w [(q,.cells #[.slice ab nb cb,.int .i64 (BS.length:Nat)] 49 (0,0)),(w2.heap.size,.cells #[.int .u32 D,.int .u32 EB,.int .u32 EC] 45 (0,0)),(w.heap.size+1,.cells (z1Z.vals false).toArray 108 (0,0)),(w.heap.size,.cells #[.int .u8 kind,.int .u32 epoch,.int .u32 series,.int .u32 O,.int .u32 R,.int .u32 N,.int .u32 cnt,.bool closed,.int .u64 sum,.slice a n c,.int .i64 l.length] 51 (0,0))] wx/\z0r wx ab nb cb BS bJ))
    case first=>
     cases aE with
     | true=>
      go_wp2_with fail;refine cX.o.mono ?_;rintro e w5 ⟨rfl,hb⟩;have aH:=z7 (aG.o.call hb);have bL:=HX.o.low aH.o.low;have g0:=bL.at (j:=0) rfl;have g1:=bL.at (j:=1) rfl;simp only[dp]at g0;obtain⟨q0,q1,qf⟩:=z0m (aH.o.get 0 rfl);have dJ:=z7 bL;have aZ:Hid (BS=X.cur.p.l):=z7 bI.o;clear hb bL;go_wp2;go_meet
      have h6:=(z0U.of (S:=fun _=>False) aH.o).lay (K':= [(q,.cells #[.slice X.cur.a X.cur.b.length X.cur.c,.int .i64 (X.cur.p.l.length:Nat)] 49 (0,0)),(w2.heap.size,.cells #[.int .u32 D,.int .u32 EB,.int .u32 EC] 45 (0,0)),(w.heap.size+1,.cells (z1Z.vals false).toArray 108 (0,0)),(w.heap.size,.cells #[.int .u8 kind,.int .u32 epoch,.int .u32 series,.int .u32 O,.int .u32 R,.int .u32 N,.int .u32 cnt,.bool closed,.int .u64 sum,.slice a n c,.int .i64 l.length] 51 (0,0))]) 0 0 [.slice X.cur.a X.cur.b.length X.cur.c,.int .i64 (X.cur.p.l.length:Nat)] rfl rfl rfl rfl;rw[aZ.o];have d9:∀k,X.In k->k≠q:=fun k hk e=>by
       have:=HX.o.lts k hk;have:=aG.o.ge 0 rfl;omega
      exact⟨X.cur.a,_,X.cur.c,X.cur.b,h6.toLoc,(dJ.o.keep (fun k hk=>(q7 (d9 k hk)).trans (q7 (d9 k hk))) (by simp[World.setCell])).cur.rd.now⟩
     | false=>
      go_wp2;go_meet
      refine⟨none,0,0, [],?_,?_⟩
      .have:=aG.o;rw[bI.o];exact this
      rw[bI.o];exact⟨RdB.nil W4,rfl,z0S.nil⟩
    case rest=>
     obtain⟨ab,nb,cb,bJ,cD,cZ⟩:=hcut;have aH:=z7 cD;have dB:=z7 cZ;clear cD cZ f0 f1 f2 f3 f4 f5 f6 f7 f8 f9 J ff p0 p1 p2 pf cX;obtain⟨f0,f1,f2,f3,f4,f5,f6,f7,f8,f9,J,ff⟩:=z0t (aH.o.get 3 rfl);obtain⟨q0,q1,qf⟩:=z0m (aH.o.get 0 rfl);go_wp2_with fail;obtain⟨W6,cF,cE⟩:=(aH.o.new (.cells #[.slice ab nb cb,.int .i64 (BS.length:Nat),.slice a n c,.int .i64 (l.length:Nat)] 49)).named;have cB:=dB.o.low (q5 wc (.cells #[.slice ab nb cb,.int .i64 (BS.length:Nat),.slice a n c,.int .i64 (l.length:Nat)] 49));rw[<-cF]at cB ⊢;have bA:z9h W6 (.slice (some ⟨wc.heap.size,0,none⟩) 2 2) [⟨ab,nb,cb,BS,bJ⟩,⟨a,n,c,l,fb⟩]:=⟨by rw[cF];exact y1x wc _ _ _ 2 2 rfl wG rfl,fun x hx=>by
      simp only[wy,ou,kg]at hx;rcases hx with rfl|rfl
      .exact⟨cB,by simp only;omega⟩
      exact⟨cS.o.low cE.low,by simp only;omega⟩⟩
     have cV:=z7 cE;have bN:=q5L _ _ _ _ _ bA rfl wG;have d6:joinL [⟨ab,nb,cb,BS,bJ⟩,⟨a,n,c,l,fb⟩]=BS++l:=(by simp[joinL]);rw[d6]at bN;obtain⟨L,hL⟩:=zN (BS++l);rw[<-hL]at bN;have c6:Hid (z1j b X.ser ⟨kind,epoch,series,O,R,N,cnt,closed,sum,fb,(l.length:Nat)⟩ l=match z5t L with
       | none=>(61,z1Y)
       | some st=>if y7s b X.ser ⟨kind,epoch,series,O,R,N,cnt,closed,sum,fb,(l.length:Nat)⟩ st then(61,z1Y)else(0,⟨L,st⟩)):=z7 (by
      rw[hL,cO.o];unfold z1j;rw[wR (by simpa using dI.o),wR];unfold z6K;rw[<-cT.o];simp only[ne_eq,wk];rintro⟨h1,h2⟩;rcases cM.o with h|h
      .exact h1 h
      exact h2 h)
     have dY:L.length<=1003504:=(by rw[hL,wP];omega);have HJ:=z7 bN;clear cE cF cB bA d6 hL bN f0 f1 f2 f3 f4 f5 f6 f7 f8 f9 J ff q0 q1 qf;refine HJ.o.mono ?_;rintro e w7 ⟨a7,n7,c7,b7,rfl,bE,rfl,bZ,d3⟩;have dF:=z7 (cV.o.call d3);have c9:=z7 bE;have aT:=z7 bZ;clear bE bZ d3 HJ;go_upto_region 11 with fail
     obtain⟨W8,cG,cW⟩:=(dF.o.new (.cells #[.slice a7 b7.length c7,.int .i64 (L.length:Nat)] 49)).named;refine z0s cG ?_;have aJ:=c9.o.alloc (.cells #[.slice a7 b7.length c7,.int .i64 (L.length:Nat)] 49);rw[<-cG]at aJ;have aU:=z7 cW;have aV:=z7 aJ;obtain⟨r,Y⟩:=zN w7.heap.size;rw[<-Y]at aU ⊢;clear cW cG aJ Y;have b4:=z7 (q3P a7 b7.length c7 L b7 W8 (z5F aV.o rfl aT.o) wF (HT.o.low aU.o.low));obtain⟨q0,q1,qf⟩:=z0m (aU.o.get 0 rfl);go_wp2_with fail;refine b4.o.mono ?_;rintro e w9 ⟨⟨st,av,cv,dA,rfl,bF⟩|⟨bC,rfl⟩,b9⟩
     .have c8:=z7 (aU.o.call b9);have aI:=z7 bF;have aX:=z7 dA;have dC:=z7 (ownsRow_below aV.o b9 wE);clear bF dA b9 b4 q0 q1 qf;obtain⟨en,el,ed,b5,prev,aF,width,hE⟩:∃en el ed b5 prev aF width,(⟨en,el,ed,⟨b5,prev,aF,width⟩⟩:z2g)=z0o z0i st:=⟨_,_,_,_,_,_,_,rfl⟩;rw[<-hE];have HE:=z7 hE;clear hE;simp only;obtain⟨n1,bB⟩:=zN st.length;rw[<-bB]at aI ⊢;have a3:=z7 bB;clear bB;have dO:=z0Q aI.o;go_upto_region 15 with fail
      obtain⟨aR,a4,aB⟩:=(c8.o.new (.cells #[.int .i64 (en:Nat),.int .i64 el,.int .i64 ed,.bool b5,.int .u64 (prev:Nat),.int .u8 (aF:Nat),.int .u8 (width:Nat)] 106)).named;refine z0s a4 ?_;have b6:Below w9.heap.size w9 aR:=(by rw[a4];exact q5 _ _);have a1:=z7 aB;have aL:=z7 (ownsRow_below aI.o b6 wE);have cN:=z7 (ownsRow_below dC.o b6 wE);obtain⟨s,hs⟩:=zN w9.heap.size;rw[<-hs]at a1 ⊢;clear aB a4 b6 hs;obtain⟨f0,f1,f2,f3,f4,f5,f6,f7,f8,f9,J,ff⟩:=z0t (a1.o.get 6 rfl);have d4:=H.o.low a1.o.low;obtain⟨b0,b1,b2,bf⟩:=d4.cells;have d1:=HX.o.low a1.o.low;obtain⟨s0,s1,s2,sf⟩:=d1.cells;clear d4 d1;obtain⟨so,bS⟩:=zN (z5Y X.ser.done);obtain⟨ah,cH⟩:=zN (z4h X.ser.done);obtain⟨cY,aM⟩:=zN b.size;rw[<-bS]at s2;rw[<-cH]at s1;rw[<-aM]at b1;have dD:IntKind.u64.wrap (n1:Int)=(n1:Int):=(by rw[wq];omega);have dW:IntKind.u64.wrap (cnt:Int)=(cnt:Int):=(by have:=dE.o.count;simp only at this;rw[wq];omega);obtain⟨FB,cC⟩:=zN (y7s b X.ser ⟨kind,epoch,series,O,R,N,cnt,closed,sum,fb,(l.length:Nat)⟩ st);have U:Hid (FB=decide (n1≠cnt\/cnt<=N\/cY<n1\/(so=true/\firstT st<=ah))):=z7 (by rw[cC,a3.o,bS,cH,aM];rfl);have bX:=z7 cC;have dX:=z7 bS;have cR:=z7 aM;clear cC bS cH aM
      go_cut[111] (fun v wx=>v= .bool FB/\Hid (Below aR.heap.size aR wx))
      case first=>
       by_cases t1:n1=cnt
       .have e1:((n1:Int) !=(cnt:Int))=false:=(by rw[t1];simp);have cA:=z7 t1;clear t1;by_cases t2:cnt<=N
        .have Y:FB=true:=(by rw[U.o];exact wQ (.inr (.inl t2)));go_quiet (fail)
         go_wp2;go_meet
         exact⟨by rw[Y],z7 (z0j wD)⟩
        by_cases t3:cY<n1
        .have Y:FB=true:=(by rw[U.o];exact wQ (.inr (.inr (.inl t3))));go_quiet (fail)
         go_wp2;go_meet
         exact⟨by rw[Y],z7 (z0j wD)⟩
        have c5:0<n1:=(by have:=cA.o;omega);obtain⟨x0,bT,bG⟩:∃x0 bT,st=x0::bT:=by
         cases st with
         | nil=>have:=a3.o;simp at this;omega
         | cons x0 bT=>exact⟨x0,bT,rfl⟩
        obtain⟨t0,cL⟩:=zN x0.s.t;have bW:firstT st=t0:=(by rw[bG,cL];rfl);obtain⟨gv,dT,d2, -⟩:=z2b aL.o (fun e=>by simp only[wO]at e;omega);simp only[wO,oP]at d2;obtain⟨rfl,rfl⟩:=d2;have cI:=aL.o.cells (g:=gv) rfl 0 (.int .i64 t0) (by rw[bG,cL];rfl);rw[y1H,uZ]at cI;have bY:=z7 bW;clear bG cL bW;cases so with
        | false=>
         have Y:FB=false:=(by rw[U.o];exact wM (fun h=>by rcases h with h|h|h|⟨h, -⟩<;>first|exact absurd cA.o h|omega|cases h));go_quiet (fail)
         go_wp2;go_meet
         exact⟨by rw[Y],z7 (z0j wD)⟩
        | true=>
         by_cases t4:t0<=ah
         .have Y:FB=true:=(by rw[U.o];exact wQ (.inr (.inr (.inr ⟨rfl,by rw[bY.o];exact t4⟩))));go_quiet (fail)
          go_wp2;go_meet
          exact⟨by rw[Y],z7 (z0j wD)⟩
         have Y:FB=false:=(by rw[U.o];exact wM (fun h=>by rw[bY.o]at h;rcases h with h|h|h|⟨-,h⟩<;>first|exact absurd cA.o h|omega|exact absurd h t4));go_quiet (fail)
         go_wp2;go_meet
         exact⟨by rw[Y],z7 (z0j wD)⟩
       have e1:((n1:Int) !=(cnt:Int))=true:=(by rw[gn];omega);have Y:FB=true:=(by rw[U.o];exact wQ (.inl t1));go_quiet (fail)
       go_wp2;go_meet
       exact⟨by rw[Y],z7 (z0j wD)⟩
      case rest=>
       obtain⟨rfl,a5⟩:=hcut;have I:=z7 (a1.o.call a5.o);have bU:=z7 (ownsRow_below cN.o a5.o wE);clear a5 f0 f1 f2 f3 f4 f5 f6 f7 f8 f9 J ff b0 b1 b2 bf s0 s1 s2 sf;cases FB with
       | true=>
        have A:Hid (z1j b X.ser ⟨kind,epoch,series,O,R,N,cnt,closed,sum,fb,(l.length:Nat)⟩ l=(61,z1Y)):=z7 (by
         rw[c6.o,aX.o];simp only;rw[<-bX.o];rfl)
        go_wp2_with (refine z0e rfl _ _ _ rfl (w.heap.size+1) 0 rfl (z1Z.vals false).toArray rfl (z0B (I.o.get 5 rfl) rfl) (z0y (I.o.get 5 rfl)) z1a (z1Z.one false) ?_);refine wU (y2e rfl rfl (q3J (z0Y _ 0 _ _ (I.o.get 5 rfl) wE) (z4D rfl)) z3w z1a) rfl ?_;exact⟨((z0U.of (S:=fun _=>False) I.o).puts 5 (z1Z.vals false) 0 _ rfl).low.toBelow,.inl ⟨by rw[A.o];decide,by rw[A.o];rfl⟩⟩
       | false=>
        have A:Hid (z1j b X.ser ⟨kind,epoch,series,O,R,N,cnt,closed,sum,fb,(l.length:Nat)⟩ l=(0,⟨L,st⟩)):=z7 (by
         rw[c6.o,aX.o];simp only;rw[<-bX.o];rfl)
        obtain⟨q0,q1,qf⟩:=z0m (I.o.get 1 rfl);have cU:=z7 (q6c a7 b7.length c7 L b7 wc (z5F bU.o rfl aT.o) wF (HT.o.low I.o.low));go_wp2_with fail;refine cU.o.mono ?_;rintro e dS ⟨⟨e7,ea,ec,bH,rfl,aA⟩|⟨bC,rfl⟩,b8⟩
        .rw[aX.o]at bH;simp only[wK]at bH;subst bH;rw[<-a3.o]at aA ⊢;have a2:=z7 (I.o.call b8);have bV:=z7 (ownsRow_below bU.o b8 wE);have a9:=z7 aA;obtain⟨q0,q1,qf⟩:=z0m (a2.o.get 1 rfl);obtain⟨e0,e1,e2,e3,e4,e5,e6,ef⟩:=z3s (a2.o.get 0 rfl);obtain⟨f0,f1,f2,f3,f4,f5,f6,f7,f8,f9,J,ff⟩:=z0t (a2.o.get 6 rfl);clear aA b8 cU;go_wp2_with (refine z0e rfl _ _ _ rfl (w.heap.size+1) 0 rfl #[.slice a7 b7.length c7,.int .i64 (L.length:Nat),.slice ea n1 ec,.int .i64 (en:Nat),.int .i64 el,.int .i64 ed,.bool b5,.int .u64 (prev:Nat),.int .u8 (aF:Nat),.int .u8 (width:Nat),.bool closed] rfl (z0B (a2.o.get 5 rfl) rfl) (z0y (a2.o.get 5 rfl)) z1a (by simp[Value.oneCell']) ?_);have d7:=((z0U.of (S:=fun _=>False) a2.o).puts 5 [.slice a7 b7.length c7,.int .i64 (L.length:Nat),.slice ea n1 ec,.int .i64 (en:Nat),.int .i64 el,.int .i64 ed,.bool b5,.int .u64 (prev:Nat),.int .u8 (aF:Nat),.int .u8 (width:Nat),.bool closed] 0 _ rfl).low.toBelow;refine wU (y2e rfl rfl (q3J (z0Y _ 0 _ _ (a2.o.get 5 rfl) wE) (z4D rfl)) z3w z1a) rfl ?_;have dR:z0R.Ok ⟨L,st⟩:=⟨aX.o,by
          have h1:=U.o;have h2:=dm h1.symm;have h3:=H.o.size.2;have h4:=cR.o;rw[<-a3.o];omega⟩
         have c5:0<n1:=by
          have h2:=dm U.o.symm;omega
         have dU:=cV.o.lt 3 rfl;have dL:=I.o.lt 5 rfl;have bR:∀k,((Value.slice a7 b7.length c7).ownBlock=some k\/(Value.slice ea n1 ec).ownBlock=some k)->k≠w.heap.size+1/\w.heap.size<=k/\k<dS.heap.size:=fun k hk=>by
          rcases hk with hk|hk
          .have:=bV.o.lt k hk;omega
          have:=a9.o.lt k hk;omega
         refine⟨d7,.inr ⟨by rw[A.o],⟨a7,c7,b7,ea,ec,⟨L,st⟩⟩,fun k=>(Value.slice a7 b7.length c7).ownBlock=some k\/(Value.slice ea n1 ec).ownBlock=some k,?_,by rw[A.o],⟨fun w' hk=>?_,fun w' hk=>?_,dR,?_⟩,by show 0<st.length;rw[<-a3.o];exact c5,fun k hk=>⟨(bR k hk).2.1,by rw[size_setCells];exact(bR k hk).2.2⟩⟩⟩
         .show Ending.returned (.tuple #[.agg #[_,_,_,_,_,_,_,_,_,_,_],_])=Ending.returned (.tuple #[.agg #[_,_,_,_,_,_,_,_,_,_,_],_]);rw[<-HE.o,<-a3.o];rfl
         .exact z5F (j7 bV.o fun k hb=>(hk k (.inl hb)).trans (z1n (bR k (.inl hb)).1 _ _ _)) rfl aT.o
         .show Rd w' (.slice ea st.length ec) 1 st.length (z2K (z1C st));rw[<-a3.o];exact z0d (j7 a9.o fun k hb=>(hk k (.inr hb)).trans (z1n (bR k (.inr hb)).1 _ _ _))
         show st.length<=ec;rw[<-a3.o];exact(z0Q a9.o).1
        rw[aX.o]at bC;cases bC
     have c8:=z7 (aU.o.call b9);have dH:=z7 bC;clear bC b9 b4 q0 q1 qf;go_upto_region 15 with fail
     obtain⟨aR,a4,aB⟩:=(c8.o.new (.cells #[.int .i64 0,.int .i64 0,.int .i64 0,.bool false,.int .u64 0,.int .u8 0,.int .u8 0] 106)).named;refine z0s a4 ?_;have a1:=z7 aB;clear aB a4;have A:Hid (z1j b X.ser ⟨kind,epoch,series,O,R,N,cnt,closed,sum,fb,(l.length:Nat)⟩ l=(61,z1Y)):=z7 (by rw[c6.o,dH.o])
     go_cut[111] (fun v wx=>v= .bool true/\Hid (Below aR.heap.size aR wx))
     case first=>
      go_quiet (fail)
      go_wp2;go_meet
      exact⟨rfl,z7 (z0j wD)⟩
     case rest=>
      obtain⟨rfl,a5⟩:=hcut;have I:=z7 (a1.o.call a5.o);clear a5;go_wp2_with (refine z0e rfl _ _ _ rfl (w.heap.size+1) 0 rfl (z1Z.vals false).toArray rfl (z0B (I.o.get 5 rfl) rfl) (z0y (I.o.get 5 rfl)) z1a (z1Z.one false) ?_);refine wU (y2e rfl rfl (q3J (z0Y _ 0 _ _ (I.o.get 5 rfl) wE) (z4D rfl)) z3w z1a) rfl ?_;exact⟨((z0U.of (S:=fun _=>False) I.o).puts 5 (z1Z.vals false) 0 _ rfl).low.toBelow,.inl ⟨by rw[A.o];decide,by rw[A.o];rfl⟩⟩
  have hA:¬(O=D/\R=EB/\N=EC):=fun e=>aY (.inl e);have hB:¬(O=D/\R=0/\N=0):=fun e=>aY (.inr e);have A:Hid (z1j b X.ser ⟨kind,epoch,series,O,R,N,cnt,closed,sum,fb,(l.length:Nat)⟩ l=(122,z1Y)):=z7 (by
   unfold z1j;rw[wR (by simpa using Y),wZ];unfold z6K;rw[<-aS];simp only[ne_eq,wk];exact⟨hA,hB⟩)
  have a3:Hid (decide ((O,R,N)≠(D,EB,EC))=true):=z7 (wQ (by simp only[ne_eq,wk];exact hA));have dG:Hid (decide ((O,R,N)≠(D,0,0))=true):=z7 (wQ (by simp only[ne_eq,wk];exact hB));clear h hX bO hT hf Y bM aS hA hB aY;go_enter func116,ntmps116;go_wp2_with fail;refine HR.o.mono ?_;rintro e w1 ⟨rfl,hb⟩;have a0:=z7 (aN.o.call hb);clear hb;obtain⟨f0,f1,f2,f3,f4,f5,f6,f7,f8,f9,J,ff⟩:=z0t (a0.o.get 1 rfl);go_wp2_with fail;refine(aD.o w1 (HX.o.low a0.o.low)).mono ?_;rintro e w2 ⟨rfl,hb⟩;have aO:=z7 (a0.o.call hb);clear hb f0 f1 f2 f3 f4 f5 f6 f7 f8 f9 J ff;obtain⟨f0,f1,f2,f3,f4,f5,f6,f7,f8,f9,J,ff⟩:=z0t (aO.o.get 1 rfl);have l1:=aO.o.lt 1 rfl;go_upto_region 6 with(first|refine z3g (by rfl) (.bool true) (z4d _ _ _ rfl (O,R,N) (D,EB,EC) rfl rfl true a3.o) ?_|refine z3g (by rfl) (.bool true) (z4d _ _ _ rfl (O,R,N) (D,0,0) rfl rfl true dG.o) ?_)
  obtain⟨W3,b3,aW⟩:=(aO.o.new (.cells #[.int .u32 D,.int .u32 EB,.int .u32 EC] 45)).named;refine z0s b3 ?_;have a8:=z7 aW;clear aW b3 f0 f1 f2 f3 f4 f5 f6 f7 f8 f9 J ff;go_wp2_with (refine z0e rfl _ _ _ rfl (w.heap.size+1) 0 rfl (z1Z.vals false).toArray rfl (z0B (a8.o.get 1 rfl) rfl) (z0y (a8.o.get 1 rfl)) z1a (z1Z.one false) ?_);have aC:=(z0U.of (S:=fun _=>False) a8.o).lay (K':= [(w2.heap.size,.cells #[.int .u32 D,.int .u32 EB,.int .u32 EC] 45 (0,0)),(w.heap.size+1,.cells (z1Z.vals false).toArray 108 (0,0)),(w.heap.size,.cells #[.int .u8 kind,.int .u32 epoch,.int .u32 series,.int .u32 O,.int .u32 R,.int .u32 N,.int .u32 cnt,.bool closed,.int .u64 sum,.slice a n c,.int .i64 l.length] 51 (0,0))]) 1 0 (z1Z.vals false) rfl rfl rfl rfl;refine wU (y2e rfl rfl (aC.get 1 rfl) z3w z1a) rfl ?_;exact⟨aC.low.toBelow,.inl ⟨by rw[A.o];decide,by rw[A.o];rfl⟩⟩
 rw[Y]at HR;have A:Hid (z1j b X.ser ⟨kind,epoch,series,O,R,N,cnt,closed,sum,fb,(l.length:Nat)⟩ l=(121,z1Y)):=z7 (by
  unfold z1j;rw[wZ (by simp only;omega)];simp only[Y])
 clear h hX bO hT hf Y bM aS;go_enter func116,ntmps116;go_wp2_with fail;refine HR.o.mono ?_;rintro e w1 ⟨rfl,hb⟩;have a0:=z7 (aN.o.call hb);clear hb;go_wp2_with (refine z0e rfl _ _ _ rfl (w.heap.size+1) 0 rfl (z1Z.vals false).toArray rfl (z0B (a0.o.get 0 rfl) rfl) (z0y (a0.o.get 0 rfl)) z1a (z1Z.one false) ?_);have aC:=(z0U.of (S:=fun _=>False) a0.o).lay (K':= [(w.heap.size+1,.cells (z1Z.vals false).toArray 108 (0,0)),(w.heap.size,.cells #[.int .u8 kind,.int .u32 epoch,.int .u32 series,.int .u32 O,.int .u32 R,.int .u32 N,.int .u32 cnt,.bool closed,.int .u64 sum,.slice a n c,.int .i64 l.length] 51 (0,0))]) 0 0 (z1Z.vals false) rfl rfl rfl rfl;refine wU (y2e rfl rfl (aC.get 0 rfl) z3w z1a) rfl ?_;exact⟨aC.low.toBelow,.inl ⟨by rw[A.o];decide,by rw[A.o];rfl⟩⟩
structure Grown (w w11:World) (bb mb B:Nat) (E:List (Int×z0I)) (b:z0h) (S:Nat->Prop) (id:Nat) (X':z0I):Prop where
 blk:w11.heap[bb]? =w.heap[bb]?
 map:y0S w11 mb E
 then_:∀w12,y0S w12 mb (z1d z4e (id:Int) X' E)->w11.grownBy w12 (some mb)->∃S',z0w w12 bb mb (z1d z4e (id:Int) X' E) (b.set id X'.ser) B S'/\z0n S w w12/\∀k,S' k->S k\/w.heap.size<=k
theorem z0w.grown{w a7 a0:World}{bb mb B:Nat}{E:List (Int×z0I)}{b:z0h}{S:Nat->Prop}(h:z0w w bb mb E b B S)(id:Nat)(X X':z0I)(a1:z0J (id:Int) E=some X\/(z0J (id:Int) E=none/\∀k,X.In k->w.heap.size<=k))
  (N:Below w.heap.size w a7) {T':Nat->Prop} (a8:∀k,T' k->w.heap.size<=k) (I:z0n (fun k=>k=X.g\/k=X.sb) a7 a0) (U:∀k,X'.In k->X.In k\/T' k\/a7.heap.size<=k) (a9:z0H a0 X') (a6:z3Q b id=0):Grown w a0 bb mb B E b S id X':=by
 have a2:∀k,(k=X.g\/k=X.sb)->X.In k:=fun k e=>by
  rcases e with rfl|rfl
  .exact .inr (.inl rfl)
  exact .inl rfl
 have R:∀k,S k->(∀Y,z0J (id:Int) E=some Y->¬Y.In k)->a0.heap[k]? =w.heap[k]? :=fun k J hn=>by
  have aH:=(h.lo k J).2;have aI:=N.size;refine(I.block k wF fun e=>?_).trans (N.block k aH);rcases a1 with O|⟨-,O⟩
  .exact hn X O (a2 k e)
  have:=O k (a2 k e);omega
 have a5:∀Y,z0J (id:Int) E=some Y->¬Y.In bb/\¬Y.In mb:=fun Y hY=>⟨fun J=>((h.each _ (z1q hY)).2 bb J).2.1 rfl,fun J=>((h.each _ (z1q hY)).2 mb J).2.2 rfl⟩;have a3:=R bb h.own.1 fun Y hY=>(a5 Y hY).1;have a4:y0S a0 mb E:=h.map.same (R mb h.own.2 fun Y hY=>(a5 Y hY).2);refine⟨a3,a4,fun aL aC A=>?_⟩;have aO:=I.size;have aN:=N.size;have aR:=A.size;have aS:=(h.lo mb h.own.2).2;have aE:∀k,X'.In k->k≠mb:=fun k J e=>by
  subst e;rcases U k J with L|L|L
  .rcases a1 with O|⟨-,O⟩
   .exact(a5 X O).2 L
   have:=O k L;omega
  .have:=a8 k L;omega
  omega
 have aA:z0H aL X':=a9.keep (fun k J=>A.block k (a9.lts k J) fun e=>aE k J (by simpa using e)) A.size;obtain⟨S',aF,aG⟩:=h.upd id X' aA aC wF (fun k J=>by
  rcases U k J with L|L|L
  .rcases a1 with O|⟨-,O⟩
   .exact .inl ⟨X,O,L⟩
   exact .inr (O k L)
  .exact .inr (a8 k L)
  .exact .inr wF) (fun k J aJ hn=>(A.block k (by have:=(h.lo k J).2;omega) fun e=>aJ (by simpa using e)).trans (R k J hn)) (fun hn=>by
  have L:=a6;unfold z3Q at L;split at L
  .cases L
  rename_i hr;have aM:b.all.length=E.length:=(by rw[h.all];simp);have aB:z0J (id:Int) b.all=none:=(by rw[h.all,z9F,hn];rfl);have:¬b.most<=b.all.length:=fun h=>hr ⟨aB,h⟩;omega)
 refine⟨S',aF,⟨A.os.trans (I.os.trans N.os),A.tape.trans (I.tape.trans N.tape),A.output.trans (I.output.trans N.output),wF,fun k J hn=>?_⟩,aG⟩;refine(A.block k wF fun e=>hn (by rw[show k=mb by simpa using e];exact h.own.2)).trans ((I.block k wF fun e=>?_).trans (N.block k J));rcases a1 with O|⟨-,O⟩
 .exact hn ((h.each _ (z1q O)).2 k (a2 k e)).1
 have:=O k (a2 k e);omega
theorem y5p{b:z0h}{x:z0T}{f:Fr}{l:List Bool}(h:(z1j b x f l).1=0):z3Q b f.series=0:=by
 unfold z1j at h;split at h
 .contradiction
 rename_i A;simpa using A
def takeB(b:z0h)(f:Fr)(l:List Bool):z0h:=b.set f.series (z4F (j9 b f.series) (z1j b (j9 b f.series) f l).2 f.closed)
def z3O(b:z0h)(f:Fr)(l:List Bool):Nat:=(z1j b (j9 b f.series) f l).1
def y6j(bb mb B:Nat)(S:Nat->Prop)(b:z0h)(f:Fr)(l:List Bool)(w:World)(e:Ending)(w':World):Prop:=
 e= .returned (.int .u16 (z3O b f l:Nat))/\((z3O b f l≠0/\Below w.heap.size w w')\/(z3O b f l=0/\∃E' S',z0w w' bb mb E' (takeB b f l) B S'/\z0n S w w'/\∀k,S' k->S k\/w.heap.size<=k))
theorem q5B(bb mb B:Nat)(E:List (Int×z0I))(b:z0h)(S:Nat->Prop)(f:Fr)(a:Option Addr)(n c:Nat)(l:List Bool)(hf:f.Ok)(b4:f.n=(l.length:Nat))(b3:n=f.b.length)(hl:l.length<=1000000)(N:(j9 b f.series).done.length<=1000000000)(w:World)(h:z0w w bb mb E b B S)(b7:z0r w a n c l f.b)(hT:z1H w):
  Calls prog 64 #[.pointer (some ⟨bb,0,none⟩),frV f (.slice a n c)] w (y6j bb mb B S b f l w):=by
 have A:=z7 ((Loc.start w).new (.cells (z0b f (.slice a n c)) 51));have H:=z7 h;have aN:=z7 b7;have HT:=z7 hT;have R:=z7 N;have a7:=z7 (z9G bb mb B E b S f.series hf.series _ (h.low A.o.low));have a8:=z7 (fun X (N:X.done.length<=1000000000) w' h1 h2 h3 h4=>y1S bb mb B E b S X f a n c l hf b4 b3 hl N w' h1 h2 h3 h4);have a4:=hf.series;obtain⟨F,hF⟩:=zN f;have bZ:=z7 hF;rw[<-hF]at A a7 a8 aN a4 R ⊢;obtain⟨kind,epoch,series,ck,pb,pc,cnt,closed,sum,fb,fn⟩:=F;unfold frV z0b at a8 ⊢;unfold z0b at A a7;simp only at A a7 a8 a4 ⊢;clear h b7 hT N hF hf b4 b3;go_enter func64,ntmps64;obtain⟨f0,f1,f2,f3,f4,f5,f6,f7,f8,f9,aA,ff⟩:=z0t (A.o.get 0 rfl);go_wp2_with fail;refine a7.o.mono ?_;rintro e w2 ⟨X,rfl,hX,aB,hb,hw⟩;have J:=z7 (A.o.call hb);have aJ:=a8.o X (by have:=R.o;rw[<-aB,X.done_len]at this;exact this) w2 (H.o.low J.o.low) hX (aN.o.low J.o.low) (HT.o.low J.o.low);rw[aB]at aJ;have HB:=z7 aJ;have aT:=z7 hX;have aU:=z7 aB;have aS:=z7 hw;clear hX aB hb hw aJ f0 f1 f2 f3 f4 f5 f6 f7 f8 f9 aA ff;obtain⟨f0,f1,f2,f3,f4,f5,f6,f7,f8,f9,aA,ff⟩:=z0t (J.o.get 0 rfl);obtain⟨BR,aI⟩:=zN (z1j b (j9 b series) ⟨kind,epoch,series,ck,pb,pc,cnt,closed,sum,fb,fn⟩ l);have L:=z7 aI;unfold z7Z at HB;rw[<-aI]at HB;obtain⟨er,P⟩:=BR;simp only at HB;clear aI;go_wp2_with fail;refine HB.o.mono ?_;rintro e w3 ⟨a3,⟨b9,rfl⟩|⟨aD,y,T',rfl,bG,bF,bC,bE⟩⟩
 .have a9:=z7 (J.o.call a3);have hd:((er:Int)==0)=false:=uy wF;have bJ:=z7 b9;clear b9 a3 HB;go_wp2_with (refine z0e rfl _ _ _ rfl w3.heap.size 0 rfl (z1Z.vals false).toArray rfl (by exact z0B (j8 w3 _) rfl) (by exact z0y (j8 w3 _)) z1a (z1Z.one false) ?_;rw[z3m _ _ _ _ (by rfl)]);go_ret;have a6:z3O b ⟨kind,epoch,series,ck,pb,pc,cnt,closed,sum,fb,fn⟩ l=er:=by unfold z3O;rw[<-L.o]
  exact⟨by rw[a6];rfl,.inl ⟨by rw[a6];exact bJ.o,(a9.o.call (q5 _ _)).low⟩⟩
 have a9:=z7 (J.o.call a3);have aH:=z7 aD;have bR:=z7 bG;have bO:=z7 bF;have bN:=z7 bC;have a0:=z7 bE;have bM:=z7 (aT.o.low a3);clear aD bG bF bC bE a3 HB;obtain⟨W4,a1,aV⟩:=(a9.o.new (.cells (y.vals closed).toArray 108)).named;have aY:z0H W4 X:=by rw[a1];exact bM.o.low (q5 _ _)
 have aG:y.Ok T' W4:=bO.o.next fun k I=>by rw[a1];exact(q5 w3 _).block k (a0.o k I).2
 have a2:∀k,X.In k->k<w2.heap.size:=fun k I=>aT.o.lts k I;have bL:=z7 a1;have Y:=z7 aV;have b6:=z7 (y9U X y closed T' (by have:=R.o;rw[<-aU.o,X.done_len]at this;exact this) W4 aY aG (fun k I=>⟨by have:=(a0.o k I).2;rw[a1];simp;omega,by have:=(a0.o k I).1;have:=a2 X.sb (.inl rfl);omega,by have:=(a0.o k I).1;have:=a2 X.g (.inr (.inl rfl));omega⟩) bN.o);obtain⟨bS,bT,bU, -⟩:=z0t (a9.o.get 0 rfl);clear a1 aV aY aG a2 f0 f1 f2 f3 f4 f5 f6 f7 f8 f9 aA ff;go_upto_region 3 with(refine z0e rfl _ _ _ rfl w3.heap.size 0 rfl (y.vals closed).toArray rfl (by exact z0B (j8 w3 _) rfl) (by exact z0y (j8 w3 _)) z1a (y.one closed) ?_;rw[z3m _ _ _ _ (by rfl)])
 refine z0s bL.o ?_;obtain⟨p0,bA⟩:=zN w3.heap.size;rw[<-bA]at Y ⊢;clear bA bS bT bU;have bB:=Y.o.get 0 rfl;go_wp2_with (refine z0u rfl 108 _ rfl p0 0 rfl _ (z1o bB) z3w z1a ?_);refine b6.o.mono ?_;rintro e w5 ⟨rfl,X',aF,a5,aX,aL,aE⟩;have HG:=z7 (H.o.grown series X X' (by
  rcases aS.o with h|⟨h1,h2⟩
  .exact .inl h
  .exact .inr ⟨h1,fun k I=>by have:=h2 k I;have:=A.o.low.size;omega⟩) Y.o.low (fun k I=>by have:=(a0.o k I).1;have:=J.o.low.size;omega) aL aE aX (by
  have h1:=y5p (b:=b) (x:=j9 b series) (f:=⟨kind,epoch,series,ck,pb,pc,cnt,closed,sum,fb,fn⟩) (l:=l) (by rw[<-L.o];exact aH.o);exact h1))
 have aR:=z7 a5;have aC:w5.heap[w.heap.size]? =some (.cells #[.int .u8 kind,.int .u32 epoch,.int .u32 series,.int .u32 ck,.int .u32 pb,.int .u32 pc,.int .u32 cnt,.bool closed,.int .u64 sum,.slice a n c,.int .i64 fn] 51 (0,0)):=(aL.block _ (Y.o.lt 1 rfl) (fun e=>by
  have I:X.In w.heap.size:=by
   rcases e with e|e
   .exact .inr (.inl e)
   exact .inl e
  rcases aS.o with h|⟨h1,h2⟩
  .have:=(H.o.lo _ ((H.o.each _ (z1q h)).2 _ I).1).2;omega
  have:=h2 _ I;have:=A.o.lt 0 rfl;omega)).trans (Y.o.get 1 rfl)
 have aO:=z7 aC;have aM:=z7 (HG.o.blk.trans H.o.blk);have bV:E.length<maxLen:=by have:=H.o.few;unfold maxLen;omega
 rw[<-aF];clear aF a5 aX aL aE b6 bB aC;go_wp2_with fail;refine q6 7 32 (fun D v w'=>Below w5.heap.size w5 w') wD.drew ?_;simp only[z0C];iterate 7 (refine q8.rd ?_ (fun D v w' hD hS=>?_) ?_;rotate_left;(have aZ:=(hS.block _ (wI.1 aM.o).1).trans aM.o;obtain⟨b0,b1,b2,bf⟩:=cells3 aZ;have lb:=(wI.1 aZ).1;have aW:=(hS.block _ (wI.1 aO.o).1).trans aO.o;obtain⟨f0,f1,f2,f3,f4,f5,f6,f7,f8,f9,aA,ff⟩:=z0t aW;have lf:=(wI.1 aW).1;clear hS hD;go_simp;try rfl);go_simp)
 refine q8.fin (fun vv w6 hS=>?_);have bH:=z7 (HG.o.map.low hS);have O:=z7 hS;clear hS;go_wp2_with (at_mapUpdate;refine z2I z4S rfl _ _ _ 142 rfl 97 underlying142 rfl bH.o bV (series:Int) rfl (z9r a4) X' rfl rfl ?_;intro w7 b8 b5 bX;have bI:=z7 b8;have U:=z7 b5;clear b8 b5 bX);go_ret;have a6:z3O b ⟨kind,epoch,series,ck,pb,pc,cnt,closed,sum,fb,fn⟩ l=er:=by unfold z3O;rw[<-L.o]
 have bY:takeB b ⟨kind,epoch,series,ck,pb,pc,cnt,closed,sum,fb,fn⟩ l=b.set series X'.ser:=by
  unfold takeB;rw[<-L.o,aR.o,bR.o,aU.o]
 obtain⟨S',h1,h2,h3⟩:=HG.o.then_ w7 bI.o ⟨U.o.os.trans O.o.os,U.o.tape.trans O.o.tape,U.o.output.trans O.o.output,wV O.o.size U.o.size,fun k I hn=>(U.o.block k (wS I O.o.size) hn).trans (O.o.block k I)⟩;refine⟨by rw[a6,aH.o];rfl,.inr ⟨by rw[a6];exact aH.o,z1d z4e (series:Int) X' E,S',?_,h2,h3⟩⟩;rw[bY];exact h1
structure FiS (W:World) (n m:Nat) (g:Option z0I) (s:z0T) (sz:Nat) (ty:TypeId) (y:Value) (R:Array Value->World->Prop) (D:Nat->Bool) (v:Nat->Value) (w':World):Prop where
 cs:CsS W n sz ty y R D v w'
 at_:D m=true->D n=false->∃X,v m= .pointer (some ⟨X.sb,0,none⟩)/\z0H w' X/\X.ser=s
theorem FiS.other{W w' A:World}{n m sz:Nat}{g:Option z0I}{s:z0T}{L:TypeId}{y:Value}{R:Array Value->World->Prop}{D:Nat->Bool}{v:Nat->Value}(h:FiS W n m g s sz L y R D v w')(k:Nat)(J:k≠n)(Y:k≠n+1)(h2:k≠n+2)(h4:k≠n+4)(h5:k≠n+5)(hm:k≠m)(hb:Below w'.heap.size w' A):FiS W n m g s sz L y R (mark D k) v A:=
 ⟨h.cs.other k J Y h2 h4 h5 hb,fun e I=>by
  rw[q9 hm]at e;rw[q9 J]at I;obtain⟨X,N,O,U⟩:=h.at_ e I;exact⟨X,N,O.low hb,U⟩⟩
theorem q5Y(bb mb B:Nat)(E:List (Int×z0I))(b:z0h)(S:Nat->Prop)(f:Fr)(a:Option Addr)(n c:Nat)(l:List Bool)(hf:f.Ok)(a9:f.n=(l.length:Nat))(a8:n=f.b.length)(hl:l.length<=1000000)(J:(j9 b f.series).done.length<=1000000000)(w:World)(h:z0w w bb mb E b B S)(aB:z0r w a n c l f.b)(hT:z1H w):
  Calls prog 84 #[.pointer (some ⟨bb,0,none⟩),frV f (.slice a n c)] w fun e w'=>e= .returned (.int .u16 (z3O b f l:Nat))/\Below w.heap.size w w':=by
 have Y:=z7 ((Loc.start w).new (.cells (z0b f (.slice a n c)) 51));have H:=z7 h;have a5:=z7 aB;have HT:=z7 hT;have a0:=z7 J;have a2:=z7 (fun w' h=>z9G bb mb B E b S f.series hf.series w' h);have U:=z7 (fun X (J:X.done.length<=1000000000) w' h1 h2 h3 h4=>y1S bb mb B E b S X f a n c l hf a9 a8 hl J w' h1 h2 h3 h4);have a1:=hf.series;obtain⟨F,hF⟩:=zN f;have aL:=z7 hF;rw[<-hF]at Y a2 U a5 a1 a0 ⊢;obtain⟨kind,epoch,series,ck,pb,pc,cnt,closed,sum,fb,fn⟩:=F;unfold frV z0b at U ⊢;unfold z0b at Y;simp only at Y a2 U a1 ⊢;clear h aB hT J hF hf a9 a8;obtain⟨er,a4⟩:=zN (z3O b ⟨kind,epoch,series,ck,pb,pc,cnt,closed,sum,fb,fn⟩ l);have aF:Hid (er=(z1j b (j9 b series) ⟨kind,epoch,series,ck,pb,pc,cnt,closed,sum,fb,fn⟩ l).1):=z7 a4;rw[<-a4];clear a4;go_enter func84,ntmps84;go_upto_region 1 with fail
 obtain⟨W,hW,hL⟩:=Y.o.named;refine z0s hW ?_;have HL:=z7 hL;clear hL hW;refine q6 13 18 (fun D v w'=>FiS W 6 4 (z0J (series:Int) E) (j9 b series) 11 108 (.int .u16 (er:Nat)) (fun _ _=>True) D v w') ⟨CsS.start _ _ _ _ _ _,fun e=>by cases e⟩ ?_;simp only[z0C];iterate 4 (refine q8.rl ?_ (fun D v w h=>⟨h.cs.other _ wG wG wG wG wG wD,h.at_⟩) (fun D v w' I A=>?_) ?_;rotate_left;(obtain⟨f0,f1,f2,f3,f4,f5,f6,f7,f8,f9,aG,ff⟩:=z0t ((HL.o.call A.cs.low).get 0 rfl);have l1:=(HL.o.call A.cs.low).lt 0 rfl;clear A I;go_simp;try rfl);go_simp)
 refine q8.re (fun D v w' I A=>?_) ?_
 .have HZ:=z7 A;clear A I;go_simp;go_at_call 28;refine(a2.o w' (H.o.low (HL.o.call HZ.o.cs.low).low)).mono ?_;rintro e aJ ⟨X,rfl,hX,O,hb, -⟩;exact⟨(HZ.o.cs.other 4 wG wG wG wG wG hb).value 4 _ wG wG wG wG,fun _ _=>⟨X,z0q _ _ _,hX,O⟩⟩
 go_simp;(refine q8.rl ?_ (fun D v w h=>⟨h.cs.other _ wG wG wG wG wG wD,h.at_⟩) (fun D v w' I A=>?_) ?_;rotate_left;(obtain⟨f0,f1,f2,f3,f4,f5,f6,f7,f8,f9,aG,ff⟩:=z0t ((HL.o.call A.cs.low).get 0 rfl);have l1:=(HL.o.call A.cs.low).lt 0 rfl;clear A I;go_simp;try rfl);go_simp)
 refine q8.re (fun D v w' I A=>?_) ?_
 .obtain⟨X,aO,hX,O⟩:=A.at_ (I.pre 4 (by kernel_rfl)) I.self;have L:=(HL.o.call A.cs.low).low;have R:=U.o X (by have:=a0.o;rw[<-O,X.done_len]at this;exact this) w' (H.o.low L) hX (a5.o.low L) (HT.o.low L);rw[O]at R;unfold z7Z at R;rw[<-aF.o]at R;have HB:=z7 R;have HZ:=z7 A;have d6:=z7 I.self;clear A I hX O L R;go_simp;go_at_call 116;refine HB.o.mono ?_;rintro e aJ ⟨a7,⟨aN,rfl⟩|⟨aH,y,T',rfl,aU,aT,aR,aS⟩⟩
  .exact⟨HZ.o.cs.call d6.o a7 (z1Z.vals false).toArray (fun _=>False) rfl (z1Z.one false) (fun _ _=>trivial) (fun k hk=>hk.elim),fun _ e=>by rw[z1T]at e;cases e⟩
  have h9:=HZ.o.cs.call d6.o a7 (y.vals closed).toArray (fun _=>False) rfl (y.one closed) (fun _ _=>trivial) (fun k hk=>hk.elim);have e9:Value.int .u16 (er:Int)= .int .u16 0:=(by rw[aH];rfl);rw[e9]at h9 ⊢;exact⟨h9,fun _ e=>by rw[z1T]at e;cases e⟩
 go_simp;refine q8.re (fun D v w' I A=>?_) ?_
 .have d:=I.pre 6 (by kernel_rfl);have N:=z7 (A.cs.move d);clear A I;go_simp;exact⟨N.o,fun _ e=>by rw[q9 wG,d]at e;cases e⟩
 go_simp;refine q8.re (fun D v w' I A=>?_) ?_
 .obtain⟨d,hm⟩:=A.cs.m (I.pre 7 (by kernel_rfl));obtain⟨p,F,hp, -⟩:=A.cs.c d;have a3:D 11=false:=I.post 11 _ rfl (by kernel_rfl);have N:=z7 (A.cs.ext d hp a3);rw[hp]at hm;clear A I hp;go_simp;exact⟨N.o,fun _ e=>by rw[q9 wG,d]at e;cases e⟩
 go_simp;refine q8.rl (.int .u16 (er:Nat)) (fun D v w h=>⟨h.cs.other 9 wG wG wG wG wG wD,h.at_⟩) (fun D v w' I A=>?_) ?_
 .obtain⟨d,hm⟩:=A.cs.m (I.pre 7 (by kernel_rfl));obtain⟨p,F,hp, -⟩:=A.cs.c d;rw[hp]at hm;clear A I hp;go_simp
 go_simp;refine q8.re (fun D v w' I A=>?_) ?_
 .have a3:D 11=false:=I.post 11 _ rfl (by kernel_rfl);have N:=z7 (A.cs.make a3 (Z:= #[.slice none 0 0,.int .i64 0,.slice none 0 0,.int .i64 0,.int .i64 0,.int .i64 0,.bool false,.int .u64 0,.int .u8 0,.int .u8 0,.bool false]) rfl);have HA:=z7 A.at_;clear A I;go_simp;refine⟨N.o,fun e e'=>?_⟩;rw[q9 wG]at e e';obtain⟨X,h1,h2,h3⟩:=HA.o e e';exact⟨X,by rw[z0g wG];exact h1,h2.low (q5 _ _),h3⟩
 go_simp;refine q8.ca undef (fun D v w' I A=>?_) ?_
 .have d8:=I.pre 8 (by kernel_rfl);have a6:=I.pre 10 (by kernel_rfl);obtain⟨d,he⟩:=A.cs.e d8;obtain⟨p,F,hp,aC,aI, -⟩:=A.cs.c d;have aE:=he p hp;obtain⟨g,cs,hg, -,aA,aM, -⟩:=A.cs.al a6;refine z2y _ _ _ rfl g 0 hg p aE (z0B aA wF) (z0y aA) (by rw[aC];exact z1a) aI ?_;exact⟨undef,rfl,rfl,⟨A.cs.store d8 a6 hg aE aC,fun _ e=>by rw[q9 wG,d]at e;cases e⟩⟩
 go_simp;(refine q8.rl ?_ (fun D v w h=>⟨h.cs.other _ wG wG wG wG wG wD,h.at_⟩) (fun D v w' I A=>?_) ?_;rotate_left;(clear A I;go_simp;try rfl);go_simp)
 refine q8.fin (fun v w9 A=>?_);have hb:=A.cs.low;clear A;go_wp2;go_ret;exact⟨rfl,(HL.o.call hb).low⟩
def z0I.parts(X:z0I):List (z1J×Bool):=X.done.map (fun x=>(x,true))++ [(X.cur,false)]
def z0T.parts(s:z0T):List (z0R×Bool):=s.done.map (fun x=>(x,true))++ [(s.cur,false)]
theorem z0I.parts_ser(X:z0I):X.ser.parts=X.parts.map fun x=>(x.1.p,x.2):=by simp[z0I.parts,z0T.parts,z0I.ser]
theorem z0I.parts_len(X:z0I):X.parts.length=X.done.length+1:=by simp[z0I.parts]
theorem z0T.parts_len(s:z0T):s.parts.length=s.done.length+1:=by simp[z0T.parts]
theorem z0I.parts_cells(X:z0I):X.cells=X.parts.flatMap fun x=>x.1.vals x.2:=by simp[z0I.parts,z0I.cells,uk,gx]
theorem z6B{α:Type}(f:α->List Value)(m:Nat)(A:∀a,(f a).length=m):∀(l:List α) (k:Nat) (a:α),l[k]? =some a->∀j,j<m->(l.flatMap f)[k*m+j]? =(f a)[j]?
 | [],k,a,h,j,hj=>by simp at h
 | x::l,0,a,h,j,hj=>by
  simp only[uv,wK]at h;subst h;rw[uH,uX (by rw[A];omega),gd,uZ]
 | x::l,k+1,a,h,j,hj=>by
  simp only[kz]at h;rw[uH,uO (by rw[A,Nat.succ_mul];omega),A,<-z6B f m A l k a h j hj]
  congr 1
  rw[Nat.succ_mul];omega
theorem z0H.partAt{w:World}{X:z0I}(h:z0H w X){k:Nat}{x:z1J}{cl:Bool}(O:X.parts[k]? =some (x,cl)){o:Nat}(R:o=k*11):∀j v,(x.vals cl).toArray[j]? =some v->w.cell? ⟨X.g,o+j,none⟩=some v:=fun j v J=>by
 subst R;have N:j<11:=by
  have:=(wI.1 J).1;simpa[z1J.vals_len]using this
 have A:=(z0d h.row).2;rcases A with A|⟨U,Y,A,L⟩
 .exact absurd A.2 wF
 have I:=L (k*11+j) v (by rw[X.parts_cells,z6B _ 11 (fun a=>z1J.vals_len _ _) _ _ _ O j N];simpa using J);simp only[wO,wK]at A;rw[<-A.1,y1H,uZ]at I;exact I
theorem z0H.partOk{w:World}{X:z0I}(h:z0H w X){k:Nat}{x:z1J}{cl:Bool}(J:X.parts[k]? =some (x,cl)):x.Ok X.T w/\(cl=true->0<x.p.st.length):=by
 have A:=wX J;unfold z0I.parts at A;rw[uB,uC,uD]at A;rcases A with⟨y,I,e⟩|e
 .simp only[wk]at e;obtain⟨rfl,rfl⟩:=e;exact⟨(h.done _ I).1,fun _=>(h.done _ I).2⟩
 simp only[wk]at e;obtain⟨rfl,rfl⟩:=e;exact⟨h.cur,fun e=>by cases e⟩
theorem y9y(bb mb B:Nat)(E:List (Int×z0I))(b:z0h)(S:Nat->Prop)(id:Nat)(a3:id<4294967296)(I:(j9 b id).done.length<=1000000000)(w:World)(h:z0w w bb mb E b B S):
  Calls prog 10 #[.pointer (some ⟨bb,0,none⟩),.int .u32 id] w fun e w'=>e= .returned (z4k (z1P (j9 b id)))/\Below w.heap.size w w':=by
 have O:=z7 ((Loc.start w).new (.cells #[.int .u32 0,.int .u32 0,.int .u32 0] 45));have Y:=z7 (z9G bb mb B E b S id a3 _ (h.low O.o.low));obtain⟨⟨D,EB,EC⟩,J⟩:∃e,e=z1P (j9 b id):=⟨_,rfl⟩;have a0:=z7 J;rw[<-J];have N:=z7 I;clear h J I;go_enter func10,ntmps10;go_wp2_with fail;refine Y.o.mono ?_;rintro e w1 ⟨X,rfl,hX,L,hb,hw⟩;have a2:=z7 (O.o.call hb);have A:=y8F X (by have:=N.o;rw[<-L,X.done_len]at this;exact this) w1 hX;rw[L,<-a0.o]at A;have a1:=z7 A;clear hX L hb hw A;go_wp2_with fail;refine a1.o.mono ?_;rintro e w2 ⟨rfl,hb⟩;have R:=z7 (a2.o.call hb);clear hb;obtain⟨p0,p1,p2,pf⟩:=cells3 (R.o.get 0 rfl);go_wp2;have U:=(z0U.of (S:=fun _=>False) R.o).lay (K':= [(w.heap.size,.cells #[.int .u32 D,.int .u32 EB,.int .u32 EC] 45 (0,0))]) 0 0 [.int .u32 D,.int .u32 EB,.int .u32 EC] rfl rfl rfl rfl;refine wU (y0N rfl _ _ w.heap.size _ _ _ rfl (U.get 0 rfl) rfl) rfl ?_;exact⟨rfl,U.low.toBelow⟩
def toP(p:z0R)(n:Nat):Nat:=if n=0 then 0 else((z1C p.st)[n - 1]?).getD 0
theorem q6T(X:z0I)(k:Nat)(x:z1J)(cl:Bool)(L:X.parts[k]? =some (x,cl))(o:Nat)(ho:o=k*11)(n:Nat)(hn:n<=x.p.st.length)(w:World)(h:z0H w X):
  Calls prog 33 #[.pointer (some ⟨X.g,o,none⟩),.int .i64 n] w fun e w'=>e= .returned (.int .i64 (toP x.p n:Nat))/\w=w':=by
 by_cases R:n=0
 .subst R;have ht:toP x.p 0=0:=rfl;rw[ht];clear h L hn ht;go_enter func33,ntmps33;go_wp2;go_ret;exact⟨rfl,rfl⟩
 have N:n - 1<(z1C x.p.st).length:=by unfold z1C;rw[we];omega
 obtain⟨T,hT⟩:=zN (toP x.p n);have J:(z1C x.p.st)[n - 1]? =some T:=by rw[hT];unfold toP;rw[wR R,wL N];rfl
 rw[<-hT];have hc:=h.partAt L ho 2 (.slice x.ea x.p.st.length x.ec) rfl;have I:=(h.partOk L).1.ends.now;have A:=(h.partOk L).1.ok.len;obtain⟨pn,O⟩:=zN x.p.st.length;rw[<-O]at hc I hn A;rcases I.2 with⟨-,Y⟩|⟨ad,cp,U,Y⟩
 .omega
 simp only[wO,oP]at U;have h3:=Y (n - 1) (.int .i64 (T:Nat)) (by unfold z2K;rw[uF,J];rfl);have a3:=dq _ _ h3;rw[U.1]at hc;obtain⟨m,hm⟩:∃m,n=m+1:=⟨n - 1,wF⟩;subst hm;simp only[rj]at h3;have a2:IntKind.i64.wrap (m:Int)=(m:Int):=(by rw[uL];omega);have a0:(0:Int)<=m/\(m:Int)<pn:=wF;have a1:((m:Int)+1==0)=false:=uy wF;clear h L hn hT J I U Y O N R A ho;go_enter func33,ntmps33;go_wp2;go_ret;exact⟨rfl,rfl⟩
theorem q2L{p:z0R}(h:p.Ok)(n:Nat):toP p n<=3504:=by
 unfold toP;split
 .omega
 cases hg:(z1C p.st)[n - 1]? with
 | none=>exact uA _
 | some e=>
  unfold z1C at hg;rw[uF,uM]at hg;obtain⟨x,A,rfl⟩:=hg;have I:=((z3T h.rd).2.2.2.1 x (wX A)).2.2.2.1;have J:=h.bits;show x.at_<=3504;omega
def z4M(s:z0T)(p:Nat×Nat×Nat):Option (z0R×Bool):=
 match s.parts[p.1]? with
 | none=>none
 | some (x,cl)=>if x.st.length<p.2.2\/(cl=true/\p.2.2=x.st.length)\/toP x p.2.2≠p.2.1 then none else some (x,cl)
def y6r(X:z0I)(p:Nat×Nat×Nat)(e:Ending):Prop:=
 (z4M X.ser p=none/\e= .returned (.pointer none))\/(∃x cl,X.parts[p.1]? =some (x,cl)/\z4M X.ser p=some (x.p,cl)/\p.2.2<=x.p.st.length/\e= .returned (.pointer (some ⟨X.g,p.1*11,none⟩)))
theorem q0y(X:z0I)(aJ:X.done.length<=1000000000)(N J I:Nat)(h1:N<4294967296)(h2:J<4294967296)(h3:I<4294967296)(w:World)(h:z0H w X):
  Calls prog 29 #[.pointer (some ⟨X.sb,0,none⟩),z4k (N,J,I)] w fun e w'=>y6r X (N,J,I) e/\Below w.heap.size w w':=by
 have aB:=z7 ((Loc.start w).new (.cells #[.int .u32 N,.int .u32 J,.int .u32 I] 45));have HX:=z7 h;have aT:IntKind.u64.wrap (N:Int)=(N:Int):=by rw[wq];omega
 have aN:IntKind.u64.wrap ((X.done.length:Int)+1)=((X.done.length:Int)+1):=by rw[wq];omega
 have a9:=X.parts_len;obtain⟨n,hn⟩:=zN X.done.length;rw[<-hn]at aN a9 aJ;have HN:=z7 hn;by_cases hc:N<=n
 .obtain⟨⟨x,cl⟩,O⟩:∃y,X.parts[N]? =some y:=⟨_,wL wF⟩;have aF:=z7 (fun(hn:I<=x.p.st.length) w' h'=>q6T X N x cl O _ rfl I hn w' h');have aO:=((h.partOk O).1).ok.len;have a7:z4M X.ser (N,J,I)=if x.p.st.length<I\/(cl=true/\I=x.p.st.length)\/toP x.p I≠J then none else some (x.p,cl):=by
   unfold z4M;rw[X.parts_ser,uF,O];rfl
  obtain⟨pn,Y⟩:=zN x.p.st.length;obtain⟨T,hT⟩:=zN (toP x.p I);rw[<-Y,<-hT]at aF;rw[<-Y,<-hT]at a7;rw[<-Y]at aO;obtain⟨L,a2⟩:=zN (decide (pn<I\/(cl=true/\I=pn)\/T≠J));have aR:T<=3504:=by rw[hT];exact q2L ((h.partOk O).1).ok I
  have d1:decide ((n:Int)+1<=(N:Int))=false:=wC;have aS:(N:Int)<n+1:=wF
  have aU:IntKind.u64.wrap (pn:Int)=(pn:Int):=by rw[wq];omega
  have aV:IntKind.u64.wrap (I:Int)=(I:Int):=by rw[wq];omega
  have aX:IntKind.i64.wrap (I:Int)=(I:Int):=by rw[uL];omega
  have aY:IntKind.u64.wrap (T:Int)=(T:Int):=by rw[wq];omega
  have aZ:IntKind.u64.wrap (J:Int)=(J:Int):=by rw[wq];omega
  have a0:=z7 O;have aE:=z7 a7;have aC:=z7 Y;have A:=z7 a2;clear h a9 hn hc O a7 Y hT a2;go_enter func29,ntmps29;go_upto_region 1 with fail
  obtain⟨W,hW,hL⟩:=aB.o.named;refine z0s hW ?_;have HL:=z7 hL;clear hL hW;obtain⟨p0,p1,p2,pf⟩:=cells3 (HL.o.get 0 rfl);have U:=HX.o.low HL.o.low;obtain⟨s0,s1,s2,sf⟩:=U.cells;rw[<-HN.o]at s0;have c2:=U.partAt a0.o rfl 2 (.slice x.ea x.p.st.length x.ec) rfl;have aH:=U.partAt a0.o rfl 10 (.bool cl) rfl;rw[<-aC.o]at c2;clear U;go_quiet (fail)
  go_wp2_with fail;go_quiet (fail)
  go_upto_region 5 with fail
  refine q5s (w0:=W) (z0j wD) (fun W2 aI=>?_);have a4:=z7 (HL.o.call aI);clear p0 p1 p2 pf s0 s1 s2 sf c2 aH aI;obtain⟨p0,p1,p2,pf⟩:=cells3 (a4.o.get 0 rfl);have U:=HX.o.low a4.o.low;have aH:=U.partAt a0.o rfl 10 (.bool cl) rfl;have aL:=z7 U;clear U
  go_cut[59] (fun v wx=>v= .bool L/\Hid (Below W2.heap.size W2 wx))
  case first=>
   by_cases t1:pn<I
   .have hr:L=true:=(by rw[A.o];exact wQ (.inl t1));go_quiet (fail)
    go_wp2;go_meet
    exact⟨by rw[hr],z7 (z0j wD)⟩
   by_cases t2:cl=true/\I=pn
   .obtain⟨rfl,aA⟩:=t2;have e2:((I:Int)==(pn:Int))=true:=(by rw[aA];simp);have R:=z7 aA;clear aA;have hr:L=true:=(by rw[A.o];exact wQ (.inr (.inl ⟨rfl,R.o⟩)));go_quiet (fail)
    go_wp2;go_meet
    exact⟨by rw[hr],z7 (z0j wD)⟩
   have R:=z7 t2;have a1:=z7 (fun w' (hb:Below W2.heap.size W2 w')=>aF.o wF w' (aL.o.low hb));clear t2;cases cl with
   | true=>
    have e2:((I:Int)==(pn:Int))=false:=uy (fun h=>R.o ⟨rfl,wF⟩);by_cases t3:T=J
    .have e3:((T:Int) !=(J:Int))=false:=(by rw[t3];simp);have a6:=z7 t3;clear t3;have hr:L=false:=(by rw[A.o];exact wM (fun h=>by rcases h with h|h|h<;>first|omega|exact absurd h R.o|exact absurd a6.o h));go_quiet ((go_at_call 33;exact wz ((a1.o _ (z0j wD)).mono fun e w' h=>⟨h.1,h.2.symm⟩)))
     go_wp2;go_meet
     exact⟨by rw[hr],z7 (z0j wD)⟩
    have e3:((T:Int) !=(J:Int))=true:=(by rw[gn];omega);have hr:L=true:=(by rw[A.o];exact wQ (.inr (.inr t3)));go_quiet ((go_at_call 33;exact wz ((a1.o _ (z0j wD)).mono fun e w' h=>⟨h.1,h.2.symm⟩)))
    go_wp2;go_meet
    exact⟨by rw[hr],z7 (z0j wD)⟩
   | false=>
    by_cases t3:T=J
    .have e3:((T:Int) !=(J:Int))=false:=(by rw[t3];simp);have a6:=z7 t3;clear t3;have hr:L=false:=(by rw[A.o];exact wM (fun h=>by rcases h with h|h|h<;>first|omega|exact absurd h R.o|exact absurd a6.o h));go_quiet ((go_at_call 33;exact wz ((a1.o _ (z0j wD)).mono fun e w' h=>⟨h.1,h.2.symm⟩)))
     go_wp2;go_meet
     exact⟨by rw[hr],z7 (z0j wD)⟩
    have e3:((T:Int) !=(J:Int))=true:=(by rw[gn];omega);have hr:L=true:=(by rw[A.o];exact wQ (.inr (.inr t3)));go_quiet ((go_at_call 33;exact wz ((a1.o _ (z0j wD)).mono fun e w' h=>⟨h.1,h.2.symm⟩)))
    go_wp2;go_meet
    exact⟨by rw[hr],z7 (z0j wD)⟩
  case rest=>
   obtain⟨rfl,a8⟩:=hcut;have a3:=(a4.o.call a8.o).low;cases L with
   | true=>
    have a5:Hid (z4M X.ser (N,J,I)=none):=z7 (by rw[aE.o,wZ (ua A.o.symm)]);clear a8;go_wp2;go_ret;exact⟨.inl ⟨a5.o,rfl⟩,a3⟩
   | false=>
    have hn:=dm A.o.symm;have aG:Hid (z4M X.ser (N,J,I)=some (x.p,cl)):=z7 (by rw[aE.o,wR hn]);have aM:Hid (I<=x.p.st.length):=z7 (by rw[<-aC.o];exact iQ fun h=>hn (.inl h));clear a8 hn;go_wp2;go_ret;exact⟨.inr ⟨x,cl,a0.o,aG.o,aM.o,rfl⟩,a3⟩
 have a5:Hid (z4M X.ser (N,J,I)=none):=z7 (by
  unfold z4M;rw[X.parts_ser,uF,uw (by simp only;omega)];rfl)
 have d1:decide ((n:Int)+1<=(N:Int))=true:=hQ;clear h a9 hn hc;go_enter func29,ntmps29;go_upto_region 1 with fail
 obtain⟨W,hW,hL⟩:=aB.o.named;refine z0s hW ?_;have HL:=z7 hL;clear hL hW;obtain⟨p0,p1,p2,pf⟩:=cells3 (HL.o.get 0 rfl);have U:=HX.o.low HL.o.low;obtain⟨s0,s1,s2,sf⟩:=U.cells;rw[<-HN.o]at s0;clear U;go_quiet (fail)
 go_wp2;go_ret;exact⟨.inl ⟨a5.o,rfl⟩,z0j HL.o.low⟩

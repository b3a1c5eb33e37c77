/- The walk of tape. -/
import Derived.Test.YtabnnclcpkdkeaaGreatDoorZO
import Derived.Test.YtabnnclcpkdkeaaGreatDoorZS
import Derived.BigQuiet
namespace Go.Proofs.YtabnnclcpkdkeaaGreatDoor
open Go.Proofs.Tryz
set_option linter.unnecessarySimpa false
set_option linter.all false
set_option maxRecDepth 100000
set_option maxHeartbeats 0
open Go.RowKit Go.Shelf
attribute [local go_sem] Oper.semAt_some
def q7S(b:List UInt8)(B:Nat)(pre:List (Value×List UInt8))(x:Value×List UInt8)(W:World):Prop:=
 W.ownsRow B 5 1 x.1 x.2.length (z0c x.2)/\x.2.length<=600/\(∃r,pre.map Prod.snd++x.2::r=(z0X b).1)
def q8o(B h:Nat)(W W':World):Prop:=W.heap.size<=W'.heap.size/\∀k,k<B->k≠h->W'.heap[k]? =W.heap[k]?
def q6G(rB:Nat)(X X':World):Prop:=Chg [rB] [] X X'
def rAt(rB:Nat)(w:World):Nat:=match w.cell? ⟨rB,1,none⟩with|some (.int _ n)=>n.toNat|_=>0
theorem RdB.rest'{w:World}{A:Addr}{c n:Nat}{l:List UInt8}(h:RdB w (.slice (some A) n c) l)(L:n=l.length)(O:n<=c)(k:Nat)(R:k<=n)(c' m:Nat)(I:m=(l.drop k).length):
  RdB w (.slice (if c=k then some A else some (A.add k)) m c') (l.drop k):=by
 by_cases e:c=k
 .rw[wZ e];have J:l.drop k= []:=dK wF;rw[J]at I ⊢;subst I;exact⟨rfl,.inr ⟨A,c',rfl,fun j u N=>by simp[z0c]at N⟩⟩
 rw[wR e];exact h.from L k c' m I wF
theorem z4x{w:World}{A:Nat}{u v:Value}{t:TypeId}(h:w.heap[A]? =some (.cells #[u,v] t (0,0))):w.cell? ⟨A,0,none⟩=some u/\w.cell? ⟨A,1,none⟩=some v/\(∀j,w.frozen? ⟨A,j,none⟩=false)/\A<w.heap.size:=by
 refine⟨?_,?_,?_,(wI.1 h).1⟩<;>simp[World.cell?,World.frozen?,h]
structure TeS (wr:World) (s:List UInt8) (D:Nat->Bool) (v:Nat->Value) (w':World) (a:Option Addr) (n' c':Nat):Prop where
 low:Below wr.heap.size wr w'
 d9:D 9=true->v 9= .tuple #[.slice a n' c',.int .i64 (oN s),.int .u16 (oE s)]/\w'.ownsRow wr.heap.size 5 1 (.slice a n' c') n' (z0c (oB s))/\n'=(oB s).length
 d10:D 10=true->D 9=true/\v 10= .tuple #[.slice a n' c',.int .i64 (oN s),.int .u16 (oE s)]
 d11:D 11=true->D 10=true/\v 11= .slice a n' c'
 d14:D 14=true->D 11=true/\v 14= .slice a n' c'
def TeI(wr:World)(s:List UInt8)(D:Nat->Bool)(v:Nat->Value)(w':World):Prop:=∃a n' c',TeS wr s D v w' a n' c'
theorem q5J(n:Nat)(c6:1<=n)(b:List UInt8)(ao:Option Addr)(c B h U:Nat)(w:World)
  (hr:w.heap[U]? =some (.cells #[.slice ao b.length c,.int .i64 0] 213 (0,0)))
  (hx:RdB w (.slice ao b.length c) b) (bY:b.length<=c) (hc:c<=9223372036854775807) (b8:b.length<=1048576) (bA:∀k,(Value.slice ao b.length c).ownBlock=some k->k<B/\k≠h/\k≠U)
  (lB:U<B) (hB:B<=w.heap.size) (nO:U≠h):
  q0x Fence.wide n prog 108 #[.pointer (some ⟨U,0,none⟩)] #[] (fun x:Value×List UInt8=> #[x.1]) (q7S b B) (q8o B h) (q6G U) (fun xs=>xs.map Prod.snd=(z0X b).1) (fun W=>W.cell? ⟨U,1,none⟩=some (.int .i64 (z0X b).2)) w:=by
 intro l J W hW hl hJ hY h0;refine qh func108 rfl trivial ?_ rfl;simp only[ntmps108,oz,wW,ob,Nat.reduceAdd,Nat.reduceSub,pC,pD,pY,pN,uW,uY];have bC:=(hW.block U wF wH).trans hr
 gi_wp2
 gi_loopw [4] (fun i wr=>∃(R:List (Value×List UInt8)) (A:Nat),A<=b.length/\Hid (R.map Prod.snd++(z0X (b.drop A)).1=(z0X b).1/\A+(z0X (b.drop A)).2=(z0X b).2)/\wr.heap[U]? =some (.cells #[.slice ao b.length c,.int .i64 A] 213 (0,0))/\
   Hid (RdB wr (.slice ao b.length c) b)/\Hid (B<=wr.heap.size)/\J R wr) (fun i wr=>b.length - rAt U wr)
 case atStart=>
  exact⟨[],0,uA _,z7 ⟨wH,wH⟩,bC,z7 (hx.chg hW wH),z7 (wV hB hW.size),h0⟩
 case round=>
  obtain⟨R,A,bV,a3,ur,aD,b4,b6⟩:=hrel;obtain⟨u0,u1,uf,ul⟩:=z4x ur;obtain⟨s,hs⟩:=zN (b.drop A);obtain⟨ns,aL⟩:=zN (b.length - A);have a6:ns=s.length:=by rw[hs,uE,aL]
  obtain⟨nb,aJ⟩:=zN b.length;rw[<-aJ]at bV b8 bY aL ur u0 aD;have bW:∃sa,RdB wr (.slice sa ns (c - A)) s/\((ao=none/\nb=0/\c=0/\sa=none/\A=0)\/∃ad,ao=some ad/\sa=if c=A then some ad else some (ad.add A)):=by
   have aY:=aD.o;rw[aJ]at aY;rcases aY.2 with⟨he,hz⟩|⟨bR,c2,he,_⟩
   .simp only[wO]at he;obtain⟨rfl,h1,rfl⟩:=he;refine⟨none,?_,.inl ⟨rfl,wF,rfl,rfl,wF⟩⟩;have:s= []:=wT wF;subst this;obtain rfl:ns=0:=a6;exact⟨rfl,.inl ⟨wH,rfl⟩⟩
   simp only[wO]at he;obtain⟨rfl, -, -⟩:=he;refine⟨_,?_,.inr ⟨bR,rfl,rfl⟩⟩;have:=aY.rest' rfl wF A wF (c - A) ns (by rw[<-hs];exact a6);rw[<-hs]at this;exact this
  obtain⟨sa,bH,bG⟩:=bW;have bN:=z7 bH;have bM:=z7 bG;have HS:=z7 hs;have aA:=z7 a6;have c5:ns<=1048576:=wF
  have bX:ns<=c - A:=wF
  have a5:=z7 aL;have aG:=z7 aJ;have aC:Hid (∀w',Below wr.heap.size wr w'->w'.cell? ⟨U,0,none⟩=some (.slice ao nb c)/\w'.cell? ⟨U,1,none⟩=some (.int .i64 A)):=z7 fun w' hw=>⟨(hw.cell (p:=⟨U,0,none⟩) ul).trans u0,(hw.cell (p:=⟨U,1,none⟩) ul).trans u1⟩;have b2:=z7 ur;clear bH bG hs a6 aL aJ hx hr bC u0 u1
  gi_wp2_with fail
  refine mr.2 ?_;refine q6 17 40 (fun D v w'=>TeI wr s D v w') ⟨none,0,0,wD.drew,(fun h=>by cases h),(fun h=>by cases h),(fun h=>by cases h),(fun h=>by cases h)⟩ ?_;simp only[z0C];iterate 8 (refine q8.rl ?_ (fun D v w h=>by obtain⟨a,n',c',z⟩:=h;exact⟨a,n',c',z.low,z.d9,z.d10,z.d11,z.d14⟩) (fun D v w' O Y=>?_) ?_;rotate_left;(obtain⟨a,n',c',z⟩:=Y;obtain⟨x0,x1⟩:=aC.o w' z.low;have Y:=trivial;clear Y O;go_simp;try rfl);go_simp)
  refine q8.rl (e:= .slice sa ns (c - A)) (fun D v w h=>by obtain⟨a,n',c',z⟩:=h;exact⟨a,n',c',z.low,z.d9,z.d10,z.d11,z.d14⟩) (fun D v w' O Y=>?_) ?_
  .clear O;have b1:=a5.o;rcases bM.o with⟨rfl,rfl,rfl,rfl,rfl⟩|⟨ad,rfl,rfl⟩
   .subst b1;go_simp
   subst b1;go_simp
  go_simp;refine q8.re (fun D v w' O Y=>?_) ?_
  .have L:D 10=false:=O.post 10 _ rfl (by kernel_rfl);obtain⟨a,n',c',z⟩:=Y;have N:D 11=false:=by
    cases e:D 11 with
    | false=>rfl
    | true=>rw[(z.d11 e).1]at L;cases L
   have a1:D 14=false:=by
    cases e:D 14 with
    | false=>rfl
    | true=>rw[(z.d14 e).1]at N;cases N
   have I:=z7 z.low;have aT:=z7 L;have a8:=z7 N;have a9:=z7 a1;clear O L N a1 z;go_simp;go_at_call 140;have H:=q6w s sa (c - A) w' (by rw[<-aA.o];exact bN.o.low I.o) (by rw[<-aA.o];exact bX) wF (by rw[<-aA.o];omega);rw[<-aA.o]at H;refine H.mono ?_;clear H;rintro e cA ⟨a2,n2,c2,rfl,a7,bD,hb⟩;refine⟨a2,n2,c2,I.o.trans (hb.mono I.o.size),fun _=>⟨rfl,z0f a7 I.o.size,bD⟩,fun e=>?_,fun e=>?_,fun e=>?_⟩
   .have:D 10=true:=e;rw[aT.o]at this;cases this
   .have:D 11=true:=e;rw[a8.o]at this;cases this
   have:D 14=true:=e;rw[a9.o]at this;cases this
  go_simp;refine q8.re (fun D v w' O Y=>?_) ?_
  .have d9:D 9=true:=O.pre 9 (by kernel_rfl);have N:D 11=false:=O.post 11 _ rfl (by kernel_rfl);obtain⟨a,n',c',z⟩:=Y;have a1:D 14=false:=by
    cases e:D 14 with
    | false=>rfl
    | true=>rw[(z.d14 e).1]at N;cases N
   have Z:=z7 z;have D9:=z7 d9;have a8:=z7 N;have a9:=z7 a1;clear O d9 N a1 z;go_simp;refine⟨a,n',c',Z.o.low,Z.o.d9,fun _=>⟨D9.o,(Z.o.d9 D9.o).1⟩,fun e=>?_,fun e=>?_⟩
   .have:D 11=true:=e;rw[a8.o]at this;cases this
   have:D 14=true:=e;rw[a9.o]at this;cases this
  go_simp;refine q8.re (fun D v w' O Y=>?_) ?_
  .have L:D 10=true:=O.pre 10 (by kernel_rfl);have a1:D 14=false:=O.post 14 _ rfl (by kernel_rfl);obtain⟨a,n',c',z⟩:=Y;have a0:=(z.d10 L).2;have Z:=z7 z;have aT:=z7 L;have a9:=z7 a1;clear O L a1 z;rw[a0];clear a0;go_simp;refine⟨a,n',c',Z.o.low,Z.o.d9,Z.o.d10,fun _=>⟨aT.o,rfl⟩,fun e=>?_⟩;have:D 14=true:=e;rw[a9.o]at this;cases this
  go_simp;refine q8.rl (e:= .int .i64 (oN s)) (fun D v w h=>by obtain⟨a,n',c',z⟩:=h;exact⟨a,n',c',z.low,z.d9,z.d10,z.d11,z.d14⟩) (fun D v w' O Y=>?_) ?_
  .have L:D 10=true:=O.pre 10 (by kernel_rfl);obtain⟨a,n',c',z⟩:=Y;have a0:=(z.d10 L).2;clear O L z;rw[a0];go_simp
  go_simp;refine q8.rl (e:= .int .u16 (oE s)) (fun D v w h=>by obtain⟨a,n',c',z⟩:=h;exact⟨a,n',c',z.low,z.d9,z.d10,z.d11,z.d14⟩) (fun D v w' O Y=>?_) ?_
  .have L:D 10=true:=O.pre 10 (by kernel_rfl);obtain⟨a,n',c',z⟩:=Y;have a0:=(z.d10 L).2;clear O L z;rw[a0];go_simp
  go_simp;refine q8.re (fun D v w' O Y=>?_) ?_
  .have N:D 11=true:=O.pre 11 (by kernel_rfl);obtain⟨a,n',c',z⟩:=Y;have aR:=(z.d11 N).2;have Z:=z7 z;have a8:=z7 N;clear O N z;rw[aR];clear aR;go_simp;exact⟨a,n',c',Z.o.low,Z.o.d9,Z.o.d10,Z.o.d11,fun _=>⟨a8.o,rfl⟩⟩
  go_simp;iterate 2 (refine q8.rl ?_ (fun D v w h=>by obtain⟨a,n',c',z⟩:=h;exact⟨a,n',c',z.low,z.d9,z.d10,z.d11,z.d14⟩) (fun D v w' O Y=>?_) ?_;rotate_left;(clear Y O;go_simp;try rfl);go_simp)
  refine q8.fin (fun v w7 Y=>?_);obtain⟨a,n',c',z⟩:=Y;have aS:=(z.d14 rfl).2;obtain⟨_,a7,b9⟩:=z.d9 rfl;have I:=z7 z.low;rw[aS];have aB:=z7 a7;have aF:=z7 b9;clear z aS a7 b9;have bJ:q6G U wr w7:=⟨I.o.os,I.o.tape,I.o.output,I.o.size,fun k hk _=>I.o.block k hk,fun k hk=>by cases hk⟩;have aU:=z7 (hJ R wr w7 b6 bJ);obtain⟨x0,x1⟩:=aC.o w7 I.o;have b3:=z7 x1;have HJ:=z7 hJ;have HY:=z7 hY;clear bJ b6 hW hJ h0 hY;cases ho:opened s with
  | none=>
   obtain⟨o1,o2,o3⟩:=y1h ho;have aE:=z7 (z7M ho);rw[o2,o3];clear ho o1 o2 o3;go_wp2
   gi_wp2
   have h9:=a3.o;rw[<-HS.o,aE.o]at h9;refine wU (eK rfl _ _ _) rfl ⟨⟨_,rfl⟩,⟨R,by simpa using h9.1,aU.o⟩,?_⟩;rw[b3.o,<-h9.2];simp
  | some x=>
   obtain⟨o1,o2,o3⟩:=z8k ho;rw[o2,o3];rw[o1]at aB aF;by_cases aN:600<x.length
   .have aE:=z7 (y0W ho aN);have d1:decide ((600:Int)<n')=true:=wQ (by have:=aF.o;omega);clear ho o1 o2 o3;go_wp2
    gi_wp2
    have h9:=a3.o;rw[<-HS.o,aE.o]at h9;refine wU (eK rfl _ _ _) rfl ⟨⟨_,rfl⟩,⟨R,by simpa using h9.1,aU.o⟩,?_⟩;rw[b3.o,<-h9.2];simp
   have aM:=z7 (z8o ho wF);have d1:decide ((600:Int)<n')=false:=wM (by have:=aF.o;omega);have bZ:=y0F ho;obtain⟨q,hq⟩:=zN ((nul s).length+1);rw[<-hq]at aM ⊢;have c8:q<=ns:=(by rw[hq,aA.o];omega);have c7:1<=q:=wF;have c9:IntKind.i64.wrap ((A:Int)+(q:Int))=(A:Int)+(q:Int):=(by have:=a5.o;rw[uL];omega);have b0:=z7 (show x.length<=600 by omega);clear ho o1 o2 o3 bZ hq aN;have aW:w7.heap[U]? =some (.cells #[.slice ao nb c,.int .i64 A] 213 (0,0)):=(I.o.block U ul).trans b2.o;obtain⟨z0,z1,zf,zl⟩:=z4x aW;obtain⟨w8,a4⟩:=zN (w7.setCell ⟨U,1,none⟩ (.int .i64 ((A:Int)+(q:Int))));have aH:∀k,k≠U->w8.heap[k]? =w7.heap[k]? :=fun k hk=>by rw[a4];exact q7 hk
   have bI:w8.heap[U]? =some (.cells #[.slice ao nb c,.int .i64 ((A:Int)+(q:Int))] 213 (0,0)):=by
    rw[a4];have:=z0a aW 1 (.int .i64 ((A:Int)+(q:Int)));simpa using this
   have aO:w8.heap.size=w7.heap.size:=(by rw[a4];simp[World.setCell]);have b5:J R w8:=HJ.o R w7 w8 aU.o ⟨by rw[a4];rfl,by rw[a4];rfl,by rw[a4];rfl,by rw[aO];exact wJ _,fun k _ hk=>aH k (by simpa using hk),fun k hk=>by cases hk⟩;have aV:=aF.o;subst aV;have bB:q7S b B R (.slice a x.length c',x) w8:=by
    refine⟨z0f (j7 aB.o fun k hk=>aH k fun e=>?_) b4.o,b0.o,(z0X (s.drop q)).1,?_⟩
    .have:=(aB.o.lt k hk).1;omega
    have h9:=a3.o.1;rw[<-HS.o,aM.o]at h9;exact h9
   obtain⟨fn,tmps,assign,body,hy,hR⟩:=HY.o R _ w8 b5 bB;dsimp only at hy;have bO:=z7 bI;have bF:Hid (RdB w8 (.slice ao nb c) b):=z7 (((aD.o.low I.o)).keep fun k hk=>aH k fun e=>(bA k (by rw[<-hk];cases ao<;>rfl)).2.2 e);have aX:Hid ((R++ [(Value.slice a x.length c',x)]).map Prod.snd++(z0X (b.drop (A+q))).1=(z0X b).1/\A+q+(z0X (b.drop (A+q))).2=(z0X b).2):=z7 (by
    have h9:=a3.o;rw[<-HS.o,aM.o]at h9;have e9:s.drop q=b.drop (A+q):=(by rw[HS.o,oe]);rw[<-e9];refine⟨?_,?_⟩
    .rw[uV,wj];exact h9.1
    have:=h9.2;simp only at this;omega)
   have bT:Hid (B<=w8.heap.size):=z7 (by have:=b4.o;have:=I.o.size;omega);clear b5 bB aH bI aO aW a3 aM x0 x1 z0 zl;go_wp2;subst a4
   gi_wp2
   refine hR.mono ?_;rintro e W3 ⟨rfl,bU,aI⟩;have aZ:=(aI.2 U lB nO).trans bO.o;obtain⟨y0,y1,yf,yl⟩:=z4x aZ;have bL:=z7 aZ;have bE:Hid (RdB W3 (.slice ao nb c) b):=z7 (bF.o.keep fun k hk=>by
    have b7:=bA k (by rw[<-hk];cases ao<;>rfl);exact aI.2 k b7.1 b7.2.1)
   have bS:Hid (B<=W3.heap.size):=z7 (wV bT.o aI.1);have Y1:=z7 y1;clear aI aZ y0 y1 yf
   gi_wp2
   go_roundw
   case rel=>exact⟨_,A+q,by have:=a5.o;have:=aG.o;omega,aX,by rw[bL.o];simp[aG.o],by rw[<-aG.o];exact bE,bS,bU⟩
   case measure=>
    have e1:rAt U W3=A+q:=by
     unfold rAt;rw[Y1.o];simp;omega
    have e2:rAt U wr=A:=by
     unfold rAt;rw[(z4x b2.o).2.1];simp
    rw[e1,e2];have:=a5.o;have:=aG.o;omega
attribute [local go_sem] Oper.semAt_some
theorem z3Y{F:Fence}{n':Nat}{P:Program}{w:World}{a:Act}{o:Oper}{Q:Exit->Act->World->Prop}{ops:Array Oper}{rest:List Oper}(a4:o.guard=none)(s x:Operand)(t:TypeId)
  (ho:o.op= .call {callee:= .builtin .append,args:= #[s,x],argTypes:= #[t,t]})
  (base:Nat) (e:TypeId) (i:TypeInfo) (z:Value) (A I:Nat) (ht:P.underlying t=some (.slice e)) (hi:P.info? e=some i) (hz:i.zero=some z)
  (O:i.size=A) (a2:i.bytes=I) (a7:z.cells.size=A) (a6:0<A)
  (v:Value) (n:Nat) (xs:List Value) (hs:a.eval s=v) (U:w.ownsRow base e A v n xs)
  (xv:Value) (m:Nat) (J:List Value) (hx:a.eval x=xv) (a5:Rd w xv A m J) (h1:∀u∈J,u.oneCell'=true)
  (a0:n+m<=maxLen) (L:(n+m)*I<=140737488355328) (N:base<=w.heap.size)
  (h:∀R w',w'.ownsRow base e A R (n+m) (xs++J)->w.grownBy w' v.ownBlock->(R.ownBlock=v.ownBlock\/R.ownBlock=some w.heap.size)->wpListIn F n' P ops Q rest (a.put o.dst R) w'):
  wpListIn F n' P ops Q (o::rest) a w:=by
 refine wpListIn_plain a4 fun K a1=>?_;obtain⟨R,w',Y,r1,r2,r3,r4⟩:=z4a (P:=P) (w:=w) base t o.type e i z A I ht hi hz O a2 a7 a6 v n xs U xv m J a5 h1 a0 L N;unfold Oper.wpIn;refine⟨?_,?_⟩
 .simp[Oper.about,ho,resolve,Target.leads,gi]
 rw[Oper.semAt_plain F _ _ (by rw[ho];intro c a3;cases a3)];simp[execOp,ho,resolve,invoke,builtin,hs,hx,Y,Result.andThen];exact a1 _ _ (h R w' r1 r2 r4)
theorem y3E{w:World}{B e n k l:Nat}{v:Value}{Y:List Value}{o:Obj}(h:w.ownsRow B e 1 v n Y)(A:v.ownBlock=some k)(J:w.heap[l]? =some o)(U:o.isCells=false):k≠l:=fun O=>by
 subst O;rcases h.2 with⟨I,_⟩|⟨g,L,N,I,_,R,_⟩
 .rw[I]at A;cases A
 rw[I]at A;simp only[Value.ownBlock,wK]at A;subst A;rw[R]at J;simp only[wK]at J;subst J;cases U
theorem y9B{w:World}{B e Y n n' k:Nat}{v v':Value}{xs O:List Value}(h:w.ownsRow B e 1 v n xs)(h':w.ownsRow B Y 1 v' n' O)(he:Y≠e)(L:v.ownBlock=some k)(A:v'.ownBlock=some k):False:=by
 rcases h.2 with⟨N,_⟩|⟨g,a0,a1,N,_,h3,_⟩
 .rw[N]at L;cases L
 rcases h'.2 with⟨I,_⟩|⟨g',R,U,I,_,J,_⟩
 .rw[I]at A;cases A
 rw[N]at L;rw[I]at A;simp only[Value.ownBlock,wK]at L A;subst L;subst A;rw[h3]at J;simp only[wK,rA]at J;exact he J.2.1.symm
structure z0E (B:Nat) (w:World) (v:Value) (xs:List (Value×List UInt8)):Prop where
 row:w.ownsRow B 47 1 v xs.length (xs.map Prod.fst)
 ent:∀x∈xs,w.ownsRow B 5 1 x.1 x.2.length (z0c x.2)
def TrI(B h rB:Nat)(W5:World)(pre:List (Value×List UInt8))(W:World):Prop:=∃v,W.heap[h]? =some (.cells #[v] 58)/\z0E B W v pre/\Chg [h,rB] [] W5 W
theorem z0E.same{B:Nat}{w w':World}{v:Value}{L:List (Value×List UInt8)}(h:z0E B w v L)(Y:∀k o,B<=k->w.heap[k]? =some o->o.isCells=true->w'.heap[k]? =w.heap[k]?):z0E B w' v L:=by
 have key:∀{e:TypeId} {n:Nat} {u:Value} {l:List Value},w.ownsRow B e 1 u n l->w'.ownsRow B e 1 u n l:=fun J=>j7 J fun k A=>by
  rcases J.2 with⟨I,_⟩|⟨g,N,O,I,R,U,_⟩
  .rw[I]at A;cases A
  rw[I]at A;simp only[Value.ownBlock,wK]at A;subst A;exact Y g _ R U rfl
 exact⟨key h.row,fun x hx=>key (h.ent x hx)⟩
theorem TrI.turn{B h rB:Nat}{N W O:World}{L:List (Value×List UInt8)}{row:Option Nat}(hI:TrI B h rB N L W)(I:W.grownBy O row)(hB:N.heap.size<=B)(Y:∀r,row=some r->B<=r/\∃o:Obj,W.heap[r]? =some o/\o.isCells=false):TrI B h rB N L O:=by
 obtain⟨v,R,h2,A⟩:=hI;have J:=fun r e=>(Y r e).2;refine⟨v,(grownBy_keeps_cells I J R rfl).trans R,h2.same fun k o _ ho hc=>grownBy_keeps_cells I J ho hc,?_⟩;exact⟨I.os.trans A.os,I.tape.trans A.tape,I.output.trans A.output,wV A.size I.size,fun k U hn=>(I.block k (wS U A.size) (fun e=>by have:=(Y k e.symm).1;omega)).trans (A.block k U hn),A.fresh⟩
theorem TrI.step{B h N:Nat}{U W R:World}{L:List (Value×List UInt8)}(hI:TrI B h N U L W)(A:q6G N W R)(hB:N<B)(hn:h≠N):TrI B h N U L R:=by
 obtain⟨u,Y,h2,I⟩:=hI;refine⟨u,(A.block h (wI.1 Y).1 (by simpa using hn)).trans Y,h2.same fun k o O ho _=>A.block k (wI.1 ho).1 (by simp;omega),?_⟩;exact⟨A.os.trans I.os,A.tape.trans I.tape,A.output.trans I.output,wV I.size A.size,fun k O J=>(A.block k (wS O I.size) (fun e=>J (by simp at e;simp[e]))).trans (I.block k O J),I.fresh⟩
theorem y2q:(prog.info? 47).map (fun i=>(i.zero,i.size,i.bytes))=some (some (.slice none 0 0),1,24):=by kernel_rfl
theorem y9J(b:List UInt8)(ao:Option Addr)(n0 c:Nat)(w:World)(aU:n0=b.length)(U:RdB w (.slice ao n0 c) b)(aJ:n0<=c)(hc:c<=9223372036854775807)(aT:n0<=1048576)(aL:∀k,(Value.slice ao n0 c).ownBlock=some k->k<w.heap.size):
  Calls prog 59 #[.slice ao n0 c] w fun e w'=>∃a cc xs,e= .returned (.tuple #[.slice a xs.length cc,.int .i64 (z0X b).2])/\z0E w.heap.size w' (.slice a xs.length cc) xs/\xs.map Prod.snd=(z0X b).1/\Below w.heap.size w w':=by
 obtain⟨iS,b2,aX,aY,aZ⟩:=oq y2q;have a3:=z7 aU;clear aU;refine(gj (n:=3)).1 ?_;refine callsIn_of_wp_marks func59 rfl trivial ?_ rfl;simp only[ntmps59,oz,wW,ob,Nat.reduceAdd,Nat.reduceSub,pC,pD,pY,pN,uW,uY]
 gi_wp2
 obtain⟨A,L⟩:=zN w.heap.size;obtain⟨W5,a5⟩:=zN ((w.alloc (.cells #[.slice ao n0 c,.int .i64 0] 213)).alloc (.cells #[.slice none 0 0] 58));have aB:W5.heap.size=A+2:=by rw[a5,L];simp
 have k0:W5.heap[A]? =some (.cells #[.slice ao n0 c,.int .i64 0] 213 (0,0)):=by
  rw[a5,L];exact(ub _ _ _ wH).trans (j8 w _)
 have k1:W5.heap[A+1]? =some (.cells #[.slice none 0 0] 58):=by
  rw[a5,L];have:=j8 (w.alloc (.cells #[.slice ao n0 c,.int .i64 0] 213)) (.cells #[.slice none 0 0] 58);simpa using this
 have a4:Below A w W5:=by
  rw[a5,L];exact((wN _ w).alloc wE _).alloc wH _
 rw[<-a5];simp only[<-L];have a9:∀k,(Value.slice ao n0 c).ownBlock=some k->k<A+2/\k≠A+1/\k≠A:=fun k J=>by
  have:=aL k J;omega
 have aO:RdB W5 (.slice ao n0 c) b:=U.low (by rw[<-L];exact a4);have HH:=z7 L;have aG:=z7 aB;clear a5;refine z6y (encs:=fun x:Value×List UInt8=> #[x.1]) rfl wF (gf:=108) (la:= #[.pointer (some ⟨A,0,none⟩)]) (lb:= #[]) rfl trivial (enters_of func108 (by kernel_rfl) rfl) (fun _=>rfl)
  (q7S b (A+2)) (q8o (A+2) (A+1)) (q6G A) (fun xs=>xs.map Prod.snd=(z0X b).1) (fun W=>W.cell? ⟨A,1,none⟩=some (.int .i64 (z0X b).2))
  (q5J (3 - 1) wF b ao c (A+2) (A+1) A W5 (by rw[<-a3.o];exact k0) (by rw[<-a3.o];exact aO) (by rw[<-a3.o];exact aJ) hc (by rw[<-a3.o];exact aT) (by rw[<-a3.o];exact a9) wF wF wF)
  (fun X l o o' hX hl ho hc=>(ud (w:=X) (a:=⟨A,1,none⟩) (World.putObj_heap_other (show A≠l by omega))).trans hX)
  (fun I Y=>⟨wV I.1 Y.1,fun k J hn=>(Y.2 k J hn).trans (I.2 k J hn)⟩)
  (fun W l o o' hl aS ho=>⟨wH,fun k J hn=>World.putObj_heap_other wF⟩)
  (fun a6 W=>TrI (A+2) (A+1) A W5 a6 W)
  (fun s X X' hs aE=>hs.step aE wF wF)
  (fun X X' aE=>⟨aE.size,fun k o J ho hc=>(aE.block k (wI.1 ho).1 (by simp;omega)).trans ho⟩)
  (fun s X X' row hs hg hr=>hs.turn hg wF (fun r e=>by have:=hr r e;rw[aB]at this;exact this))
  (fun s x X l o o' ⟨q1,q2,q3⟩ hl aS ho=>⟨j7 q1 (fun k J=>World.putObj_heap_other (y3E q1 J aS ho)),q2,q3⟩)
  ⟨_,k1,⟨uN _ _ _ _,fun x U=>by cases U⟩,⟨rfl,rfl,rfl,wJ _,fun _ _ _=>rfl,fun x U=>by cases U⟩⟩
  (fun x=>{tmps:= #[.slice ao n0 c,undef,.slice none 0 0,.int .i64 0,.pointer (some ⟨A,0,none⟩),.pointer (some ⟨A+1,0,none⟩),x.1,.slice ao n0 c,.agg #[.slice ao n0 c,.int .i64 0],.pointer (some ⟨A,0,none⟩),.pointer (some ⟨A,0,none⟩),.func (.func 108) #[.pointer (some ⟨A,0,none⟩)] #[],x.1,undef,undef,undef,undef,undef,undef,undef,undef,undef],defers:= []}) ?assign ?body ?done
 case assign=>
  clear L aB;intro l x W K hK
  gi_wp2
  exact hK
 case body=>
  rintro l a6 x W ⟨v,c1,O,R⟩ ⟨q1,q2,rr,q3⟩;obtain⟨xv,p⟩:=x;dsimp only at q1 q2 q3 ⊢;obtain⟨ax,cx,rfl⟩:=(z0d q1).head;obtain⟨av,cv,rfl⟩:=(z0d O.row).head;obtain⟨m,hm⟩:=zN a6.length;obtain⟨pn,aM⟩:=zN p.length;obtain⟨f1,f2,f3⟩:=z0v c1;have b3:a6.length<=1048576:=by
   have I:=(y3W b.length b wE).2.1;rw[<-q3,wP,we]at I;have:=a3.o;omega
  have aA:=O.row;rw[<-hm]at aA f1 c1 b3;rw[<-aM]at q1 ⊢;have HM:=z7 hm;have aW:=z7 aM;have aF:=z7 O;have N:=z7 aA;clear hm aM aA;have a7:=z7 R;have Q1:=z7 q1;have C1:=z7 c1;clear L aB q1 q2 q3 aL a9 aJ hc U aO O R c1;have aN:Hid (∀o,(W.alloc o).ownsRow (A+2) 47 1 (.slice av m cv) m (a6.map Prod.fst)):=z7 fun o=>N.o.alloc o;have aV:=z7 (z3t W #[.slice ax pn cx] 47 1 1 wG rfl)
  gi_wp2_with (gi_at_builtin;refine z3Y rfl _ _ 58 rfl (A+2) 47 iS (.slice none 0 0) 1 24 underlying58 b2 aX aY aZ rfl wG _ m _ rfl (aN.o _) _ 1 [.slice ax pn cx] rfl (by exact aV.o) (by simp[Value.oneCell']) (by unfold maxLen;omega) wF (by simp;omega) ?_;intro v1 w1 a0 aI b1;obtain⟨a1,aC,rfl⟩:=(z0d a0).head;have aR:=z7 a0;have a2:=z7 aI;have aH:=((aI.block (A+1) (by simp;omega) (fun e=>by have:=(N.o.lt _ e.symm).1;omega)).trans (ub W _ _ f3)).trans C1.o;obtain⟨e1,e2,e3⟩:=z0v aH;have aD:=z7 aH;clear a0 aI b1 aH)
  have hI:TrI (A+2) (A+1) A W5 (a6++ [(.slice ax pn cx,p)]) (w1.setCell ⟨A+1,0,none⟩ (.slice a1 (m+1) aC)):=by
   have a8:∀{e n:Nat} {u:Value} {l:List Value},e≠47->W.ownsRow (A+2) e 1 u n l->(w1.setCell ⟨A+1,0,none⟩ (.slice a1 (m+1) aC)).ownsRow (A+2) e 1 u n l:=fun he hr=>j7 hr fun k J=>by
    have I:=hr.lt k J;have Y:k≠A+1:=wF;rw[q7 Y,a2.o.block k (by simp;omega) (fun e'=>y9B N.o hr he e'.symm J)];exact ub W _ _ I.2
   refine⟨.slice a1 (m+1) aC,?_,⟨?_,fun x U=>?_⟩,?_⟩
   .have:=z0a aD.o 0 (.slice a1 (m+1) aC);simpa using this
   .rw[wP,uV,<-HM.o];exact j7 aR.o fun k J=>q7 (by have:=(aR.o.lt k J).1;omega)
   .rcases uB.1 U with U|U
    .exact a8 wG (aF.o.ent x U)
    rw[uD]at U;subst U;have:=a8 wG Q1.o;rw[aW.o]at this ⊢;exact this
   have I:=a7.o;have Y:=a2.o;refine⟨Y.os.trans I.os,Y.tape.trans I.tape,Y.output.trans I.output,by have:=Y.size;have:=I.size;simp[World.setCell]at*;omega,fun k J hn=>?_,fun k J=>by cases J⟩;have h3:k≠A+1:=fun e=>hn (by simp[e]);rw[q7 h3,Y.block k (by have:=I.size;simp;omega) (fun e=>by have:=(N.o.lt _ e.symm).1;have:=aG.o;omega),ub W _ _ (by have:=I.size;omega)];exact I.block k J hn
  refine⟨?_,?_,hI⟩
  .rw[aG.o];refine⟨by have:=a2.o.size;simp[World.setCell]at*;omega,fun k o J ho hc=>?_⟩;have I:=(wI.1 ho).1;have Y:k≠A+1:=wF;rw[q7 Y,a2.o.block k (by simp;omega) (fun e'=>(y3E N.o e'.symm ho hc) rfl),ub W _ _ I];exact ho
  refine⟨by have:=a2.o.size;simp[World.setCell]at*;omega,fun k J hn=>?_⟩;rw[q7 hn,a2.o.block k (by simp;omega) (fun e=>by have:=(N.o.lt _ e.symm).1;omega)];exact ub W _ _ wF
 case done=>
  rintro D xs W hD hS hF ⟨v,c1,O,R⟩ hK;obtain⟨m,hm⟩:=zN xs.length;obtain⟨av,cv,rfl⟩:=(z0d O.row).head;rw[<-hm]at c1;obtain⟨f1,f2,f3⟩:=z0v c1;have HM:=z7 hm;have aF:=z7 O;have a7:=z7 R;have HK:=z7 hK;have HS:=z7 hS;clear L aB hm O R hK hS aL a9 aJ hc U aO
  gi_wp2_with fail
  refine mr.2 ?_;go_quiet (fail)
  go_wp2
  gi_wp2
  have b0:(W.drewN nq).heap[D]? =some (.deferred (some [])):=HK.o;refine⟨wH,.inl ⟨_,_,rfl,run_takeDeferred b0,?_⟩⟩;refine⟨_,tL rfl _ _ _,av,cv,xs,?_,?_,HS.o,?_⟩
  .rw[<-HM.o];rfl
  .have I:=aF.o;have Y:z0E (A+2) ((W.drewN nq).putObj D (.deferred none)) (.slice av xs.length cv) xs:=I.same fun k o _ ho hc=>World.putObj_heap_other (fun e=>by
    subst e;have h3:=HK.o;rw[ho]at h3;simp only[wK]at h3;subst h3;cases hc)
   rw[<-HH.o];exact⟨z0f Y.row wF,fun x U=>z0f (Y.ent x U) wF⟩
  rw[<-HH.o];have I:=a7.o;have b4:=aG.o;refine⟨I.os.trans a4.os,I.tape.trans a4.tape,I.output.trans a4.output,?_,fun k J=>?_⟩
  .have:=I.size;have:=a4.size;simp;omega
  refine(World.putObj_heap_other wF).trans ((I.block k wF ?_).trans (a4.block k J));simp;omega
attribute [local go_sem] Oper.semAt_some
theorem y6A(A:Option Addr)(n c I:Nat)(w:World):
  Calls prog 179 #[.slice A n c,.slice (some ⟨I,0,none⟩) 1 1,.int .i64 0] w fun e w'=>e= .returned (.func (.func 200) #[] #[.pointer (some ⟨w.heap.size+1,0,none⟩),.pointer (some ⟨w.heap.size,0,none⟩),.pointer (some ⟨w.heap.size+2,0,none⟩)])/\
   w'=((w.alloc (.cells #[.slice A n c] 47)).alloc (.cells #[.slice (some ⟨I,0,none⟩) 1 1] 47)).alloc (.cells #[.int .i64 0] 3):=by
 go_enter func179,ntmps179;go_wp2;go_ret;exact⟨wH,rfl⟩
theorem y6P(A:Option Addr)(n c I:Nat)(w:World):
  Calls prog 150 #[.slice A n c,.slice (some ⟨I,0,none⟩) 1 1] w fun e w'=>e= .returned (.func (.func 200) #[] #[.pointer (some ⟨w.heap.size+1,0,none⟩),.pointer (some ⟨w.heap.size,0,none⟩),.pointer (some ⟨w.heap.size+2,0,none⟩)])/\
   w'=((w.alloc (.cells #[.slice A n c] 47)).alloc (.cells #[.slice (some ⟨I,0,none⟩) 1 1] 47)).alloc (.cells #[.int .i64 0] 3):=by
 go_enter func150,ntmps150;go_wp2_with (refine(y6A A n c I w).mono ?_;rintro e w' ⟨rfl,rfl⟩);go_ret;exact⟨rfl,rfl⟩
theorem RdB.keep0{w w':World}{x:Value}{l:List UInt8}(h:RdB w x l)(L:0<l.length->∀b,x.ownBlock=some b->w'.heap[b]? =w.heap[b]?):RdB w' x l:=by
 by_cases A:0<l.length
 .exact h.keep (L A)
 have:l= []:=wT wF;subst this;obtain⟨I,J⟩:=h;exact⟨I,J.imp id fun⟨ad,c,e,_⟩=>⟨ad,c,e,fun j u N=>by simp[z0c]at N⟩⟩
def q5z(b:List UInt8)(B oB sB:Nat)(pre:List (Value×List UInt8))(x:Value×List UInt8)(W:World):Prop:=
 RdB W x.1 x.2/\(∃ao,x.1= .slice ao x.2.length x.2.length)/\(0<x.2.length->∀k,x.1.ownBlock=some k->k<B/\k≠oB/\k≠sB)/\∃r,pre.map Prod.snd++x.2::r=z1G b
def q6Z(B oB:Nat)(W W':World):Prop:=W.heap.size<=W'.heap.size/\∀k,k<B->k≠oB->W'.heap[k]? =W.heap[k]?
def q8m(sB:Nat)(X X':World):Prop:=∃v,X'=X.setCell ⟨sB,0,none⟩ v
def y6v(sB:Nat)(w:World):Nat:=match w.cell? ⟨sB,0,none⟩with|some (.slice _ n _)=>n|_=>0
theorem q6C(n:Nat)(b3:1<=n)(b:List UInt8)(ao:Option Addr)(c B oB N pB qB zB:Nat)(w:World)
  (hs:w.heap[N]? =some (.cells #[.slice ao b.length c] 47)) (hp:w.heap[pB]? =some (.cells #[.slice (some ⟨zB,0,none⟩) 1 1] 47)) (hq:w.heap[qB]? =some (.cells #[.int .i64 0] 3)) (hz:w.cell? ⟨zB,0,none⟩=some (.int .u8 0))
  (hx:RdB w (.slice ao b.length c) b) (aH:b.length<=c) (hc:c<=9223372036854775807) (a9:0<b.length->∀k,(Value.slice ao b.length c).ownBlock=some k->k<B/\k≠oB/\k≠N)
  (lB:N<B/\pB<B/\qB<B/\zB<B) (hB:B<=w.heap.size) (nO:N≠oB/\pB≠oB/\qB≠oB/\zB≠oB) (nS:pB≠N/\qB≠N/\zB≠N):
  q0e Fence.wide n prog 200 #[.pointer (some ⟨pB,0,none⟩),.pointer (some ⟨N,0,none⟩),.pointer (some ⟨qB,0,none⟩)] (fun x:Value×List UInt8=> #[x.1]) (q5z b B oB N) (q6Z B oB) (q8m N) (fun xs=>xs.map Prod.snd=z1G b) w:=by
 intro l J W hW hl hJ hY h0;refine qh func200 rfl trivial ?_ rfl;simp only[ntmps200,oz,wW,ob,Nat.reduceAdd,Nat.reduceSub,pC,pD,pY,pN,uW,uY];have aV:=(hW.block pB wF wH).trans hp;obtain⟨p1,_,_⟩:=z0v aV
 gi_wp2
 gi_loopw [7] (fun i wr=>∃(R:List (Value×List UInt8)) (rest:List UInt8) (a':Option Addr) (n' c':Nat),Hid (n'=rest.length)/\Hid (R.map Prod.snd++z1G rest=z1G b)/\wr.heap[N]? =some (.cells #[.slice a' n' c'] 47)/\
   wr.heap[pB]? =some (.cells #[.slice (some ⟨zB,0,none⟩) 1 1] 47)/\wr.heap[qB]? =some (.cells #[.int .i64 0] 3)/\wr.cell? ⟨zB,0,none⟩=some (.int .u8 0)/\Hid (RdB wr (.slice a' n' c') rest)/\n'<=c'/\c'<=9223372036854775807/\Hid (0<n'->∀k,(Value.slice a' n' c').ownBlock=some k->k<B/\k≠oB/\k≠N)/\Hid (B<=wr.heap.size)/\J R wr) (fun i wr=>y6v N wr)
 case atStart=>
  have hb:=fun k (hk:k<B)=>hW.block k wF wH;refine⟨[],b,ao,b.length,c,rfl,by rw[pQ,uW];rfl,(hb _ lB.1).trans hs,(hb _ lB.2.1).trans hp,(hb _ lB.2.2.1).trans hq,(ud (w:=w) (a:=⟨zB,0,none⟩) (hb _ lB.2.2.2)).trans hz,hx.chg hW wH,aH,hc,a9,wV hB hW.size,h0⟩
 case round=>
  obtain⟨R,rest,a',n',c',hn,a1,us,up,uq,uz,hr,aI,b0,I,aR,aE⟩:=hrel;obtain⟨s1,s2,s3⟩:=z0v us;obtain⟨q1,_,_⟩:=z0v uq;obtain⟨r1,_,_⟩:=z0v up;have H:=z7 (q4o _ rest zB 1 wr (by have:=hr.o;rw[hn.o]at this;exact this) uz);rw[<-hn.o]at H;rcases z7V rest with⟨aZ,hi⟩|⟨o,r,A,aY,hi⟩
  .rw[hi]at H;have L:z1G rest= [rest]:=y2w aZ;have a2:q5z b B oB N R (.slice a' n' n',rest) wr:=by
    refine⟨?_,⟨a',by rw[hn.o]⟩,fun h0 j Y=>I.o (by rw[hn.o];exact h0) j (by cases a'<;>exact Y), [],?_⟩
    .obtain⟨h1,⟨he,hz⟩|⟨a5,c2,he,aT⟩⟩:=hr.o
     .simp only[wO]at he;obtain⟨rfl,rfl,rfl⟩:=he;exact⟨h1,.inl ⟨rfl,hz⟩⟩
     simp only[wO]at he;obtain⟨rfl,h5,rfl⟩:=he;exact⟨h1,.inr ⟨a5,n',by rw[h5],aT⟩⟩
    rw[<-L];exact a1.o
   have aG:(R++ [(Value.slice a' n' n',rest)]).map Prod.snd=z1G b:=by
    rw[uV,<-a1.o,L];rfl
   obtain⟨fn,tmps,assign,body,hy,hR⟩:=hY R _ wr aE a2;dsimp only at hy;clear a9 hs hp hq hz hx hi hW hJ hY h0
   gi_wp2_with (refine⟨trivial,?_⟩;refine(gj.2 H.o).mono ?_;clear H;rintro e wr ⟨rfl,rfl⟩)
   refine hR.mono ?_;rintro e W3 ⟨rfl,a6,U⟩
   gi_wp2
   go_end0
   exact⟨⟨_,rfl⟩,_,aG,a6⟩
  have a4:rest.length=o.length+1+r.length:=(by rw[A];simp;omega);rw[hi]at H;have a8:n'=o.length+1+r.length:=(by rw[hn.o,a4]);obtain⟨k,hk⟩:=zN o.length;rw[<-hk]at H a8;have a3:=hr.o;obtain⟨O,rfl⟩:∃O,a'=some O:=by
   rcases a3.2 with⟨he,hz⟩|⟨a5,c2,he,_⟩
   .omega
   simp only[wO]at he;exact⟨a5,he.1⟩
  have L:z1G rest=o::z1G r:=by
   have:=y2M aY (0::r) [] (z1G r) (y5D r);rw[ue]at this;rw[A,this]
  have a2:q5z b B oB N R (.slice (some O) k k,o) wr:=by
   refine⟨?_,⟨some O,by rw[hk]⟩,fun _ j Y=>I.o wF j Y,z1G r,?_⟩
   .have:=a3.upto hn.o o.length k k (by rw[A,qy rfl];exact hk)
    rwa [A,qy rfl]at this
   rw[<-L];exact a1.o
  have a7:rest.drop (k+1)=r:=by
   rw[A,hk,show o++0::r=(o++ [0])++r by simp,List.drop_left' wH]
  have aL:=z7 (by have:=a3.rest hn.o aI (k+1) (c' - (k+1)) (n' - (k+1)) (by rw[a7];omega);rwa [a7]at this);have aM:=z7 (show(R++ [(Value.slice (some O) k k,o)]).map Prod.snd++z1G r=z1G b by
   rw[uV,wj,<-a1.o,L];rfl)
  have aS:=z7 hJ;obtain⟨fn,tmps,assign,body,hy,hR⟩:=hY R _ wr aE a2;dsimp only at hy;have t1:¬((k:Int)<0):=wF;have t2:decide ((k:Int)<0)=false:=(by simpa using t1);have b2:k<n':=wF;have b1:k<=c':=wF;have N3:=z7 a8;have aW:k+1<=c':=wF;clear a9 hs hp hq hz hx hi hW hJ hY h0 aH hn a1 a2 hr a3 a4 a8 hk A L a7
  gi_wp2_with (refine⟨trivial,?_⟩;refine(gj.2 H.o).mono ?_;clear H;rintro e wr ⟨rfl,rfl⟩)
  refine hR.mono ?_;rintro e W3 ⟨rfl,a6,U⟩;have aC:=(U.2 N lB.1 nO.1).trans us;have aA:=(U.2 pB lB.2.1 nO.2.1).trans up;have aB:=(U.2 qB lB.2.2.1 nO.2.2.1).trans uq;have aN:=(ud (w:=wr) (w':=W3) (a:=⟨zB,0,none⟩) (U.2 zB lB.2.2.2 nO.2.2.2)).trans uz;obtain⟨s4,s5,s6⟩:=z0v aC;obtain⟨q4,_,_⟩:=z0v aB;obtain⟨r4,_,_⟩:=z0v aA;have aD:=s1;clear s1 s2 s3 q1 r1 us up uq uz;have a0:0<n':=(by have:=N3.o;omega);have aF:∀j,O.block=j->W3.heap[j]? =wr.heap[j]? :=fun j Y=>U.2 j (I.o a0 j (by simp[Value.ownBlock,Y])).1 (I.o a0 j (by simp[Value.ownBlock,Y])).2.1;have aX:=z7 (aL.o.keep (w':=W3) fun j Y=>by rw[z3A]at Y;exact aF j (by simpa using Y));have aU:=z7 ((I.o a0 O.block rfl).2.2);have aJ:Hid (0<n' - (k+1)->∀j,(Value.slice (if c'=k+1 then some O else some ⟨O.block,O.off+(k+1),none⟩) (n' - (k+1)) (c' - (k+1))).ownBlock=some j->j<B/\j≠oB/\j≠N):=z7 fun _ j Y=>by
   rw[z3A]at Y;exact I.o a0 j Y
  have HS:=z7 aC;have HP:=z7 aA;have HQ:=z7 aB;have HZ:=z7 aN;have aO:=z7 U.1;clear aL aF I a0 aC aA aB aN U
  gi_wp2
  go_roundw
  case rel=>
   refine⟨_,r,(if c'=k+1 then some O else some ⟨O.block,O.off+(k+1),none⟩),n' - (k+1),c' - (k+1),z7 (by have:=N3.o;omega),aM,?_,?_,?_,?_,?_,wF,wF,aJ,z7 ?_,aS.o _ _ _ a6 ⟨_,rfl⟩⟩
   .have:=z0a HS.o 0 (.slice (if c'=k+1 then some O else some ⟨O.block,O.off+(k+1),none⟩) (n' - (k+1)) (c' - (k+1)));simpa using this
   .exact(q7 nS.1).trans HP.o
   .exact(q7 nS.2.1).trans HQ.o
   .exact(ud (w:=W3) (a:=⟨zB,0,none⟩) (q7 nS.2.2)).trans HZ.o
   .exact z7 (aX.o.keep fun j Y=>q7 (by rw[z3A]at Y;intro e;exact aU.o ((um Y).trans e)))
   have:=aR.o;have:=aO.o;simp[World.setCell];omega
  case measure=>
   have e1:y6v N (W3.setCell ⟨N,0,none⟩ (.slice (if c'=k+1 then some O else some ⟨O.block,O.off+(k+1),none⟩) (n' - (k+1)) (c' - (k+1))))=n' - (k+1):=by
    unfold y6v;rw[World.cell?_setCell_same' _ _ _ (by rw[s4];rfl)]
   have e2:y6v N wr=n':=by
    unfold y6v;rw[aD]
   rw[e1,e2];omega
attribute [local go_sem] Oper.semAt_some
def stL(pre:List (Value×List UInt8)):List UInt8:=(pre.map Prod.snd).flatMap part
theorem q2x(A:List (Value×List UInt8))(x:Value×List UInt8):stL (A++ [x])=stL A++part x.2:=by simp[stL]
def WrI(B h sB:Nat)(W5:World)(L:List UInt8)(W:World):Prop:=
 ∃v,W.heap[h]? =some (.cells #[v] 47)/\W.ownsRow B 5 1 v L.length (z0c L)/\Chg [h,sB] [h,sB] W5 W
theorem WrI.turn{B h sB:Nat}{O W U:World}{L:List UInt8}{row:Option Nat}(hI:WrI B h sB O L W)(I:W.grownBy U row)(hB:O.heap.size<=B)(hr:∀r,row=some r->B<=r/\∃o:Obj,W.heap[r]? =some o/\o.isCells=false):WrI B h sB O L U:=by
 obtain⟨v,Y,h2,A⟩:=hI;have N:=fun r e=>(hr r e).2;refine⟨v,(grownBy_keeps_cells I N Y rfl).trans Y,j7 h2 fun k J=>?_,?_⟩
 .rcases h2.2 with⟨rfl,_⟩|⟨g,a0,a1,rfl,_,R,_⟩
  .cases J
  obtain rfl:g=k:=by simpa[Value.ownBlock]using J
  exact grownBy_keeps_cells I N R rfl
 exact⟨I.os.trans A.os,I.tape.trans A.tape,I.output.trans A.output,wV A.size I.size,fun k J hn=>(I.block k (wS J A.size) (fun e=>by have:=(hr k e.symm).1;omega)).trans (A.block k J hn),A.fresh⟩
theorem WrI.set{B h I:Nat}{R W:World}{L:List UInt8}(hI:WrI B h I R L W)(hB:I<B)(N:h≠I)(v:Value):WrI B h I R L (W.setCell ⟨I,0,none⟩ v):=by
 obtain⟨u,Y,U,A⟩:=hI;refine⟨u,(q7 N).trans Y,j7 U fun k O=>q7 ?_,?_⟩
 .have:=(U.lt k O).1;omega
 have J:=Chg.setCells (b:=I) [v] 0 W;refine⟨J.os.trans A.os,J.tape.trans A.tape,J.output.trans A.output,wV A.size J.size,fun k O N=>(q7 (fun e=>N (by rw[e];simp))).trans (A.block k O N),A.fresh⟩
structure StV (B h sB:Nat) (W5 W:World) (vm:Value) (M:List UInt8) (wr:World):Prop where
 box:wr.heap[h]? =some (.cells #[vm] 47)
 own:wr.ownsRow B 5 1 vm M.length (z0c M)
 chg:Chg [h,sB] [h,sB] W5 wr
 kf:KeepsFrom B W wr
 kp:q6Z B h W wr
 le:B<=wr.heap.size
theorem StV.alloc{B h N:Nat}{L W wr:World}{O:Value}{M:List UInt8}(H:StV B h N L W O M wr)(cs:Array Value)(t:TypeId):StV B h N L W O M (wr.alloc (.cells cs t)):=by
 have hb:∀k,k<wr.heap.size->(wr.alloc (.cells cs t)).heap[k]? =wr.heap[k]? :=fun k A=>ub wr _ _ A;have R:=H.le;have I:=(z0v H.box).2.2;refine⟨(hb _ I).trans H.box,j7 H.own fun k A=>hb k (H.own.lt k A).2,?_,H.kf.trans ((KeepsOthers.alloc wr _).from _),⟨wV H.kp.1 wH,fun k A J=>(hb k wF).trans (H.kp.2 k A J)⟩,by simp;omega⟩;refine⟨H.chg.os,H.chg.tape,H.chg.output,wV H.chg.size wH,fun k A J=>(hb k (wS A H.chg.size)).trans (H.chg.block k A J),H.chg.fresh⟩
theorem StV.drew{B h I:Nat}{A W wr:World}{J:Value}{M:List UInt8}(H:StV B h I A W J M wr):StV B h I A W J M wr.drew:=
 ⟨H.box,j7 H.own fun k L=>rfl,⟨H.chg.os,H.chg.tape,H.chg.output,H.chg.size,H.chg.block,H.chg.fresh⟩,H.kf.trans ((KeepsOthers.drew wr).from _),H.kp,H.le⟩
theorem StV.far{B h L:Nat}{I W wr:World}{A:Value}{M:List UInt8}(H:StV B h L I W A M wr):∀k,A.ownBlock=some k->B<=k:=fun k J=>(H.own.lt k J).1
theorem StV.push{B h sB:Nat}{W5 W w0 A:World}{vm U:Value}{M Y:List UInt8}(H:StV B h sB W5 W vm M w0)(J:w0.grownBy A vm.ownBlock)(L:A.ownsRow B 5 1 U Y.length (z0c Y))(hh:h<B)(a4:W5.heap.size<=B):
  A.heap[h]? =some (.cells #[vm] 47)/\StV B h sB W5 W U Y (A.setCell ⟨h,0,none⟩ U)/\∀k,k<B->k≠h->(A.setCell ⟨h,0,none⟩ U).heap[k]? =w0.heap[k]? :=by
 have a1:=H.le;have hb:∀k,k<B->A.heap[k]? =w0.heap[k]? :=fun k I=>J.block k wF fun e=>by have:=H.far k e.symm;omega
 have N:∀k,k<B->k≠h->(A.setCell ⟨h,0,none⟩ U).heap[k]? =w0.heap[k]? :=fun k I O=>(q7 O).trans (hb k I);have e1:=(hb h hh).trans H.box;have R:(A.setCell ⟨h,0,none⟩ U).heap.size=A.heap.size:=by simp[World.setCell]
 refine⟨e1,⟨?_,j7 L fun k I=>q7 (by have:=(L.lt k I).1;omega),?_,?_,⟨wV H.kp.1 (by rw[R];exact J.size),fun k I O=>(N k I O).trans (H.kp.2 k I O)⟩,by rw[R];exact wV a1 J.size⟩,N⟩
 .have:=z0a e1 0 U;simpa using this
 .refine⟨J.os.trans H.chg.os,J.tape.trans H.chg.tape,J.output.trans H.chg.output,by rw[R];exact wV H.chg.size J.size,fun k I O=>(N k wF (by intro e;exact O (by rw[e];simp))).trans (H.chg.block k I O),H.chg.fresh⟩
 refine H.kf.trans ((KeepsFrom.trans ((KeepsOthers.of_grownBy J fun j o ej hj=>?_).from B)) ((KeepsOthers.setCell A _ _).from B));rcases H.own.2 with⟨rfl,_⟩|⟨g,a2,a3,rfl,_,a0,_⟩
 .cases ej
 obtain rfl:g=j:=by simpa[Value.ownBlock]using ej
 rw[a0]at hj;cases hj;rfl
theorem y6Z(b:List UInt8)(ao:Option Addr)(c:Nat)(w:World)(hx:RdB w (.slice ao b.length c) b)(aX:b.length<=c)(hc:c<=9223372036854775807)(bT:b.length<=1000000)(aZ:0<b.length->∀k,(Value.slice ao b.length c).ownBlock=some k->k<w.heap.size):
  Calls prog 126 #[.slice ao b.length c] w fun e w'=>∃a c',e= .returned (.slice a (z0A b).length c')/\w'.ownsRow w.heap.size 5 1 (.slice a (z0A b).length c') (z0A b).length (z0c (z0A b))/\Below w.heap.size w w':=by
 refine(gj (n:=3)).1 ?_;refine callsIn_of_wp_marks func126 rfl trivial ?_ rfl;simp only[ntmps126,oz,wW,ob,Nat.reduceAdd,Nat.reduceSub,pC,pD,pY,pN,uW,uY]
 gi_wp2_with (refine⟨trivial,?_⟩;refine(gj.2 (y6P _ _ _ _ _)).mono ?_;rintro e w' ⟨rfl,rfl⟩)
 obtain⟨h,hh⟩:=zN w.heap.size;obtain⟨W5,a3⟩:=zN (((((w.alloc (.cells #[.slice none 0 0] 47)).alloc (.cells #[.int .u8 0] 5)).alloc (.cells #[.slice ao b.length c] 47)).alloc (.cells #[.slice (some ⟨w.heap.size+1,0,none⟩) 1 1] 47)).alloc (.cells #[.int .i64 0] 3));have aM:W5.heap.size=h+5:=by rw[a3,hh];simp
 have ka:∀(X:World) (o:Obj),(X.alloc o).heap[X.heap.size]? =some o:=fun X o=>World.alloc_heap_new X o;have kb:∀(X:World) (o:Obj) (k:Nat) (y:Obj),X.heap[k]? =some y->(X.alloc o).heap[k]? =some y:=fun X o k y hk=>(ub X o k (wI.1 hk).1).trans hk;have k0:W5.heap[h]? =some (.cells #[.slice none 0 0] 47):=by
  rw[a3,hh];exact kb _ _ _ _ (kb _ _ _ _ (kb _ _ _ _ (kb _ _ _ _ (ka w _))))
 have k1:W5.heap[h+1]? =some (.cells #[.int .u8 0] 5):=by
  rw[a3,hh];have:=ka (w.alloc (.cells #[.slice none 0 0] 47)) (.cells #[.int .u8 0] 5);rw[oQ]at this;exact kb _ _ _ _ (kb _ _ _ _ (kb _ _ _ _ this))
 have k2:W5.heap[h+2]? =some (.cells #[.slice ao b.length c] 47):=by
  rw[a3,hh];have:=ka ((w.alloc (.cells #[.slice none 0 0] 47)).alloc (.cells #[.int .u8 0] 5)) (.cells #[.slice ao b.length c] 47);rw[oQ,oQ]at this;exact kb _ _ _ _ (kb _ _ _ _ this)
 have k3:W5.heap[h+3]? =some (.cells #[.slice (some ⟨h+1,0,none⟩) 1 1] 47):=by
  rw[a3,hh];have:=ka (((w.alloc (.cells #[.slice none 0 0] 47)).alloc (.cells #[.int .u8 0] 5)).alloc (.cells #[.slice ao b.length c] 47)) (.cells #[.slice (some ⟨w.heap.size+1,0,none⟩) 1 1] 47);rw[oQ,oQ,oQ]at this;exact kb _ _ _ _ this
 have k4:W5.heap[h+4]? =some (.cells #[.int .i64 0] 3):=by
  rw[a3,hh];have:=ka ((((w.alloc (.cells #[.slice none 0 0] 47)).alloc (.cells #[.int .u8 0] 5)).alloc (.cells #[.slice ao b.length c] 47)).alloc (.cells #[.slice (some ⟨w.heap.size+1,0,none⟩) 1 1] 47)) (.cells #[.int .i64 0] 3);rw[oQ,oQ,oQ,oQ]at this;exact this
 have aE:Below h w W5:=by
  rw[a3,hh];exact(((((wN _ w).alloc wE _).alloc wH _).alloc (by simp;omega) _).alloc (by simp;omega) _).alloc (by simp;omega) _
 rw[<-a3];simp only[<-hh];have aI:0<b.length->∀k,(Value.slice ao b.length c).ownBlock=some k->k<h+5/\k≠h/\k≠h+2:=fun h0 k hk=>by
  have:=aZ h0 k hk;omega
 have aD:RdB W5 (.slice ao b.length c) b:=hx.low (by rw[<-hh];exact aE);have HH:=z7 hh;have a7:=z7 aM;clear a3;refine y0i (encs:=fun x:Value×List UInt8=> #[x.1]) rfl wF (gf:=200) (lb:= #[.pointer (some ⟨h+1+1+1,0,none⟩),.pointer (some ⟨h+1+1,0,none⟩),.pointer (some ⟨h+1+1+2,0,none⟩)]) rfl trivial (enters_of func200 (by kernel_rfl) rfl) (fun _=>rfl)
  (q5z b (h+5) h (h+2)) (q6Z (h+5) h) (q8m (h+2)) (fun xs=>xs.map Prod.snd=z1G b)
  (q6C (3 - 1) wF b ao c (h+5) h (h+2) (h+3) (h+4) (h+1) W5 k2 k3 k4 (z0v k1).1 aD aX hc aI wF wF wF wF)
  (fun h1 h2=>⟨wV h1.1 h2.1,fun k hk hn=>(h2.2 k hk hn).trans (h1.2 k hk hn)⟩)
  (fun W l o o' hl bL ho=>⟨wH,fun k hk hn=>World.putObj_heap_other wF⟩)
  (fun aO W=>WrI (h+5) h (h+2) W5 (stL aO) W)
  (fun s X X' hs ⟨v,hv⟩=>hv▸hs.set wF wF v)
  (fun X X' ⟨v,hv⟩=>hv▸(KeepsOthers.setCell X _ v).from _)
  (fun s X X' row hs hg hr=>hs.turn hg wF (fun r e=>by have:=hr r e;rw[aM]at this;exact this))
  (fun s x X l o o' ⟨q1,q2,q3,q4⟩ hl bL ho=>⟨q1.keep0 fun h0 j hj=>World.putObj_heap_other (by have:=(q3 h0 j hj).1;omega),q2,q3,q4⟩)
  ⟨_,k0,uN _ _ _ _,Chg.refl _ _⟩
  (fun x=>{tmps:= #[.slice ao b.length c,undef,.slice none 0 0,.pointer (some ⟨h,0,none⟩),x.1,.slice ao b.length c,.slice (some ⟨h+1,0,none⟩) 1 1,.func (.func 200) #[] #[.pointer (some ⟨h+1+1+1,0,none⟩),.pointer (some ⟨h+1+1,0,none⟩),.pointer (some ⟨h+1+1+2,0,none⟩)],x.1,undef,undef,undef,undef,undef,undef,undef,undef,undef,undef,undef,undef,undef,undef,undef,undef,undef,undef,undef,undef,undef,undef,undef,undef,undef],defers:= []}) ?assign ?body ?done
 case assign=>
  clear hh aM;intro l x W K I
  gi_wp2
  exact I
 case body=>
  rintro l aO x W ⟨v,c1,R,N⟩ ⟨q1,⟨ax,q2⟩,q3,rr,q4⟩;obtain⟨xv,p⟩:=x;dsimp only at q1 q2 q3 q4 ⊢;subst q2;obtain⟨L,hL⟩:=zN (stL aO);rw[<-hL]at R;obtain⟨f1,f2,f3⟩:=z0v c1;have aT:(L++part p).length<=1100000:=by
   have h1:=z4u b;have h2:z0A b=(L++part p)++(rr.flatMap part++ [0]):=by
    unfold z0A z6p;rw[<-q4,hL];simp[stL]
   rw[h2,wP]at h1;omega
  have bY:p.length<=1100000:=by
   have:=z6G p.length p wE;rw[wP]at aT;omega
  have HL:=z7 hL;have bC:=z7 aT;have Q1:=z7 q1;have Q3:=z7 q3;clear hh aM hL aT q4 q1 q3 aZ aI aX hc hx aD;have b6:prog.follows .mixedOrders=true:=by kernel_rfl
  gi_wp2
  gi_loopw [4] (fun pv wr=>∃(q:List UInt8) (M:List UInt8) (aq:Option Addr) (O cq:Nat) (vm:Value),pv= .slice aq O cq/\O<=cq/\cq<=1100000/\Hid (O=q.length)/\Hid (M++part q=L++part p)/\
    Hid (StV (h+5) h (h+2) W5 W vm M wr)/\Hid (RdB wr (.slice aq O cq) q)/\Hid (0<O->∀k,(Value.slice aq O cq).ownBlock=some k->k<h+5/\k≠h/\k≠h+2)) (fun pv _=>match pv with | .slice _ n _=>n|_=>0)
  case atStart=>
   refine⟨p,L,ax,p.length,p.length,v,rfl,wJ _,wF,z7 rfl,z7 rfl,z7 ⟨c1,R,N,KeepsFrom.refl _ _,⟨wJ _,fun _ _ _=>rfl⟩,?_⟩,Q1,Q3⟩;have:=N.size;have:=a7.o;omega
  case round=>
   obtain⟨q,M,aq,O,cq,vm,rfl,bM,bX,U,hM,a6,hq,aL⟩:=hrel;obtain⟨g1,g2,g3⟩:=z0v a6.o.box;obtain⟨av,cv,rfl⟩:=(z0d a6.o.own).head;have aU:M.length<=1100000:=by
    have h1:=uS List.length hM.o;have h2:=bC.o;rw[wP]at h1;omega
   have aN:=z7 aU;by_cases bS:254<=O
   .have b1:(254:Int)<=(O:Int):=wF;have b2:(254:Int)<=(cq:Int):=wF;have a0:=z7 (z3t wr #[.int .u8 255] 5 1 1 wG rfl);have A:=z7 (a6.o.alloc #[.int .u8 255] 5);clear aU
    gi_wp2_with (gi_at_builtin;refine z3n rfl _ _ 47 rfl (h+5) 5 underlying47 (by kernel_rfl) _ M rfl (by exact A.o.own) _ [255] rfl (by exact a0.o) (by have:=aN.o;simp;omega) (by exact A.o.le) ?_;intro a1 aF w1 J a5;obtain⟨e1,e2,e3⟩:=A.o.push a5 J wF (by have:=a7.o;omega);obtain⟨n1,a4⟩:=zN ((M++ [255]).length);rw[<-a4]at e2 e3 ⊢;have E2:=z7 e2;have E3:=z7 e3;obtain⟨d1,d2,d3⟩:=z0v e1;clear a4 e2 e3 J a5 e1)
    refine wpIn_region_any b6 ?_;change wpAnyIn _ _ _ _ _ _ _ _ _ (World.drew _);have aS:=z7 E2.o.drew;obtain⟨ad,rfl⟩:∃ad,aq=some ad:=by
     rcases hq.o.2 with⟨he,hz⟩|⟨bE,c2,he,_⟩
     .simp only[wO]at he;omega
     simp only[wO]at he;exact⟨bE,he.1⟩
    have aA:(q.take 254).length=254:=(by have:=U.o;simp;omega);have aY:(M++ [255]).length+(q.take 254).length<=70368744177664:=(by rw[aA];have:=aN.o;simp;omega);have bN:Hid (RdB (w1.setCell ⟨h,0,none⟩ (.slice a1 n1 aF)).drew (.slice (some ad) 254 cq) (q.take 254)):=z7 (by
     refine(hq.o.upto U.o 254 cq 254 aA.symm).keep fun j hj=>?_;have a9:=aL.o wF j hj;have bA:=a6.o.le;exact(E3.o j a9.1 a9.2.1).trans (ub wr _ _ wF))
    have bH:Hid (M++ [255]++q.take 254++part (q.drop 254)=L++part p):=z7 (by
     rw[<-hM.o,z8H (show 254<=q.length by have:=U.o;omega)];simp)
    have bO:=z7 (hq.o.rest U.o bM 254 (cq - 254) (O - 254) (by have:=U.o;simp;omega));have b8:Hid (0<O - 254->∀k,(Value.slice (if cq=254 then some ad else some ⟨ad.block,ad.off+254,none⟩) (O - 254) (cq - 254)).ownBlock=some k->k<h+5/\k≠h/\k≠h+2):=z7 fun _ k hk=>by
     rw[z3A]at hk;exact aL.o wF k hk
    have aV:Hid (∀k,k<h+5->k≠h->(w1.setCell ⟨h,0,none⟩ (.slice a1 n1 aF)).drew.heap[k]? =wr.heap[k]?):=z7 fun k h1 h2=>by
     have bA:=a6.o.le;exact(E3.o k h1 h2).trans (ub wr _ _ wF)
    clear aA;refine wpAnyIn_ready (rs:= [0,1]) (by kernel_rfl) wH ?_;refine AllReadyIn.cons rfl (fun K I=>?ga) (AllReadyIn.cons rfl (fun K I=>?gb) AllReadyIn.nil)
    case' ga=>(go_simp;refine I _ _ ?_;clear I K;refine wpAnyIn_ready (rs:= [1]) (by kernel_rfl) wH ?_;refine AllReadyIn.cons rfl (fun K I=>?_) AllReadyIn.nil;go_simp;refine I _ _ ?_;clear I K;refine wpAnyIn_ready (rs:= [2]) (by kernel_rfl) wH ?_;refine AllReadyIn.cons rfl (fun K I=>?_) AllReadyIn.nil;go_simp;refine I _ _ ?_;clear I K)
    case' gb=>(go_simp;refine I _ _ ?_;clear I K;refine wpAnyIn_ready (rs:= [0,2]) (by kernel_rfl) wH ?_;refine AllReadyIn.cons rfl (fun K I=>?ge) (AllReadyIn.cons rfl (fun K I=>?gf) AllReadyIn.nil);(case' ge=>(go_simp;refine I _ _ ?_;clear I K;refine wpAnyIn_ready (rs:= [2]) (by kernel_rfl) wH ?_;refine AllReadyIn.cons rfl (fun K I=>?_) AllReadyIn.nil;go_simp;refine I _ _ ?_;clear I K));(case' gf=>(go_simp;refine I _ _ ?_;clear I K;refine wpAnyIn_ready (rs:= [0]) (by kernel_rfl) wH ?_;refine AllReadyIn.cons rfl (fun K I=>?_) AllReadyIn.nil;go_simp;refine I _ _ ?_;clear I K)))
    all_goals (
     refine wpAnyIn_ready (rs:= [3]) (by kernel_rfl) wH ?_;refine AllReadyIn.cons rfl (fun K I=>y0L rfl _ _ 47 rfl (h+5) 5 underlying47 (by kernel_rfl) _ (M++ [255]) rfl (by exact aS.o.own) _ (q.take 254) rfl (by exact bN.o) aY (by exact aS.o.le) ?_) AllReadyIn.nil;intro a2 bF w2 Y aH;obtain⟨aG,a8,aC⟩:=aS.o.push aH Y wF (by have:=a7.o;omega);obtain⟨n2,aJ⟩:=zN ((M++ [255]++q.take 254).length);rw[<-aJ]at a8 aC ⊢;obtain⟨i1,i2,i3⟩:=z0v aG;have E4:=z7 a8;have E5:=z7 aC;clear aJ a8 aC Y aH aG;refine I _ _ ?_;clear I K;refine wpAnyIn_ready (rs:= [4]) (by kernel_rfl) wH ?_;refine AllReadyIn.cons rfl (fun K I=>?_) AllReadyIn.nil;go_simp;refine I _ _ ?_;clear I K;refine wpAnyIn_done (by kernel_rfl) ?_ _
     gi_wp2
     go_roundw
     case rel=>
      exact⟨q.drop 254,M++ [255]++q.take 254,(if cq=254 then some ad else some ⟨ad.block,ad.off+254,none⟩),O - 254,cq - 254,_,rfl,wF,wF,z7 (by have:=U.o;simp;omega),bH,E4,z7 (bO.o.keep fun j hj=>by
       have b4:=hj;rw[z3A]at b4;have a9:=aL.o wF j b4;exact(E5.o j a9.1 a9.2.1).trans (aV.o j a9.1 a9.2.1)),b8⟩
     case measure=>simp<;>omega)
   have b1:¬((254:Int)<=(O:Int)):=wF;have b7:O+1<256:=wF;clear b6;have a0:Hid (RdB (wr.alloc (.cells #[.int .u8 ((O:Int)+1)] 5)) (.slice (some ⟨wr.heap.size,0,none⟩) 1 1) [UInt8.ofNat (O+1)]):=z7 (by
    have h1:=z3t wr #[.int .u8 ((O:Int)+1)] 5 1 1 wG rfl;have h2:z0c [UInt8.ofNat (O+1)]= [.int .u8 ((O:Int)+1)]:=by
     simp only[z0c,uI,pQ];rw[z6q b7];rfl
    show Rd _ _ 1 1 (z0c [UInt8.ofNat (O+1)]);rw[h2];exact h1)
   have A:=z7 (a6.o.alloc #[.int .u8 ((O:Int)+1)] 5);have bR:Hid (RdB (wr.alloc (.cells #[.int .u8 ((O:Int)+1)] 5)) (.slice aq O cq) q):=z7 (hq.o.alloc _);clear aU
   gi_wp2_with (first
    | (gi_at_builtin;(refine z3n rfl _ _ 47 rfl (h+5) 5 underlying47 (by kernel_rfl) _ M rfl (by exact A.o.own) _ [UInt8.ofNat (O+1)] rfl (by exact a0.o) (by have:=aN.o;simp;omega) (by exact A.o.le) ?_;intro a1 aF w1 J a5;obtain⟨e1,e2,e3⟩:=A.o.push a5 J wF (by have:=a7.o;omega);have b9:=z7 (bR.o.keep0 fun h0 j hj=>e3 j (aL.o (by have:=U.o;omega) j hj).1 (aL.o (by have:=U.o;omega) j hj).2.1);obtain⟨n1,a4⟩:=zN ((M++ [UInt8.ofNat (O+1)]).length);rw[<-a4]at e2 e3 b9 ⊢;have E2:=z7 e2;obtain⟨d1,d2,d3⟩:=z0v e1;clear a4 e2 e3 J a5 e1 A a0))
    | (gi_at_builtin;refine z3n rfl _ _ 47 rfl (h+5) 5 underlying47 (by kernel_rfl) _ (M++ [UInt8.ofNat (O+1)]) rfl (by exact E2.o.own) _ q rfl (by exact b9.o) (by have:=aN.o;have:=U.o;simp;omega) (by exact E2.o.le) ?_;intro a2 bF w2 Y aH;obtain⟨aG,a8,aC⟩:=E2.o.push aH Y wF (by have:=a7.o;omega);obtain⟨n2,aJ⟩:=zN ((M++ [UInt8.ofNat (O+1)]++q).length);rw[<-aJ]at a8 aC ⊢;have E4:=z7 a8;obtain⟨i1,i2,i3⟩:=z0v aG;clear aJ a8 aC Y aH aG))
   have E:=E4.o;refine⟨by rw[a7.o];exact E.kf,E.kp,⟨_,E.box,?_,E.chg⟩⟩;have aB:M++ [UInt8.ofNat (O+1)]++q=stL (aO++ [(.slice ax p.length p.length,p)]):=by
    rw[q2x,<-HL.o];show _=L++part p;rw[<-hM.o,z7x (show q.length<254 by have:=U.o;omega),U.o];simp
   rw[<-aB];exact E.own
 case done=>
  rintro D xs W hD hS ⟨v,c1,R,N⟩ I;have b0:stL xs=z6p b:=by unfold stL z6p;rw[hS]
  rw[b0]at R;obtain⟨L,hL⟩:=zN (z6p b);rw[<-hL]at R;have b3:L.length<=1100000:=by
   have h1:=z4u b;unfold z0A at h1;rw[wP,<-hL]at h1;omega
  obtain⟨f1,f2,f3⟩:=z0v c1;obtain⟨av,cv,rfl⟩:=(z0d R).head;have b5:h+5<=W.heap.size:=by have:=N.size;omega
  have a6:Hid (StV (h+5) h (h+2) W5 W (.slice av L.length cv) L W):=z7 ⟨c1,R,N,KeepsFrom.refl _ _,⟨wJ _,fun _ _ _=>rfl⟩,b5⟩;have a0:=z7 (z3t W #[.int .u8 0] 5 1 1 wG rfl);have A:=z7 (a6.o.alloc #[.int .u8 0] 5);have HL:=z7 hL;have bB:=z7 b3;have HK:=z7 I;have bG:=(wI.1 I).1;clear hh aM hL b3 aZ aI aX hc hx aD hS b0 R I
  gi_wp2_with (gi_at_builtin;(refine z3n rfl _ _ 47 rfl (h+5) 5 underlying47 (by kernel_rfl) _ L rfl (by exact A.o.own) _ [0] rfl (by exact a0.o) (by have:=bB.o;simp;omega) (by exact A.o.le) ?_;intro a1 aF w1 J a5;obtain⟨n1,a4⟩:=zN ((L++ [0]).length);rw[<-a4];have N1:=z7 a4;have HO:=z7 J;have HG:Hid ((W.alloc (.cells #[.int .u8 0] 5)).grownBy w1 (Value.slice av L.length cv).ownBlock):=z7 a5;clear a4 J a5))
  have aR:∀k,k<W.heap.size->k<h+5\/k=D->w1.heap[k]? =W.heap[k]? :=fun k hk bJ=>by
   refine(HG.o.block k (by simp;omega) fun e=>?_).trans (ub W _ k hk);rcases bJ with h1|h1
   .have:=A.o.far k e.symm;omega
   subst h1;rcases A.o.own.2 with⟨e2,_⟩|⟨g,bU,bV,e2,_,bI,_⟩
   .rw[e2]at e;cases e
   have e3:=(ub W (.cells #[.int .u8 0] 5) k hk).trans HK.o;rw[e2]at e;obtain rfl:k=g:=by simpa[Value.ownBlock]using e
   rw[bI]at e3;cases e3
  have aW:=(aR D bG (.inr rfl)).trans HK.o;refine⟨wH,.inl ⟨_,_,rfl,run_takeDeferred aW,?_⟩⟩;have aB:L++ [0]=z0A b:=by rw[HL.o];rfl
  refine⟨_,results_tmp rfl _ _ _,a1,aF,?_,?_,?_⟩
  .rw[<-aB,<-N1.o];rfl
  .rw[<-aB,<-HH.o];exact z0f (ownsRow_putObj HO.o _ aW rfl) wF
  rw[<-HH.o];have hg:=HG.o;have bZ:=a7.o;refine⟨hg.os.trans (N.os.trans aE.os),hg.tape.trans (N.tape.trans aE.tape),hg.output.trans (N.output.trans aE.output),?_,fun k hk=>?_⟩
  .have h1:=hg.size;have h3:=aE.size;simp at h1 ⊢;omega
  have hd:k≠D:=wF;refine(World.putObj_heap_other hd).trans ((aR k wF (.inl wF)).trans ((N.block k wF ?_).trans (aE.block k hk)));simp;omega

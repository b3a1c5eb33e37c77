/- The walk of a receiver's hello. -/
import Derived.Test.YtabnnclcpkdkeaaGreatDoorZn
import Derived.Test.YtabnnclcpkdkeaaGreatDoorZr
import Derived.Test.YtabnnclcpkdkeaaGreatDoorZp
namespace Go.Proofs.YtabnnclcpkdkeaaGreatDoor
open Go.Proofs.Tryz
set_option linter.all false
set_option maxRecDepth 100000
set_option maxHeartbeats 0
open Go.RowKit Go.Maps
theorem z6h{w:World}{B e I g n c:Nat}{N:List Value}(h:w.ownsRow B e I (.slice (some ⟨g,0,none⟩) n c) n N){j:Nat}{v:Value}(R:N[j]? =some v):w.cell? ⟨g,j,none⟩=some v:=by
 rcases(z0d h).2 with⟨J, -⟩|⟨U,Y,J,O⟩
 .cases J
 rw[wO]at J;have L:=O j v R;rw[<-um J.1]at L;have A:(⟨g,0,none⟩:Addr).add j=⟨g,j,none⟩:=by unfold Addr.add;split<;>simp_all
 rwa [A]at L
structure z5h (B N:Nat) (w:World) (g:Nat) (xs:List FrC) (k:Nat):Prop where
 blk:∃cur,w.heap[g]? =some (.cells cur 51 (0,0))/\∀(j:Nat) (x:FrC),k<=j->xs[j]? =some x->∀(t:Nat) (v:Value),x.cells[t]? =some v->cur[j*11+t]? =some v
 rng:B<=g/\g<N
 row:∀x∈xs,w.ownsRow B 5 1 (.slice x.a x.b.length x.c) x.b.length (z0c x.b)
 far:∀x∈xs,∀b,(Value.slice x.a x.b.length x.c).ownBlock=some b->b<N/\b≠g
theorem z5h.start{w:World}{B g n c:Nat}{N:List FrC}(h:z2H w B (some ⟨g,0,none⟩) n c N):z5h B w.heap.size w g N 0:=by
 have L:=h.row.lt g rfl;refine⟨?_,L,fun x J=>(h.each x J).row,fun x J b hb=>⟨((h.each x J).row.lt b hb).2,fun e=>?_⟩⟩
 .rcases h.row.2 with⟨I,e2⟩|⟨g',a0,A,I,e2,O, -⟩
  .simp at I
  rw[wO]at I;have R:=um I.1;simp only[oh,dc]at R;subst R;refine⟨A,O,fun j x _ hj t v Y=>?_⟩;have ht:t<11:=by
   have h9:=(wY.1 Y).1;have:=x.cells_len;omega
  have U:=z6h h.row (by rw[z6B FrC.cells 11 FrC.cells_len N j x hj t ht];exact Y);rw[pT w g (j*11+t) A _ (0,0) O]at U;exact U
 exact z5n (h.each x J).row h.row wG hb (by rw[e];rfl)
theorem z5h.keep{B N:Nat}{w w':World}{g k:Nat}{L:List FrC}(h:z5h B N w g L k)(J:∀b,B<=b->b<N->w'.heap[b]? =w.heap[b]?):z5h B N w' g L k:=by
 obtain⟨A,O,R⟩:=h.blk;exact⟨⟨A,(J g h.rng.1 h.rng.2).trans O,R⟩,h.rng,fun x I=>j7 (h.row x I) fun b hb=>J b ((h.row x I).lt b hb).1 (h.far x I b hb).1,h.far⟩
theorem z5h.set{B N:Nat}{w:World}{g k:Nat}{R:List FrC}(h:z5h B N w g R k){x:FrC}(hx:R[k]? =some x)(u:Value):
  z5h B N (w.setCell ⟨g,k*11,none⟩ u) g R (k+1)/\(w.setCell ⟨g,k*11,none⟩ u).cell? ⟨g,k*11,none⟩=some u/\∀(t:Nat) (v:Value),0<t->x.cells[t]? =some v->(w.setCell ⟨g,k*11,none⟩ u).cell? ⟨g,k*11+t,none⟩=some v:=by
 obtain⟨J,h1,Y⟩:=h.blk;have L:=z0a h1 (k*11) u;have U:=Y k x wE hx;have O:k*11<J.size:=by
  obtain⟨v,A⟩:∃v,x.cells[0]? =some v:=⟨_,wL (by rw[x.cells_len];omega)⟩;have:=(wI.1 (U 0 v A)).1;omega
 refine⟨⟨⟨_,L,fun j y hj I t v A=>?_⟩,h.rng,fun y I=>j7 (h.row y I) fun b hb=>q7 (h.far y I b hb).2,h.far⟩,?_,fun t v ht A=>?_⟩
 .rw[mh wF];exact Y j y wF I t v A
 .rw[pT _ g (k*11) _ _ (0,0) L,Array.getElem?_setIfInBounds_self_of_lt O]
 rw[pT _ g (k*11+t) _ _ (0,0) L,mh wF];exact U t v A
theorem z5h.now{B N:Nat}{w:World}{g k:Nat}{I:List FrC}(h:z5h B N w g I k){x:FrC}(R:I[k]? =some x):g<w.heap.size/\(∀j,w.frozen? ⟨g,j,none⟩=false)/\∀(t:Nat) (v:Value),x.cells[t]? =some v->w.cell? ⟨g,k*11+t,none⟩=some v:=by
 obtain⟨J,A,L⟩:=h.blk;exact⟨(wI.1 A).1,z0y A,fun t v O=>by rw[pT _ g (k*11+t) _ _ (0,0) A];exact L k x wE R t v O⟩
theorem q0l:(prog.underlying 79).map z6N=some true:=by kernel_rfl
theorem y6n:(prog.info? 79).map (·.size)=some 2:=by kernel_rfl
theorem y3s{o:Oper}{w:World}{ρ:Operand->Value}(x y:Operand)(L:TypeId)(A:o.op= .binOp .neq 79 x y L)(p q:Int)(I:ρ x= .agg #[.int .i64 p,.int .u64 q])(J:ρ y= .agg #[.int .i64 p,.int .u64 q]):
  (execOp ρ o).run prog w= .ok (.value (.bool false)) w:=by
 unfold execOp;simp only[A,I,J];simp[go_sem]
theorem q3g(A:List z1m)(i:Nat)(s:z1m)(h:A[i]? =some s):∀(j:Nat) (v:Value),(#[.int .i64 s.t,.int .u64 (s.v:Nat)]:Array Value)[j]? =some v->(z1b A)[i*2+j]? =some v:=fun j v J=>by
 have I:j<2:=(wI.1 J).1;unfold z1b;rw[z6B (fun s:z1m=> [.int .i64 s.t,.int .u64 (s.v:Nat)]) 2 (fun _=>rfl) A i s h j I];rw[<-J]
 match j,I with
 | 0,_=>rfl
 | 1,_=>rfl
theorem q6F(a b:Option Addr)(n c d B1 B2:Nat)(N:List z1m)(hn:n=N.length)(a4:n<=1000000000)(w:World)(h1:w.ownsRow B1 79 2 (.slice a n c) n (z1b N))(h2:w.ownsRow B2 79 2 (.slice b n d) n (z1b N)):
  Calls prog 17 #[.slice a n c,.slice b n d] w fun e w'=>e= .returned (.bool true)/\Below w.heap.size w w':=by
 have H1:=z7 h1;have H2:=z7 h2;have HN:=z7 hn;clear h1 h2 hn;have d0:((n:Int) !=(n:Int))=false:=wH
 go_enter func17,ntmps17;go_wp2;go_loopw[5] (fun iv wr=>∃i:Nat,iv= .int .i64 i/\i<=n/\Hid (Below w.heap.size w wr)) (fun iv _=>match iv with | .int _ y=>n - y.toNat|_=>0)
 case atStart=>exact⟨0,rfl,uA _,z7 wD⟩
 case round=>
  obtain⟨i,rfl,hi,A⟩:=hrel;by_cases a2:i<n
  .have a5:IntKind.i64.wrap ((i:Int)+1)=((i+1:Nat):Int):=z0l wF wF;have d1:decide ((i:Int)<(n:Int))=true:=hQ;have a3:(0:Int)<=i/\(i:Int)<n:=wF;obtain⟨⟨p,q⟩,hs⟩:∃s,N[i]? =some s:=⟨_,wL (by have:=HN.o;omega)⟩;obtain⟨g,a1,L, -⟩:=z2b H1.o (fun e=>by simp only[wO]at e;omega);simp only[wO,oP]at L;obtain⟨rfl, -⟩:=L;obtain⟨k,a0,O, -⟩:=z2b H2.o (fun e=>by simp only[wO]at e;omega);simp only[wO,oP]at O;obtain⟨rfl, -⟩:=O;have U:=z7 (fun w' (hb:Below wr.heap.size wr w') (j:Nat) (v:Value) (L:(#[.int .i64 p,.int .u64 q]:Array Value)[j]? =some v)=>z6h (ownsRow_below H1.o (A.o.trans (hb.mono A.o.size)) wE) (q3g N i ⟨p,q⟩ hs j v L));have Y:=z7 (fun w' (hb:Below wr.heap.size wr w') (j:Nat) (v:Value) (L:(#[.int .i64 p,.int .u64 q]:Array Value)[j]? =some v)=>z6h (ownsRow_below H2.o (A.o.trans (hb.mono A.o.size)) wE) (q3g N i ⟨p,q⟩ hs j v L));clear hs;go_wp2_with fail;refine q6 9 26 (fun D v w'=>Below wr.heap.size wr w') wD.drew ?_;simp only[z0C];iterate 3 (refine q8.rd ?_ (fun D v w' J I=>?_) ?_;rotate_left;(clear I J;go_simp;try rfl);go_simp)
   refine q8.rl (.agg #[.int .i64 p,.int .u64 q]) (fun D v w h=>h) (fun D v w' J I=>z1E _ _ rfl g (i*2) rfl _ (U.o w' I) q0l y6n) ?_;go_simp;iterate 3 (refine q8.rd ?_ (fun D v w' J I=>?_) ?_;rotate_left;(clear I J;go_simp;try rfl);go_simp)
   refine q8.rl (.agg #[.int .i64 p,.int .u64 q]) (fun D v w h=>h) (fun D v w' J I=>z1E _ _ rfl k (i*2) rfl _ (Y.o w' I) q0l y6n) ?_;go_simp;refine q8.rl (.bool false) (fun D v w h=>h) (fun D v w' J I=>y3s _ _ _ rfl p (q:Nat) rfl rfl) ?_;go_simp;refine q8.fin (fun v w5 I=>?_);have R:=z7 (A.o.trans (I.mono A.o.size));clear I;go_wp2;exact⟨⟨i+1,rfl,wF,R⟩,by show n - ((i+1:Nat):Int).toNat<n - (i:Int).toNat;omega⟩
  have d1:decide ((i:Int)<(n:Int))=false:=wC;go_wp2;go_ret;exact⟨rfl,A.o⟩
def q7x(W2 wr:World)(V:Nat->Prop)(kb kbb sb:Nat)(ab:z0h)(ids:List Nat)(i n:Nat):Prop:=
 Below W2.heap.size W2 wr/\∃kbk s U,y0J wr kb kbb sb kbk 0 s U/\(∀x,U x->V x)/\z4I ab kbk ids i n/\s.room=1048576/\s.left=none/\s.has z1A=true/\s.used<=480*(42*i+n)
theorem y0J.low{w w':World}{I A J:Nat}{b:z0h}{ep:Nat}{s:FsS}{U:Nat->Prop}(h:y0J w I A J b ep s U)(hb:Below w.heap.size w w'):y0J w' I A J b ep s U:=by
 obtain⟨O,R,N,B,E,S,F,L,e⟩:=h;exact⟨O,R,N,B,E,S,F,L.low hb,e⟩
theorem y0J.lt{w:World}{L A N:Nat}{b:z0h}{ep:Nat}{s:FsS}{U:Nat->Prop}(h:y0J w L A N b ep s U){x:Nat}(J:U x):x<w.heap.size:=by
 obtain⟨R,Y,O,B,E,S,F,I,rfl⟩:=h;exact I.lt J
theorem q7x.low{L wr w':World}{V:Nat->Prop}{R I Y:Nat}{N:z0h}{A:List Nat}{i n:Nat}(h:q7x L wr V R I Y N A i n)(hb:Below wr.heap.size wr w'):q7x L w' V R I Y N A i n:=by
 obtain⟨O,J,s,U,hK,h2⟩:=h;exact⟨O.trans (hb.mono O.size),J,s,U,hK.low hb,h2⟩
theorem KIn.other{w w':World}{L N bb O mb sb B:Nat}{E:List (Int×z0I)}{S:Nat->Prop}{F:List Nat}{b:z0h}{ep:Nat}{s:FsS}(h:KIn w L N bb O mb sb B E S F b ep s){g:Nat}{R:Array Value}(I:z0n (fun x=>x=g) w w')(hg:w.heap[g]? =some (.cells R 51 (0,0)))(hu:¬KU N S F g)(hd:g≠0):KIn w' L N bb O mb sb B E S F b ep s:=by
 have U:L≠g:=fun e=>by
  have A:=h.k;unfold z2W at A;rw[e,hg]at A;simp at A
 have Y:O≠g:=fun e=>by
  have A:=h.t;unfold z3F at A;rw[e,hg]at A;simp at A
 exact⟨(I.block L h.k.lt U).trans h.k,(I.block N h.r.lt (fun e=>hu (.inl e.symm))).trans h.r,h.bk.only I (fun k J e=>hu (.inr (.inl (e▸J)))),(I.block O h.t.lt Y).trans h.t,h.fs.same (fun k J=>I.block k (h.fs.lt k J) (fun e=>hu (.inr (.inr (e▸J))))) I.size,h.ok,h.db.only I (fun e=>hd e.symm),h.kr,h.tr,h.kF,h.rF,h.tF,h.kS,h.rS,h.tS,h.sF,h.dr,h.dS,h.dF⟩
def q7e(W2 wr:World)(kb kbb sb:Nat)(kF:z0h):Prop:=
 Below W2.heap.size W2 wr/\∃ep s U,y0J wr kb kbb sb kF ep s U/\(∀x,U x->W2.heap.size<=x)/\ep<4294967296/\s.left=none/\s.has z1A=true
theorem q7e.low{I wr w':World}{N A O:Nat}{L:z0h}(h:q7e I wr N A O L)(hb:Below wr.heap.size wr w'):q7e I w' N A O L:=by
 obtain⟨J,ep,s,U,Y,R⟩:=h;exact⟨J.trans (hb.mono J.size),ep,s,U,Y.low hb,R⟩
structure SmS (W:World) (m n:Nat) (L:List z1m) (D:Nat->Bool) (v:Nat->Value) (w':World):Prop where
 low:Below W.heap.size W w'
 smp:D m=true->∃a c,v m= .slice a n c/\w'.ownsRow W.heap.size 79 2 (.slice a n c) n (z1b L)
theorem SmS.read{W w':World}{m n:Nat}{L:List z1m}{D:Nat->Bool}{v:Nat->Value}(h:SmS W m n L D v w')(k:Nat)(A:k≠m):SmS W m n L (mark D k) v w':=⟨h.low,by rw[q9 A];exact h.smp⟩
theorem SmS.after{W w' A:World}{m n:Nat}{L:List z1m}{D:Nat->Bool}{v:Nat->Value}(h:SmS W m n L D v w')(k:Nat)(I:k≠m)(hb:Below w'.heap.size w' A):SmS W m n L (mark D k) v A:=
 ⟨h.low.trans (hb.mono h.low.size),by
  rw[q9 I];intro J;obtain⟨a,c,e,N⟩:=h.smp J;exact⟨a,c,e,ownsRow_below N hb wE⟩⟩
def z8x(x:FrC):List Value:=(z2m (x.r.fr x.b) (.slice x.a x.b.length x.c)).toList
theorem y5S(x:FrC):(z8x x).length=12:=rfl
structure z3l (w:World) (B:Nat) (a:Option Addr) (n c:Nat) (xs:List FrC):Prop where
 row:w.ownsRow B 92 12 (.slice a n c) n (xs.flatMap z8x)
 len:n=xs.length
 each:∀x∈xs,x.Ok w B
theorem z3l.low{w w':World}{B:Nat}{a:Option Addr}{n c:Nat}{A:List FrC}(h:z3l w B a n c A)(hb:Below w.heap.size w w'):z3l w' B a n c A:=
 ⟨ownsRow_below h.row hb wE,h.len,fun x I=>(h.each x I).below hb wE⟩
theorem z3l.base{w:World}{B A:Nat}{a:Option Addr}{n c:Nat}{L:List FrC}(h:z3l w B a n c L)(I:A<=B):z3l w A a n c L:=
 ⟨z0f h.row I,h.len,fun x J=>⟨z0f (h.each x J).row I,(h.each x J).bits⟩⟩
theorem z3l.nil(w:World)(B:Nat):z3l w B none 0 0 []:=⟨uN _ _ _ _,rfl,fun x A=>by cases A⟩
theorem z3l.snoc{w w':World}{B:Nat}{a a':Option Addr}{n c c':Nat}{L:List FrC}{x:FrC}(h:z3l w B a n c L)(O:x.Ok w B)(N:w.grownBy w' (Value.slice a n c).ownBlock)(J:w'.ownsRow B 92 12 (.slice a' (n+1) c') (n+1) (L.flatMap z8x++z8x x)):z3l w' B a' (n+1) c' (L++ [x]):=by
 have I:∀y:FrC,y.Ok w B->y.Ok w' B:=fun y A=>⟨j7 A.row fun k I=>N.block k (A.row.lt k I).2 fun e=>z5n A.row h.row wG I e.symm,A.bits⟩;refine⟨by rw[uk,ij];exact J,by rw[wP,pP,h.len],fun y A=>?_⟩;rcases uB.1 A with A|A
 .exact I y (h.each y A)
 rw[uD]at A;subst A;exact I _ O
theorem z2H.grown{w w':World}{B O:Nat}{a a':Option Addr}{n c n' c':Nat}{J R:List FrC}(h:z2H w B a n c J)(N:z3l w O a' n' c' R)(L:w.grownBy w' (Value.slice a' n' c').ownBlock):z2H w' B a n c J:=
 ⟨j7 h.row fun k A=>L.block k (h.row.lt k A).2 fun e=>z5n h.row N.row wG A e.symm,h.len,fun y I=>⟨j7 (h.each y I).row fun k A=>L.block k ((h.each y I).row.lt k A).2 fun e=>z5n (h.each y I).row N.row wG A e.symm,(h.each y I).bits⟩⟩
theorem y7H{w:World}{B g n c k:Nat}{A:List FrC}{x:FrC}(h:z2H w B (some ⟨g,0,none⟩) n c A)(J:A[k]? =some x):∀(t:Nat) (v:Value),(z0b (x.r.fr x.b) (.slice x.a x.b.length x.c))[t]? =some v->w.cell? ⟨g,k*11+t,none⟩=some v:=fun t v I=>by
 have L:t<11:=(wI.1 I).1;refine z6h h.row ?_;rw[z6B FrC.cells 11 FrC.cells_len A k x J t L];show(z0b (x.r.fr x.b) (.slice x.a x.b.length x.c)).toList[t]? =_;rw[mj];exact I
theorem q1F:(prog.info? 92).map (fun i=>(i.zero,i.size,i.bytes))=some (some (.agg z1l),12,88):=by kernel_rfl
theorem z6k(id:Nat):∀(l:List (z0R×Bool)) (k:Nat),∀r∈z0z id k l,r.series=id
 | [],k,r,h=>by cases h
 | x::l,k,r,h=>by
  unfold z0z at h;split at h
  .rcases wy.1 h with rfl|h
   .rfl
   exact z6k id l (k+1) r h
  exact z6k id l (k+1) r h
def z3W(b:z0h)(i:Int):List FrL:=z1k i.toNat (j9 b i.toNat)
theorem y7z(bb mb B:Nat)(E:List (Int×z0I))(b:z0h)(S:Nat->Prop)(aA:∀id,(j9 b id).done.length<=1000000)(w:World)(h:z0w w bb mb E b B S):
  Calls prog 41 #[.pointer (some ⟨bb,0,none⟩)] w fun e w'=>∃a n c A ks,e= .returned (.slice a n c)/\z3l w' w.heap.size a n c A/\ks.Perm (E.map Prod.fst)/\A.map FrC.r=(z1K ks).flatMap (z3W b)/\Below w.heap.size w w':=by
 obtain⟨iF,cA,bL,bM,bN⟩:=oq q1F;have aX:=z7 (y3C bb mb B E b S w h);have H:=z7 h;have a9:=z7 aA;have aZ:E.length<=64:=by have:=h.few;omega
 have aB:∀p∈E,0<=p.1/\p.1<=4294967295:=fun p hp=>by
  have h9:=(h.map.mok z4S).1.2 p hp;have cJ:=wf_u32 h9;omega
 have aR:=z7 aB;clear h aA aB;go_enter func41,ntmps41;go_wp2_with fail;refine aX.o.mono ?_;rintro e w1 ⟨sa,sc,n,ks,rfl,hn,hp,a5,b4⟩;have cR:n<=64:=by rw[hn,hp.length_eq,we];exact aZ
 have O:(z1K ks).length=n:=by rw[hn];unfold z1K;exact mm ks
 obtain⟨ss,a8⟩:=zN (z1K ks);rw[<-a8]at a5 O;have a3:∀k∈ss,0<=k/\k<=4294967295:=fun k hk=>by
  have h1:k∈ks:=by rw[a8]at hk;unfold z1K at hk;exact(gq ks _).mem_iff.1 hk
  obtain⟨p,cB,rfl⟩:=uC.1 (hp.mem_iff.1 h1);exact aR.o p cB
 have HK:=z7 a3;have aV:=z7 a5;have a0:=z7 b4;have aS:=z7 O;have aG:=z7 hp;have bV:=z7 a8;clear a3 a5 b4 hn hp a8 O;go_wp2_with fail;go_loopw[3,11] (fun ov kv wr=>∃(k m:Nat) (a:Option Addr) (c:Nat),ov= .slice a m c/\kv= .int .i64 (k:Nat)/\k<=n/\m<=k*1000001/\Hid (∃A,z3l wr w1.heap.size a m c A/\A.map FrC.r=(ss.take k).flatMap (z3W b))/\Hid (Below w1.heap.size w1 wr)) (fun _ kv _=>match kv with | .int _ y=>n - y.toNat|_=>0)
 case atStart=>exact⟨0,0,none,0,rfl,rfl,uA _,uA _,z7 ⟨[],z3l.nil _ _,rfl⟩,z7 wD⟩
 case round=>
  obtain⟨k,m,a,c,rfl,rfl,hk,hm,hL,I⟩:=hrel;have cT:IntKind.i64.wrap ((k:Int)+1)=((k+1:Nat):Int):=z0l wF wF;by_cases cN:k<n
  .have d1:decide ((k:Int)<(n:Int))=true:=hQ;have O:k<ss.length:=(by have:=aS.o;omega);obtain⟨id,aI⟩:∃id:Nat,ss[k]=(id:Int):=⟨ss[k].toNat,by have:=(HK.o _ (ug O)).1;omega⟩;have aJ:id<4294967296:=(by have:=(HK.o _ (ug O)).2;omega);have b3:Below w.heap.size w wr:=a0.o.trans (I.o.mono a0.o.size);have a7:=ownsRow_below aV.o I.o wE;obtain⟨g0,cF,bF, -⟩:=z2b a7 (fun e=>by simp only[wO]at e;omega);simp only[wO,oP]at bF;obtain⟨rfl, -⟩:=bF;have c7:wr.cell? ⟨g0,k,none⟩=some (.int .u32 (id:Nat)):=z6h a7 (by rw[uF,wL O,aI];rfl);have cE:=(a7.lt g0 rfl).2;have b9:(0:Int)<=k/\(k:Int)<n:=wF;have b7:z3W b ss[k]=z1k id (j9 b id):=(by unfold z3W;rw[aI];rfl);have bE:(ss.take (k+1)).flatMap (z3W b)=(ss.take k).flatMap (z3W b)++z1k id (j9 b id):=(by rw[y0O (z3W b) ss k ss[k] (wL O),b7]);have bX:=z7 bE;have aO:=z7 (y4D bb mb B E b S id aJ (by have:=a9.o id;omega) wr (H.o.low b3));have b5:=z8z id (j9 b id).parts 0;rw[z0T.parts_len]at b5;have b6:=a9.o id;obtain⟨N,hN⟩:=zN ((z1k id (j9 b id)).length);have cL:N<=1000001:=(by rw[hN];unfold z1k;omega);have HN:=z7 hN;clear b3 a7 b7 bE b5 b6 hN aI O;go_wp2_with fail;refine aO.o.mono ?_;rintro e w2 ⟨ca,cn,cc,fs,rfl,J,a4,aH⟩;have c9:cn=N:=by
    have h9:=uS List.length a4;rw[we]at h9;have:=J.len;have:=HN.o;omega
   subst c9;have aU:=z7 (J.base I.o.size);have aT:=z7 a4;have cG:=(z0Q J.row).2;have c8:=(z0Q J.row).1;have aF:=z7 (I.o.trans (aH.mono I.o.size));have bS:Hid (∃A,z3l w2 w1.heap.size a m c A/\A.map FrC.r=(ss.take k).flatMap (z3W b)++(z1k id (j9 b id)).take 0):=z7 (by
    obtain⟨A,h1,h2⟩:=hL.o;exact⟨A,h1.low aH,by rw[h2,iK,ue]⟩)
   have bO:=z7 J.len;clear J a4 aH c7 cE b9 hL aO;go_wp2_with fail;go_loopw[3,19] (fun ov jv wr=>∃(j m':Nat) (a':Option Addr) (c':Nat),ov= .slice a' m' c'/\jv= .int .i64 j/\j<=cn/\m'<=m+j/\Hid (∃A,z3l wr w1.heap.size a' m' c' A/\A.map FrC.r=(ss.take k).flatMap (z3W b)++(z1k id (j9 b id)).take j)/\Hid (z2H wr w1.heap.size ca cn cc fs)/\Hid (Below w1.heap.size w1 wr)) (fun _ jv _=>match jv with | .int _ y=>cn - y.toNat|_=>0)
   case atStart=>exact⟨0,m,a,c,rfl,rfl,uA _,wJ _,bS,aU,aF⟩
   case round=>
    obtain⟨j,m',a',c',rfl,rfl,hj,cO,aW,aD,R⟩:=hrel;have cS:IntKind.i64.wrap ((j:Int)+1)=((j+1:Nat):Int):=z0l wF wF;by_cases cM:j<cn
    .have d2:decide ((j:Int)<(cn:Int))=true:=hQ;have b9:(0:Int)<=j/\(j:Int)<cn:=wF;have U:=aD.o;obtain⟨x,hx⟩:∃x,fs[j]? =some x:=⟨_,wL (by have:=bO.o;omega)⟩;obtain⟨g,cH,hv, -⟩:=z2b U.row (fun e=>by simp only[wO]at e;omega);simp only[wO,oP]at hv;obtain⟨rfl, -⟩:=hv;have L:=y7H U hx;have bI:=wX hx;have bJ:=U.each x bI;have aM:(z1k id (j9 b id))[j]? =some x.r:=(by rw[<-aT.o,uF,hx];rfl);have bC:x.r.series=id:=z6k id _ 0 _ (wX aM);obtain⟨⟨kd,ep,sr,⟨p1,p2,p3⟩,ct,cd,sm,bl⟩,xa,xc,xb⟩:=x;simp only at bC;subst bC;obtain⟨xn,aL⟩:=zN xb.length;have hC:z0b ((⟨kd,ep,sr,(p1,p2,p3),ct,cd,sm,bl⟩:FrL).fr xb) (.slice xa xb.length xc)= #[.int .u8 kd,.int .u32 ep,.int .u32 sr,.int .u32 p1,.int .u32 p2,.int .u32 p3,.int .u32 ct,.bool cd,.int .u64 sm,.slice xa xn xc,.int .i64 (bl.length:Nat)]:=(by rw[aL];rfl);have b1:z8x ⟨⟨kd,ep,sr,(p1,p2,p3),ct,cd,sm,bl⟩,xa,xc,xb⟩= [.int .u8 4,.int .u32 0,.int .u32 sr,.int .i64 0,.int .u64 0,.int .u32 p1,.int .u32 p2,.int .u32 p3,.int .u32 ct,.bool cd,.slice xa xn xc,.int .i64 (bl.length:Nat)]:=by rw[aL];rfl
     simp only at L;rw[hC]at L;have aC:=z7 L;have bD:=z7 bJ;have bW:=z7 aM;have bT:=z7 b1;obtain⟨W3,b2,b0⟩:=((Loc.start wr).new (.cells #[.int .u8 kd,.int .u32 ep,.int .u32 sr,.int .u32 p1,.int .u32 p2,.int .u32 p3,.int .u32 ct,.bool cd,.int .u64 sm,.slice xa xn xc,.int .i64 (bl.length:Nat)] 51)).named;have a6:=z7 b0;have bY:=z7 b2;clear U hx L bI bJ aM hC b1 aL b0 b2;go_upto_region 8 with(first|refine z0u rfl 51 _ rfl g (j*11) rfl _ aC.o z1R z0D ?_|(refine z0e rfl 51 _ _ rfl wr.heap.size 0 rfl #[.int .u8 kd,.int .u32 ep,.int .u32 sr,.int .u32 p1,.int .u32 p2,.int .u32 p3,.int .u32 ct,.bool cd,.int .u64 sm,.slice xa xn xc,.int .i64 (bl.length:Nat)] rfl (by exact z0B (j8 wr _) (n:=11) rfl) (by exact z0y (j8 wr _)) z0D (by simp[Value.oneCell']) ?_;rw[z3m _ _ _ _ (by rfl)]))
     refine z0s bY.o ?_;obtain⟨f0,f1,f2,f3,f4,f5,f6,f7,f8,f9,cI,ff⟩:=z0t (a6.o.get 0 rfl);have lf:=a6.o.lt 0 rfl;obtain⟨A,bG,bH⟩:=aW.o;have a1:Below wr.heap.size wr (W3.alloc (.cells #[.int .u8 4,.int .u32 0,.int .u32 sr,.int .i64 0,.int .u64 0,.int .u32 p1,.int .u32 p2,.int .u32 p3,.int .u32 ct,.bool cd,.slice xa xn xc,.int .i64 (bl.length:Nat)] 92)):=a6.o.low.trans ((q5 _ _).mono a6.o.low.size);have Y:=z7 (bG.low a1);have bR:=z7 (aD.o.low a1);have bZ:=z7 bH;have aY:Hid (Rd (W3.alloc (.cells #[.int .u8 4,.int .u32 0,.int .u32 sr,.int .i64 0,.int .u64 0,.int .u32 p1,.int .u32 p2,.int .u32 p3,.int .u32 ct,.bool cd,.slice xa xn xc,.int .i64 (bl.length:Nat)] 92)) (.slice (some ⟨W3.heap.size,0,none⟩) 1 1) 12 1 [.int .u8 4,.int .u32 0,.int .u32 sr,.int .i64 0,.int .u64 0,.int .u32 p1,.int .u32 p2,.int .u32 p3,.int .u32 ct,.bool cd,.slice xa xn xc,.int .i64 (bl.length:Nat)]):=z7 (z3t _ _ _ 1 12 wG rfl);have a2:w1.heap.size<=(W3.alloc (.cells #[.int .u8 4,.int .u32 0,.int .u32 sr,.int .i64 0,.int .u64 0,.int .u32 p1,.int .u32 p2,.int .u32 p3,.int .u32 ct,.bool cd,.slice xa xn xc,.int .i64 (bl.length:Nat)] 92)).heap.size:=by have:=a1.size;have:=R.o.size;omega
     have aN:=z7 a1;clear bG bH a1;go_wp2_with (at_builtin;refine z1I rfl _ _ 126 rfl w1.heap.size 92 iF _ 12 88 underlying126 cA bL bM bN rfl wG a' m' c' _ rfl Y.o.row _ 1 _ rfl aY.o wG (by simp[Value.oneCell']) (by unfold maxLen;omega) wF a2 ?_;intro g6 c6 w6 h6 b8 cC;have bU:=z7 h6;have aE:=z7 b8;clear h6 b8 cC);refine⟨⟨j+1,m'+1,some ⟨g6,0,none⟩,c6,rfl,rfl,wF,wF,z7 ⟨A++ [⟨⟨kd,ep,sr,(p1,p2,p3),ct,cd,sm,bl⟩,xa,xc,xb⟩],?_,?_⟩,z7 ?_,z7 ?_⟩,by show cn - ((j+1:Nat):Int).toNat<cn - (j:Int).toNat;omega⟩
     .exact Y.o.snoc (FrC.Ok.below bD.o aN.o wE) aE.o (by rw[bT.o];exact bU.o)
     .rw[uV,bZ.o,uG,bW.o,wj];rfl
     .exact bR.o.grown Y.o aE.o
     have h9:=R.o.trans (aN.o.mono R.o.size);exact h9.grown aE.o a2 fun k hk=>(Y.o.row.lt k hk).1
    have d2:decide ((j:Int)<(cn:Int))=false:=wC;have bA:j=cn:=wF;subst bA;have c5:Hid (∃A,z3l wr w1.heap.size a' m' c' A/\A.map FrC.r=(ss.take (k+1)).flatMap (z3W b)):=z7 (by
     obtain⟨A,h1,h2⟩:=aW.o;refine⟨A,h1,?_⟩;rw[h2,bX.o]
     congr 1
     exact wt (by have:=HN.o;omega))
    go_wp2;exact⟨⟨k+1,m',a',c',rfl,rfl,wF,wF,c5,R⟩,by show n - ((k+1:Nat):Int).toNat<n - (k:Int).toNat;omega⟩
  have d1:decide ((k:Int)<(n:Int))=false:=wC;have bB:k=n:=wF;subst bB;go_wp2;go_ret;obtain⟨A,h1,h2⟩:=hL.o;rw[wt (by have:=aS.o;omega),bV.o]at h2;exact⟨a,m,c,A,ks,rfl,h1.base a0.o.size,aG.o,h2,a0.o.trans (I.o.mono a0.o.size)⟩
def ntB(x:FrC):List UInt8:=z2i (x.r.fr x.b) x.r.bits
theorem z7Q(id:Nat):∀(l:List (z0R×Bool)) (k:Nat),∀r∈z0z id k l,∃j y,y∈l/\0<y.1.st.length/\k<=j/\j<k+l.length/\r=z4p id j y
 | [],k,r,h=>by cases h
 | x::l,k,r,h=>by
  unfold z0z at h;have next:r∈z0z id (k+1) l->∃j y,y∈x::l/\0<y.1.st.length/\k<=j/\j<k+(x::l).length/\r=z4p id j y:=fun h=>by
   obtain⟨j,y,I,J,N,O,L⟩:=z7Q id l (k+1) r h;exact⟨j,y,uJ _ I,J,wF,by rw[wW];omega,L⟩
  split at h
  .rename_i A;rcases wy.1 h with rfl|h
   .exact⟨k,x,uK,A,wJ _,by rw[wW];omega,rfl⟩
   exact next h
  exact next h
theorem y5R{b:z0h}(Y:∀id,(j9 b id).Ok){I:List Int}(A:∀i∈I,0<=i/\i<=4294967295){r:FrL}(h:r∈I.flatMap (z3W b)):∃(id j:Nat) (y:z0R×Bool),id<4294967296/\y.1.Ok/\0<y.1.st.length/\j<=(j9 b id).done.length/\r=z4p id j y:=by
 obtain⟨i,R,U⟩:=gz.1 h;obtain⟨j,y,J,L,h3,N,O⟩:=z7Q i.toNat _ 0 r U;rw[z0T.parts_len]at N;have:=A i R;exact⟨i.toNat,j,y,wF,z0T.parts_small (Y _) y J,L,wF,O⟩
theorem y7y{b:z0h}(O:∀id,(j9 b id).done.length<=1000000){A:List Int}(R:A.length<=64){J:List FrC}(h:J.map FrC.r=(z1K A).flatMap (z3W b)):J.length<=64000064:=by
 have key:∀l:List Int,(l.flatMap (z3W b)).length<=l.length*1000001:=fun l=>by
  induction l with
  | nil=>exact wJ _
  | cons i l ih=>
   rw[uH,wP,wW];have I:=z8z i.toNat (j9 b i.toNat).parts 0;rw[z0T.parts_len]at I;have L:=O i.toNat;have N:(z3W b i).length<=1000001:=(by unfold z3W z1k;omega);omega
 have I:=uS List.length h;rw[we]at I;have L:=key (z1K A);have N:(z1K A).length=A.length:=by unfold z1K;exact mm A
 omega
theorem q3C{w:World}{B g n c k:Nat}{A:List FrC}{x:FrC}(h:z3l w B (some ⟨g,0,none⟩) n c A)(J:A[k]? =some x):∀(t:Nat) (v:Value),(z2m (x.r.fr x.b) (.slice x.a x.b.length x.c))[t]? =some v->w.cell? ⟨g,k*12+t,none⟩=some v:=fun t v I=>by
 have L:t<12:=(wI.1 I).1;refine z6h h.row ?_;rw[z6B z8x 12 y5S A k x J t L];show(z2m (x.r.fr x.b) (.slice x.a x.b.length x.c)).toList[t]? =_;rw[mj];exact I
theorem z0E.keep{B:Nat}{w w':World}{v:Value}{J:List (Value×List UInt8)}(h:z0E B w v J)(I:∀k,B<=k->k<w.heap.size->w'.heap[k]? =w.heap[k]?):z0E B w' v J:=
 ⟨j7 h.row fun k hb=>I k (h.row.lt k hb).1 (h.row.lt k hb).2,fun x A=>j7 (h.ent x A) fun k hb=>I k ((h.ent x A).lt k hb).1 ((h.ent x A).lt k hb).2⟩
theorem z0E.rdns{B:Nat}{w:World}{a:Option Addr}{n c:Nat}{J:List (Value×List UInt8)}(h:z0E B w (.slice a n c) J)(O:n=J.length):z8q w (.slice a n c) (J.map Prod.snd):=by
 subst O;refine⟨J.map Prod.fst,by rw[we];exact z0d h.row,wH,fun i v l L I=>?_,a,c,by rw[we],by rw[we];exact(z0Q h.row).1,(z0Q h.row).2⟩;rw[uF]at L I;obtain⟨x,N,rfl⟩:=uM.1 L;rw[N]at I;simp only[pK,wK]at I;subst I;have A:=h.ent x (wX N);obtain⟨y,U,R⟩:=z1X A;rw[R]at A ⊢;exact⟨z0d A,y,U,rfl,(z0Q A).1,(z0Q A).2⟩
theorem y8m(kb rb bb tb mb sb B ep:Nat)(E:List (Int×z0I))(S:Nat->Prop)(F:List Nat)(b:z0h)(s:FsS)(a4:∀id,(j9 b id).done.length<=1000000)(w:World)(h:KIn w kb rb bb tb mb sb B E S F b ep s):
  Calls prog 14 #[.pointer (some ⟨kb,0,none⟩)] w fun e w'=>∃(xs:List FrC) (ks:List Int) (F':List Nat),ks.Perm (b.all.map Prod.fst)/\xs.map FrC.r=(z1K ks).flatMap (z3W b)/\(∀x∈xs,z0S x.b x.r.bits)/\
   e= .returned (.int .u16 (z4q s z1A (xs.map ntB)).1)/\KIn w' kb rb bb tb mb sb B E S F' b ep (z4q s z1A (xs.map ntB)).2/\z0n (KU rb S F) w w'/\∀x∈F',x∈F\/w.heap.size<=x:=by
 obtain⟨iN,cT,bZ,bD,bW⟩:=oq y2q;have cH:=z7 (y7z bb mb B E b S a4 w h.bk);have H:=z7 h;have aG:=z7 a4;obtain⟨k0,k1,k2,kf⟩:=h.k.cells;have lk:=h.k.lt;have cA:=z7 h.fs.lt;have aJ:∀p∈E,0<=p.1/\p.1<=4294967295:=fun p hp=>by
  have h9:=(h.bk.map.mok z4S).1.2 p hp;have d0:=wf_u32 h9;omega
 have b9:=z7 aJ;have bE:=z7 h.bk.serOk;have bI:E.length<=64:=by have:=h.bk.few;omega
 have a6:E.map Prod.fst=b.all.map Prod.fst:=by rw[h.bk.all,dy];rfl
 have cC:=z7 a6;clear h a4 aJ a6;go_enter func14,ntmps14;go_wp2_with fail;refine cH.o.mono ?_;rintro e w1 ⟨sa,n,sc,xs,ks,rfl,A,hp,aC,bM⟩;have bU:∀i∈z1K ks,0<=i/\i<=4294967295:=fun k hk=>by
  have h1:k∈ks:=by unfold z1K at hk;exact(gq ks _).mem_iff.1 hk
  obtain⟨p,cV,rfl⟩:=uC.1 (hp.mem_iff.1 h1);exact b9.o p cV
 have aM:∀x∈xs,∃(id j:Nat) (y:z0R×Bool),id<4294967296/\y.1.Ok/\0<y.1.st.length/\j<=(j9 b id).done.length/\x.r=z4p id j y:=fun x L=>y5R bE.o bU (by rw[<-aC];exact uC.2 ⟨x,L,rfl⟩);have b0:=A.len;have aL:ks.length<=64:=by rw[hp.length_eq,we];exact bI
 have a5:=aG.o;have aW:n<=64000064:=by rw[b0];exact y7y a5 aL aC
 have cZ:=(z0Q A.row).2;have cR:=(z0Q A.row).1;have bB:=z7 A;have HP:=z7 hp;have cJ:=z7 aC;have aS:=z7 bM;have bA:=z7 aM;have aT:=z7 b0;clear A hp aC bM bU aM b0 aL a5 k0 k1 k2 kf lk;go_wp2_with fail;go_loopw[3,14] (fun ov jv wr=>∃(j:Nat) (a:Option Addr) (c:Nat),ov= .slice a j c/\jv= .int .i64 (j:Nat)/\j<=n/\Hid (∃ys,ys.length=j/\z0E w1.heap.size wr (.slice a j c) ys/\ys.map Prod.snd=(xs.take j).map ntB)/\Hid (Below w1.heap.size w1 wr)) (fun _ jv _=>match jv with | .int _ y=>n - y.toNat|_=>0)
 case atStart=>exact⟨0,none,0,rfl,rfl,uA _,z7 ⟨[],rfl,z0E.none _ _,rfl⟩,z7 wD⟩
 case round=>
  obtain⟨j,a,c,rfl,rfl,hj,hL,I⟩:=hrel;by_cases d3:j<n
  .have d4:IntKind.i64.wrap ((j:Int)+1)=((j+1:Nat):Int):=z0l wF wF;have d1:decide ((j:Int)<(n:Int))=true:=hQ;have d2:(0:Int)<=j/\(j:Int)<n:=wF;have A:=bB.o.low I.o;obtain⟨x,L⟩:∃x,xs[j]? =some x:=⟨_,wL (by have:=aT.o;omega)⟩;obtain⟨g,cW,hv, -⟩:=z2b A.row (fun e=>by simp only[wO]at e;omega);simp only[wO,oP]at hv;obtain⟨rfl, -⟩:=hv;have R:=q3C A L;have b4:=wX L;have b5:=A.each x b4;obtain⟨id,k,y,bS,aF,aE,cU,aB⟩:=bA.o x b4;have cY:=aF.bits;have J:=aF.len;have aD:=aG.o id;obtain⟨C,hC⟩:=zN (z2m (x.r.fr x.b) (.slice x.a x.b.length x.c));have a2:C.size=12:=(by rw[hC];rfl);have cN:C.all (·.oneCell')=true:=(by rw[hC];unfold z2m;simp[Value.oneCell']);rw[<-hC]at R;have O:z0S x.b y.1.l:=(by have h9:=b5.bits;rw[aB]at h9;exact h9);have cO:=O.len;have aI:(Value.agg C)= .agg #[.int .u8 4,.int .u32 0,.int .u32 (id:Nat),.int .i64 0,.int .u64 0,.int .u32 (k:Nat),.int .u32 (0:Nat),.int .u32 (0:Nat),.int .u32 (y.1.st.length:Nat),.bool y.2,.slice x.a x.b.length x.c,.int .i64 y.1.l.length]:=(by rw[hC,aB];rfl);have bY:0<y.1.l.length:=by
    rcases il y.1.l.length with h0|h0
    .exfalso
     have h9:=aF.rd;rw[wT h0]at h9;have h8:z5t []=some []:=rfl;rw[h8]at h9;rw[<-um h9]at aE;exact absurd aE wH
    exact h0
   have aW:ntB x=z5a id k 0 0 y.1.st.length y.2 y.1.l.length x.b:=(by unfold ntB z2i;rw[aB];rfl);have aZ:(prog.info? 92).map (·.size)=some C.size:=(by rw[a2];exact z0K);obtain⟨W2,bL,aU⟩:=((Loc.start wr).new (.cells C 92)).named;have aA:=y4s id k 0 0 y.1.st.length y.2 x.a x.b.length x.c y.1.l x.b bS wF wF wF wF ⟨aE,bY,wF⟩ W2 ⟨z0d (ownsRow_below b5.row aU.low wE),rfl,O⟩;rw[<-aI,<-aW]at aA;obtain⟨bs,aY⟩:=zN (ntB x);rw[<-aY]at aA;have c8:=z7 aA;have a0:=z7 R;have HX:=z7 L;have c6:=z7 aY;have a1:=z7 aU;have bF:=z7 bL;clear A L R b4 b5 bS aF aE cU aB cY J aD hC O cO aI bY aW aA aU bL aY;go_upto_region 5 with(first|refine z0u rfl 92 _ rfl g (j*12) rfl C a0.o z1U aZ ?_|(refine z0e rfl 92 _ _ rfl wr.heap.size 0 rfl C rfl (fun j hj=>by exact z0B (j8 wr _) (n:=C.size) (by rw[a2];rfl) j hj) (by exact z0y (j8 wr _)) aZ cN ?_;rw[z3m _ _ _ _ (by rw[du,a2];rfl)]))
   refine z0s bF.o ?_;go_wp2_with (first|refine z0u rfl 92 _ rfl wr.heap.size 0 rfl C (z1o (a1.o.get 0 rfl)) z1U aZ ?_|fail);refine c8.o.mono ?_;rintro e w3 ⟨ea,en,ec,rfl,a7,bO,aX⟩;have U:Below w1.heap.size w1 w3:=I.o.trans ((a1.o.call aX).low.mono I.o.size);have b7:=z7 U;obtain⟨ys,J,a8,Y⟩:=hL.o;have a9:=a8.low (a1.o.call aX).low;have aR:w3.ownsRow w1.heap.size 5 1 (.slice ea en ec) en (z0c bs):=z0f a7 (wV I.o.size a1.o.low.size);have cL:=z7 a9;have cM:=z7 Y;have bG:=z7 J;have cG:=z7 aR;have c7:=z7 bO;have aN:(w3.alloc (.cells #[.slice ea en ec] 47)).ownsRow w1.heap.size 47 1 (.slice a j c) j (ys.map Prod.fst):=by
    have:=a9.row;rw[J]at this;exact ownsRow_below this (q5 w3 _) wE
   have aH:=z7 aN;have aO:Rd (w3.alloc (.cells #[.slice ea en ec] 47)) (.slice (some ⟨w3.heap.size,0,none⟩) 1 1) 1 1 [.slice ea en ec]:=z3t _ _ _ 1 1 wH wH;have cF:=z7 aO;have bV:w1.heap.size<=(w3.alloc (.cells #[.slice ea en ec] 47)).heap.size:=(by have:=U.size;simp;omega);clear aX U a7 aR J a8 a9 Y bO aN aO a1 bF a0 d1;go_wp2_with (at_builtin;refine z1I rfl _ _ 58 rfl w1.heap.size 47 iN (.slice none 0 0) 1 24 underlying58 cT bZ bD bW rfl wG a j c (ys.map Prod.fst) rfl aH.o _ 1 [.slice ea en ec] rfl cF.o wG (by simp[Value.oneCell']) (by unfold maxLen;omega) wF bV ?_;intro g5 c5 w5 h5 bR bX;have cE:=z7 h5;have b8:=z7 bR;have cD:=z7 bX;clear h5 bR bX);refine⟨⟨j+1,some ⟨g5,0,none⟩,c5,rfl,rfl,wF,z7 ⟨ys++ [(.slice ea en ec,bs)],by simp[bG.o],?_,?_⟩,z7 ?_⟩,by show n - ((j+1:Nat):Int).toNat<n - (j:Int).toNat;omega⟩
   .have cX:z0E w1.heap.size (w3.alloc (.cells #[.slice ea en ec] 47)) (.slice a j c) ys:=cL.o.low (q5 w3 _);have cS:(w3.alloc (.cells #[.slice ea en ec] 47)).ownsRow w1.heap.size 5 1 (.slice ea en ec) bs.length (z0c bs):=(by rw[<-c7.o];exact ownsRow_below cG.o (q5 w3 _) wE);exact cX.snoc cS b8.o (by rw[bG.o]) cE.o
   .rw[uV,cM.o,uG,HX.o,uV];show _++ [bs]=_++ [ntB x];rw[c6.o]
   have bN:=b7.o.trans ((q5 w3 (.cells #[.slice ea en ec] 47)).mono b7.o.size);exact bN.grown b8.o bN.size fun j hj=>(aH.o.lt j hj).1
  have d1:decide ((j:Int)<(n:Int))=false:=wC;have bT:j=n:=wF;subst bT;obtain⟨ys,J,a8,Y⟩:=hL.o;rw[wt (by have:=aT.o;omega)]at Y;have a3:Below w.heap.size w wr:=aS.o.trans (I.o.mono aS.o.size);have hK:=H.o.low a3;have b2:∀F' w',Chg F F' wr w'->z8q w' (.slice a j c) (ys.map Prod.snd):=fun F' w' hc=>z0E.rdns (a8.keep fun k h1 h2=>hc.block k h2 fun hm=>by have h3:=cA.o k hm;have h4:=aS.o.size;omega) J.symm;rw[Y]at b2;have aV:=q2H tb sb s F z1A wG wr wr F ⟨hK.fs,Chg.refl _ _,hK.ok⟩ hK.t hK.tF a j c (xs.map ntB) b2 (by rw[we];exact aT.o) (by unfold maxLen;omega);obtain⟨⟨e1,s1⟩,b3⟩:∃r,r=z4q s z1A (xs.map ntB):=⟨_,rfl⟩;have b1:=q1c hK.ok z1A (xs.map ntB);rw[<-b3]at aV b1;have cI:=z7 aV;have cB:=z7 b1;have HK:=z7 hK;have b6:=z7 a3;have bC:=z7 b3;obtain⟨k0,k1,k2,kf⟩:=hK.k.cells;have lk:=hK.k.lt;clear J a8 Y a3 b2 aV b1 hK b3;go_wp2_with fail;refine cI.o.mono ?_;rintro e w5 ⟨rfl,F5,bJ,bH⟩;have c9:=z7 bJ;have N:=z7 bH;clear bJ bH k0 k1 k2 kf lk;go_wp2;go_ret;refine⟨xs,ks,F5,by rw[<-cC.o];exact HP.o,cJ.o,fun x L=>(bB.o.each x L).bits,?_,?_,?_,?_⟩
  .rw[<-bC.o];rfl
  .rw[<-bC.o];have KR:=HK.o;exact KR.upd (N.o.only.mono fun x L=> .inl (.inr (.inr L))) ((N.o.block rb KR.r.lt KR.rF).trans KR.r) (KR.bk.only N.o.only fun k hk hm=>KR.sF k hm hk) c9.o cB.o (fun _ h=> .inl h) N.o.fresh (fun x L hs=>by
    rcases N.o.fresh x L with h|h
    .exact KR.sF x h hs
    have:=(KR.bk.lo x hs).2;omega)
  .exact(z0n.of_below (S:=KU rb S F) b6.o).trans (S':=fun x=>x∈F) N.o.only (fun x L=> .inl (.inr (.inr L)))
  intro x L;rcases N.o.fresh x L with h|h
  .exact rL h
  have:=b6.o.size;exact rM wF
def z6r:Bs:= [107,101,101,112,126]
theorem q5Z:z1v z1A=z6r:=rfl
def fsK(room:Int)(B:Bs):FsS:=⟨room, [(z1A,B)], [],none,false⟩
theorem y7I(room:Int)(B:Bs):(fsK room B).used=B.length:=by unfold FsS.used fsK total;simp
theorem q7K{room:Int}{B n:Bs}(J:n.length<=600)(L:(B.length:Int)+(z0A n).length<=room):wrS (fsK room B) n=(0,fsK room (B++z0A n)):=by
 have A:(z0A n).length≠0:=by unfold z0A;simp
 have I:z2R (fsK room B) z1A n=(0,⟨room, [(z1A,B)], [(z1A,z0A n)],none,false⟩):=by
  unfold z2R;rw[wR wF];unfold z0V;rw[wR (by show ¬(true=false);simp),wR A,wR (by rw[y7I];show ¬(room - _<_);omega)];rfl
 unfold wrS;rw[I,wR wH];show z2G (⟨room, [(z1A,B)], [(z1A,z0A n)],none,false⟩:FsS) z1A=_;unfold z2G;rw[wR (by show ¬(true=false);simp)];show((0:Int),(⟨room, [(z1A,B++pieces z1A [(z1A,z0A n)])], [],none,false⟩:FsS))=_;unfold fsK pieces;simp
def fs2(room:Int)(B:Bs)(W:List Bs):FsS:=⟨room, [(z1A,B),(z6r, [])],W.map fun x=>(z6r,x),none,false⟩
theorem q3D(room:Int)(B:Bs)(W:List Bs):(fs2 room B W).used=B.length+W.flatten.length:=by
 unfold FsS.used fs2 total;simp[Function.comp_def]
theorem y6H{room:Int}{B:Bs}:∀(L W:List Bs),(∀x∈L,x.length<=600)->((B.length:Nat):Int)+W.flatten.length+(L.flatMap z0A).length<=room->z1p (fs2 room B W) z6r L=(0,fs2 room B (W++L.map z0A))
 | [],W,_,_=>by simp[z1p]
 | x::L,W,h,hr=>by
  have A:(z0A x).length≠0:=by unfold z0A;simp
  rw[uH,wP]at hr;have I:z0V (fs2 room B W) z6r (z0A x)=(0,fs2 room B (W++ [z0A x])):=by
   unfold z0V;rw[wR (by show ¬(true=false);simp),wR A,wR (by rw[q3D];show ¬(room - _<_);push_cast;omega)];show((0:Int),(⟨room, [(z1A,B),(z6r, [])],(W.map fun x=>(z6r,x))++ [(z6r,z0A x)],none,false⟩:FsS))=_;unfold fs2;simp
  unfold z1p;rw[I,wR wH];show z1p (fs2 room B (W++ [z0A x])) z6r L=_;have e: [z0A x].flatten=z0A x:=wH
  rw[y6H L (W++ [z0A x]) (fun y J=>h y (uJ _ J)) (by rw[rU,wP,e];push_cast at hr ⊢;omega),wj];rfl
theorem q4N{room:Int}{B:Bs}{L:List Bs}(hL:∀x∈L,x.length<=600)(hr:((B.length:Nat):Int)+(L.flatMap z0A).length<=room):z4q (fsK room B) z1A L=(0,fsK room (L.flatMap z0A)):=by
 have A:(L.all fun x=>decide (x.length<=600))=true:=gu.2 fun x hx=>wQ (hL x hx);have O:z1f (fsK room B) z1A=fsK room B:=by
  unfold z1f;rw[wR];show ¬(false=true);simp
 have R:z1i (fsK room B) z6r=(0,fs2 room B []):=by
  unfold z1i;rw[wR (by show ¬(true=false);simp),wR (by show ¬(false=true);simp),wR (by show ¬(8<=1);omega)];rfl
 have I:=y6H (room:=room) (B:=B) L [] hL (by simpa using hr);rw[uW]at I;have a0:z2G (fs2 room B (L.map z0A)) z6r=(0,⟨room, [(z1A,B),(z6r,L.flatMap z0A)], [],none,false⟩):=by
  have N:pieces z6r ((L.map z0A).map fun x=>(z6r,x))=L.flatMap z0A:=by
   unfold pieces;rw[dv.2 (fun p N=>by
    obtain⟨y, -,rfl⟩:=uC.1 N;simp),gx,gx]
  have U:z0O z6r ((L.map z0A).map fun x=>(z6r,x))= []:=by
   unfold z0O;rw[List.filter_eq_nil_iff];intro p N;obtain⟨y, -,rfl⟩:=uC.1 N;simp
  unfold z2G;rw[wR (by show ¬(true=false);simp)];show((0:Int),(⟨room, [(z1A,B),(z6r, []++pieces z6r ((L.map z0A).map fun x=>(z6r,x)))],z0O z6r ((L.map z0A).map fun x=>(z6r,x)),none,false⟩:FsS))=_;rw[N,U,uW]
 have Y:z2p (⟨room, [(z1A,B),(z6r,L.flatMap z0A)], [],none,false⟩:FsS) z6r z1A=(0,fsK room (L.flatMap z0A)):=by
  unfold z2p;rw[wR (by show ¬(true=false);simp),wR (by show ¬(true=false);simp),wR wG];rfl
 have J:z4t (fsK room B) z1A L=(0,fsK room (L.flatMap z0A)):=by
  unfold z4t z9k;rw[q5Z,R];simp only;rw[wR wH,I];simp only;rw[wR wH,a0];simp only;rw[wR wH,Y]
 unfold z4q;rw[wR (by rw[A];simp),O,J];simp
theorem q2B{room:Int}{L:List Bs}(N:∀x∈L,x.length<=600):z2u (fsK room (L.flatMap z0A)) z1A=(0,fsK room (L.flatMap z0A),L):=by
 have U:z0X (L.flatMap z0A)=(L,(L.flatMap z0A).length):=by
  have I:=y0g L [] N;have J:z0X []=([],0):=by decide+kernel
  rw[J,ue]at I;simpa using I
 have A:z1f (fsK room (L.flatMap z0A)) z1A=fsK room (L.flatMap z0A):=by
  unfold z1f;rw[wR];show ¬(false=true);simp
 have O:z6g (fsK room (L.flatMap z0A)) z1A=L.flatMap z0A:=by
  unfold z6g;rw[wZ (by rfl)];show L.flatMap z0A++pieces z1A []=_;unfold pieces;simp
 have R:z3q (fsK room (L.flatMap z0A)) z1A=(0,fsK room (L.flatMap z0A)):=by
  unfold z3q;rw[wZ (by rfl)]
 unfold z2u;rw[wR wG,A,R,wR wH];simp only;unfold z5D;rw[O,U,wR wH]
theorem q2h(room:Int)(B:Bs)(K:List Bool)(A:Int):y5g (fsK room B) K A=fsK room B:=rfl
theorem q1W{x s:z0T}(U:s.Ok)(h:z3a x s)(J:z1P x=z1P s):x=s:=by
 unfold z1P at J;simp only[wk]at J;obtain⟨L, -,N⟩:=J;have hd:x.done=s.done:=by rw[h.done,L,ui]
 obtain⟨p,cl,O,Y,I, -⟩:=h.cur;obtain⟨A, -⟩:=y0h s _ _ _ O;rw[uO wF,L,pI]at A;have R:p=s.cur:=(um A).symm;subst R;rw[N,y2K U.cur]at I;obtain⟨xd,xc⟩:=x;obtain⟨sd,sc⟩:=s;simp only at hd I;rw[hd,I]
theorem y8C{x s:z0T}(hs:s.Ok)(h:z3a x s)(hr:z6I s):z6I x:=fun D p I J A=>by
 obtain⟨q,cl,h1,h2,h3, -⟩:=h.cur;have L:∀D,D<=x.done.length->x.done.take D=s.done.take D:=fun D O=>by
  conv=>lhs;rw[h.done]
  rw[rJ,ku O]
 by_cases O:D<x.done.length
 .rw[uX O]at I;rw[L D wF]at A ⊢;refine hr D p ?_ J A;have a0:=h.le;rw[uX wF];rw[h.done,ik,wZ wF]at I;exact I
 rw[uO wF]at I;have R:D=x.done.length:=by
  rcases qJ (D - x.done.length) 1 with N|N
  .omega
  rw[uw (by simpa using N)]at I;cases I
 subst R;rw[pI]at I;have Y:p=x.cur:=(um I).symm;subst Y;obtain⟨U, -⟩:=y0h s _ _ _ h1;rw[L _ wE]at A ⊢;have hq:q.st≠ []:=fun e=>by
  rw[e]at h2;exact J (wT (by simpa using h2))
 have N:=hr x.done.length q U hq A;have hf:firstT x.cur.st=firstT q.st:=by
  rw[h3];unfold firstT z1u;cases hst:q.st with
  | nil=>simp
  | cons y l=>
   have a1:x.cur.st.length≠0:=fun e=>J (wT e);obtain⟨k,hk⟩:∃k,x.cur.st.length=k+1:=⟨x.cur.st.length - 1,wF⟩;simp only;rw[hk,dw];rfl
 rw[hf];exact N
def z7g(s:z0T):Nat:=(z2A s).length
theorem q4g(s:z0T):z7g s=(s.done.flatMap fun x=>z1Q x.st).length+s.cur.st.length:=by
 unfold z7g;have e:s=z4F s s.cur false:=rfl
 conv=>lhs;rw[e,z5N]
 rw[wP];unfold z1Q;simp
theorem q4W(s:z0T)(p:z0R)(cl:Bool):z7g (z4F s p cl)=(s.done.flatMap fun x=>z1Q x.st).length+p.st.length:=by
 unfold z7g;rw[z5N,wP];unfold z1Q;simp
theorem y4j{x s:z0T}(h:z3a x s):z7g x<=z7g s:=by
 rw[q4g];obtain⟨p,cl,I,O, -⟩:=h.cur;unfold z7g z2A;have A:=(wY.1 I).1;have e:s.parts=s.parts.take x.done.length++s.parts.drop x.done.length:=(pZ _ _).symm;rw[e,uk,wP];have J:s.parts.drop x.done.length=(p,cl)::s.parts.drop (x.done.length+1):=by
  rw[pG A,(wY.1 I).2]
 rw[J,uH,wP];have L:s.parts.take x.done.length=x.done.map fun x=>(x,true):=by
  unfold z0T.parts;rw[pE (by rw[we];exact h.le),<-rX,<-h.done]
 rw[L,gx];have N:(z1Q p.st).length=p.st.length:=by unfold z1Q;simp
 show _<=(x.done.flatMap fun y=>z1Q y.st).length+((z1Q p.st).length+_);omega
structure z6V (ab kb:z0h) (ids:List Nat) (i:Nat):Prop where
 old:∀(j id:Nat),j<i->ids[j]? =some id->j9 kb id=j9 ab id
 at_:∀id,ids[i]? =some id->z3a (j9 kb id) (j9 ab id)
 rest:∀(j id:Nat),i<j->ids[j]? =some id->j9 kb id=z4T
 most:kb.most=64
 size:kb.size=24
 keys:∀p∈kb.all,∃j id:Nat,p.1=(id:Int)/\ids[j]? =some id/\(j<i\/j=i/\0<z7g (j9 kb id))
 all:∀(j id:Nat),ids[j]? =some id->(j<i\/j=i/\0<z7g (j9 kb id))->∃p∈kb.all,p.1=(id:Int)
theorem z6V.start{I:z0h}(J:∀id,(j9 I id).Ok)(A:List Nat):z6V I ⟨64,24, []⟩ A 0:=
 ⟨fun j id h=>wF,fun id _=>z6H (J id),fun j id _ _=>rfl,rfl,rfl,(fun p L=>by cases L),fun j id _ h=>by
  rcases h with h|⟨-,h⟩
  .omega
  exact absurd h (by show ¬(0<0);omega)⟩
theorem z6V.step{U O:z0h}{I:List Nat}{i id:Nat}{x:z0T}(h:z6V U O I i)(hd:I.Pairwise (·≠·))(J:I[i]? =some id)(hx:z3a x (j9 U id))(h0:0<z7g x):z6V U (O.set id x) I i:=by
 refine⟨fun j y Y A=>?_,fun y A=>?_,fun j y Y A=>?_,h.most,h.size,fun p R=>?_,fun j y A L=>?_⟩
 .rw[z2v,wR (y0m hd A J wF)];exact h.old j y Y A
 .rw[J]at A;cases A;rw[z2v,wZ rfl];exact hx
 .rw[z2v,wR (y0m hd A J wF)];exact h.rest j y Y A
 .unfold z0h.set at R;rcases(z2d z4e (id:Int) _ p O.all).1 R with rfl|⟨h1, -⟩
  .exact⟨i,id,rfl,J,.inr ⟨rfl,by rw[z2v,wZ rfl];exact h0⟩⟩
  obtain⟨j,y,e,A,L⟩:=h.keys p h1;refine⟨j,y,e,A,?_⟩;rcases L with L|⟨rfl,L⟩
  .exact .inl L
  rw[J]at A;cases A;exact .inr ⟨rfl,by rw[z2v,wZ rfl];exact h0⟩
 by_cases N:j=i
 .subst N;rw[J]at A;cases A;exact⟨_,(z2d z4e (id:Int) _ _ O.all).2 (.inl rfl),rfl⟩
 obtain⟨p,R,e⟩:=h.all j y A wF;exact⟨p,(z2d z4e (id:Int) _ p O.all).2 (.inr ⟨R,by rw[e];have:=y0m hd A J N;omega⟩),e⟩
theorem z6V.next{N O:z0h}{I:List Nat}{i:Nat}(h:z6V N O I i)(ha:∀id,(j9 N id).Ok){id:Nat}(R:I[i]? =some id)(U:j9 O id=j9 N id)(h0:0<z7g (j9 N id)):z6V N O I (i+1):=by
 have Y:∀x,I[i+1]? =some x->j9 O x=z4T:=fun x A=>h.rest (i+1) x wF A;refine⟨fun j x hj A=>?_,fun x A=>?_,fun j x hj A=>?_,h.most,h.size,fun p hp=>?_,fun j x A L=>?_⟩
 .by_cases J:j=i
  .subst J;rw[R]at A;cases A;exact U
  exact h.old j x wF A
 .rw[Y x A];exact z6H (ha x)
 .exact h.rest j x wF A
 .obtain⟨j,x,e,A,L⟩:=h.keys p hp;exact⟨j,x,e,A,wF⟩
 by_cases J:j=i
 .subst J;rw[R]at A;cases A;exact h.all j id R (.inr ⟨rfl,by rw[U];exact h0⟩)
 refine h.all j x A ?_;rcases L with L|⟨rfl,L⟩
 .exact .inl wF
 rw[Y x A]at L;exact absurd L (by show ¬(0<0);omega)
theorem z6V.fin{R L:z0h}{A:List Nat}(h:z6V R L A A.length)(hd:A.Pairwise (·≠·))(hk:L.all.Pairwise fun p q=>p.1≠q.1):(∀id∈A,j9 L id=j9 R id)/\L.all.length=A.length/\(∀p∈L.all,∃id∈A,p.1=(id:Int)):=by
 have a0:∀j id,A[j]? =some id->j<A.length:=fun j id I=>(wY.1 I).1;refine⟨fun id J=>?_,?_,fun p N=>?_⟩
 .obtain⟨j,I,rfl⟩:=pO J;exact h.old j _ I (wL I)
 .have U:(L.all.map Prod.fst).length<=(A.map Int.ofNat).length:=z6j _ _ (oy.2 hk) fun x O=>by
   obtain⟨p,N,rfl⟩:=uC.1 O;obtain⟨j,id,e,I, -⟩:=h.keys p N;rw[e];exact uC.2 ⟨id,wX I,rfl⟩
  have Y:(A.map Int.ofNat).length<=(L.all.map Prod.fst).length:=z6j _ _ (oy.2 (hd.imp fun {a b} g e=>g (Int.ofNat.inj e))) fun x O=>by
   obtain⟨id,J,rfl⟩:=uC.1 O;obtain⟨j,I,rfl⟩:=pO J;obtain⟨p,N,e⟩:=h.all j _ (wL I) (.inl I);exact uC.2 ⟨p,N,e⟩
  rw[we,we]at U Y;omega
 obtain⟨j,id,e,I, -⟩:=h.keys p N;exact⟨id,wX I,e⟩
def doS(b:z0h)(x:Fr×List Bool):z0h:=if z3O b x.1 x.2=0 then takeB b x.1 x.2 else b
def z5m(x:FrC):Fr×List Bool:=(ofF (x.r.fr x.b),x.r.bits)
section
variable {κ ν:Type} (kl:κ->Lit)
theorem y2L(x:κ×ν):∀L:List (κ×ν),(mins kl x L).Perm (x::L)
 | []=>ma _
 | y::r=>by
  unfold mins;split
  .exact ma _
  exact((y2L x r).cons y).trans (qO x y r)
theorem q1N [DecidableEq κ](k:κ)(v:ν){E:List (κ×ν)}(h:E.Pairwise fun p q=>p.1≠q.1):(z1d kl k v E).Pairwise fun p q=>p.1≠q.1:=by
 refine((y2L kl (k,v) (z2x k E)).pairwise_iff (fun {_ _} hne=>pz hne)).2 (uj.2 ⟨fun q I e=>?_,h.sublist rT⟩);have A:=(ev.1 I).2;simp only[ne_eq,tT,mP,ia]at A;exact A e.symm
end
def y5B(b:z0h):Prop:=b.all.Pairwise fun p q=>p.1≠q.1
theorem z4I.small{L J:z0h}{A:List Nat}{i n:Nat}(h:z4I L J A i n)(I:∀id∈A,id<64):∀p∈J.all,0<=p.1/\p.1<64:=fun q O=>by
 obtain⟨j,y,e,N, -⟩:=h.keys q O;have:=I y (wX N);omega
theorem q1f{J b:z0h}(ha:∀id,(j9 J id).Ok)(hr:∀id,z6I (j9 J id)){I:List Nat}(L:∀id∈I,id<64){i n id:Nat}(hi:I[i]? =some id)(h:z4I J b I i n)(hb:y5B b){x:FrC}(hx:(z1k id (j9 J id))[n]? =some x.r)(A:z0S x.b x.r.bits):
  doS b (z5m x)=b.set id (z2P (j9 J id) (n+1)):=by
 obtain⟨O,R⟩:=z5U (ha id) id;have hn:n<z2B (j9 J id):=by rw[<-O];exact(wY.1 hx).1
 obtain⟨p,cl,hp,a0,U⟩:=R n hn;rw[U]at hx;have N:x.r=z4p id n (p,cl):=(um hx).symm;rw[N]at A;have Y:=L id (wX hi);obtain⟨h1,h2, -⟩:=q6s (ha id) (hr id) hn (h.at_ id hi) hp a0 (q0f b hb (h.small L) h.most Y) (by rw[h.size];exact wJ _) x.b A;have h3:=(y4v b 0 (z3J id n p cl x.b) p.l (by rw[h1]) (by rw[h1])).2.1;have a1:z5m x=(ofF (z3J id n p cl x.b),p.l):=by unfold z5m;rw[N];rfl
 obtain⟨e1,e2⟩:=y1T b (z3J id n p cl x.b) p.l;unfold doS;rw[a1];simp only;rw[e1,e2,wZ h3,h2]
theorem y1f{I:z0h}(R:∀id,(j9 I id).Ok)(hr:∀id,z6I (j9 I id)){A:List Nat}(hd:A.Pairwise (·≠·))(N:∀id∈A,id<64){i id:Nat}(Y:A[i]? =some id):∀(J:List FrC) (n:Nat) (b:z0h),z4I I b A i n->y5B b->n<=z2B (j9 I id)->J.map FrC.r=(z1k id (j9 I id)).drop n->(∀x∈J,z0S x.b x.r.bits)->
  z4I I ((J.map z5m).foldl doS b) A i (z2B (j9 I id))/\y5B ((J.map z5m).foldl doS b)
 | [],n,b,h,hb,hn,hxs,_=>by
  have h1:=(z5U (R id) id).1;have L:=uS List.length hxs;rw[uE,h1]at L;simp only[pQ,ob]at L;have:n=z2B (j9 I id):=wF
  rw[<-this];exact⟨h,hb⟩
 | x::J,n,b,h,hb,hn,hxs,hbits=>by
  have h1:=(z5U (R id) id).1;have O:n<(z1k id (j9 I id)).length:=by
   have L:=uS List.length hxs;rw[uE]at L;simp only[uI,wW]at L;omega
  rw[pG O,uI]at hxs;have e1:=(List.cons.inj hxs).1;have e2:=(List.cons.inj hxs).2;have hx:(z1k id (j9 I id))[n]? =some x.r:=by rw[wL O,e1]
  have U:=q1f R hr N Y h hb hx (hbits x uK);rw[uI,pg,U];exact y1f R hr hd N Y J (n+1) _ (h.step hd Y) (q1N z4e _ _ hb) wF e2 (fun y hy=>hbits y (uJ _ hy))
theorem y6V{L:z0h}(R:∀id,(j9 L id).Ok)(hr:∀id,z6I (j9 L id)){A:List Nat}(hd:A.Pairwise (·≠·))(N:∀id∈A,id<64)(Y:∀id∈A,0<z2B (j9 L id)):∀(r i:Nat),i+r=A.length->∀(J:List FrC) (b:z0h),z4I L b A i 0->y5B b->J.map FrC.r=(A.drop i).flatMap (fun id=>z1k id (j9 L id))->(∀x∈J,z0S x.b x.r.bits)->
  z4I L ((J.map z5m).foldl doS b) A A.length 0/\y5B ((J.map z5m).foldl doS b)
 | 0,i,hi,J,b,h,hb,hxs,_=>by
  have:i=A.length:=wF
  subst this;rw[qi,eQ]at hxs;have:J= []:=List.map_eq_nil_iff.1 hxs;subst this;exact⟨h,hb⟩
 | r+1,i,hi,J,b,h,hb,hxs,hbits=>by
  have I:i<A.length:=wF
  have O:A[i]? =some A[i]:=wL I;rw[pG I,uH]at hxs;obtain⟨x1,x2,rfl,e1,e2⟩:=List.map_eq_append_iff.1 hxs;obtain⟨g1,g2⟩:=y1f R hr hd N O x1 0 b h hb (uA _) (by rw[kQ];exact e1) (fun x U=>hbits x (uQ _ U));have g3:=g1.next R O rfl (Y _ (ug I))
  rw[uV,ez];exact y6V R hr hd N Y r (i+1) wF x2 _ g3 g2 e2 (fun x U=>hbits x (uT _ U))
theorem y3d{J:z0h}(hk:y5B J){A:List Int}(L:A.Perm (J.all.map Prod.fst))(I:∀p∈J.all,0<=p.1/\p.1<64):
  ((z1K A).map Int.toNat).Pairwise (·≠·)/\(∀id∈(z1K A).map Int.toNat,id<64/\∃p∈J.all,p.1=(id:Int))/\((z1K A).map Int.toNat).length=J.all.length:=by
 have R:(z1K A).Perm (J.all.map Prod.fst):=by unfold z1K;exact(gq A _).trans L
 have O:∀x∈z1K A,∃p∈J.all,p.1=x:=fun x U=>uC.1 (R.mem_iff.1 U);refine⟨?_,fun id N=>?_,by rw[we,R.length_eq,we]⟩
 .rw[oy];have Y:(z1K A).Pairwise (·≠·):=(R.pairwise_iff (fun {_ _} hne=>pz hne)).2 (oy.2 hk);refine Y.imp_of_mem fun {a b} ha hb hne e=>hne ?_;obtain⟨p,L,rfl⟩:=O a ha;obtain⟨q,hq,rfl⟩:=O b hb;have h2:=I p L;have h3:=I q hq;omega
 obtain⟨x,U,rfl⟩:=uC.1 N;obtain⟨p,L,rfl⟩:=O x U;have h2:=I p L;exact⟨wF,p,L,wF⟩
theorem q1S{A:z0h}(ha:∀id,(j9 A id).Ok)(hr:∀id,z6I (j9 A id))(hk:y5B A)(Y:∀p∈A.all,0<=p.1/\p.1<64)(h0:∀(id:Nat),(∃p∈A.all,p.1=(id:Int))->0<z2B (j9 A id)){O:List Int}(hp:O.Perm (A.all.map Prod.fst)){U:List FrC}(R:U.map FrC.r=(z1K O).flatMap (z3W A))(L:∀x∈U,z0S x.b x.r.bits):
  (∀id:Nat,(∃p∈A.all,p.1=(id:Int))->j9 ((U.map z5m).foldl doS ⟨64,24, []⟩) id=j9 A id)/\((U.map z5m).foldl doS ⟨64,24, []⟩).all.length=A.all.length:=by
 obtain⟨hd,hm,hl⟩:=y3d hk hp Y;obtain⟨N,J⟩:=zN ((z1K O).map Int.toNat);have a0:(z1K O).flatMap (z3W A)=N.flatMap (fun id=>z1k id (j9 A id)):=by rw[J,gx];rfl
 rw[a0]at R;rw[<-J]at hd hm hl;obtain⟨g1,g2⟩:=y6V ha hr hd (fun id I=>(hm id I).1) (fun id I=>h0 id (hm id I).2) N.length 0 wF U ⟨64,24, []⟩ (z4I.start A N) qV (by rw[kQ];exact R) L;obtain⟨g3,g4⟩:=g1.fin hd g2;refine⟨fun id I=>g3 id ?_,by rw[g4,hl]⟩;obtain⟨p,a1,e⟩:=I;have hs:(z1K O).Perm (A.all.map Prod.fst):=by unfold z1K;exact(gq O _).trans hp
 rw[J];exact uC.2 ⟨p.1,hs.mem_iff.2 (uC.2 ⟨p,a1,rfl⟩),by rw[e];rfl⟩
def wtF(r:FrL):Nat:=30+(r.bits.length+7)/8
theorem q2z{l m:List Nat}(h:l.Perm m):l.sum=m.sum:=by
 induction h with
 | nil=>rfl
 | cons x _ ih=>rw[oK,oK,ih]
 | swap x y l=>simp only[oK];omega
 | trans _ _ h1 h2=>exact h1.trans h2
theorem y6w{α β:Type}(f:α->List β):∀l:List α,(l.flatMap f).length=(l.map fun x=>(f x).length).sum
 | []=>rfl
 | x::l=>by rw[uH,wP,y6w f l,uI,oK]
theorem q3U{α:Type}(f g:α->Nat):∀l:List α,(∀x∈l,f x<=g x)->(l.map f).sum<=(l.map g).sum
 | [],_=>wJ _
 | x::l,h=>by
  rw[uI,uI,oK,oK];have I:=h x uK;have J:=q3U f g l fun y A=>h y (uJ _ A);omega
theorem y5J{α β:Type}(f:α->List β)(g:β->Nat):∀l:List α,((l.flatMap f).map g).sum=(l.map fun x=>((f x).map g).sum).sum
 | []=>rfl
 | x::l=>by rw[uH,uV,kt,y5J f g l,uI,oK]

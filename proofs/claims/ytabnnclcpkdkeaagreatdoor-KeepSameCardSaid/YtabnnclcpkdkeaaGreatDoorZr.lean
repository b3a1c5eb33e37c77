/- The walk of draymanlaw12's Lay. -/
import Derived.Test.YtabnnclcpkdkeaaGreatDoorZq
import Derived.Deep.DeepCutAuto
namespace Go.Proofs.YtabnnclcpkdkeaaGreatDoor
open Go.Proofs.Tryz
set_option linter.all false
set_option maxRecDepth 100000
set_option maxHeartbeats 0
section
open Go.RowKit Go.Maps
structure LOp where
 s:Nat
 t:Int
 v:Nat
structure LOp.Ok (o:LOp):Prop where
 s:o.s<4294967296
 x:z1m.Ok ⟨o.t,o.v⟩
def y1L(w:World)(a:Option Addr)(n:Nat)(L:List LOp):Prop:=n=L.length/\∀(k:Nat) (o:LOp),L[k]? =some o->∃g off,a=some ⟨g,off,none⟩/\g<w.heap.size/\w.cell? ⟨g,off+k*17+1,none⟩=some (.int .u32 o.s)/\w.cell? ⟨g,off+k*17+2,none⟩=some (.int .i64 o.t)/\w.cell? ⟨g,off+k*17+3,none⟩=some (.int .u64 (o.v:Nat))
theorem y1L.low{w w':World}{a:Option Addr}{n:Nat}{L:List LOp}(h:y1L w a n L)(hb:Below w.heap.size w w'):y1L w' a n L:=
 ⟨h.1,fun k o R=>by
  obtain⟨g,A,e,I,J,N,O⟩:=h.2 k o R;exact⟨g,A,e,wS I hb.size,(hb.cell (p:=⟨g,A+k*17+1,none⟩) I).trans J,(hb.cell (p:=⟨g,A+k*17+2,none⟩) I).trans N,(hb.cell (p:=⟨g,A+k*17+3,none⟩) I).trans O⟩⟩
structure z3L where
 id:Nat
 a:Option Addr
 c:Nat
 xs:List z1m
def z3L.v(x:z3L):Value:= .slice x.a x.xs.length x.c
def z3L.cells(x:z3L):List Value:= [.int .u32 x.id,x.v]
def z4z(id:Nat)(x:z1m):List (Nat×List z1m)->List (Nat×List z1m)
 | []=> [(id, [x])]
 | (i,l)::A=>if i=id then(i,l++ [x])::A else(i,l)::z4z id x A
def z1e(r:z0h×List (Nat×List z1m))(o:LOp):z0h×List (Nat×List z1m):=
 if z7o r.1 (o.s%64) o.t≠0 then r else(z9z r.1 (o.s%64) ⟨o.t,o.v⟩,z4z (o.s%64) ⟨o.t,o.v⟩ r.2)
def z3G(size:Int):Nat:=1+(max size 0).toNat%24
def y1w(size:Int)(L:List LOp):z0h×List (Nat×List z1m):=L.foldl z1e (⟨64,z3G size, []⟩, [])
theorem y2s(A:Int):1<=z3G A/\z3G A<=24:=by unfold z3G;omega
structure z9K (b:z0h) (Z n:Nat):Prop where
 most:b.most=64
 size:b.size=Z
 rise:∀id,z6I (j9 b id)
 lt:∀id,(j9 b id).cur.st.length<Z
 few:∀id,(j9 b id).done.length<=n
theorem z9K.start{Z:Nat}(A:1<=Z):z9K ⟨64,Z, []⟩ Z 0:=
 ⟨rfl,rfl,fun id=>y8T,fun id=>A,fun id=>wJ _⟩
theorem z9K.more{b:z0h}{Z n m:Nat}(h:z9K b Z n)(A:n<=m):z9K b Z m:=⟨h.most,h.size,h.rise,h.lt,fun id=>wV (h.few id) A⟩
theorem z9K.put{b:z0h}{Z n id:Nat}{x:z1m}(I:1<=Z)(h:z9K b Z n)(A:(j9 b id).Ok)(L:z7o b id x.t=0):z9K (z9z b id x) Z (n+1):=by
 refine⟨h.most,h.size,fun i=>?_,fun i=>?_,fun i=>?_⟩
 .unfold z9z;rw[z2v];split
  .exact q2M A (h.rise id) L _
  exact h.rise i
 .unfold z9z;rw[z2v];split
  .have N:=h.lt id;rw[h.size];unfold z4F;split
   .exact I
   rename_i J;have O:(z3r (j9 b id).cur x).st.length=(j9 b id).cur.st.length+1:=(by unfold z3r;simp);show(z3r (j9 b id).cur x).st.length<Z;simp only[od]at J;omega
  exact h.lt i
 unfold z9z;rw[z2v];split
 .exact wV (z9B _ _ _) (by have:=h.few id;omega)
 exact wV (h.few i) (rK n)
structure z3P (w0 wr:World) (bb:Nat) (b:z0h) (X:List z3L) (a:Option Addr) (m c:Nat):Prop where
 bk:∃mb E S,z0w wr bb mb E b w0.heap.size S/\(∀k,(Value.slice a m c).ownBlock=some k->¬S k)/\∀x∈X,∀k,x.v.ownBlock=some k->¬S k
 row:wr.ownsRow w0.heap.size 43 2 (.slice a m c) m (X.flatMap z3L.cells)
 len:m=X.length
 ent:∀x∈X,wr.ownsRow w0.heap.size 79 2 x.v x.xs.length (z1b x.xs)
 low:Below w0.heap.size w0 wr
theorem z3P.next{w0 wr w':World}{A:Nat}{b:z0h}{X:List z3L}{a:Option Addr}{m c:Nat}(h:z3P w0 wr A b X a m c)(hb:Below wr.heap.size wr w'):z3P w0 w' A b X a m c:=by
 obtain⟨O,E,S,I,J,L⟩:=h.bk;exact⟨⟨O,E,S,I.low hb,J,L⟩,ownsRow_below h.row hb wE,h.len,fun x N=>ownsRow_below (h.ent x N) hb wE,h.low.trans (hb.mono h.low.size)⟩
theorem z3P.at{w0 wr:World}{U:Nat}{b:z0h}{X:List z3L}{a:Option Addr}{m c:Nat}(h:z3P w0 wr U b X a m c){k:Nat}{x:z3L}(O:X[k]? =some x):∃g,a=some ⟨g,0,none⟩/\g<wr.heap.size/\wr.cell? ⟨g,k*2,none⟩=some (.int .u32 x.id)/\wr.cell? ⟨g,k*2+1,none⟩=some x.v:=by
 have a1:=(wY.1 O).1;have hm:=h.len;rcases(z0d h.row).2 with⟨-,N⟩|⟨ad,cp,L,N⟩
 .omega
 rcases h.row.2 with⟨J,e2⟩|⟨g,Y,a0,J,e2,e3, -⟩
 .omega
 rw[J]at L;rw[wO]at J L;refine⟨g,J.1,(wI.1 e3).1,?_,?_⟩
 .have I:=N (k*2) (.int .u32 x.id) (by have R:=z6B z3L.cells 2 (fun _=>rfl) X k x O 0 wF;rw[dp]at R;rw[R];rfl);rw[<-um L.1]at I;have A:(⟨g,0,none⟩:Addr).add (k*2)=⟨g,k*2,none⟩:=by unfold Addr.add;split<;>simp_all
  rwa [A]at I
 have I:=N (k*2+1) x.v (by rw[z6B z3L.cells 2 (fun _=>rfl) X k x O 1 wF];rfl);rw[<-um L.1]at I;have A:(⟨g,0,none⟩:Addr).add (k*2+1)=⟨g,k*2+1,none⟩:=by unfold Addr.add;split<;>simp_all
 rwa [A]at I
theorem z3P.at'{w0 wr:World}{L:Nat}{b:z0h}{X:List z3L}{a:Option Addr}{m c:Nat}(h:z3P w0 wr L b X a m c){k:Nat}{x:z3L}(J:X[k]? =some x):∃g,a=some ⟨g,0,none⟩/\∀w',Below wr.heap.size wr w'->g<w'.heap.size/\w'.cell? ⟨g,k*2,none⟩=some (.int .u32 x.id)/\w'.cell? ⟨g,k*2+1,none⟩=some x.v/\∀j,w'.frozen? ⟨g,j,none⟩=false:=by
 obtain⟨g,e, -, -, -⟩:=h.at J;subst e;refine⟨g,rfl,fun w' hb=>?_⟩;obtain⟨g',I,Y,h2,h3⟩:=(h.next hb).at J;simp only[wK,oh,dc]at I;subst I;refine⟨Y,h2,h3,fun j=>?_⟩;rcases(h.next hb).row.2 with⟨A,R⟩|⟨g2,N,O,A,R,U, -⟩
 .simp at A
 simp only[wO,wK,oh,dc,oP]at A;obtain⟨rfl, -⟩:=A;exact z0y U j
theorem y9T{v:Value}{w:World}(h:v.ownBlock=(Value.slice none 0 0).ownBlock\/v.ownBlock=some w.heap.size):∀j,v.ownBlock=some j->w.heap.size<=j:=fun j A=>by
 rcases h with e|e
 .rw[e]at A;cases A
 rw[e]at A;simp only[wK]at A;exact qH A
theorem q5b:(prog.info? 43).map (fun i=>(i.zero,i.size,i.bytes))=some (some (.agg #[.int .u32 0,.slice none 0 0]),2,32):=by kernel_rfl
theorem z3P.book{w0 w w':World}{J:Nat}{b U:z0h}{X:List z3L}{a:Option Addr}{m c mb:Nat}{E E':List (Int×z0I)}{S S':Nat->Prop}(h:z3P w0 w J b X a m c)(Y:∀k,(Value.slice a m c).ownBlock=some k->¬S k)(h3:∀x∈X,∀k,x.v.ownBlock=some k->¬S k)(L:∀k,S k->w0.heap.size<=k)(N:z0w w' J mb E' U w0.heap.size S')(O:z0n S w w')(hS:∀k,S' k->S k\/w.heap.size<=k):z3P w0 w' J U X a m c:=by
 refine⟨⟨mb,E',S',N,fun k A R=>?_,fun x I k A R=>?_⟩,j7 h.row fun k A=>O.block k (h.row.lt k A).2 (Y k A),h.len,fun x I=>j7 (h.ent x I) fun k A=>O.block k ((h.ent x I).lt k A).2 (h3 x I k A),h.low.trans (O.below h.low.size L)⟩
 .rcases hS k R with e|e
  .exact Y k A e
  have:=(h.row.lt k A).2;omega
 rcases hS k R with e|e
 .exact h3 x I k A e
 have:=((h.ent x I).lt k A).2;omega
theorem z3P.add{w0 w w':World}{U:Nat}{b:z0h}{X:List z3L}{a a':Option Addr}{m c c' id:Nat}(h:z3P w0 w U b X a m c)(L:w.grownBy w' (Value.slice a m c).ownBlock)(hn:∀k,(Value.slice a' (m+1) c').ownBlock=some k->(Value.slice a m c).ownBlock=some k\/w.heap.size<=k)
  (J:w'.ownsRow w0.heap.size 43 2 (.slice a' (m+1) c') (m+1) (X.flatMap z3L.cells++ [.int .u32 id,.slice none 0 0])):z3P w0 w' U b (X++ [⟨id,none,0, []⟩]) a' (m+1) c':=by
 obtain⟨mb,E,S,O,Y,h3⟩:=h.bk;have R:∀x∈X,∀k,x.v.ownBlock=some k->some k≠(Value.slice a m c).ownBlock:=fun x I k A e=>z5n (h.ent x I) h.row wG A e.symm;refine⟨⟨mb,E,S,O.keep (fun k A=>L.block k (O.lo k A).2 fun e=>Y k e.symm A) L.size,fun k A N=>?_,fun x I k A N=>?_⟩,?_,by rw[wP,<-h.len];rfl,fun x I=>?_,h.low.grown L h.low.size fun k A=>(h.row.lt k A).1⟩
 .rcases hn k A with e|e
  .exact Y k e N
  have:=(O.lo k N).2;omega
 .rcases uB.1 I with I|I
  .exact h3 x I k A N
  rw[uD.1 I]at A;cases A
 .rw[uk];exact J
 rcases uB.1 I with I|I
 .exact j7 (h.ent x I) fun k A=>L.block k ((h.ent x I).lt k A).2 (R x I k A)
 rw[uD.1 I];exact uN _ _ _ _
theorem z9O:∀(X:List z3L) (k:Nat) (x y:z3L),X[k]? =some x->y.id=x.id->(X.flatMap z3L.cells).set (k*2+1) y.v=(X.set k y).flatMap z3L.cells
 | [],k,x,y,h,_=>by simp at h
 | z::X,0,x,y,h,he=>by
  simp only[uv,wK]at h;subst h;rw[kx,uH,uH];unfold z3L.cells;rw[he];rfl
 | z::X,k+1,x,y,h,he=>by
  rw[qP,uH,uH,<-z9O X k x y h he];show([.int .u32 z.id,z.v]++X.flatMap z3L.cells).set ((k+1)*2+1) y.v= [.int .u32 z.id,z.v]++(X.flatMap z3L.cells).set (k*2+1) y.v;rw[show(k+1)*2+1=(k*2+1)+1+1 by omega];rfl
theorem z3P.put{w0 w w':World}{bb g k:Nat}{b:z0h}{X:List z3L}{m c:Nat}{x:z3L}{a':Option Addr}{c':Nat}{A:List z1m}(h:z3P w0 w bb b X (some ⟨g,0,none⟩) m c)(hk:X[k]? =some x)(hb:Below w.heap.size w w')(hv:w'.ownsRow w0.heap.size 79 2 (.slice a' A.length c') A.length (z1b A))(O:∀j,(Value.slice a' A.length c').ownBlock=some j->w.heap.size<=j):
  z3P w0 (w'.setCell ⟨g,k*2+1,none⟩ (.slice a' A.length c')) bb b (X.set k ⟨x.id,a',c',A⟩) (some ⟨g,0,none⟩) m c:=by
 have L:=h.next hb
 obtain⟨mb,E,S,h1,h2,h3⟩:=h.bk;have a1:g<w.heap.size:=(h.row.lt g rfl).2;have hS:¬S g:=h2 g rfl;have U:z0n (fun j=>j=g) w' (w'.setCell ⟨g,k*2+1,none⟩ (.slice a' A.length c')):=z0n.setCell w' _ rfl;have Y:=h1.low hb;have a0:w0.heap.size<=g:=(h.row.lt g rfl).1;have R:=(L.row.stored (k*2+1) (.slice a' A.length c')).1;have N:(X.set k ⟨x.id,a',c',A⟩).length=X.length:=pj;refine⟨⟨mb,E,S,Y.only U (fun j I e=>hS (e▸I)),h2,fun y J j I hs=>?_⟩,?_,by rw[N];exact h.len,fun y J=>?_,L.low.trans (U.below L.low.size fun j I=>wF)⟩
 .rcases eo J with J|rfl
  .exact h3 y J j I hs
  have:=O j I;have:=(h1.lo j hs).2;omega
 .rw[<-z9O X k x ⟨x.id,a',c',A⟩ hk rfl];exact R
 rcases eo J with J|rfl
 .exact j7 (L.ent y J) fun j I=>U.block j ((L.ent y J).lt j I).2 (fun e=>by
   subst e;exact z5n (L.ent y J) L.row wG I rfl)
 exact j7 hv fun j I=>U.block j (hv.lt j I).2 (fun e=>by
  subst e;exact z5n hv L.row wG I rfl)
theorem y7G:∀(A:List (Nat×List z1m)) (k id:Nat) (x:z1m) (l:List z1m),A[k]? =some (id,l)->(∀j p,j<k->A[j]? =some p->p.1≠id)->z4z id x A=A.set k (id,l++ [x])
 | [],k,id,x,l,h,_=>by simp at h
 | p::A,0,id,x,l,h,_=>by
  simp only[uv,wK]at h;subst h;unfold z4z;rw[wZ rfl,kx]
 | (i,l0)::A,k+1,id,x,l,h,hn=>by
  have I:=hn 0 (i,l0) wF rfl;unfold z4z;rw[wR I,qP,y7G A k id x l h fun j p L J=>hn (j+1) p wF J]
theorem y7J:∀(A:List (Nat×List z1m)) (id:Nat) (x:z1m),(∀p∈A,p.1≠id)->z4z id x A=A++ [(id, [x])]
 | [],id,x,_=>rfl
 | (i,l0)::A,id,x,hn=>by
  unfold z4z;rw[wR (hn _ uK),y7J A id x fun p I=>hn p (uJ _ I),uY]
theorem y6m{n:Nat}:∀(A:List (Nat×List z1m)) (id:Nat) (x:z1m),(∀p∈A,p.2.length<=n)->∀p∈z4z id x A,p.2.length<=n+1
 | [],id,x,h,p,I=>by
  unfold z4z at I;rw[uD.1 I];simp
 | (i,l)::A,id,x,h,p,I=>by
  have J:=h _ uK;unfold z4z at I;split at I
  .rcases wy.1 I with rfl|I
   .simp only[wP,pP];exact Nat.succ_le_succ J
   exact kK (h p (uJ _ I))
  rcases wy.1 I with rfl|I
  .exact kK J
  exact y6m A id x (fun q L=>h q (uJ _ L)) p I
theorem y5o:∀(L:List LOp) (r:z0h×List (Nat×List z1m)) (n:Nat),(∀p∈r.2,p.2.length<=n)->∀p∈(L.foldl z1e r).2,p.2.length<=n+L.length
 | [],r,n,h=>h
 | o::L,r,n,h=>by
  rw[pg];have I:∀p∈(z1e r o).2,p.2.length<=n+1:=by
   unfold z1e;split
   .exact fun p A=>kK (h p A)
   exact y6m r.2 _ _ h
  have J:=y5o L (z1e r o) (n+1) I;intro p A;have:=J p A;rw[wW];omega
theorem q8a(I:Int)(hs: -9223372036854775808<=I/\I<=9223372036854775807)(a:Option Addr)(n c:Nat)(L:List LOp)(hL:∀o∈L,o.Ok)(hn:n<=1000)(w:World)(h:y1L w a n L)(dR:z1H w):
  Calls prog 5 #[.int .i64 I,.slice a n c] w fun e w'=>∃bb X a m c,e= .returned (.tuple #[.pointer (some ⟨bb,0,none⟩),.slice a m c])/\z3P w w' bb (y1w I L).1 X a m c/\X.map (fun x=>(x.id,x.xs))=(y1w I L).2/\z9K (y1w I L).1 (z3G I) L.length:=by
 obtain⟨iS,bU,aV,aX,aY⟩:=oq y1N;obtain⟨iA,eO,e4,e5,e6⟩:=oq q5b;have b3:=z7 (fun w'=>y8Z 64 (z3G I) wF (y2s I) w');have H:=z7 h;have eC:=z7 dR;have HL:=z7 hL;have hz:=y2s I;have cY:(z3G I:Int)=1+(max I 0)%24:=by unfold z3G;omega
 clear h dR hL;go_enter func5,ntmps5;obtain⟨Z,hZ⟩:=zN (z3G I);unfold y1w;rw[<-hZ]at b3 hz cY ⊢;have cE:=b3.o;rw[cY]at cE;clear hZ b3 cY;go_wp2_with fail;refine(cE _).mono ?_;rintro e w1 ⟨bb,mb,S,rfl,aB,cM⟩;have c9:=z7 aB;have eX:=z7 cM;have dJ:z9K ⟨64,Z, []⟩ Z 0:=z9K.start hz.1;have dG:z3P w w1 bb ⟨64,Z, []⟩ [] none 0 0:=⟨⟨mb, [],S,aB,(fun k hk=>by cases hk),fun x hx=>by cases hx⟩,uN _ _ _ _,rfl,(fun x hx=>by cases hx),cM⟩;have eH:=z7 dJ;have eF:=z7 dG;clear aB cM dJ dG cE;obtain⟨r0,dW⟩:∃r:z0h×List (Nat×List z1m),r=(⟨64,Z, []⟩, []):=⟨_,rfl⟩;have cF:=z7 dW;have cR:=z7 H.o.1;clear dW;go_wp2_with fail;go_loopw[7,8] (fun av iv wr=>∃(i m:Nat) (a:Option Addr) (c:Nat),av= .slice a m c/\iv= .int .i64 i/\i<=n/\m<=i/\Hid (∃X,z3P w wr bb ((L.take i).foldl z1e r0).1 X a m c/\X.map (fun x=>(x.id,x.xs))=((L.take i).foldl z1e r0).2)/\Hid (z9K ((L.take i).foldl z1e r0).1 Z i)) (fun _ iv _=>match iv with | .int _ y=>n - y.toNat|_=>0)
 case atStart=>
  have h9:((L.take 0).foldl z1e r0)=(⟨64,Z, []⟩, []):=by rw[iK];exact cF.o
  exact⟨0,0,none,0,rfl,rfl,uA _,uA _,z7 ⟨[],by rw[h9];exact eF.o,by rw[h9];rfl⟩,z7 (by rw[h9];exact eH.o)⟩
 case round=>
  obtain⟨i,m,aa,cc,rfl,rfl,hi,eW,hX,hP⟩:=hrel;have f0:IntKind.i64.wrap ((i:Int)+1)=((i+1:Nat):Int):=z0l wF wF;by_cases eZ:i<n
  .have d1:decide ((i:Int)<(n:Int))=true:=hQ;obtain⟨o,ho⟩:∃o,L[i]? =some o:=⟨_,wL (by have:=cR.o;omega)⟩;have dZ:=HL.o o (wX ho);obtain⟨X,aH,bT⟩:=hX.o;obtain⟨r,hr⟩:=zN ((L.take i).foldl z1e r0);have aG:=hP.o;have bF:∀p∈r.2,p.2.length<=i:=by
    have h9:=y5o (L.take i) r0 0 (by rw[cF.o];intro p hp;cases hp);rw[<-hr]at h9;intro p hp;have:=h9 p hp;rw[uR]at this;omega
   have bJ:(L.take (i+1)).foldl z1e r0=z1e r o:=(by rw[uG,ho,ez,<-hr];rfl);rw[<-hr]at aH bT aG;obtain⟨b,A⟩:=r;simp only at aH bT aG bF;obtain⟨g1,a7,rfl,dS,hq⟩:∃g1 a7,a=some ⟨g1,a7,none⟩/\g1<w.heap.size/\∀w',Below w.heap.size w w'->g1<w'.heap.size/\w'.cell? ⟨g1,a7+i*17+1,none⟩=some (.int .u32 o.s)/\w'.cell? ⟨g1,a7+i*17+2,none⟩=some (.int .i64 o.t)/\w'.cell? ⟨g1,a7+i*17+3,none⟩=some (.int .u64 (o.v:Nat)):=by
    obtain⟨g1,a7,e,dS, -⟩:=H.o.2 i o ho;refine⟨g1,a7,e,dS,fun w' hb=>?_⟩;obtain⟨g2,eU,e2,h1,h2,h3,h4⟩:=(H.o.low hb).2 i o ho;rw[e]at e2;simp only[wK,oh,dc]at e2;obtain⟨rfl,rfl⟩:=e2;exact⟨h1,h2,h3,h4⟩
   obtain⟨id,dU⟩:=zN (o.s%64);have eR:id<64:=wF;have bH:((o.s:Int)%64)=(id:Int):=wF;have e1:=z7 (show((o.s:Int)).tmod 64=(o.s:Int)%64 from Int.tmod_eq_emod_of_nonneg wF);have HQ:=z7 hq;have eI:=z7 hq;have cJ:=z7 aH;have aF:=z7 bT;have d9:=z7 aG;have dE:=z7 bJ;have d6:=z7 bF;have d0:=z7 dU;have cN:=eC.o.low aH.low;have cW:=z7 cN;have bC:(0:Int)<=i/\(i:Int)<n:=wF;obtain⟨mb,E,S,aB,dM,dN⟩:=aH.bk;have R:=z7 (fun w' (hw:Below wr.heap.size wr w')=>q7w bb mb w.heap.size E b S id wF o.t o.v dZ.x (by have:=aG.few id;omega) (by rw[aG.size];exact aG.lt id) w' (aB.low hw) (cN.low hw));have c5:=aB.serOk id;have dC:=z7 c5;have c9:=z7 aB;have cZ:=z7 dM;have cD:=z7 dN;obtain⟨er,cO⟩:=zN (z7o b id o.t);have a4:=R.o;unfold q0d at a4;simp only at a4;rw[<-cO]at a4;have R:=z7 a4;have cA:=z7 cO;have bW:=aH.low;have b0:=z7 bW;clear hq aH bT aG bJ bF hX hP ho hr dZ dU aB dM dN c5 cO a4 cN bW;go_upto_region 8 with fail
   refine q6 12 94 (fun D v w'=>Below wr.heap.size wr w') wD.drew ?_;simp only[z0C];iterate 12 (refine q8.rd ?_ (fun D v w' hD J=>?_) ?_;rotate_left;(obtain⟨lg,q1,q2,q3⟩:=HQ.o w' (b0.o.trans (J.mono b0.o.size));clear J hD;go_simp;try rfl);go_simp)
   refine q8.fin (fun v w2 J=>?_);have bN:=z7 J;clear J;go_wp2_with fail;rw[bH];have b1:=z7 bH;clear bH;refine(R.o w2 bN.o).mono ?_;rintro e w3 (⟨dY,rfl,hb⟩|⟨h0,rfl,E',S',dF,dI,dL⟩)
   .have d2:((er:Int)==0)=false:=uy wF;have eG:=z7 dY;have HB:=z7 hb;clear dY hb bC;go_wp2;have eT:=(cJ.o.next bN.o).next HB.o
    have a5:(L.take (i+1)).foldl z1e r0=(b,A):=by
     rw[dE.o];unfold z1e;rw[<-d0.o,<-cA.o,wZ eG.o]
    exact⟨⟨i+1,m,aa,cc,rfl,rfl,wF,wF,z7 ⟨X,by rw[a5];exact eT,by rw[a5];exact aF.o⟩,z7 (by rw[a5];exact d9.o.more (rK i))⟩,by show n - ((i+1:Nat):Int).toNat<n - (i:Int).toNat;omega⟩
   subst h0;have aW:z3P w w3 bb (z9z b id ⟨o.t,o.v⟩) X aa m cc:=z3P.book (E:=E) (cJ.o.next bN.o) cZ.o cD.o (fun k hk=>(c9.o.lo k hk).1) dF dI dL;have cT:z9K (z9z b id ⟨o.t,o.v⟩) Z (i+1):=z9K.put hz.1 d9.o dC.o cA.o.symm;have a5:(L.take (i+1)).foldl z1e r0=(z9z b id ⟨o.t,o.v⟩,z4z id ⟨o.t,o.v⟩ A):=by
    rw[dE.o];unfold z1e;rw[<-d0.o,<-cA.o,wR wH]
   obtain⟨pb,dD⟩:=zN (z9z b id ⟨o.t,o.v⟩);rw[<-dD]at aW cT a5;have cI:=z7 aW;have d8:=z7 cT;have a8:=z7 a5;have aE:=z7 (fun w' (hb:Below w3.heap.size w3 w')=>HQ.o w' (aW.low.trans (hb.mono aW.low.size)));have bV:=z7 aW.len;clear aW cT a5 dD dF dI dL R HQ c9 cZ cD cJ bN b0 cW;go_wp2_with fail;go_loopw[9] (fun kv w4=>∃k:Nat,kv= .int .i64 (k:Nat)/\k<=m/\Hid (∀j x,j<k->X[j]? =some x->x.id≠id)/\Hid (Below w3.heap.size w3 w4)) (fun kv _=>match kv with | .int _ y=>m - y.toNat|_=>0)
   case atStart=>exact⟨0,rfl,uA _,z7 (fun j x hj=>wF),z7 wD⟩
   case round=>
    obtain⟨k,rfl,hk,cS,N⟩:=hrel;have f2:IntKind.i64.wrap ((k:Int)+1)=((k+1:Nat):Int):=z0l wF wF;have bX:z3P w wr bb pb X aa m cc:=cI.o.next N.o
    obtain⟨e7,e8,e9,eA⟩:=aE.o wr N.o;have bO:=z7 bX;by_cases eD:k<m
    .have d3:decide ((k:Int)<(m:Int))=true:=hQ;obtain⟨⟨aT,xa,xc,xs⟩,hx⟩:∃x,X[k]? =some x:=⟨_,wL (by have:=bV.o;omega)⟩;obtain⟨ga,rfl,aN⟩:=bX.at' hx;obtain⟨xn,cX⟩:=zN xs.length;simp only[z3L.v]at aN;rw[<-cX]at aN;have bR:=z7 cX;clear cX;have bM:=z7 aN;have HX:=z7 hx;have dV:(0:Int)<=k/\(k:Int)<m:=wF;clear bX hx aN e7 e8 e9 eA;by_cases bY:aT=id
     .have d4:((aT:Int) !=((o.s:Int)%64))=false:=(by rw[b1.o,bY];simp);have eN:((aT:Int) !=((o.s:Int)).tmod 64)=false:=(by rw[e1.o];exact d4);have d5:((k:Int)==(m:Int))=false:=uy wF;go_wp2_with fail;refine q6 18 94 (fun D v w'=>Below wr.heap.size wr w') wD.drew ?_;simp only[z0C];iterate 18 (refine q8.rd ?_ (fun D v w' hD J=>?_) ?_;rotate_left;(obtain⟨lg,q1,q2,q3⟩:=aE.o w' (N.o.trans (J.mono N.o.size));obtain⟨aS,aI,aJ,aL⟩:=bM.o w' J;clear J hD;go_simp;try rfl);go_simp)
      refine q8.fin (fun v U J=>?_);have aZ:=z7 (bO.o.next J);have b4:=z7 (fun w' (hb:Below U.heap.size U w')=>aE.o w' (N.o.trans ((J.trans (hb.mono J.size)).mono N.o.size)));have aA:=z7 (fun w' (hb:Below U.heap.size U w')=>bM.o w' (J.trans (hb.mono J.size)));have bI:Rd U (.slice xa xn xc) 2 xn (z1b xs):=by
       have h9:=z0d (aZ.o.ent _ (wX HX.o));simp only[z3L.v]at h9;rw[<-bR.o]at h9;exact h9
      have b7:=z7 bI;have dH:xn<=i:=by
       rw[bR.o];exact d6.o (aT,xs) (by rw[<-aF.o];exact uC.2 ⟨_,wX HX.o,rfl⟩)
      clear J bI N cI bO bM aE;obtain⟨lg,q1,q2,q3⟩:=b4.o U wD;obtain⟨aS,aI,aJ,aL⟩:=aA.o U wD;have b8:=aZ.o.low.size;go_upto_region 16 with(at_builtin;refine z2r rfl _ _ 41 rfl w.heap.size 79 iS _ 2 16 underlying41 bU aV aX aY rfl wG (.slice none 0 0) 0 [] rfl (uN _ _ _ _) _ xn _ rfl b7.o (z7E xs) (by unfold maxLen;omega) wF b8 ?_;intro v6 w6 h6 bA cU b9;have aO:=y9T b9;obtain⟨a6,c6,rfl⟩:=z1X h6;(try simp only[uZ]at aO);have b5:=z7 h6;have cB:=z7 bA;have b2:=z7 aO;clear h6 bA cU b9 aO)
      have O:Below U.heap.size U w6:=wD.grown cB.o wE (fun j hj=>by cases hj);have aR:=b5.o;rw[uZ,uW]at aR;clear lg q1 q2 q3 aS aI aJ aL;obtain⟨lg,q1,q2,q3⟩:=b4.o w6 O;have a2:Below w6.heap.size w6 (w6.alloc (.cells #[.int .i64 o.t,.int .u64 (o.v:Nat)] 79)):=q5 _ _;have Y:=ownsRow_below aR a2 wE;have aC:=z7 Y;have a0:Rd (w6.alloc (.cells #[.int .i64 o.t,.int .u64 (o.v:Nat)] 79)) (.slice (some ⟨w6.heap.size,0,none⟩) 1 1) 2 1 [.int .i64 o.t,.int .u64 (o.v:Nat)]:=z3t _ _ _ 1 2 wH wH;have b6:=z7 a0;have a3:Below U.heap.size U (w6.alloc (.cells #[.int .i64 o.t,.int .u64 (o.v:Nat)] 79)):=O.trans (a2.mono O.size);have bL:w.heap.size<=(w6.alloc (.cells #[.int .i64 o.t,.int .u64 (o.v:Nat)] 79)).heap.size:=wV b8 a3.size;have a1:=z7 a3;clear aR a2 Y a0 a3 O b5;go_upto_region 17 with(at_builtin;refine z1I rfl _ _ 41 rfl w.heap.size 79 iS _ 2 16 underlying41 bU aV aX aY rfl wG a6 (xn) c6 _ rfl aC.o _ 1 [.int .i64 o.t,.int .u64 (o.v:Nat)] rfl b6.o wG (by simp[Value.oneCell']) (by unfold maxLen;omega) wF bL ?_;intro g7 c7 w7 h7 bB a9;have cG:=z7 h7;have cC:=z7 bB;have cH:=z7 a9;clear h7 bB a9)
      have aM:Below U.heap.size U w7:=a1.o.grown cC.o a1.o.size (fun j hj=>b2.o j hj);clear lg q1 q2 q3;obtain⟨aS,aI,aJ,aL⟩:=aA.o w7 aM;have c8:=z7 aM;clear aM;go_wp2;have a9:w7.ownsRow w.heap.size 79 2 (.slice (some ⟨g7,0,none⟩) (xs++([⟨o.t,o.v⟩]:List z1m)).length c7) (xs++([⟨o.t,o.v⟩]:List z1m)).length (z1b (xs++([⟨o.t,o.v⟩]:List z1m))):=by
       rw[wP,z5u];rw[<-bR.o];exact cG.o
      have R:=aZ.o.put HX.o c8.o a9 (fun j hj=>by
       have bE:some g7=some j:=hj;simp only[wK]at bE;subst bE;rcases cH.o with e|e
       .exact b2.o _ e
       have:=a1.o.size;omega)
      rw[show(xs++([⟨o.t,o.v⟩]:List z1m)).length=xn+1 from by rw[wP];rw[<-bR.o];rfl]at R;have bG:(X.set k ⟨aT,some ⟨g7,0,none⟩,c7,xs++ [⟨o.t,o.v⟩]⟩).map (fun x=>(x.id,x.xs))=z4z id ⟨o.t,o.v⟩ A:=by
       rw[y7G A k id _ xs (by rw[<-aF.o,uF,HX.o,<-bY];rfl) (fun j p hj hp=>by
        rw[<-aF.o,uF]at hp;obtain⟨y,hy,rfl⟩:=uM.1 hp;exact cS.o j y hj hy),qs,aF.o,bY]
      exact⟨⟨i+1,m,some ⟨ga,0,none⟩,cc,rfl,rfl,wF,wF,z7 ⟨_,by rw[a8.o];exact R,by rw[a8.o];exact bG⟩,z7 (by rw[a8.o];exact d8.o)⟩,by show n - ((i+1:Nat):Int).toNat<n - (i:Int).toNat;omega⟩
     have d4:((aT:Int) !=((o.s:Int)%64))=true:=(by rw[b1.o];simp;omega);have eN:((aT:Int) !=((o.s:Int)).tmod 64)=true:=(by rw[e1.o];exact d4);go_wp2_with fail;refine q6 18 94 (fun D v w'=>Below wr.heap.size wr w') wD.drew ?_;simp only[z0C];iterate 18 (refine q8.rd ?_ (fun D v w' hD J=>?_) ?_;rotate_left;(obtain⟨lg,q1,q2,q3⟩:=aE.o w' (N.o.trans (J.mono N.o.size));obtain⟨aS,aI,aJ,aL⟩:=bM.o w' J;clear J hD;go_simp;try rfl);go_simp)
     refine q8.fin (fun v U J=>?_);have eB:=z7 (N.o.trans (J.mono N.o.size));clear J;go_wp2;refine⟨⟨k+1,rfl,wF,z7 (fun j y hj hy=>?_),eB⟩,by show m - ((k+1:Nat):Int).toNat<m - (k:Int).toNat;omega⟩;rcases qJ j k with h|h
     .exact cS.o j y h hy
     have:j=k:=wF;subst this;rw[HX.o]at hy;simp only[wK]at hy;rw[<-hy];exact bY
    have dX:k=m:=wF;subst dX;have d3:decide ((k:Int)<(k:Int))=false:=wH;have d5:((k:Int)==(k:Int))=true:=wH;clear bX e7 e8 e9 eA;go_wp2_with fail;refine q6 18 94 (fun D v w'=>Below wr.heap.size wr w') wD.drew ?_;simp only[z0C];iterate 5 (refine q8.rd ?_ (fun D v w' hD J=>?_) ?_;rotate_left;(clear J hD;go_simp;try rfl);go_simp)
    iterate 12 (refine q8.sk (fun D v w h=>h) ?_;go_simp)
    (refine q8.rd ?_ (fun D v w' hD J=>?_) ?_;rotate_left;(clear J hD;go_simp;try rfl);go_simp)
    refine q8.fin (fun v w4 J=>?_);have bZ:=z7 (bO.o.next J);have dA:=z7 (fun w' (hb:Below w4.heap.size w4 w')=>aE.o w' (N.o.trans ((J.trans (hb.mono J.size)).mono N.o.size)));obtain⟨lg,q1,q2,q3⟩:=dA.o w4 wD;have a2:Below w4.heap.size w4 (w4.alloc (.cells #[.int .u32 ((o.s:Int)%64),.slice none 0 0] 43)):=q5 _ _;have aU:=bZ.o.next a2
    have bD:=z7 aU;have Y:=aU.row;have d7:=z7 Y;have a0:Rd (w4.alloc (.cells #[.int .u32 ((o.s:Int)%64),.slice none 0 0] 43)) (.slice (some ⟨w4.heap.size,0,none⟩) 1 1) 2 1 [.int .u32 ((o.s:Int)%64),.slice none 0 0]:=z3t _ _ _ 1 2 wH wH;have dB:=z7 a0;have e0:=aU.low.size;have eV:=z7 a2;clear J a2 aU Y a0 N cI aE bO;go_upto_region 14 with(at_builtin;(refine z1I rfl _ _ 28 rfl w.heap.size 43 iA _ 2 32 underlying28 eO e4 e5 e6 rfl wG aa k cc (X.flatMap z3L.cells) rfl d7.o _ 1 [.int .u32 ((o.s:Int)%64),.slice none 0 0] rfl dB.o wG (by simp[Value.oneCell']) (by unfold maxLen;omega) wF e0 ?_);intro ga ca U h5 dT e3;have eJ:=z7 h5;have eE:=z7 dT;have eL:=z7 e3;clear h5 dT e3)
    have aD:z3P w U bb pb (X++ [⟨id,none,0, []⟩]) (some ⟨ga,0,none⟩) (k+1) ca:=by
     refine bD.o.add eE.o (fun j hj=>?_) ?_
     .simp only[Value.ownBlock,wK]at hj;subst hj;rcases eL.o with e|e
      .exact .inl e
      exact .inr (qH e.symm)
     have h9:=eJ.o;rw[b1.o]at h9;exact h9
    obtain⟨X',bS⟩:=zN (X++ [⟨id,none,0, []⟩]);have cV:X'[k]? =some ⟨id,none,0, []⟩:=(by rw[bS,bV.o,uO wE,pI];rfl);rw[<-bS]at aD;obtain⟨eY,e2,aN⟩:=aD.at' cV;simp only[wK,oh,dc]at e2;subst e2;have aZ:=z7 aD;have HX:=z7 cV;have aA:=z7 aN;have eM:=z7 bS;have dO:Below w4.heap.size w4 U\/True:= .inr trivial;have b4:Hid (∀w',Below U.heap.size U w'->g1<w'.heap.size/\w'.cell? ⟨g1,a7+i*17+1,none⟩=some (.int .u32 o.s)/\w'.cell? ⟨g1,a7+i*17+2,none⟩=some (.int .i64 o.t)/\w'.cell? ⟨g1,a7+i*17+3,none⟩=some (.int .u64 (o.v:Nat))):=z7 fun w' hb=>eI.o w' (aD.low.trans (hb.mono aD.low.size));have bI:Rd U (.slice none 0 0) 2 0 []:=Rd.nil _ _;have b7:=z7 bI;have dH:(0:Nat)<=i:=uA _;have dV:(0:Int)<=k/\(k:Int)<k+1:=wF
    clear aD cV aN bS bI dO bD bZ dA lg q1 q2 q3 d5 d3;obtain⟨lg,q1,q2,q3⟩:=b4.o U wD;obtain⟨aS,aI,aJ,aL⟩:=aA.o U wD;have b8:=aZ.o.low.size;go_upto_region 16 with(at_builtin;refine z2r rfl _ _ 41 rfl w.heap.size 79 iS _ 2 16 underlying41 bU aV aX aY rfl wG (.slice none 0 0) 0 [] rfl (uN _ _ _ _) _ 0 _ rfl b7.o (z7E []) (by unfold maxLen;omega) wF b8 ?_;intro v6 w6 h6 bA cU b9;have aO:=y9T b9;obtain⟨a6,c6,rfl⟩:=z1X h6;(try simp only[uZ]at aO);have b5:=z7 h6;have cB:=z7 bA;have b2:=z7 aO;clear h6 bA cU b9 aO)
    have O:Below U.heap.size U w6:=wD.grown cB.o wE (fun j hj=>by cases hj);have aR:=b5.o;rw[uZ,uW]at aR;clear lg q1 q2 q3 aS aI aJ aL;obtain⟨lg,q1,q2,q3⟩:=b4.o w6 O;have a2:Below w6.heap.size w6 (w6.alloc (.cells #[.int .i64 o.t,.int .u64 (o.v:Nat)] 79)):=q5 _ _;have Y:=ownsRow_below aR a2 wE;have aC:=z7 Y;have a0:Rd (w6.alloc (.cells #[.int .i64 o.t,.int .u64 (o.v:Nat)] 79)) (.slice (some ⟨w6.heap.size,0,none⟩) 1 1) 2 1 [.int .i64 o.t,.int .u64 (o.v:Nat)]:=z3t _ _ _ 1 2 wH wH;have b6:=z7 a0;have a3:Below U.heap.size U (w6.alloc (.cells #[.int .i64 o.t,.int .u64 (o.v:Nat)] 79)):=O.trans (a2.mono O.size);have bL:w.heap.size<=(w6.alloc (.cells #[.int .i64 o.t,.int .u64 (o.v:Nat)] 79)).heap.size:=wV b8 a3.size;have a1:=z7 a3;clear aR a2 Y a0 a3 O b5;go_upto_region 17 with(at_builtin;refine z1I rfl _ _ 41 rfl w.heap.size 79 iS _ 2 16 underlying41 bU aV aX aY rfl wG a6 (0) c6 _ rfl aC.o _ 1 [.int .i64 o.t,.int .u64 (o.v:Nat)] rfl b6.o wG (by simp[Value.oneCell']) (by unfold maxLen;omega) wF bL ?_;intro g7 c7 w7 h7 bB a9;have cG:=z7 h7;have cC:=z7 bB;have cH:=z7 a9;clear h7 bB a9)
    have aM:Below U.heap.size U w7:=a1.o.grown cC.o a1.o.size (fun j hj=>b2.o j hj);clear lg q1 q2 q3;obtain⟨aS,aI,aJ,aL⟩:=aA.o w7 aM;have c8:=z7 aM;clear aM;go_wp2;have a9:w7.ownsRow w.heap.size 79 2 (.slice (some ⟨g7,0,none⟩) ([]++([⟨o.t,o.v⟩]:List z1m)).length c7) ([]++([⟨o.t,o.v⟩]:List z1m)).length (z1b ([]++([⟨o.t,o.v⟩]:List z1m))):=by
     rw[wP,z5u];exact cG.o
    have R:=aZ.o.put HX.o c8.o a9 (fun j hj=>by
     have bE:some g7=some j:=hj;simp only[wK]at bE;subst bE;rcases cH.o with e|e
     .exact b2.o _ e
     have:=a1.o.size;omega)
    have bG:(X'.set k ⟨id,some ⟨g7,0,none⟩,c7, []++ [⟨o.t,o.v⟩]⟩).map (fun x=>(x.id,x.xs))=z4z id ⟨o.t,o.v⟩ A:=by
     rw[y7J A id _ (fun p hp=>by
      rw[<-aF.o]at hp;obtain⟨y,hy,rfl⟩:=uC.1 hp;obtain⟨j,hj,eS⟩:=pO hy;exact cS.o j y (by have:=bV.o;omega) (by rw[wL hj,eS])),eM.o,bV.o,mn _ _ wE,pI,<-aF.o,uV]
     rfl
    exact⟨⟨i+1,k+1,some ⟨ga,0,none⟩,ca,rfl,rfl,wF,wF,z7 ⟨_,by rw[a8.o];exact R,by rw[a8.o];exact bG⟩,z7 (by rw[a8.o];exact d8.o)⟩,by show n - ((i+1:Nat):Int).toNat<n - (i:Int).toNat;omega⟩
  have d1:decide ((i:Int)<(n:Int))=false:=wC;have bC:i=n:=wF;subst bC;go_wp2;go_ret2;obtain⟨X,h1,h2⟩:=hX.o;have ht:L.take i=L:=wt (qH cR.o.symm);have cL:=hP.o;rw[ht]at h1 h2 cL;rw[cF.o]at h1 h2 cL;exact⟨bb,X,aa,m,cc,rfl,h1,h2,by rw[<-cR.o];exact cL⟩
def z2P(s:z0T)(n:Nat):z0T:=⟨s.done.take n,if n<=s.done.length then z1Y else s.cur⟩
def z2B(s:z0T):Nat:=s.done.length+if 0<s.cur.st.length then 1 else 0
theorem y0o(s:z0T):s.done.length<=z2B s/\z2B s<=s.done.length+1:=by
 unfold z2B;split<;>omega
theorem z9e(id:Nat):∀(l:List (z0R×Bool)) (k:Nat),(∀x∈l,0<x.1.st.length)->(z0z id k l).length=l.length/\∀(n:Nat) (x:z0R×Bool),l[n]? =some x->(z0z id k l)[n]? =some (z4p id (k+n) x)
 | [],k,h=>⟨rfl,fun n x A=>by simp at A⟩
 | y::l,k,h=>by
  have I:=h y uK;obtain⟨J,L⟩:=z9e id l (k+1) (fun x A=>h x (uJ _ A));unfold z0z;rw[wZ I];refine⟨by rw[wW,wW,J],fun n x A=>?_⟩;cases n with
  | zero=>
   simp only[uv,wK]at A ⊢;rw[A,dp]
  | succ n=>
   rw[kz]at A ⊢;rw[L n x A,show k+1+n=k+(n+1) by omega]
theorem z5U{s:z0T}(hs:s.Ok)(id:Nat):(z1k id s).length=z2B s/\∀n,n<z2B s->∃p cl,s.parts[n]? =some (p,cl)/\0<p.st.length/\(z1k id s)[n]? =some (z4p id n (p,cl)):=by
 have R:∀x∈s.done.map (fun x=>(x,true)),0<x.1.st.length:=fun x A=>by
  obtain⟨y,hy,rfl⟩:=uC.1 A;exact(hs.done y hy).2
 by_cases L:0<s.cur.st.length
 .have Y:∀x∈s.parts,0<x.1.st.length:=fun x A=>by
   rcases uB.1 A with h|h
   .exact R x h
   rw[uD.1 h];exact L
  obtain⟨N,O⟩:=z9e id s.parts 0 Y;have U:z2B s=s.done.length+1:=by unfold z2B;rw[wZ L]
  refine⟨by unfold z1k;rw[N,s.parts_len,U],fun n hn=>?_⟩;have I:n<s.parts.length:=by rw[s.parts_len];omega
  have A:=wL I;have J:=O n _ A;rw[uZ]at J;exact⟨_,_,A,Y _ (ug I),J⟩
 obtain⟨N,O⟩:=z9e id (s.done.map fun x=>(x,true)) 0 R;have U:z2B s=s.done.length:=by unfold z2B;rw[wR L];rfl
 have he:z1k id s=z0z id 0 (s.done.map fun x=>(x,true)):=by
  unfold z1k z0T.parts;rw[z4K];have:z0z id (0+(s.done.map fun x=>(x,true)).length) [(s.cur,false)]= []:=by
   unfold z0z;rw[wR L];rfl
  rw[this,ue]
 refine⟨by rw[he,N,we,U],fun n hn=>?_⟩;have I:n<(s.done.map fun x=>(x,true)).length:=by rw[we];omega
 have A:=wL I;have J:=O n _ A;rw[uZ]at J;refine⟨_,_,?_,R _ (ug I),by rw[he];exact J⟩;unfold z0T.parts;rw[uX I];exact A
theorem y2l(s:z0T):z2P s 0=z4T:=by
 unfold z2P;rw[wZ (uA _),iK]
theorem y8i{p:z0R}(h:p.Ok)(J:¬0<p.st.length):p=z1Y:=by
 obtain⟨l,I⟩:=p;have hb:=y4x h.rd;simp only at J hb;have A:I.length=0:=wF
 rw[A]at hb;have L:l= []:=wT wF;have N:I= []:=wT A;rw[L,N]
theorem q1y{s:z0T}(I:s.Ok):z2P s (z2B s)=s:=by
 unfold z2P z2B;by_cases A:0<s.cur.st.length
 .rw[wZ A,wR wF,wt wF]
 rw[wR A,dp,wZ wE,ui,<-y8i I.cur A]
theorem y5C{s:z0T}(O:s.Ok){n:Nat}(N:n<z2B s):z2P s n=⟨s.done.take n,z1Y⟩/\(s.done.take n).length=n/\z3a (z2P s n) s:=by
 have I:n<=s.done.length:=by have:=(y0o s).2;omega
 have e:z2P s n=⟨s.done.take n,z1Y⟩:=by unfold z2P;rw[wZ I]
 have A:(s.done.take n).length=n:=by rw[uR];omega
 refine⟨e,A,?_⟩;rw[e];obtain⟨p,cl,J,L, -⟩:=(z5U O 0).2 n N;refine⟨by show(s.done.take n).length<=_;omega,by show s.done.take n=s.done.take (s.done.take n).length;rw[A],p,cl,by show s.parts[(s.done.take n).length]? =_;rw[A];exact J,uA _,by unfold z1u toP;simp,fun _=>L⟩
def z3J(id n:Nat)(p:z0R)(cl:Bool)(b:List UInt8):Fr:=⟨2,0,id,n,0,0,p.st.length,cl,0,b,(p.l.length:Nat)⟩
theorem q6s{I:z0h}{s:z0T}(hs:s.Ok)(hr:z6I s){id n:Nat}{p:z0R}{cl:Bool}(hn:n<z2B s)(hk:j9 I id=z2P s n)(hp:s.parts[n]? =some (p,cl))(h0:0<p.st.length)(U:z3Q I id=0)(Y:24<=I.size)(b:List UInt8)(hb:z0S b p.l):
  z3u I 0 (z3J id n p cl b) p.l=(0,0,0)/\takeB I (z3J id n p cl b) p.l=I.set id (z2P s (n+1))/\(z2i (z3J id n p cl b) p.l).length<=470:=by
 obtain⟨he,hl,hF⟩:=y5C hs hn;have aF:n<=s.done.length:=by have:=(y0o s).2;omega
 have L:z1P (z2P s n)=(n,0,0):=by rw[he];unfold z1P;rw[hl];rfl
 obtain⟨A, -⟩:=y3B hs id n p cl hp h0;have a3:=z7j hs hp;obtain⟨-,hz|⟨st,N⟩⟩:=y0w hs hr hF id (p.l.length:Nat)
 .rw[L]at hz;have h9:=uS FrL.count A;have h8:(z4B s id (n,0,0) (p.l.length:Nat)).count=p.st.length:=h9;omega
 rw[L]at N;obtain⟨r,a9⟩:=zN (z4B s id (n,0,0) (p.l.length:Nat));rw[<-a9]at N A;have e1:r.series=id:=uS FrL.series A;have e2:r.p=(n,0,0):=uS FrL.p A;have e3:r.count=p.st.length:=uS FrL.count A;have e4:r.closed=cl:=uS FrL.closed A;have e5:r.bits=p.l:=uS FrL.bits A;have e6:r.sum=0:=uS FrL.sum A;have J:(z2P s n).cur.l= []:=by rw[he]
 have aB:(z2P s n).cur.st= []:=by rw[he]
 have a5:st=p.st:=by
  have h9:=N.rd;rw[J,e5,uW,a3.rd]at h9;exact(um h9).symm
 have R:z1j I (z2P s n) (z3J id n p cl b) r.bits=(0,⟨(z2P s n).cur.l++r.bits,st⟩):=z8U (z3J id n p cl b) N U Y e1.symm e2.symm e3.symm;rw[J,e5,a5,uW]at R;have hx:=hF.ok hs;have hj:z4j I (z3J id n p cl b)=0:=by
  unfold z4j;have a4:(z3J id n p cl b).series=id:=rfl;rw[a4,hk,wZ ⟨by show 2≠3;decide,by rw[L];rfl⟩,y0t hx,wR];show ¬(z3h 0 (z2P s n).cur.l≠0);rw[J];simp[z3h]
 have aA:z3O I (z3J id n p cl b) p.l=0:=by
  unfold z3O;show(z1j I (j9 I id) _ _).1=0;rw[hk,R]
 have a7:0<p.l.length:=by have:=N.bits0;rw[e5]at this;exact this
 have aE:p.l.length<=3504:=a3.bits;have aC:=hb.len;have a2:(z3J id n p cl b).cnt<(z3J id n p cl b).count/\0<p.l.length/\(z3J id n p cl b).b.length<=500:=⟨h0,a7,by show b.length<=500;omega⟩;refine⟨?_,?_,?_⟩
 .unfold z3u;rw[wR (by show ¬(2<1\/3<2);omega),wR (by show ¬(0<0);omega),hj,wR wG,wR wG,wR]
  .rfl
  rintro(g|g)
  .exact g a2
  exact g aA
 .unfold takeB;show I.set id (z4F (j9 I id) (z1j I (j9 I id) _ _).2 cl)=_;rw[hk,R]
  congr 1
  show z4F (z2P s n) p cl=_;obtain⟨O,a0,a1⟩:=y0h s _ _ _ hp;rw[he];cases cl with
  | true=>
   have hD:=a0 rfl;have a6:s.done[n]? =some p:=(by rw[uX hD]at O;exact O);show(⟨s.done.take n++ [p],z1Y⟩:z0T)=_;unfold z2P;rw[wZ wF,uG,a6];rfl
  | false=>
   have hD:=a1 rfl;subst hD;rw[uO wE,pI]at O;have a8:p=s.cur:=(um O).symm;show(⟨s.done.take s.done.length,p⟩:z0T)=_;unfold z2P;rw[wR wF,ui,wt wF,a8]
 rw[z4Y];show 24+b.length<=470;omega
structure z4I (ab kb:z0h) (ids:List Nat) (i n:Nat):Prop where
 old:∀(j id:Nat),j<i->ids[j]? =some id->j9 kb id=j9 ab id
 at_:∀id,ids[i]? =some id->j9 kb id=z2P (j9 ab id) n
 rest:∀(j id:Nat),i<j->ids[j]? =some id->j9 kb id=z4T
 most:kb.most=64
 size:kb.size=24
 keys:∀p∈kb.all,∃j id:Nat,p.1=(id:Int)/\ids[j]? =some id/\(j<i\/j=i/\0<n)
 all:∀(j id:Nat),ids[j]? =some id->(j<i\/j=i/\0<n)->∃p∈kb.all,p.1=(id:Int)
theorem z4I.start(I:z0h)(A:List Nat):z4I I ⟨64,24, []⟩ A 0 0:=
 ⟨fun j id h=>wF,fun id _=>by rw[y2l];rfl,fun j id _ _=>rfl,rfl,rfl,(fun p J=>by cases J),fun j id _ h=>wF⟩
theorem y0m{A:List Nat}(hd:A.Pairwise (·≠·)){i j a b:Nat}(L:A[i]? =some a)(N:A[j]? =some b)(h:i≠j):a≠b:=by
 obtain⟨I,rfl⟩:=wY.1 L;obtain⟨J,rfl⟩:=wY.1 N;rcases Nat.lt_or_gt_of_ne h with g|g
 .exact et.1 hd i j I J g
 exact(et.1 hd j i J I g).symm
theorem z4I.step{R N:z0h}{I:List Nat}{i n id:Nat}(h:z4I R N I i n)(hd:I.Pairwise (·≠·))(J:I[i]? =some id):z4I R (N.set id (z2P (j9 R id) (n+1))) I i (n+1):=by
 refine⟨fun j x U A=>?_,fun x A=>?_,fun j x U A=>?_,h.most,h.size,fun p O=>?_,fun j x A hc=>?_⟩
 .rw[z2v,wR (y0m hd A J wF)];exact h.old j x U A
 .rw[J]at A;cases A;rw[z2v,wZ rfl]
 .rw[z2v,wR (y0m hd A J wF)];exact h.rest j x U A
 .unfold z0h.set at O;rcases(z2d z4e (id:Int) _ p N.all).1 O with rfl|⟨Y, -⟩
  .exact⟨i,id,rfl,J,.inr ⟨rfl,wF⟩⟩
  obtain⟨j,x,e,A,hc⟩:=h.keys p Y;exact⟨j,x,e,A,wF⟩
 by_cases L:j=i
 .subst L;rw[J]at A;cases A;exact⟨_,(z2d z4e (id:Int) _ _ N.all).2 (.inl rfl),rfl⟩
 obtain⟨p,O,e⟩:=h.all j x A wF;exact⟨p,(z2d z4e (id:Int) _ p N.all).2 (.inr ⟨O,by rw[e];have:=y0m hd A J L;omega⟩),e⟩
theorem z4I.next{J O:z0h}{I:List Nat}{i n:Nat}(h:z4I J O I i n)(R:∀id,(j9 J id).Ok){id:Nat}(N:I[i]? =some id)(hn:n=z2B (j9 J id))(h0:0<n):z4I J O I (i+1) 0:=by
 refine⟨fun j x Y A=>?_,fun x A=>?_,fun j x Y A=>?_,h.most,h.size,fun p hp=>?_,fun j x A U=>?_⟩
 .by_cases L:j=i
  .subst L;rw[N]at A;cases A;rw[h.at_ id N,hn,q1y (R id)]
  exact h.old j x wF A
 .rw[y2l];exact h.rest (i+1) x wF A
 .exact h.rest j x wF A
 .obtain⟨j,x,e,A,U⟩:=h.keys p hp;exact⟨j,x,e,A,wF⟩
 exact h.all j x A wF
theorem z6j:∀(l m:List Int),l.Pairwise (·≠·)->(∀x∈l,x∈m)->l.length<=m.length
 | [],m,_,_=>uA _
 | x::l,m,h,hs=>by
  obtain⟨J,L⟩:=uj.1 h;have A:=hs x uK;have N:=z6j l (m.erase x) L fun y I=>(rH (J y I).symm).2 (hs y (uJ _ I));rw[List.length_erase_of_mem A]at N;have O:=qq A;rw[wW];omega
theorem z4I.fin{R L:z0h}{A:List Nat}(h:z4I R L A A.length 0)(hd:A.Pairwise (·≠·))(hk:L.all.Pairwise fun p q=>p.1≠q.1):(∀id∈A,j9 L id=j9 R id)/\L.all.length=A.length:=by
 refine⟨fun id I=>?_,?_⟩
 .obtain⟨j,J,rfl⟩:=pO I;exact h.old j _ J (wL J)
 have U:(L.all.map Prod.fst).length<=(A.map Int.ofNat).length:=z6j _ _ (oy.2 hk) fun x O=>by
  obtain⟨p,N,rfl⟩:=uC.1 O;obtain⟨j,id,e,J, -⟩:=h.keys p N;rw[e];exact uC.2 ⟨id,wX J,rfl⟩
 have Y:(A.map Int.ofNat).length<=(L.all.map Prod.fst).length:=z6j _ _ (oy.2 (hd.imp fun {a b} g e=>g (Int.ofNat.inj e))) fun x O=>by
  obtain⟨id,I,rfl⟩:=uC.1 O;obtain⟨j,J,rfl⟩:=pO I;obtain⟨p,N,e⟩:=h.all j _ (wL J) (.inl J);exact uC.2 ⟨p,N,e⟩
 rw[we,we]at U Y;omega
theorem z5N(s:z0T)(p:z0R)(cl:Bool):z2A (z4F s p cl)=(s.done.flatMap fun x=>z1Q x.st)++z1Q p.st:=by
 have key:∀(d:List z0R) (c:z0R),z2A ⟨d,c⟩=(d.flatMap fun x=>z1Q x.st)++z1Q c.st:=fun d c=>by
  unfold z2A z0T.parts;rw[uk,gx];simp
 cases cl with
 | false=>exact key s.done p
 | true=>
  show z2A ⟨s.done++ [p],z1Y⟩=_;rw[key,uk];simp[z1Q]
theorem y7S(s:z0T)(x:z1m)(cl:Bool):z2A (z4F s (z3r s.cur x) cl)=z2A s++ [x]:=by
 have e:s=z4F s s.cur false:=rfl;rw[z5N]
 conv=>rhs;rw[e,z5N]
 rw[wj]
 congr 1
 unfold z1Q z3r;simp
theorem y2G{id:Nat}{x:z1m}:∀(A:List (Nat×List z1m)),(A.Pairwise fun p q=>p.1≠q.1)->∀p∈z4z id x A,(p∈A/\p.1≠id)\/(p.1=id/\((∃l,(id,l)∈A/\p.2=l++ [x])\/((∀q∈A,q.1≠id)/\p.2= [x])))
 | [],_,p,I=>by
  unfold z4z at I;rw[uD.1 I];exact .inr ⟨rfl,.inr ⟨fun q L=>(by cases L),rfl⟩⟩
 | (i,l)::A,hd,p,I=>by
  obtain⟨U,Y⟩:=uj.1 hd;unfold z4z at I;split at I
  .rename_i O;subst O;rcases wy.1 I with rfl|I
   .exact .inr ⟨rfl,.inl ⟨l,uK,rfl⟩⟩
   exact .inl ⟨uJ _ I,fun e=>U p I e.symm⟩
  rename_i O;rcases wy.1 I with rfl|I
  .exact .inl ⟨uK,O⟩
  rcases y2G A Y p I with⟨N,J⟩|⟨N,⟨l',J,R⟩|⟨J,R⟩⟩
  .exact .inl ⟨uJ _ N,J⟩
  .exact .inr ⟨N,.inl ⟨l',uJ _ J,R⟩⟩
  refine .inr ⟨N,.inr ⟨fun q L=>?_,R⟩⟩;rcases wy.1 L with rfl|L
  .exact O
  exact J q L
theorem y2i{id:Nat}{x:z1m}:∀(A:List (Nat×List z1m)),(∃q∈z4z id x A,q.1=id)/\(∀p∈A,∃q∈z4z id x A,q.1=p.1)/\(z4z id x A).length<=A.length+1
 | []=>⟨⟨_,uD.2 rfl,rfl⟩,(fun p I=>by cases I),wJ _⟩
 | (i,l)::A=>by
  obtain⟨⟨q,O,e⟩,L,U⟩:=y2i (id:=id) (x:=x) A;unfold z4z;split
  .rename_i N;refine⟨⟨_,uK,N⟩,fun p I=>?_,wH⟩;rcases wy.1 I with rfl|I
   .exact⟨_,uK,rfl⟩
   exact⟨p,uJ _ I,rfl⟩
  refine⟨⟨q,uJ _ O,e⟩,fun p I=>?_,by simp only[wW];omega⟩;rcases wy.1 I with rfl|I
  .exact⟨_,uK,rfl⟩
  obtain⟨r,R,J⟩:=L p I;exact⟨r,uJ _ R,J⟩
theorem y9R{id:Nat}{x:z1m}:∀(A:List (Nat×List z1m)),(A.Pairwise fun p q=>p.1≠q.1)->(z4z id x A).Pairwise fun p q=>p.1≠q.1
 | [],_=>by unfold z4z;exact qn _ _
 | (i,l)::A,hd=>by
  obtain⟨J,I⟩:=uj.1 hd;unfold z4z;split
  .exact uj.2 ⟨J,I⟩
  rename_i L;refine uj.2 ⟨fun q N=>?_,y9R A I⟩;rcases y2G A I q N with⟨g, -⟩|⟨g, -⟩
  .exact J q g
  rw[g];exact L
structure y5y (b:z0h) (A:List (Nat×List z1m)):Prop where
 nd:A.Pairwise fun p q=>p.1≠q.1
 eq:∀p∈A,z2A (j9 b p.1)=p.2/\p.2≠ []
 outs:∀id,(∀p∈A,p.1≠id)->j9 b id=z4T
theorem y5y.step{r:z0h×List (Nat×List z1m)}(h:y5y r.1 r.2)(o:LOp):y5y (z1e r o).1 (z1e r o).2:=by
 unfold z1e;split
 .exact h
 obtain⟨id,O⟩:=zN (o.s%64);obtain⟨x,hx⟩:∃x:z1m,x=⟨o.t,o.v⟩:=⟨_,rfl⟩;rw[<-O,<-hx];show y5y (z9z r.1 id x) (z4z id x r.2);obtain⟨h1,h2,h3⟩:=y2i (id:=id) (x:=x) r.2;have A:∀i,j9 (z9z r.1 id x) i=if i=id then z4F (j9 r.1 id) (z3r (j9 r.1 id).cur x) (decide ((j9 r.1 id).cur.st.length+1=r.1.size))else j9 r.1 i:=fun i=>by unfold z9z;rw[z2v]
 refine⟨y9R r.2 h.nd,fun p U=>?_,fun i hi=>?_⟩
 .rcases y2G r.2 h.nd p U with⟨L,I⟩|⟨L,g⟩
  .rw[A,wR I];exact h.eq p L
  rw[A,wZ L,y7S];rcases g with⟨l,I,N⟩|⟨I,N⟩
  .have h9:=(h.eq _ I).1;simp only at h9;rw[h9,N];exact⟨rfl,wH⟩
  rw[h.outs id I,N];exact⟨rfl,wH⟩
 obtain⟨q,hq,e⟩:=h1;have R:i≠id:=fun J=>hi q hq (e.trans J.symm);rw[A,wR R];refine h.outs i fun p U=>?_;obtain⟨q2,Y,J⟩:=h2 p U;rw[<-J];exact hi q2 Y
theorem y9G:∀(L:List LOp) (r:z0h×List (Nat×List z1m)),y5y r.1 r.2->y5y (L.foldl z1e r).1 (L.foldl z1e r).2/\(L.foldl z1e r).2.length<=r.2.length+L.length
 | [],r,h=>⟨h,wJ _⟩
 | o::L,r,h=>by
  rw[pg];obtain⟨A,I⟩:=y9G L (z1e r o) (h.step o);refine⟨A,?_⟩;have J:(z1e r o).2.length<=r.2.length+1:=by
   unfold z1e;split
   .omega
   exact(y2i r.2).2.2
  rw[wW];omega
theorem q4l(A:Int)(L:List LOp):y5y (y1w A L).1 (y1w A L).2/\(y1w A L).2.length<=L.length:=by
 have h:y5y (⟨64,z3G A, []⟩:z0h) ([]:List (Nat×List z1m)):=⟨qV,(fun p N=>by cases N),fun id _=>rfl⟩;obtain⟨J,I⟩:=y9G L (⟨64,z3G A, []⟩, []) h;exact⟨J,by simp only[ob,uZ]at I;exact I⟩
theorem z8Z{s:z0T}(h:z2A s≠ []):0<z2B s:=by
 rcases il (z2B s)with A|A
 .exfalso
  apply h;unfold z2B at A;have I:s.done= []:=wT wF;have L:¬0<s.cur.st.length:=fun g=>by rw[wZ g]at A;omega
  have J:s.cur.st= []:=wT wF;unfold z2A z0T.parts;rw[I,pQ,uW,uH,eQ,ue];show z1Q s.cur.st= [];rw[J];rfl
 exact A
theorem q6Y:knF.Ok:=⟨wG,wG,wG,wG,wG,wG,wG,wG,wG,wG⟩
theorem y9F:z0S knF.b knL:=by
 have I:knF.b.length=16:=rfl;have A:knL.length=128:=by unfold knL;simp
 refine⟨by rw[I,A],fun i N=>?_⟩;have J:knF.b=List.replicate 16 0:=rfl;have L:knL=List.replicate 128 false:=rfl;unfold q4c;rw[J,L,wu,wu,qk,qk];split<;>split<;>simp
theorem q5E:y4K (2:Nat) 9000 (4:Nat) 500 10 9000:=⟨wF,wF,wF,wF,wF,wF⟩
theorem q6L(w:World):(Instr.makeSlice 47 (.int .i64 16) (.int .i64 16)).run prog w= .ok (.slice (some ⟨w.heap.size,0,none⟩) 16 16) (w.alloc (.cells #[.int .u8 0,.int .u8 0,.int .u8 0,.int .u8 0,.int .u8 0,.int .u8 0,.int .u8 0,.int .u8 0,.int .u8 0,.int .u8 0,.int .u8 0,.int .u8 0,.int .u8 0,.int .u8 0,.int .u8 0,.int .u8 0] 5)):=by kernel_rfl
theorem q8n:tkS ⟨2,4, []⟩ 0 (z2u (z7F 9000) z1A).2.1 knF knL=knK:=by unfold knK knS;rfl
theorem q6f:(j9 ⟨2,4, []⟩ knF.series).done.length<1000000000:=by
 have h:j9 ⟨2,4, []⟩ knF.series=z4T:=rfl;rw[h];exact(by decide:0<1000000000)
theorem q8e:knF.n=((knL.length:Nat):Int):=by
 have h:knL.length=128:=by unfold knL;simp
 rw[h];rfl
theorem y3Q{B:Nat}{w:World}{a:Option Addr}{m c:Nat}{N:List (Value×List UInt8)}{U:List UInt8}(h:z0E B w (.slice a m c) N)(L:N.map Prod.snd= [U])(hm:m=N.length):∃g y yn O,a=some ⟨g,0,none⟩/\m=1/\g<w.heap.size/\w.cell? ⟨g,0,none⟩=some (.slice y yn O)/\RdB w (.slice y yn O) U:=by
 match N,L with
 | [x],L=>
  simp only[uI,pQ,mz,dc]at L;subst hm;rcases h.row.2 with⟨-,e⟩|⟨g,a0,a1,e, -,hc, -, -, -,ht⟩
  .simp at e
  simp only[wO]at e;have A:=h.ent x uK;obtain⟨y,O,hy⟩:=z1X A;refine⟨g,y,x.2.length,O,e.1,rfl,(wI.1 hc).1,?_,?_⟩
  .rw[<-hy];rcases(z0d h.row).2 with⟨-,J⟩|⟨ad,cp,J,e3⟩
   .simp at J
   simp only[wO]at J;have Y:=e3 0 x.1 rfl;have R:ad=⟨g,0,none⟩:=(by have:=J.1;rw[e.1]at this;exact(um this).symm);rw[R]at Y;have I:(⟨g,0,none⟩:Addr).add 0=⟨g,0,none⟩:=by unfold Addr.add;split<;>simp_all
   rwa [I]at Y
  rw[<-hy,<-L];exact z0d A
theorem y0J.db{w:World}{J A L:Nat}{b:z0h}{ep:Nat}{s:FsS}{U:Nat->Prop}(h:y0J w J A L b ep s U):z1H w:=by
 obtain⟨O,R,N,B,E,S,F,I, -⟩:=h;exact I.db
structure KnS (W:World) (n:Nat) (D:Nat->Bool) (v:Nat->Value) (w':World):Prop where
 low:Below W.heap.size W w'
 smp:D 30=true->∃a c,v 30= .slice a n c
theorem KnS.read{W w':World}{n:Nat}{D:Nat->Bool}{v:Nat->Value}(h:KnS W n D v w')(k:Nat)(A:k≠30):KnS W n (mark D k) v w':=⟨h.low,by rw[q9 A];exact h.smp⟩
theorem q2A(w:World)(bW:z1H w):Calls prog 4 #[] w fun e w'=>e= .returned (.bool true)/\Below w.heap.size w w':=by
 have aO:=z7 (fun w'=>q4O 9000 wF wF w');have bI:=z7 bW;clear bW;go_enter func4,ntmps4;go_wp2_with fail;refine(aO.o w).mono ?_;rintro e w1 ⟨sb,F,rfl,hF,a0,b8⟩;have dF:=bI.o.lt;have bM:=z7 (y9P sb (z7F 9000) F 2 4 9000 500 10 9000 q5E q0s.1 q0s.2 w1 hF (y6Q wF wF) (bI.o.low b8) (fun hm=>by have:=a0 _ hm;omega));have HF:=z7 hF;have aN:=z7 a0;have aY:=z7 b8;clear hF a0 b8;go_wp2_with fail;refine bM.o.mono ?_;rintro e w2 ⟨kb,rb,bb,tb,mb,B,E,S,F2,rfl,hK,hC,A,d7,d3,d8,d1⟩;have bY:Below w.heap.size w w2:=aY.o.trans (hC.below aY.o.size aN.o);have hU:∀x,KU rb S F2 x->w.heap.size<=x:=fun x hx=>by
  have aG:=aY.o.size;rcases hx with h|h|h
  .omega
  .have:=A x h;omega
  rcases hC.fresh x h with e|e
  .exact aN.o x e
  omega
 have HK:=z7 hK;have bH:=z7 bY;have HU:=z7 hU;have aW:=z7 (z9S kb rb bb tb w2 hK.k);clear hK bY hU hC A d7 d3 d8 d1 bM;have cA:=q6L;have b7:Below w2.heap.size w2 (w2.alloc (.cells #[.int .u8 0,.int .u8 0,.int .u8 0,.int .u8 0,.int .u8 0,.int .u8 0,.int .u8 0,.int .u8 0,.int .u8 0,.int .u8 0,.int .u8 0,.int .u8 0,.int .u8 0,.int .u8 0,.int .u8 0,.int .u8 0] 5)):=q5 _ _;have cE:RdB (w2.alloc (.cells #[.int .u8 0,.int .u8 0,.int .u8 0,.int .u8 0,.int .u8 0,.int .u8 0,.int .u8 0,.int .u8 0,.int .u8 0,.int .u8 0,.int .u8 0,.int .u8 0,.int .u8 0,.int .u8 0,.int .u8 0,.int .u8 0] 5)) (.slice (some ⟨w2.heap.size,0,none⟩) 16 16) knF.b:=z3t _ _ _ 16 1 wG rfl;have bJ:=z7 (z8j knF (some ⟨w2.heap.size,0,none⟩) 16 _ q6Y wG cE q4P);obtain⟨dE,aT⟩:=zN (#[.int .u8 0,.int .u8 0,.int .u8 0,.int .u8 0,.int .u8 0,.int .u8 0,.int .u8 0,.int .u8 0,.int .u8 0,.int .u8 0,.int .u8 0,.int .u8 0,.int .u8 0,.int .u8 0,.int .u8 0,.int .u8 0]:Array Value);rw[<-aT]at bJ b7 cA;have U:=z7 b7;clear b7 cE aT;go_wp2_with (refine aW.o.mono ?_;rintro e w' ⟨rfl,a8⟩;cases a8.symm);refine bJ.o.mono ?_;rintro e w3 ⟨a3,m3,c3,rfl,⟨aF,J⟩,aE⟩;have L:=z0Q J;have b0:=(HK.o.low U.o).low aE;have bF:RdB w3 (.slice a3 m3 c3) (z0L knF):=by have h9:=z0d J;unfold RdB;rw[<-aF];exact h9
 have R:=y3H q6Y q4P;have c7:knL.length<=1000000:=by unfold knL;simp
 have b3:=y4P kb rb bb tb mb sb B 0 E S F2 ⟨2,4, []⟩ _ a3 m3 c3 (z0L knF) knF knL aF L.1 L.2 R.1 R.2 wG q8e y9F c7 wF q6f w3 b0 bF;rw[q8n,q8C]at b3;have a6:=b3;obtain⟨bs,b9⟩:=zN (z7Y (z6s (takeB ⟨2,4, []⟩ knF knL) 4 1 5));obtain⟨b1,O⟩:=zN (takeB ⟨2,4, []⟩ knF knL);obtain⟨s1,aG⟩:=zN ((wrS knS (z2i knF knL)).2);have c6:tkS b1 1 s1 knF knL=(0, [bs],b1,1,s1):=by
  rw[b9,O,aG];exact q8j
 rw[<-b9,<-O,<-aG]at a6;have bO:=z7 a6;have dC:=z7 b0;have cZ:=z7 bF;have cU:=z7 aF;have cX:=z7 J;have aU:Below w.heap.size w w3:=bH.o.trans ((U.o.trans (aE.mono U.o.size)).mono bH.o.size);have Y:=z7 aU;have dB:w2.heap.size<=w3.heap.size:=wV U.o.size aE.size;have a9:∀j,(Value.slice a3 m3 c3).ownBlock=some j->w2.heap.size<=j:=fun j hj=>by have h1:=(J.lt j hj).1;have h2:=U.o.size;omega
 have aD:=z7 a9;have aJ:=z7 O;have cT:=z7 c6;have aL:=z7 L;have aM:=z7 R;clear b3 a6 b0 bF aF J aU aE a9 cA b9 O aG c6 L R;go_wp2_with fail;refine bO.o.mono ?_;rintro e w4 ⟨U4,a1,b2,bX,⟨bE, -⟩|⟨-,a4,m4,c4,x4,rfl,c8,bU,b5,bT⟩⟩
 .exact absurd rfl bE
 simp only at a1 b5;obtain⟨cI,dA,d9,B4,E4,S4,F4,a1,rfl⟩:=a1;have cG:RdB w4 (.slice a3 m3 c3) (z0L knF):=Rd.kept cZ.o fun j hj d2=>b2.block j d2 fun hu=>by have h1:=aD.o j hj;have h2:=HK.o.lt hu;omega
 have a7:(j9 b1 5).done.length<=1:=by rw[aJ.o];exact q6e
 have b4:=y4P kb cI bb dA d9 sb B4 1 E4 S4 F4 b1 s1 a3 m3 c3 (z0L knF) knF knL cU.o aL.o.1 aL.o.2 aM.o.1 aM.o.2 wG q8e y9F c7 wF (by show(j9 b1 5).done.length<_;omega) w4 a1 cG;rw[cT.o]at b4;have bR:=z7 b4;have aS:∀x,KU cI S4 F4 x->w.heap.size<=x:=fun x hx=>by
  rcases bX x hx with h|h
  .exact HU.o x h
  have:=Y.o.size;omega
 have aV:Below w.heap.size w w4:=Y.o.trans (b2.below Y.o.size HU.o);have aH:=z7 aV;have bS:=z7 aS;have aB:=z7 bU;have cD:=z7 b5;have bL:=z7 bT;have cV:=z7 c8;have aZ:=z7 a7;clear a1 b2 bX c8 bU b5 bT cG b4 aS aV a7 bO;go_wp2_with fail;refine bR.o.mono ?_;rintro e w5 ⟨U5,a2,aC,d0,⟨bE, -⟩|⟨-,a5,m5,c5,x5,rfl,c9,bV,b6,cW⟩⟩
 .exact absurd rfl bE
 simp only at a2 b6;obtain⟨bG,cJ,cH,B5,E5,S5,F5,a2,rfl⟩:=a2;have aR:z0E w3.heap.size w5 (.slice a4 m4 c4) x4:=⟨j7 aB.o.row fun j hj=>aC.block j (aB.o.row.lt j hj).2 fun hu=>bL.o j (.inl hj) hu,fun x hx=>j7 (aB.o.ent x hx) fun j hj=>aC.block j ((aB.o.ent x hx).lt j hj).2 fun hu=>bL.o j (.inr ⟨x,hx,hj⟩) hu⟩;obtain⟨g4,y4,cO,cM,rfl,rfl,bA,bZ,cB⟩:=y3Q aR cD.o cV.o;obtain⟨g5,y5,cR,cN,rfl,rfl,bB,bD,cC⟩:=y3Q bV b6 c9;have aX:Below w.heap.size w w5:=aH.o.trans (aC.below aH.o.size bS.o);have aI:=z7 aX;have aA:=z7 a2;have HC:=z7 (fun w' (hb:Below w5.heap.size w5 w')=>(⟨wS bA hb.size,(hb.cell (p:=⟨g4,0,none⟩) bA).trans bZ,wS bB hb.size,(hb.cell (p:=⟨g5,0,none⟩) bB).trans bD,cB.low hb,cC.low hb⟩:g4<w'.heap.size/\w'.cell? ⟨g4,0,none⟩=some (.slice y4 cO cM)/\g5<w'.heap.size/\w'.cell? ⟨g5,0,none⟩=some (.slice y5 cR cN)/\RdB w' (.slice y4 cO cM) bs/\RdB w' (.slice y5 cR cN) bs));have cF:(z2A (j9 b1 5)).length=1:=by rw[aJ.o];exact q7b
 have bN:=z7 (fun w' (hk:KIn w' kb bG bb cJ cH sb B5 E5 S5 F5 b1 1 s1)=>y2g bb cH B5 E5 b1 S5 5 wF (by have:=aZ.o;omega) w' hk.bk hk.db);have cY:=z7 cF;clear a2 aC d0 c9 bV b6 cW aR bA bZ cB bB bD cC aX cF bR aO;go_wp2_with fail;refine q6 43 91 (fun D v w'=>KnS w5 1 D v w') ⟨wD.drew,fun e=>by cases e⟩ ?_;simp only[z0C];iterate 29 (refine q8.rl ?_ (fun D v w h=>h.read _ wG) (fun D v w' N A=>?_) ?_;rotate_left;(obtain⟨l4,d4,l5,d5,r4,r5⟩:=HC.o w' A.low;have v1:=z7D bs _ _ r4;have v2:=z7D bs _ _ r5;clear r4 r5;clear A N;go_simp;try rfl);go_simp)
 refine q8.ca (.pointer (some ⟨bb,0,none⟩)) (fun D v w' N A=>?_) ?_
 .have HZ:=z7 A;have I:=z7 (z9S kb bG bb cJ w' (aA.o.low A.low).k);clear A N;go_simp;go_at_call 9;refine I.o.mono ?_;rintro e cL ⟨rfl,a8⟩;cases a8.symm;exact⟨rfl,HZ.o.read 29 wG⟩
 go_simp;refine q8.re (fun D v w' N A=>?_) ?_
 .have HZ:=z7 A;have I:=z7 (bN.o w' (aA.o.low A.low));clear A N;go_simp;go_at_call 18;refine I.o.mono ?_;rintro e cL ⟨a,n,c,rfl, -,hn,hb⟩;have d6:n=1:=by rw[hn,cY.o]
  subst d6;exact⟨HZ.o.low.trans (hb.mono HZ.o.low.size),fun _=>⟨a,c,z0q _ _ _⟩⟩
 go_simp;refine q8.rl (.int .i64 1) (fun D v w h=>h.read _ wG) (fun D v w' N A=>?_) ?_
 .obtain⟨a,c,hv⟩:=A.smp (N.pre 30 (by kernel_rfl));clear A N;go_simp
 go_simp;iterate 4 (refine q8.rl ?_ (fun D v w h=>h.read _ wG) (fun D v w' N A=>?_) ?_;rotate_left;(clear A N;go_simp;try rfl);go_simp)
 iterate 3 (refine q8.rl ?_ (fun D v w h=>h.read _ wG) (fun D v w' N A=>?_) ?_;rotate_left;(have bC:=(aA.o.low A.low).k;obtain⟨k0,k1,k2,kf⟩:=bC.cells;have lk:=bC.lt;clear bC;clear A N;go_simp;try rfl);go_simp)
 refine q8.ca (.int .u32 (1:Nat)) (fun D v w' N A=>?_) ?_
 .have HZ:=z7 A;have I:=z7 (q4U bG bb 1 w' (aA.o.low A.low).r);clear A N;go_simp;go_at_call 20;refine I.o.mono ?_;rintro e cL ⟨rfl,a8⟩;cases a8.symm;exact⟨rfl,HZ.o.read 39 wG⟩
 go_simp;iterate 3 (refine q8.rl ?_ (fun D v w h=>h.read _ wG) (fun D v w' N A=>?_) ?_;rotate_left;(clear A N;go_simp;try rfl);go_simp)
 refine q8.fin (fun v w6 A=>?_);have cS:=z7 (aI.o.trans (A.low.mono aI.o.size));clear A;go_wp2;go_ret;exact⟨rfl,cS.o⟩
theorem y9I:(prog.underlying 32).map z6N=some true:=by kernel_rfl
theorem y6G:(prog.info? 32).map (·.size)=some 6:=by kernel_rfl
theorem y5K{id:Nat}(J:id<64)(x:z1m):∀(A:List (Nat×List z1m)),(∀p∈A,p.1<64)->∀p∈z4z id x A,p.1<64
 | [],h,p,I=>by
  unfold z4z at I;rw[uD.1 I];exact J
 | (i,l)::A,h,p,I=>by
  have L:=h _ uK;unfold z4z at I;split at I
  .rcases wy.1 I with rfl|I
   .exact L
   exact h p (uJ _ I)
  rcases wy.1 I with rfl|I
  .exact L
  exact y5K J x A (fun q N=>h q (uJ _ N)) p I
theorem q0a:∀(L:List LOp) (r:z0h×List (Nat×List z1m)),(∀p∈r.2,p.1<64)->∀p∈(L.foldl z1e r).2,p.1<64
 | [],r,h=>h
 | o::L,r,h=>by
  rw[pg];refine q0a L (z1e r o) ?_;unfold z1e;split
  .exact h
  exact y5K wF _ r.2 h
def q7f(W2 wr:World)(kb kbb sb:Nat)(disk:Nat)(ab:z0h):Prop:=
 Below W2.heap.size W2 wr/\∃kbk s U,y0J wr kb kbb sb kbk 0 s U/\(∀x,U x->W2.heap.size<=x)/\q7V ab kbk/\s.room=disk/\s.left=none/\s.has z1A=true
theorem y3D{w:World}{A J B:Nat}{E:List (Int×z0I)}{b:z0h}{S:Nat->Prop}(h:z0w w A J E b B S):b.all.Pairwise fun p q=>p.1≠q.1:=by
 have I:=(h.map.mok z4S).1.1;rw[h.all,oy];exact I
theorem q7f.low{L wr w':World}{R I Y A:Nat}{N:z0h}(h:q7f L wr R I Y A N)(hb:Below wr.heap.size wr w'):q7f L w' R I Y A N:=by
 obtain⟨O,J,s,U,⟨rb,tb,mb,B,E,S,F,hK,e⟩,h2⟩:=h;exact⟨O.trans (hb.mono O.size),J,s,U,⟨rb,tb,mb,B,E,S,F,hK.low hb,e⟩,h2⟩
theorem y5f(room:Int):z2u (z7F room) z1A=(0,⟨room, [(z1A, [])], [],none,false⟩, []):=by
 have J:z0X []=([],0):=by decide+kernel
 have I:z3q (z1f (z7F room) z1A) z1A=(0,⟨room, [(z1A, [])], [],none,false⟩):=rfl;unfold z2u;rw[wR wG,I];rw[wR (show ¬((0:Int)≠0) by decide)];have A:z6g (⟨room, [(z1A, [])], [],none,false⟩:FsS) z1A= []:=rfl;simp only;unfold z5D;rw[A,J];rfl
end
section
open Go.RowKit Go.ChangeShapes Go.WideShapes Go.ChangeAt Go.Deep
theorem q0P{H:Type}{enc:TypeId×Value->H}{W:World}{U:Nat}{cs:List Value}{x:DataW H×List MemPlace}(h:DataW.trod enc prog W 0 (fun _=>true) true U 22 cs=some x):
  ∃(a:Option Addr) (n c:Nat) (L:List LOp),cs= [.slice a n c]/\y1L W a n L/\(∀o∈L,o.Ok)/\n<=maxLen:=by
 rcases open_slice underlying22 h with⟨rfl,_⟩|⟨a,a1,a3,m,n,D,Pl,rfl,_,hl,hm,a8,_,hi⟩
 .exact⟨none,0,0, [],rfl,⟨rfl,fun k o hk=>by simp at hk⟩,(fun o ho=>by cases ho),wG⟩
 simp only[de]at a8;have hC:prog.cellsOf 81=17:=by kernel_rfl
 have kU:prog.cellsOf 5=1:=by kernel_rfl
 have kS:prog.cellsOf 40=1:=by kernel_rfl
 have kX:prog.cellsOf 79=2:=by kernel_rfl
 have kF:prog.cellsOf 51=11:=by kernel_rfl
 have kI:prog.cellsOf 3=1:=by kernel_rfl
 have a0:prog.cellsOf 2=1:=by kernel_rfl
 have aB:prog.cellsOf 46=1:=by kernel_rfl
 have key:∀i,i<a1->∃o:LOp,o.Ok/\(∃u,W.cell? (a.add (i*17))=some u)/\W.cell? (a.add (i*17+1))=some (.int .u32 o.s)/\W.cell? (a.add (i*17+2))=some (.int .i64 o.t)/\W.cell? (a.add (i*17+3))=some (.int .u64 (o.v:Nat)):=by
  intro i aF;obtain⟨a4,hc,ht⟩:=hi i wF;rw[hC]at hc;obtain⟨_,a6,A⟩:=tJ hc;obtain⟨ys,n',_,_,_,a9,hf⟩:=qU underlying81 ht
  match a4,a6 with
  | [x0,x1,x2,x3,x4,x5,x6,x7,x8,x9,x10,x11,x12,x13,x14,x15,x16],_=>
   match ys,a9 with
   | [y0,y1,y2,y3,y4,y5],_=>
    obtain⟨O,e1,_,w1⟩:=qM underlying40 (by simpa[kU,kS]using hf 1 _ rfl:DataW.trod enc prog W 0 (fun _=>true) true n' 40 [x1]=some y1);obtain⟨zs,n5,_,_,_,aA,hg⟩:=qU underlying79 (by simpa[kU,kS,kX]using hf 2 _ rfl:DataW.trod enc prog W 0 (fun _=>true) true n' 79 [x2,x3]=some y2)
    match zs,aA with
    | [z0,z1],_=>
     obtain⟨n2,e2,_,w2⟩:=qM underlying2 (by simpa[a0]using hg 0 _ rfl:DataW.trod enc prog W 0 (fun _=>true) true n5 2 [x2]=some z0);obtain⟨R,e3,_,w3⟩:=qM underlying46 (by simpa[a0,aB]using hg 1 _ rfl:DataW.trod enc prog W 0 (fun _=>true) true n5 46 [x3]=some z1);simp only[mz,dc]at e1 e2 e3;have aC:=wf_u32 w1;have aE:=wf_u64 w3;have I:=wf_i64 w2;have c0:=A 0 wF;rw[Go.Deep.add_add,dp]at c0;have c1:=A 1 wF;have c2:=A 2 wF;have c3:=A 3 wF;rw[Go.Deep.add_add]at c1 c2 c3;refine⟨⟨O.toNat,n2,R.toNat⟩,⟨by show O.toNat<_;omega,I.1,I.2,by show R.toNat<_;omega⟩,⟨x0,c0⟩,?_,?_,?_⟩
     .rw[c1,e1];show some (Value.int .u32 O)=some (.int .u32 ((O.toNat:Nat):Int));rw[show((O.toNat:Nat):Int)=O by omega]
     .rw[c2,e2];rfl
     rw[c3,e3];show some (Value.int .u64 R)=some (.int .u64 ((R.toNat:Nat):Int));rw[show((R.toNat:Nat):Int)=R by omega]
 obtain⟨L,a5,hL⟩:=z8g a1 key;subst a5;refine⟨some a,L.length,a3,L,rfl,⟨rfl,fun k o hk=>?_⟩,fun o ho=>?_,wF⟩
 .obtain⟨a7,rfl⟩:=wY.1 hk;obtain⟨-, -,g1,g2,g3⟩:=hL k a7;obtain⟨-,⟨u,g0⟩, -⟩:=hL 0 wF;obtain⟨b,N,a2⟩:=a;have J:a2=none:=by
   have h9:=World.cell?_spot g0;unfold Addr.add at h9;simpa using h9
  subst J;have Y:∀j,(⟨b,N,none⟩:Addr).add j=⟨b,N+j,none⟩:=fun j=>by unfold Addr.add;split<;>simp_all
  rw[Y]at g1 g2 g3;refine⟨b,N,rfl,dq _ _ g1,?_,?_,?_⟩
  .rw[im];exact g1
  .rw[im];exact g2
  rw[im];exact g3
 obtain⟨i,hi,rfl⟩:=pO ho;exact(hL i hi).1
end

/-
  The walk of draymanlaw12's Lay.
-/
import Derived.Test.YtpocjegemokjgaaGreatDoorZKeFKfMBkOKnA
import Derived.Deep.DeepCutAuto
namespace Go.Proofs.YtpocjegemokjgaaGreatDoor
open Go.Proofs.Tryz
set_option linter.all false
set_option maxRecDepth 100000
set_option maxHeartbeats 12800000
open Go.RowKit Go.Maps
structure LOp where
 s:Nat
 t:Int
 v:Nat
structure LOp.Ok (o:LOp):Prop where
 s:o.s<4294967296
 x:z1c.Ok ⟨o.t,o.v⟩
def y1I(w:World)(a:Option Addr)(n:Nat)(L:List LOp):Prop:=n=L.length/\∀(k:Nat) (o:LOp),L[k]? =some o->∃g off,a=some ⟨g,off,none⟩/\g<w.heap.size/\w.cell? ⟨g,off+k*17+1,none⟩=some (.int .u32 o.s)/\w.cell? ⟨g,off+k*17+2,none⟩=some (.int .i64 o.t)/\w.cell? ⟨g,off+k*17+3,none⟩=some (.int .u64 (o.v:Nat))
theorem y1I.low{w w':World}{a:Option Addr}{n:Nat}{L:List LOp}(h:y1I w a n L)(hb:Below w.heap.size w w'):y1I w' a n L:=
 ⟨h.1,fun k o O=>by
  obtain⟨g,A,e,B,I,J,N⟩:=h.2 k o O;exact⟨g,A,e,Nat.lt_of_lt_of_le B hb.size,(hb.cell (p:=⟨g,A+k*17+1,none⟩) B).trans I,(hb.cell (p:=⟨g,A+k*17+2,none⟩) B).trans J,(hb.cell (p:=⟨g,A+k*17+3,none⟩) B).trans N⟩⟩
structure z4c where
 id:Nat
 a:Option Addr
 c:Nat
 xs:List z1c
def z4c.v(x:z4c):Value:= .slice x.a x.xs.length x.c
def z4c.cells(x:z4c):List Value:= [.int .u32 x.id,x.v]
def z4A(id:Nat)(x:z1c):List (Nat×List z1c)->List (Nat×List z1c)
 | []=> [(id, [x])]
 | (i,l)::A=>if i=id then(i,l++ [x])::A else(i,l)::z4A id x A
def z1i(r:z0j×List (Nat×List z1c))(o:LOp):z0j×List (Nat×List z1c):=
 if z6K r.1 (o.s%64) o.t≠0 then r else(z8u r.1 (o.s%64) ⟨o.t,o.v⟩,z4A (o.s%64) ⟨o.t,o.v⟩ r.2)
def z3E(size:Int):Nat:=1+(max size 0).toNat%24
def y1z(size:Int)(L:List LOp):z0j×List (Nat×List z1c):=L.foldl z1i (⟨64,z3E size, []⟩, [])
theorem y1S(size:Int):1<=z3E size/\z3E size<=24:=by unfold z3E;omega
structure z9d (b:z0j) (Z n:Nat):Prop where
 most:b.most=64
 size:b.size=Z
 rise:∀id,y2X (z0g b id)
 lt:∀id,(z0g b id).cur.st.length<Z
 few:∀id,(z0g b id).done.length<=n
theorem z9d.start{Z:Nat}(A:1<=Z):z9d ⟨64,Z, []⟩ Z 0:=
 ⟨rfl,rfl,fun id=>y6p,fun id=>A,fun id=>Nat.le_refl _⟩
theorem z9d.more{b:z0j}{Z n m:Nat}(h:z9d b Z n)(A:n<=m):z9d b Z m:=⟨h.most,h.size,h.rise,h.lt,fun id=>Nat.le_trans (h.few id) A⟩
theorem z9d.put{b:z0j}{Z n id:Nat}{x:z1c}(B:1<=Z)(h:z9d b Z n)(A:(z0g b id).Ok)(J:z6K b id x.t=0):z9d (z8u b id x) Z (n+1):=by
 refine⟨h.most,h.size,fun i=>?_,fun i=>?_,fun i=>?_⟩
 ·unfold z8u;rw[z3Y];split
  ·exact q0J A (h.rise id) J _
  ·exact h.rise i
 ·unfold z8u;rw[z3Y];split
  ·have L:=h.lt id;rw[h.size];unfold z5f;split
   ·exact B
   ·rename_i I;have N:(z2T (z0g b id).cur x).st.length=(z0g b id).cur.st.length+1:=(by unfold z2T;simp);show(z2T (z0g b id).cur x).st.length<Z;simp only[decide_eq_true_eq]at I;omega
  ·exact h.lt i
 ·unfold z8u;rw[z3Y];split
  ·exact Nat.le_trans (y0P _ _ _) (by have:=h.few id;omega)
  ·exact Nat.le_trans (h.few i) (Nat.le_succ n)
structure z3u (w0 wr:World) (bb:Nat) (b:z0j) (X:List z4c) (a:Option Addr) (m c:Nat):Prop where
 bk:∃mb E S,z0q wr bb mb E b w0.heap.size S/\(∀k,(Value.slice a m c).ownBlock=some k->¬S k)/\∀x∈X,∀k,x.v.ownBlock=some k->¬S k
 row:wr.ownsRow w0.heap.size 43 2 (.slice a m c) m (X.flatMap z4c.cells)
 len:m=X.length
 ent:∀x∈X,wr.ownsRow w0.heap.size 71 2 x.v x.xs.length (z0T x.xs)
 low:Below w0.heap.size w0 wr
theorem z3u.next{w0 wr w':World}{A:Nat}{b:z0j}{X:List z4c}{a:Option Addr}{m c:Nat}(h:z3u w0 wr A b X a m c)(hb:Below wr.heap.size wr w'):z3u w0 w' A b X a m c:=by
 obtain⟨N,E,S,B,I,J⟩:=h.bk;exact⟨⟨N,E,S,B.low hb,I,J⟩,ownsRow_below h.row hb (Nat.le_refl _),h.len,fun x L=>ownsRow_below (h.ent x L) hb (Nat.le_refl _),h.low.trans (hb.mono h.low.size)⟩
theorem z3u.at{w0 wr:World}{R:Nat}{b:z0j}{X:List z4c}{a:Option Addr}{m c:Nat}(h:z3u w0 wr R b X a m c){k:Nat}{x:z4c}(N:X[k]? =some x):∃g,a=some ⟨g,0,none⟩/\g<wr.heap.size/\wr.cell? ⟨g,k*2,none⟩=some (.int .u32 x.id)/\wr.cell? ⟨g,k*2+1,none⟩=some x.v:=by
 have a0:=(List.getElem?_eq_some_iff.1 N).1;have hm:=h.len;rcases(z0e h.row).2 with⟨-,L⟩|⟨ad,cp,J,L⟩
 ·omega
 ·rcases h.row.2 with⟨I,Y⟩|⟨g,cap,U,I,Y,e3, -⟩
  ·omega
  ·rw[I]at J;rw[Value.slice.injEq]at I J;refine⟨g,I.1,(Array.getElem?_eq_some_iff.1 e3).1,?_,?_⟩
   ·have B:=L (k*2) (.int .u32 x.id) (by have O:=z6I z4c.cells 2 (fun _=>rfl) X k x N 0 (by omega);rw[Nat.add_zero]at O;rw[O];rfl);rw[<-Option.some.inj J.1]at B;have A:(⟨g,0,none⟩:Addr).add (k*2)=⟨g,k*2,none⟩:=by unfold Addr.add;split<;>simp_all
    rwa [A]at B
   ·have B:=L (k*2+1) x.v (by rw[z6I z4c.cells 2 (fun _=>rfl) X k x N 1 (by omega)];rfl);rw[<-Option.some.inj J.1]at B;have A:(⟨g,0,none⟩:Addr).add (k*2+1)=⟨g,k*2+1,none⟩:=by unfold Addr.add;split<;>simp_all
    rwa [A]at B
theorem z3u.at'{w0 wr:World}{J:Nat}{b:z0j}{X:List z4c}{a:Option Addr}{m c:Nat}(h:z3u w0 wr J b X a m c){k:Nat}{x:z4c}(I:X[k]? =some x):∃g,a=some ⟨g,0,none⟩/\∀w',Below wr.heap.size wr w'->g<w'.heap.size/\w'.cell? ⟨g,k*2,none⟩=some (.int .u32 x.id)/\w'.cell? ⟨g,k*2+1,none⟩=some x.v/\∀j,w'.frozen? ⟨g,j,none⟩=false:=by
 obtain⟨g,e, -, -, -⟩:=h.at I;subst e;refine⟨g,rfl,fun w' hb=>?_⟩;obtain⟨g',B,R,U,Y⟩:=(h.next hb).at I;simp only[Option.some.injEq,Addr.mk.injEq,and_true]at B;subst B;refine⟨R,U,Y,fun j=>?_⟩;rcases(h.next hb).row.2 with⟨A,N⟩|⟨g2,cap,L,A,N,O, -⟩
 ·simp at A
 ·simp only[Value.slice.injEq,Option.some.injEq,Addr.mk.injEq,and_true,true_and]at A;obtain⟨rfl, -⟩:=A;exact z0y O j
theorem y8m{v:Value}{w:World}(h:v.ownBlock=(Value.slice none 0 0).ownBlock\/v.ownBlock=some w.heap.size):∀j,v.ownBlock=some j->w.heap.size<=j:=fun j A=>by
 rcases h with e|e
 ·rw[e]at A;cases A
 ·rw[e]at A;simp only[Option.some.injEq]at A;exact Nat.le_of_eq A
theorem q2C:(prog.info? 43).map (fun i=>(i.zero,i.size,i.bytes))=some (some (.agg #[.int .u32 0,.slice none 0 0]),2,32):=by kernel_rfl
theorem z3u.book{w0 w w':World}{I:Nat}{b R:z0j}{X:List z4c}{a:Option Addr}{m c mb:Nat}{E E':List (Int×z0C)}{S S':Nat->Prop}(h:z3u w0 w I b X a m c)(U:∀k,(Value.slice a m c).ownBlock=some k->¬S k)(Y:∀x∈X,∀k,x.v.ownBlock=some k->¬S k)(J:∀k,S k->w0.heap.size<=k)(L:z0q w' I mb E' R w0.heap.size S')(N:z0t S w w')(hS:∀k,S' k->S k\/w.heap.size<=k):z3u w0 w' I R X a m c:=by
 refine⟨⟨mb,E',S',L,fun k A O=>?_,fun x B k A O=>?_⟩,j7 h.row fun k A=>N.block k (h.row.lt k A).2 (U k A),h.len,fun x B=>j7 (h.ent x B) fun k A=>N.block k ((h.ent x B).lt k A).2 (Y x B k A),h.low.trans (N.below h.low.size J)⟩
 ·rcases hS k O with e|e
  ·exact U k A e
  ·have:=(h.row.lt k A).2;omega
 ·rcases hS k O with e|e
  ·exact Y x B k A e
  ·have:=((h.ent x B).lt k A).2;omega
theorem z3u.add{w0 w w':World}{R:Nat}{b:z0j}{X:List z4c}{a a':Option Addr}{m c c' id:Nat}(h:z3u w0 w R b X a m c)(J:w.grownBy w' (Value.slice a m c).ownBlock)(hn:∀k,(Value.slice a' (m+1) c').ownBlock=some k->(Value.slice a m c).ownBlock=some k\/w.heap.size<=k)
  (I:w'.ownsRow w0.heap.size 43 2 (.slice a' (m+1) c') (m+1) (X.flatMap z4c.cells++ [.int .u32 id,.slice none 0 0])):z3u w0 w' R b (X++ [⟨id,none,0, []⟩]) a' (m+1) c':=by
 obtain⟨mb,E,S,N,U,Y⟩:=h.bk;have O:∀x∈X,∀k,x.v.ownBlock=some k->some k≠(Value.slice a m c).ownBlock:=fun x B k A e=>z7v (h.ent x B) h.row (by decide) A e.symm;refine⟨⟨mb,E,S,N.keep (fun k A=>J.block k (N.lo k A).2 fun e=>U k e.symm A) J.size,fun k A L=>?_,fun x B k A L=>?_⟩,?_,by rw[List.length_append,<-h.len];rfl,fun x B=>?_,h.low.grown J h.low.size fun k A=>(h.row.lt k A).1⟩
 ·rcases hn k A with e|e
  ·exact U k e L
  ·have:=(N.lo k L).2;omega
 ·rcases List.mem_append.1 B with B|B
  ·exact Y x B k A L
  ·rw[List.mem_singleton.1 B]at A;cases A
 ·rw[List.flatMap_append];exact I
 ·rcases List.mem_append.1 B with B|B
  ·exact j7 (h.ent x B) fun k A=>J.block k ((h.ent x B).lt k A).2 (O x B k A)
  ·rw[List.mem_singleton.1 B];exact World.ownsRow_nil _ _ _ _
theorem z8J:∀(X:List z4c) (k:Nat) (x y:z4c),X[k]? =some x->y.id=x.id->(X.flatMap z4c.cells).set (k*2+1) y.v=(X.set k y).flatMap z4c.cells
 | [],k,x,y,h,_=>by simp at h
 | z::X,0,x,y,h,he=>by
  simp only[List.getElem?_cons_zero,Option.some.injEq]at h;subst h;rw[List.set_cons_zero,List.flatMap_cons,List.flatMap_cons];unfold z4c.cells;rw[he];rfl
 | z::X,k+1,x,y,h,he=>by
  rw[List.set_cons_succ,List.flatMap_cons,List.flatMap_cons,<-z8J X k x y h he];show([.int .u32 z.id,z.v]++X.flatMap z4c.cells).set ((k+1)*2+1) y.v= [.int .u32 z.id,z.v]++(X.flatMap z4c.cells).set (k*2+1) y.v;rw[show(k+1)*2+1=(k*2+1)+1+1 by omega];rfl
theorem z3u.put{w0 w w':World}{bb g k:Nat}{b:z0j}{X:List z4c}{m c:Nat}{x:z4c}{a':Option Addr}{c':Nat}{A:List z1c}(h:z3u w0 w bb b X (some ⟨g,0,none⟩) m c)(hk:X[k]? =some x)(hb:Below w.heap.size w w')(Y:w'.ownsRow w0.heap.size 71 2 (.slice a' A.length c') A.length (z0T A))(N:∀j,(Value.slice a' A.length c').ownBlock=some j->w.heap.size<=j):
  z3u w0 (w'.setCell ⟨g,k*2+1,none⟩ (.slice a' A.length c')) bb b (X.set k ⟨x.id,a',c',A⟩) (some ⟨g,0,none⟩) m c:=by
 have J:=h.next hb
 obtain⟨mb,E,S,h1,h2,h3⟩:=h.bk;have a1:g<w.heap.size:=(h.row.lt g rfl).2;have hS:¬S g:=h2 g rfl;have R:z0t (fun j=>j=g) w' (w'.setCell ⟨g,k*2+1,none⟩ (.slice a' A.length c')):=z0t.setCell w' _ rfl;have U:=h1.low hb;have a0:w0.heap.size<=g:=(h.row.lt g rfl).1;have O:=(J.row.stored (k*2+1) (.slice a' A.length c')).1;have L:(X.set k ⟨x.id,a',c',A⟩).length=X.length:=List.length_set;refine⟨⟨mb,E,S,U.only R (fun j B e=>hS (e▸B)),h2,fun y I j B hs=>?_⟩,?_,by rw[L];exact h.len,fun y I=>?_,J.low.trans (R.below J.low.size fun j B=>by omega)⟩
 ·rcases List.mem_or_eq_of_mem_set I with I|rfl
  ·exact h3 y I j B hs
  ·have:=N j B;have:=(h1.lo j hs).2;omega
 ·rw[<-z8J X k x ⟨x.id,a',c',A⟩ hk rfl];exact O
 ·rcases List.mem_or_eq_of_mem_set I with I|rfl
  ·exact j7 (J.ent y I) fun j B=>R.block j ((J.ent y I).lt j B).2 (fun e=>by
    subst e;exact z7v (J.ent y I) J.row (by decide) B rfl)
  ·exact j7 Y fun j B=>R.block j (Y.lt j B).2 (fun e=>by
    subst e;exact z7v Y J.row (by decide) B rfl)
theorem y5r:∀(A:List (Nat×List z1c)) (k id:Nat) (x:z1c) (l:List z1c),A[k]? =some (id,l)->(∀j p,j<k->A[j]? =some p->p.1≠id)->z4A id x A=A.set k (id,l++ [x])
 | [],k,id,x,l,h,_=>by simp at h
 | p::A,0,id,x,l,h,_=>by
  simp only[List.getElem?_cons_zero,Option.some.injEq]at h;subst h;unfold z4A;rw[if_pos rfl,List.set_cons_zero]
 | (i,l0)::A,k+1,id,x,l,h,hn=>by
  have B:=hn 0 (i,l0) (by omega) rfl;unfold z4A;rw[if_neg B,List.set_cons_succ,y5r A k id x l h fun j p J I=>hn (j+1) p (by omega) I]
theorem y5F:∀(A:List (Nat×List z1c)) (id:Nat) (x:z1c),(∀p∈A,p.1≠id)->z4A id x A=A++ [(id, [x])]
 | [],id,x,_=>rfl
 | (i,l0)::A,id,x,hn=>by
  unfold z4A;rw[if_neg (hn _ List.mem_cons_self),y5F A id x fun p B=>hn p (List.mem_cons_of_mem _ B),List.cons_append]
theorem y6d{n:Nat}:∀(A:List (Nat×List z1c)) (id:Nat) (x:z1c),(∀p∈A,p.2.length<=n)->∀p∈z4A id x A,p.2.length<=n+1
 | [],id,x,h,p,B=>by
  unfold z4A at B;rw[List.mem_singleton.1 B];simp
 | (i,l)::A,id,x,h,p,B=>by
  have I:=h _ List.mem_cons_self;unfold z4A at B;split at B
  ·rcases List.mem_cons.1 B with rfl|B
   ·simp only[List.length_append,List.length_singleton];exact Nat.succ_le_succ I
   ·exact Nat.le_succ_of_le (h p (List.mem_cons_of_mem _ B))
  ·rcases List.mem_cons.1 B with rfl|B
   ·exact Nat.le_succ_of_le I
   ·exact y6d A id x (fun q J=>h q (List.mem_cons_of_mem _ J)) p B
theorem y3U:∀(L:List LOp) (r:z0j×List (Nat×List z1c)) (n:Nat),(∀p∈r.2,p.2.length<=n)->∀p∈(L.foldl z1i r).2,p.2.length<=n+L.length
 | [],r,n,h=>h
 | o::L,r,n,h=>by
  rw[List.foldl_cons];have B:∀p∈(z1i r o).2,p.2.length<=n+1:=by
   unfold z1i;split
   ·exact fun p A=>Nat.le_succ_of_le (h p A)
   ·exact y6d r.2 _ _ h
  have I:=y3U L (z1i r o) (n+1) B;intro p A;have:=I p A;rw[List.length_cons];omega
theorem q4L(size:Int)(hs: -9223372036854775808<=size/\size<=9223372036854775807)(a:Option Addr)(n c:Nat)(L:List LOp)(hL:∀o∈L,o.Ok)(hn:n<=1000)(w:World)(h:y1I w a n L)(dM:z1u w):
  Calls prog 5 #[.int .i64 size,.slice a n c] w fun e w'=>∃bb X a m c,e= .returned (.tuple #[.pointer (some ⟨bb,0,none⟩),.slice a m c])/\z3u w w' bb (y1z size L).1 X a m c/\X.map (fun x=>(x.id,x.xs))=(y1z size L).2/\z9d (y1z size L).1 (z3E size) L.length:=by
 obtain⟨iS,bS,aT,aU,aV⟩:=info_parts y0S;obtain⟨iA,eJ,dW,e0,e1⟩:=info_parts q2C;have b1:=z7 (fun w'=>q1b 64 (z3E size) (by omega) (y1S size) w');have H:=z7 h;have e8:=z7 dM;have HL:=z7 hL;have hz:=y1S size;have cU:(z3E size:Int)=1+(max size 0)%24:=by unfold z3E;omega
 clear h dM hL;go_enter func5,ntmps5;obtain⟨Z,hZ⟩:=zN (z3E size);unfold y1z;rw[<-hZ]at b1 hz cU ⊢;have cA:=b1.o;rw[cU]at cA;clear hZ b1 cU;go_wp2_with fail;refine(cA _).mono ?_;rintro e w1 ⟨bb,mb,S,rfl,a9,cI⟩;have bW:=z7 a9;have eS:=z7 cI;have dG:z9d ⟨64,Z, []⟩ Z 0:=z9d.start hz.1;have dC:z3u w w1 bb ⟨64,Z, []⟩ [] none 0 0:=⟨⟨mb, [],S,a9,(fun k hk=>by cases hk),fun x hx=>by cases hx⟩,World.ownsRow_nil _ _ _ _,rfl,(fun x hx=>by cases hx),cI⟩;have eC:=z7 dG;have eA:=z7 dC;clear a9 cI dG dC cA;obtain⟨r0,dX⟩:∃r:z0j×List (Nat×List z1c),r=(⟨64,Z, []⟩, []):=⟨_,rfl⟩;have cB:=z7 dX;have cM:=z7 H.o.1;clear dX;go_wp2_with fail;go_loopw[7,8] (fun av iv wr=>∃(i m:Nat) (a:Option Addr) (c:Nat),av= .slice a m c/\iv= .int .i64 i/\i<=n/\m<=i/\Hid (∃X,z3u w wr bb ((L.take i).foldl z1i r0).1 X a m c/\X.map (fun x=>(x.id,x.xs))=((L.take i).foldl z1i r0).2)/\Hid (z9d ((L.take i).foldl z1i r0).1 Z i)) (fun _ iv _=>match iv with | .int _ y=>n - y.toNat|_=>0)
 case atStart=>
  have h9:((L.take 0).foldl z1i r0)=(⟨64,Z, []⟩, []):=by rw[List.take_zero];exact cB.o
  exact⟨0,0,none,0,rfl,rfl,Nat.zero_le _,Nat.zero_le _,z7 ⟨[],by rw[h9];exact eA.o,by rw[h9];rfl⟩,z7 (by rw[h9];exact eC.o)⟩
 case round=>
  obtain⟨i,m,aa,cc,rfl,rfl,hi,eU,hX,hP⟩:=hrel;have eV:IntKind.i64.wrap ((i:Int)+1)=((i+1:Nat):Int):=z0n (by omega) (by omega);by_cases hin:i<n
  ·have d1:decide ((i:Int)<(n:Int))=true:=decide_eq_true (by omega);obtain⟨o,ho⟩:∃o,L[i]? =some o:=⟨_,List.getElem?_eq_getElem (by have:=cM.o;omega)⟩;have dU:=HL.o o (List.mem_of_getElem? ho);obtain⟨X,aF,bR⟩:=hX.o;obtain⟨r,hr⟩:=zN ((L.take i).foldl z1i r0);have aE:=hP.o;have bC:∀p∈r.2,p.2.length<=i:=by
    have h9:=y3U (L.take i) r0 0 (by rw[cB.o];intro p hp;cases hp);rw[<-hr]at h9;intro p hp;have:=h9 p hp;rw[List.length_take]at this;omega
   have bH:(L.take (i+1)).foldl z1i r0=z1i r o:=(by rw[List.take_add_one,ho,List.foldl_append,<-hr];rfl);rw[<-hr]at aF bR aE;obtain⟨b,A⟩:=r;simp only at aF bR aE bC;obtain⟨g1,a4,rfl,dN,hq⟩:∃g1 a4,a=some ⟨g1,a4,none⟩/\g1<w.heap.size/\∀w',Below w.heap.size w w'->g1<w'.heap.size/\w'.cell? ⟨g1,a4+i*17+1,none⟩=some (.int .u32 o.s)/\w'.cell? ⟨g1,a4+i*17+2,none⟩=some (.int .i64 o.t)/\w'.cell? ⟨g1,a4+i*17+3,none⟩=some (.int .u64 (o.v:Nat)):=by
    obtain⟨g1,a4,e,dN, -⟩:=H.o.2 i o ho;refine⟨g1,a4,e,dN,fun w' hb=>?_⟩;obtain⟨g2,eO,e2,h1,h2,h3,h4⟩:=(H.o.low hb).2 i o ho;rw[e]at e2;simp only[Option.some.injEq,Addr.mk.injEq,and_true]at e2;obtain⟨rfl,rfl⟩:=e2;exact⟨h1,h2,h3,h4⟩
   obtain⟨id,hid⟩:=zN (o.s%64);have eL:id<64:=(by omega);have bF:((o.s:Int)%64)=(id:Int):=(by omega);have dZ:=z7 (show((o.s:Int)).tmod 64=(o.s:Int)%64 from Int.tmod_eq_emod_of_nonneg (by omega));have HQ:=z7 hq;have eE:=z7 hq;have cG:=z7 aF;have aC:=z7 bR;have d6:=z7 aE;have dA:=z7 bH;have cD:=z7 bC;have cZ:=z7 hid;have cJ:=e8.o.low aF.low;have cY:=z7 cJ;have bA:(0:Int)<=i/\(i:Int)<n:=(by omega);obtain⟨mb,E,S,a9,dI,dJ⟩:=aF.bk;have N:=z7 (fun w' (hw:Below wr.heap.size wr w')=>q4H bb mb w.heap.size E b S id (by omega) o.t o.v dU.x (by have:=aE.few id;omega) (by rw[aE.size];exact aE.lt id) w' (a9.low hw) (cJ.low hw));have bZ:=a9.serOk id;have d9:=z7 bZ;have bW:=z7 a9;have cV:=z7 dI;have cX:=z7 dJ;obtain⟨er,cL⟩:=zN (z6K b id o.t);have a2:=N.o;unfold y8C at a2;simp only at a2;rw[<-cL]at a2;have N:=z7 a2;have c5:=z7 cL;have bY:=aF.low;have aD:=z7 bY;clear hq aF bR aE bH bC hX hP ho hr dU hid a9 dI dJ bZ cL a2 cJ bY;go_upto_region 8 with fail
   refine q6 12 94 (fun D v w'=>Below wr.heap.size wr w') (Below.refl _ _).drew ?_;simp only[z0v];iterate 12 (refine q8.rd (e:=?_) (fun D v w' hD B=>?_) ?_;rotate_left;(obtain⟨lg,q1,q2,q3⟩:=HQ.o w' (aD.o.trans (B.mono aD.o.size));clear B hD;go_simp;try with_reducible rfl);go_simp)
   refine q8.fin (fun v w2 B=>?_);have bL:=z7 B;clear B;go_wp2_with fail;rw[bF];have aW:=z7 bF;clear bF;refine(N.o w2 bL.o).mono ?_;rintro e w3 (⟨dT,rfl,hb⟩|⟨h0,rfl,E',S',dB,dF,dH⟩)
   ·have d2:((er:Int)==0)=false:=beq_false_of_ne (by omega);have eB:=z7 dT;have HB:=z7 hb;clear dT hb bA;go_wp2;have eN:=(cG.o.next bL.o).next HB.o
    have a3:(L.take (i+1)).foldl z1i r0=(b,A):=by
     rw[dA.o];unfold z1i;rw[<-cZ.o,<-c5.o,if_pos eB.o]
    exact⟨⟨i+1,m,aa,cc,rfl,rfl,by omega,by omega,z7 ⟨X,by rw[a3];exact eN,by rw[a3];exact aC.o⟩,z7 (by rw[a3];exact d6.o.more (Nat.le_succ i))⟩,by show n - ((i+1:Nat):Int).toNat<n - (i:Int).toNat;omega⟩
   ·subst h0;have aZ:z3u w w3 bb (z8u b id ⟨o.t,o.v⟩) X aa m cc:=z3u.book (E:=E) (cG.o.next bL.o) cV.o cX.o (fun k hk=>(bW.o.lo k hk).1) dB dF dH;have cO:z9d (z8u b id ⟨o.t,o.v⟩) Z (i+1):=z9d.put hz.1 d6.o d9.o c5.o.symm;have a3:(L.take (i+1)).foldl z1i r0=(z8u b id ⟨o.t,o.v⟩,z4A id ⟨o.t,o.v⟩ A):=by
     rw[dA.o];unfold z1i;rw[<-cZ.o,<-c5.o,if_neg (by simp)]
    obtain⟨pb,dV⟩:=zN (z8u b id ⟨o.t,o.v⟩);rw[<-dV]at aZ cO a3;have cF:=z7 aZ;have d0:=z7 cO;have a5:=z7 a3;have aB:=z7 (fun w' (hb:Below w3.heap.size w3 w')=>HQ.o w' (aZ.low.trans (hb.mono aZ.low.size)));have bT:=z7 aZ.len;clear aZ cO a3 dV dB dF dH N HQ bW cV cX cG bL aD cY;go_wp2_with fail;go_loopw[9] (fun kv w4=>∃k:Nat,kv= .int .i64 (k:Nat)/\k<=m/\Hid (∀j x,j<k->X[j]? =some x->x.id≠id)/\Hid (Below w3.heap.size w3 w4)) (fun kv _=>match kv with | .int _ y=>m - y.toNat|_=>0)
    case atStart=>exact⟨0,rfl,Nat.zero_le _,z7 (fun j x hj=>by omega),z7 (Below.refl _ _)⟩
    case round=>
     obtain⟨k,rfl,hk,cN,I⟩:=hrel;have eX:IntKind.i64.wrap ((k:Int)+1)=((k+1:Nat):Int):=z0n (by omega) (by omega);have bU:z3u w wr bb pb X aa m cc:=cF.o.next I.o
     obtain⟨e3,e4,e5,e6⟩:=aB.o wr I.o;have bM:=z7 bU;by_cases hkm:k<m
     ·have d3:decide ((k:Int)<(m:Int))=true:=decide_eq_true (by omega);obtain⟨⟨aR,xa,xc,xs⟩,hx⟩:∃x,X[k]? =some x:=⟨_,List.getElem?_eq_getElem (by have:=bT.o;omega)⟩;obtain⟨ga,rfl,aL⟩:=bU.at' hx;obtain⟨xn,cT⟩:=zN xs.length;simp only[z4c.v]at aL;rw[<-cT]at aL;have bN:=z7 cT;clear cT;have bJ:=z7 aL;have HX:=z7 hx;have dR:(0:Int)<=k/\(k:Int)<m:=(by omega);clear bU hx aL e3 e4 e5 e6;by_cases hxi:aR=id
      ·have d4:((aR:Int) !=((o.s:Int)%64))=false:=(by rw[aW.o,hxi];simp);have eI:((aR:Int) !=((o.s:Int)).tmod 64)=false:=(by rw[dZ.o];exact d4);have d5:((k:Int)==(m:Int))=false:=beq_false_of_ne (by omega);go_wp2_with fail;refine q6 18 94 (fun D v w'=>Below wr.heap.size wr w') (Below.refl _ _).drew ?_;simp only[z0v];iterate 18 (refine q8.rd (e:=?_) (fun D v w' hD B=>?_) ?_;rotate_left;(obtain⟨lg,q1,q2,q3⟩:=aB.o w' (I.o.trans (B.mono I.o.size));obtain⟨aO,aG,aH,aI⟩:=bJ.o w' B;clear B hD;go_simp;try with_reducible rfl);go_simp)
       refine q8.fin (fun v O B=>?_);have aX:=z7 (bM.o.next B);have b2:=z7 (fun w' (hb:Below O.heap.size O w')=>aB.o w' (I.o.trans ((B.trans (hb.mono B.size)).mono I.o.size)));have a8:=z7 (fun w' (hb:Below O.heap.size O w')=>bJ.o w' (B.trans (hb.mono B.size)));have bG:Rd O (.slice xa xn xc) 2 xn (z0T xs):=by
        have h9:=z0e (aX.o.ent _ (List.mem_of_getElem? HX.o));simp only[z4c.v]at h9;rw[<-bN.o]at h9;exact h9
       have b5:=z7 bG;have dE:xn<=i:=by
        rw[bN.o];exact cD.o (aR,xs) (by rw[<-aC.o];exact List.mem_map.2 ⟨_,List.mem_of_getElem? HX.o,rfl⟩)
       clear B bG I cF bM bJ aB;obtain⟨lg,q1,q2,q3⟩:=b2.o O (Below.refl _ _);obtain⟨aO,aG,aH,aI⟩:=a8.o O (Below.refl _ _);have b6:=aX.o.low.size;go_upto_region 16 with(at_builtin;refine z1V rfl _ _ 41 rfl w.heap.size 71 iS _ 2 16 underlying41 bS aT aU aV rfl (by decide) (.slice none 0 0) 0 [] rfl (World.ownsRow_nil _ _ _ _) _ xn _ rfl b5.o (z6Q xs) (by unfold maxLen;omega) (by omega) b6 ?_;intro v6 w6 h6 b8 cR b7;have aM:=y8m b7;obtain⟨a6,c6,rfl⟩:=z2n h6;(try simp only[Nat.zero_add]at aM);have b3:=z7 h6;have c8:=z7 b8;have b0:=z7 aM;clear h6 b8 cR b7 aM)
       have J:Below O.heap.size O w6:=(Below.refl _ _).grown c8.o (Nat.le_refl _) (fun j hj=>by cases hj);have aN:=b3.o;rw[Nat.zero_add,List.nil_append]at aN;clear lg q1 q2 q3 aO aG aH aI;obtain⟨lg,q1,q2,q3⟩:=b2.o w6 J;have a0:Below w6.heap.size w6 (w6.alloc (.cells #[.int .i64 o.t,.int .u64 (o.v:Nat)] 71)):=q5 _ _;have R:=ownsRow_below aN a0 (Nat.le_refl _);have aA:=z7 R;have U:Rd (w6.alloc (.cells #[.int .i64 o.t,.int .u64 (o.v:Nat)] 71)) (.slice (some ⟨w6.heap.size,0,none⟩) 1 1) 2 1 [.int .i64 o.t,.int .u64 (o.v:Nat)]:=z3z _ _ _ 1 2 (by simp) (by simp);have b4:=z7 U;have a1:Below O.heap.size O (w6.alloc (.cells #[.int .i64 o.t,.int .u64 (o.v:Nat)] 71)):=J.trans (a0.mono J.size);have bI:w.heap.size<=(w6.alloc (.cells #[.int .i64 o.t,.int .u64 (o.v:Nat)] 71)).heap.size:=Nat.le_trans b6 a1.size;have Y:=z7 a1;clear aN a0 R U a1 J b3;go_upto_region 17 with(at_builtin;refine z1H rfl _ _ 41 rfl w.heap.size 71 iS _ 2 16 underlying41 bS aT aU aV rfl (by decide) a6 (xn) c6 _ rfl aA.o _ 1 [.int .i64 o.t,.int .u64 (o.v:Nat)] rfl b4.o (by decide) (by simp[Value.oneCell']) (by unfold maxLen;omega) (by omega) bI ?_;intro g7 c7 w7 h7 b9 a7;have cC:=z7 h7;have c9:=z7 b9;have cE:=z7 a7;clear h7 b9 a7)
       have aJ:Below O.heap.size O w7:=Y.o.grown c9.o Y.o.size (fun j hj=>b0.o j hj);clear lg q1 q2 q3;obtain⟨aO,aG,aH,aI⟩:=a8.o w7 aJ;have bD:=z7 aJ;clear aJ;go_wp2;have a7:w7.ownsRow w.heap.size 71 2 (.slice (some ⟨g7,0,none⟩) (xs++([⟨o.t,o.v⟩]:List z1c)).length c7) (xs++([⟨o.t,o.v⟩]:List z1c)).length (z0T (xs++([⟨o.t,o.v⟩]:List z1c))):=by
        rw[List.length_append,z4W];rw[<-bN.o];exact cC.o
       have N:=aX.o.put HX.o bD.o a7 (fun j hj=>by
        have bB:some g7=some j:=hj;simp only[Option.some.injEq]at bB;subst bB;rcases cE.o with e|e
        ·exact b0.o _ e
        ·have:=Y.o.size;omega)
       rw[show(xs++([⟨o.t,o.v⟩]:List z1c)).length=xn+1 from by rw[List.length_append];rw[<-bN.o];rfl]at N;have bE:(X.set k ⟨aR,some ⟨g7,0,none⟩,c7,xs++ [⟨o.t,o.v⟩]⟩).map (fun x=>(x.id,x.xs))=z4A id ⟨o.t,o.v⟩ A:=by
        rw[y5r A k id _ xs (by rw[<-aC.o,List.getElem?_map,HX.o,<-hxi];rfl) (fun j p hj hp=>by
         rw[<-aC.o,List.getElem?_map]at hp;obtain⟨y,hy,rfl⟩:=Option.map_eq_some_iff.1 hp;exact cN.o j y hj hy),List.map_set,aC.o,hxi]
       exact⟨⟨i+1,m,some ⟨ga,0,none⟩,cc,rfl,rfl,by omega,by omega,z7 ⟨_,by rw[a5.o];exact N,by rw[a5.o];exact bE⟩,z7 (by rw[a5.o];exact d0.o)⟩,by show n - ((i+1:Nat):Int).toNat<n - (i:Int).toNat;omega⟩
      ·have d4:((aR:Int) !=((o.s:Int)%64))=true:=(by rw[aW.o];simp;omega);have eI:((aR:Int) !=((o.s:Int)).tmod 64)=true:=(by rw[dZ.o];exact d4);go_wp2_with fail;refine q6 18 94 (fun D v w'=>Below wr.heap.size wr w') (Below.refl _ _).drew ?_;simp only[z0v];iterate 18 (refine q8.rd (e:=?_) (fun D v w' hD B=>?_) ?_;rotate_left;(obtain⟨lg,q1,q2,q3⟩:=aB.o w' (I.o.trans (B.mono I.o.size));obtain⟨aO,aG,aH,aI⟩:=bJ.o w' B;clear B hD;go_simp;try with_reducible rfl);go_simp)
       refine q8.fin (fun v O B=>?_);have e7:=z7 (I.o.trans (B.mono I.o.size));clear B;go_wp2;refine⟨⟨k+1,rfl,by omega,z7 (fun j y hj hy=>?_),e7⟩,by show m - ((k+1:Nat):Int).toNat<m - (k:Int).toNat;omega⟩;rcases Nat.lt_or_ge j k with h|h
       ·exact cN.o j y h hy
       ·have:j=k:=(by omega);subst this;rw[HX.o]at hy;simp only[Option.some.injEq]at hy;rw[<-hy];exact hxi
     ·have dS:k=m:=(by omega);subst dS;have d3:decide ((k:Int)<(k:Int))=false:=(by simp);have d5:((k:Int)==(k:Int))=true:=(by simp);clear bU e3 e4 e5 e6;go_wp2_with fail;refine q6 18 94 (fun D v w'=>Below wr.heap.size wr w') (Below.refl _ _).drew ?_;simp only[z0v];iterate 5 (refine q8.rd (e:=?_) (fun D v w' hD B=>?_) ?_;rotate_left;(clear B hD;go_simp;try with_reducible rfl);go_simp)
      iterate 12 (refine q8.sk (fun D v w h=>h) ?_;go_simp)
      iterate 1 (refine q8.rd (e:=?_) (fun D v w' hD B=>?_) ?_;rotate_left;(clear B hD;go_simp;try with_reducible rfl);go_simp)
      refine q8.fin (fun v w4 B=>?_);have bV:=z7 (bM.o.next B);have d7:=z7 (fun w' (hb:Below w4.heap.size w4 w')=>aB.o w' (I.o.trans ((B.trans (hb.mono B.size)).mono I.o.size)));obtain⟨lg,q1,q2,q3⟩:=d7.o w4 (Below.refl _ _);have a0:Below w4.heap.size w4 (w4.alloc (.cells #[.int .u32 ((o.s:Int)%64),.slice none 0 0] 43)):=q5 _ _;have aS:=bV.o.next a0
      have bX:=z7 aS;have R:=aS.row;have cW:=z7 R;have U:Rd (w4.alloc (.cells #[.int .u32 ((o.s:Int)%64),.slice none 0 0] 43)) (.slice (some ⟨w4.heap.size,0,none⟩) 1 1) 2 1 [.int .u32 ((o.s:Int)%64),.slice none 0 0]:=z3z _ _ _ 1 2 (by simp) (by simp);have d8:=z7 U;have dY:=aS.low.size;have eR:=z7 a0;clear B a0 aS R U I cF aB bM;go_upto_region 14 with(at_builtin;(refine z1H rfl _ _ 26 rfl w.heap.size 43 iA _ 2 32 underlying26 eJ dW e0 e1 rfl (by decide) aa k cc (X.flatMap z4c.cells) rfl cW.o _ 1 [.int .u32 ((o.s:Int)%64),.slice none 0 0] rfl d8.o (by decide) (by simp[Value.oneCell']) (by unfold maxLen;omega) (by omega) dY ?_);intro ga ca O h5 dO dD;have eF:=z7 h5;have e9:=z7 dO;have eG:=z7 dD;clear h5 dO dD)
      have aY:z3u w O bb pb (X++ [⟨id,none,0, []⟩]) (some ⟨ga,0,none⟩) (k+1) ca:=by
       refine bX.o.add e9.o (fun j hj=>?_) ?_
       ·simp only[Value.ownBlock,Option.some.injEq]at hj;subst hj;rcases eG.o with e|e
        ·exact .inl e
        ·exact .inr (Nat.le_of_eq e.symm)
       ·have h9:=eF.o;rw[aW.o]at h9;exact h9
      obtain⟨X',bO⟩:=zN (X++ [⟨id,none,0, []⟩]);have cS:X'[k]? =some ⟨id,none,0, []⟩:=(by rw[bO,bT.o,List.getElem?_append_right (Nat.le_refl _),Nat.sub_self];rfl);rw[<-bO]at aY;obtain⟨eT,e2,aL⟩:=aY.at' cS;simp only[Option.some.injEq,Addr.mk.injEq,and_true]at e2;subst e2;have aX:=z7 aY;have HX:=z7 cS;have a8:=z7 aL;have eH:=z7 bO;have dL:Below w4.heap.size w4 O\/True:= .inr trivial;have b2:Hid (∀w',Below O.heap.size O w'->g1<w'.heap.size/\w'.cell? ⟨g1,a4+i*17+1,none⟩=some (.int .u32 o.s)/\w'.cell? ⟨g1,a4+i*17+2,none⟩=some (.int .i64 o.t)/\w'.cell? ⟨g1,a4+i*17+3,none⟩=some (.int .u64 (o.v:Nat))):=z7 fun w' hb=>eE.o w' (aY.low.trans (hb.mono aY.low.size));have bG:Rd O (.slice none 0 0) 2 0 []:=Rd.nil _ _;have b5:=z7 bG;have dE:(0:Nat)<=i:=Nat.zero_le _;have dR:(0:Int)<=k/\(k:Int)<k+1:=by omega
      clear aY cS aL bO bG dL bX bV d7 lg q1 q2 q3 d5 d3;obtain⟨lg,q1,q2,q3⟩:=b2.o O (Below.refl _ _);obtain⟨aO,aG,aH,aI⟩:=a8.o O (Below.refl _ _);have b6:=aX.o.low.size;go_upto_region 16 with(at_builtin;refine z1V rfl _ _ 41 rfl w.heap.size 71 iS _ 2 16 underlying41 bS aT aU aV rfl (by decide) (.slice none 0 0) 0 [] rfl (World.ownsRow_nil _ _ _ _) _ 0 _ rfl b5.o (z6Q []) (by unfold maxLen;omega) (by omega) b6 ?_;intro v6 w6 h6 b8 cR b7;have aM:=y8m b7;obtain⟨a6,c6,rfl⟩:=z2n h6;(try simp only[Nat.zero_add]at aM);have b3:=z7 h6;have c8:=z7 b8;have b0:=z7 aM;clear h6 b8 cR b7 aM)
      have J:Below O.heap.size O w6:=(Below.refl _ _).grown c8.o (Nat.le_refl _) (fun j hj=>by cases hj);have aN:=b3.o;rw[Nat.zero_add,List.nil_append]at aN;clear lg q1 q2 q3 aO aG aH aI;obtain⟨lg,q1,q2,q3⟩:=b2.o w6 J;have a0:Below w6.heap.size w6 (w6.alloc (.cells #[.int .i64 o.t,.int .u64 (o.v:Nat)] 71)):=q5 _ _;have R:=ownsRow_below aN a0 (Nat.le_refl _);have aA:=z7 R;have U:Rd (w6.alloc (.cells #[.int .i64 o.t,.int .u64 (o.v:Nat)] 71)) (.slice (some ⟨w6.heap.size,0,none⟩) 1 1) 2 1 [.int .i64 o.t,.int .u64 (o.v:Nat)]:=z3z _ _ _ 1 2 (by simp) (by simp);have b4:=z7 U;have a1:Below O.heap.size O (w6.alloc (.cells #[.int .i64 o.t,.int .u64 (o.v:Nat)] 71)):=J.trans (a0.mono J.size);have bI:w.heap.size<=(w6.alloc (.cells #[.int .i64 o.t,.int .u64 (o.v:Nat)] 71)).heap.size:=Nat.le_trans b6 a1.size;have Y:=z7 a1;clear aN a0 R U a1 J b3;go_upto_region 17 with(at_builtin;refine z1H rfl _ _ 41 rfl w.heap.size 71 iS _ 2 16 underlying41 bS aT aU aV rfl (by decide) a6 (0) c6 _ rfl aA.o _ 1 [.int .i64 o.t,.int .u64 (o.v:Nat)] rfl b4.o (by decide) (by simp[Value.oneCell']) (by unfold maxLen;omega) (by omega) bI ?_;intro g7 c7 w7 h7 b9 a7;have cC:=z7 h7;have c9:=z7 b9;have cE:=z7 a7;clear h7 b9 a7)
      have aJ:Below O.heap.size O w7:=Y.o.grown c9.o Y.o.size (fun j hj=>b0.o j hj);clear lg q1 q2 q3;obtain⟨aO,aG,aH,aI⟩:=a8.o w7 aJ;have bD:=z7 aJ;clear aJ;go_wp2;have a7:w7.ownsRow w.heap.size 71 2 (.slice (some ⟨g7,0,none⟩) ([]++([⟨o.t,o.v⟩]:List z1c)).length c7) ([]++([⟨o.t,o.v⟩]:List z1c)).length (z0T ([]++([⟨o.t,o.v⟩]:List z1c))):=by
       rw[List.length_append,z4W];exact cC.o
      have N:=aX.o.put HX.o bD.o a7 (fun j hj=>by
       have bB:some g7=some j:=hj;simp only[Option.some.injEq]at bB;subst bB;rcases cE.o with e|e
       ·exact b0.o _ e
       ·have:=Y.o.size;omega)
      have bE:(X'.set k ⟨id,some ⟨g7,0,none⟩,c7, []++ [⟨o.t,o.v⟩]⟩).map (fun x=>(x.id,x.xs))=z4A id ⟨o.t,o.v⟩ A:=by
       rw[y5F A id _ (fun p hp=>by
        rw[<-aC.o]at hp;obtain⟨y,hy,rfl⟩:=List.mem_map.1 hp;obtain⟨j,hj,eM⟩:=List.getElem_of_mem hy;exact cN.o j y (by have:=bT.o;omega) (by rw[List.getElem?_eq_getElem hj,eM])),eH.o,bT.o,List.set_append_right _ _ (Nat.le_refl _),Nat.sub_self,<-aC.o,List.map_append]
       rfl
      exact⟨⟨i+1,k+1,some ⟨ga,0,none⟩,ca,rfl,rfl,by omega,by omega,z7 ⟨_,by rw[a5.o];exact N,by rw[a5.o];exact bE⟩,z7 (by rw[a5.o];exact d0.o)⟩,by show n - ((i+1:Nat):Int).toNat<n - (i:Int).toNat;omega⟩
  ·have d1:decide ((i:Int)<(n:Int))=false:=decide_eq_false (by omega);have bA:i=n:=(by omega);subst bA;go_wp2;go_ret2;obtain⟨X,h1,h2⟩:=hX.o;have ht:L.take i=L:=List.take_of_length_le (Nat.le_of_eq cM.o.symm);have cH:=hP.o;rw[ht]at h1 h2 cH;rw[cB.o]at h1 h2 cH;exact⟨bb,X,aa,m,cc,rfl,h1,h2,by rw[<-cM.o];exact cH⟩

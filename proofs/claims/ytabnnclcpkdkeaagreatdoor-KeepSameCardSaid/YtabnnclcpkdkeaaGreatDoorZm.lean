/- Plain. -/
import Derived.Test.YtabnnclcpkdkeaaGreatDoorZb
namespace Go.Proofs.YtabnnclcpkdkeaaGreatDoor
open Go.Proofs.Tryz
set_option linter.all false
set_option maxRecDepth 100000
set_option maxHeartbeats 0
open Go.RowKit Go.Maps
theorem q1L(p:z0R)(n:Nat)(A:n<=p.st.length):toP p n=z6T 0 (p.st.take n):=by
 unfold toP z6T z1C;split
 .rename_i h;subst h;simp
 rename_i h;rw[List.getLast?_take,wR h,uF];cases hg:p.st[n - 1]? with
 | none=>
  have:=List.getElem?_eq_none_iff.1 hg;omega
 | some x=>simp
theorem q7j{p:z0R}(h:p.Ok){n m:Nat}(U:n<m)(Y:m<=p.st.length):toP p n<toP p m:=by
 obtain⟨-, -, -,O,R⟩:=z3T h.rd;have A:m - 1<p.st.length:=wF
 have L:toP p m=(p.st[m - 1]).at_:=by
  unfold toP z1C;rw[wR wF,uF,wL A];rfl
 rw[L];by_cases J:n=0
 .subst J;have:=(O _ (ug A)).2.2.1;show toP p 0<_;unfold toP;rw[wZ rfl];exact this
 have I:n - 1<p.st.length:=wF
 have N:toP p n=(p.st[n - 1]).at_:=by
  unfold toP z1C;rw[wR J,uF,wL I];rfl
 rw[N];exact(et.1 R (n - 1) (m - 1) I A wF).1
def z1u(p:z0R)(n:Nat):z0R:=⟨p.l.take (toP p n),p.st.take n⟩
theorem y3z{p:z0R}(h:p.Ok){n:Nat}(A:n<=p.st.length):(z1u p n).Ok:=
 ⟨by unfold z1u;rw[q1L p n A];exact y8w h.rd A,by unfold z1u;have:=h.len;simp only[uR];omega⟩
theorem z9i{p:z0R}(h:p.Ok){n:Nat}(A:n<=p.st.length):(z1u p n).l.length=toP p n/\(z1u p n).st.length=n:=by
 unfold z1u;have:=y0j h n;simp only[uR];omega
theorem y2K{p:z0R}(h:p.Ok):z1u p p.st.length=p:=by
 unfold z1u;rw[y1y h,ui,ui]
theorem y7E{p:z0R}(h:p.Ok){n m:Nat}(I:n<=m)(A:m<=p.st.length):(z1u p n).l++(p.l.drop (toP p n)).take (toP p m - toP p n)=(z1u p m).l:=by
 unfold z1u;have J:=y6x h I A;show p.l.take (toP p n)++_=p.l.take (toP p m)
 conv=>rhs;rw[show toP p m=toP p n+(toP p m - toP p n) by omega]
 rw[qe]
structure z3a (x s:z0T):Prop where
 le:x.done.length<=s.done.length
 done:x.done=s.done.take x.done.length
 cur:∃p cl,s.parts[x.done.length]? =some (p,cl)/\x.cur.st.length<=p.st.length/\x.cur=z1u p x.cur.st.length/\(cl=true->x.cur.st.length<p.st.length)
def z6I(s:z0T):Prop:=∀D p,(s.done++ [s.cur])[D]? =some p->p.st≠ []->z5Y (s.done.take D)=true->z4h (s.done.take D)<firstT p.st
theorem y0h(s:z0T)(D:Nat)(p:z0R)(cl:Bool)(h:s.parts[D]? =some (p,cl)):(s.done++ [s.cur])[D]? =some p/\(cl=true->D<s.done.length)/\(cl=false->D=s.done.length):=by
 unfold z0T.parts at h;by_cases A:D<s.done.length
 .rw[uX (by simpa using A),uF,wL A]at h;simp only[pK,wK,wk]at h;rw[uX A,wL A,h.1];exact⟨rfl,fun _=>A,fun e=>by rw[<-h.2]at e;cases e⟩
 rw[uO (by simpa using A),we]at h;rw[uO wF];cases hk:D - s.done.length with
 | zero=>
  rw[hk]at h;simp only[uv,wK,wk]at h;rw[<-h.1];exact⟨rfl,(fun e=>by rw[<-h.2]at e;cases e),fun _=>wF⟩
 | succ k=>rw[hk]at h;simp at h
theorem z7j{s:z0T}(A:s.Ok){D:Nat}{p:z0R}{cl:Bool}(h:s.parts[D]? =some (p,cl)):p.Ok:=by
 unfold z0T.parts at h;rcases uB.1 (wX h)with h|h
 .obtain⟨y,I,e⟩:=uC.1 h;simp only[wk]at e;rw[<-e.1];exact(A.done y I).1
 simp only[uD,wk]at h;rw[h.1];exact A.cur
theorem z3a.ok{x s:z0T}(h:z3a x s)(I:s.Ok):x.Ok:=by
 refine⟨fun p A=>?_,?_⟩
 .rw[h.done]at A;exact I.done p (mx A)
 obtain⟨p,cl,J,L,N, -⟩:=h.cur;rw[N];exact y3z (z7j I J) L
theorem z6H{s:z0T}(A:s.Ok):z3a z4T s:=by
 refine⟨uA _,wH,?_⟩;cases hd:s.done with
 | nil=>exact⟨s.cur,false,by unfold z0T.parts;rw[hd];rfl,uA _,by unfold z1u toP;simp,fun e=>by cases e⟩
 | cons p l=>
  refine⟨p,true,by unfold z0T.parts;rw[hd];rfl,uA _,by unfold z1u toP;simp,fun _=>?_⟩;exact(A.done p (by rw[hd];exact uK)).2
theorem z9w{x s:z0T}(h:z3a x s):s.done.take x.done.length=x.done:=h.done.symm
structure q6N (x s:z0T) (id:Nat) (r:z9M) (st:List z1t):Prop where
 series:r.series=id
 p:r.p=z1P x
 more:x.cur.st.length<r.count
 count:r.count<=24
 bits0:0<r.bits.length
 bits1:r.bits.length<=3504
 sum:r.sum=z3h 0 x.cur.l
 rd:z5t (x.cur.l++r.bits)=some st
 len:st.length=r.count
 rise:z5Y x.done=true->z4h x.done<firstT st
 grow:z3a (z4F x ⟨x.cur.l++r.bits,st⟩ r.closed) s
theorem y2a{x s:z0T}(R:s.Ok)(h:z3a x s):∃p cl,z4M s (z1P x)=some (p,cl)/\s.parts[x.done.length]? =some (p,cl)/\x.cur.st.length<=p.st.length/\x.cur=z1u p x.cur.st.length/\(cl=true->x.cur.st.length<p.st.length):=by
 obtain⟨p,cl,A,I,J,L⟩:=h.cur;have O:=z7j R A;refine⟨p,cl,?_,A,I,J,L⟩;unfold z4M z1P;simp only[A];rw[wR];rintro(g|⟨N,U⟩|g)
 .omega
 .have:=L N;omega
 apply g;have:=(z9i O I).1;rw[<-J]at this;exact this.symm
theorem y0w{x s:z0T}(hs:s.Ok)(hr:z6I s)(h:z3a x s)(id:Nat)(A:Int):
  (z4B s id (z1P x) A).err=0/\((z4B s id (z1P x) A).count=0\/∃st,q6N x s id (z4B s id (z1P x) A) st):=by
 obtain⟨p,cl,aC,a5,aG,aB,aL⟩:=y2a hs h;have R:=z7j hs a5;unfold z4B;rw[aC];simp only;split
 .exact⟨rfl,.inl rfl⟩
 rename_i aH;refine⟨rfl,.inr ?_⟩;have a3:=y0n hs aC aH;have J:x.cur.st.length<p.st.length:=a3;obtain⟨n,hn⟩:=zN x.cur.st.length;have hE:z1P x=(x.done.length,toP p n,n):=by
  unfold z1P;have:=(z9i R aG).1;rw[<-aB]at this;rw[this,hn]
 rw[hE];simp only;obtain⟨M,hM⟩:=zN (y1l p (toP p n) n A);have a0:=z7v (z1C p.st) (toP p n) A (p.st.length - (n+1)) (n+1) (by rw[z4l];omega);rw[z4l]at a0;rw[<-hM];have O:n+1<=M/\M<=p.st.length:=by rw[hM];exact a0
 clear a0 hM;have aM:=q7j R (n:=n) (m:=M) wF O.2;have a4:=y0j R M;have aE:=R.bits;have Y:((p.l.drop (toP p n)).take (toP p M - toP p n)).length=toP p M - toP p n:=by rw[uR,uE];omega
 have U:x.cur.l=(z1u p n).l:=by rw[hn];exact uS z0R.l aB
 have L:x.cur.l++(p.l.drop (toP p n)).take (toP p M - toP p n)=(z1u p M).l:=by rw[U];exact y7E R wF O.2
 have a8:=y3z R O.2;have I:=(z9i R O.2).2;have aJ:=R.len;obtain⟨a1,a9,aI⟩:=y0h s _ _ _ a5;refine⟨(z1u p M).st,⟨rfl,hE.symm,by show _<M;omega,by show M<=24;omega,by show 0<List.length _;rw[Y];omega,by show List.length _<=_;rw[Y];omega,?_,?_,I,fun a6=>?_,?_⟩⟩
 .show z3h 0 (p.l.take (toP p n))=z3h 0 x.cur.l;rw[U];rfl
 .show z5t (x.cur.l++_)=_;rw[L];exact a8.rd
 .have h1:=hr x.done.length p a1 (by intro e;rw[e]at J;simp at J) (by rw[z9w h];exact a6);rw[z9w h]at h1;have hf:firstT (z1u p M).st=firstT p.st:=by
   unfold firstT z1u;cases hst:p.st with
   | nil=>simp
   | cons y l=>
    have:M=(M - 1)+1:=wF;rw[this,dw];rfl
  rw[hf];exact h1
 show z3a (z4F x ⟨x.cur.l++_,_⟩ _) s;rw[L];have e1:(⟨(z1u p M).l,(z1u p M).st⟩:z0R)=z1u p M:=rfl;rw[e1];show z3a (z4F x (z1u p M) (cl&&decide (M=p.st.length))) s;cases hc:(cl&&decide (M=p.st.length))with
 | false=>
  show z3a ⟨x.done,z1u p M⟩ s;refine⟨h.le,h.done,p,cl,a5,by show(z1u p M).st.length<=_;omega,by show z1u p M=z1u p (z1u p M).st.length;rw[I],fun aA=>?_⟩;show(z1u p M).st.length<_;rw[I];rw[aA]at hc;simp only[pL,ia]at hc;omega
 | true=>
  simp only[uh,od]at hc;have hD:=a9 hc.1;have a2:z1u p M=p:=(by rw[hc.2];exact y2K R);have aF:s.done[x.done.length]? =some p:=by
   rw[uX hD]at a1;exact a1
  show z3a ⟨x.done++ [z1u p M],z1Y⟩ s;rw[a2];have N:(x.done++ [p]).length=x.done.length+1:=wH;refine⟨by show(x.done++ [p]).length<=_;omega,?_,?_⟩
  .show x.done++ [p]=s.done.take (x.done++ [p]).length;rw[N,uG,z9w h,aF];rfl
  show ∃q a7,s.parts[(x.done++ [p]).length]? =some (q,a7)/\z1Y.st.length<=q.st.length/\z1Y=z1u q z1Y.st.length/\(a7=true->z1Y.st.length<q.st.length);rw[N];have a4:x.done.length+1<s.parts.length:=(by rw[s.parts_len];omega);refine⟨s.parts[x.done.length+1].1,s.parts[x.done.length+1].2,by rw[wL a4],uA _,by unfold z1u toP;simp,fun e=>?_⟩;have hq:=ug a4;unfold z0T.parts at hq;rcases uB.1 hq with hq|hq
  .obtain⟨y,hy,ey⟩:=uC.1 hq;have:=(hs.done y hy).2;have e2:s.parts[x.done.length+1]=(y,true):=ey.symm;rw[e2];exact this
  simp only[uD]at hq;have e2:s.parts[x.done.length+1]=(s.cur,false):=hq;rw[e2]at e;cases e
theorem y0t{x:z0T}(L:x.Ok):z9t x (z1P x)=(z3h 0 x.cur.l,0):=by
 have J:z4M x (z1P x)=some (x.cur,false):=by
  have I:x.parts[x.done.length]? =some (x.cur,false):=by
   unfold z0T.parts;rw[uO wH,we,pI];rfl
  unfold z4M z1P;simp only[I];rw[wR];rintro(g|⟨A, -⟩|g)
  .omega
  .cases A
  exact g (y1y L.cur)
 unfold z9t;rw[J];simp only[z1P,ui]
theorem z8U{k:z0h}{x s:z0T}{id:Nat}{r:z9M}{L:List z1t}(f:Fr)(h:q6N x s id r L)(I:z3Q k id=0)(J:24<=k.size)(O:f.series=r.series)(A:z6K f=r.p)(Y:f.count=r.count):
  z1j k x f r.bits=(0,⟨x.cur.l++r.bits,L⟩):=by
 have hb:y4m x f=x.cur.l:=by unfold y4m;rw[A,h.p,wZ rfl]
 have hc:f.cnt=x.cur.st.length:=by
  have:=A.trans h.p;unfold z6K z1P at this;simp only[wk]at this;exact this.2.2
 unfold z1j;rw[O,h.series,wR wF,wR (by rw[A,h.p];simp),hb,h.rd];simp only;have R:y7s k x f L=false:=by
  unfold y7s;apply wM;have:=h.len;have:=h.more;have:=h.count;rintro(g|g|g|⟨N,U⟩)
  .omega
  .omega
  .omega
  have:=h.rise N;omega
 rw[R];rfl
theorem q2M{b:z0h}{id:Nat}{x:z1m}(hs:(j9 b id).Ok)(hr:z6I (j9 b id))(U:z7o b id x.t=0)(cl:Bool):z6I (z4F (j9 b id) (z3r (j9 b id).cur x) cl):=by
 obtain⟨s,O⟩:=zN (j9 b id);have R:(z6X s).2=true->(z6X s).1<x.t:=fun h2=>by
  unfold z7o at U;rw[y5Q U,wZ rfl,<-O]at U;split at U
  .cases U
  rename_i hn;have:¬x.t<=(z6X s).1:=fun h=>hn ⟨h2,h⟩;omega
 rw[<-O]at hs hr ⊢;clear U O;have key:∀D p,(s.done++ [z3r s.cur x])[D]? =some p->p.st≠ []->z5Y (s.done.take D)=true->z4h (s.done.take D)<firstT p.st:=fun D p N L A=>by
  by_cases hD:D<s.done.length
  .rw[uX hD]at N;exact hr D p (by rw[uX hD];exact N) L A
  rw[uO wF]at N;have a0:D=s.done.length:=by
   rcases qJ (D - s.done.length) 1 with h|h
   .omega
   rw[uw (by simpa using h)]at N;cases N
  subst a0;rw[pI]at N;simp only[uv,wK]at N;subst N;rw[ui]at A ⊢;by_cases h0:s.cur.st= []
  .have Y:z6X s=(z4h s.done,z5Y s.done):=wR (by rw[h0];simp);have h2:=R (by rw[Y];exact A);rw[Y]at h2;have:firstT (z3r s.cur x).st=x.t:=(by unfold firstT z3r;rw[h0];rfl);rw[this];exact h2
  have Y:=hr s.done.length s.cur (by rw[uO wF,pI];rfl) h0 (by rw[ui];exact A);rw[ui]at Y;have:firstT (z3r s.cur x).st=firstT s.cur.st:=by
   unfold firstT z3r;cases hst:s.cur.st with
   | nil=>exact absurd hst h0
   | cons y l=>rfl
  rw[this];exact Y
 cases cl with
 | false=>exact key
 | true=>
  intro D p N L A;have I:(s.done++ [z3r s.cur x]++ [z1Y])[D]? =some p:=N;have J:z5Y ((s.done++ [z3r s.cur x]).take D)=true:=A;show z4h ((s.done++ [z3r s.cur x]).take D)<firstT p.st;by_cases hD:D<(s.done++ [z3r s.cur x]).length
  .rw[uX hD]at I;have a1:D<=s.done.length:=(by simp at hD;omega);rw[pE a1]at J ⊢;exact key D p I L J
  rw[uO wF]at I;have:p=z1Y:=by
   rcases qJ (D - (s.done++ [z3r s.cur x]).length) 1 with h|h
   .have e0:D - (s.done++ [z3r s.cur x]).length=0:=wF;rw[e0]at I;simp only[uv,wK]at I;exact I.symm
   rw[uw (by simpa using h)]at I;cases I
  rw[this]at L;exact absurd rfl L
theorem y8T:z6I z4T:=fun D p I A _=>by
 have:p=z1Y:=by
  cases D with
  | zero=>simpa using I.symm
  | succ D=>simp at I
 rw[this]at A;exact absurd rfl A
def z2A(s:z0T):List z1m:=s.parts.flatMap fun x=>z1Q x.1.st
theorem z5u(a b:List z1m):z1b (a++b)=z1b a++z1b b:=by unfold z1b;rw[uk]
theorem y0O{α β:Type}(f:α->List β)(l:List α)(k:Nat)(a:α)(h:l[k]? =some a):(l.take (k+1)).flatMap f=(l.take k).flatMap f++f a:=by
 rw[uG,h,uk,og,ij]
theorem z0T.parts_small{s:z0T}(h:s.Ok):∀x∈s.parts,x.1.Ok:=fun x A=>by
 unfold z0T.parts at A;rw[uB,uC,uD]at A;rcases A with⟨y,I,rfl⟩|rfl
 .exact(h.done y I).1
 exact h.cur
theorem y8k{s:z0T}(h:s.Ok):∀k,((s.parts.take k).flatMap fun x=>z1Q x.1.st).length<=k*24:=by
 intro k;have key:∀(l:List (z0R×Bool)),(∀x∈l,x.1.Ok)->(l.flatMap fun x=>z1Q x.1.st).length<=l.length*24:=by
  intro l
  induction l with
  | nil=>intro _;exact wJ _
  | cons x r ih=>
   intro I;rw[uH,wP,wW];have J:=ih fun y N=>I y (uJ _ N);have A:=(I x uK).len;have O:(z1Q x.1.st).length=x.1.st.length:=by unfold z1Q;rw[we]
   omega
 have J:=key (s.parts.take k) fun x L=>z0T.parts_small h x (mx L);have A:(s.parts.take k).length<=k:=by rw[uR];omega
 have:(s.parts.take k).length*24<=k*24:=pF _ A;omega
theorem z7E(l:List z1m):∀u∈z1b l,u.oneCell'=true:=fun u A=>by
 unfold z1b at A;obtain⟨s, -,h⟩:=gz.1 A;simp only[wy,ou,kg]at h;rcases h with rfl|rfl<;>rfl
def y6q(s:z0T)(w:World)(e:Ending)(w':World):Prop:=
 ∃a n c,e= .returned (.slice a n c)/\w'.ownsRow w.heap.size 79 2 (.slice a n c) n (z1b (z2A s))/\n=(z2A s).length/\Below w.heap.size w w'
theorem y2g(bb mb B:Nat)(E:List (Int×z0I))(b:z0h)(S:Nat->Prop)(id:Nat)(bB:id<4294967296)(a6:(j9 b id).done.length<=1000000000)(w:World)(h:z0w w bb mb E b B S)(hT:z1H w):
  Calls prog 18 #[.pointer (some ⟨bb,0,none⟩),.int .u32 id] w (y6q (j9 b id) w):=by
 obtain⟨iS,bA,aV,aX,aY⟩:=oq y1N;have aZ:=z7 (z9G bb mb B E b S id bB w h);have aJ:=z7 a6;have HT:=z7 hT;clear h a6 hT;go_enter func18,ntmps18;go_wp2_with fail;refine aZ.o.mono ?_;rintro e w1 ⟨X,rfl,hX,aC,hb, -⟩;have HX:=z7 hX;have b7:=z7 aC;have HB:=z7 hb;have b9:X.done.length<=1000000000:=by have:=aJ.o;rw[<-aC,X.done_len]at this;exact this
 have aT:=hX.ok;have aH:=X.parts_len;obtain⟨s0,s1,s2,sf⟩:=hX.cells;have ls:=hX.lts X.sb (.inl rfl);obtain⟨n,hn⟩:=zN X.done.length;rw[<-hn]at s0 b9 aH;have b3:=z7 aT;have aL:=z7 aH;have A:=z7 hb;clear hX aC hb hn aT aH;go_wp2_with fail;go_loopw[5,18] (fun ov kv wr=>∃(k m:Nat) (a:Option Addr) (c:Nat),ov= .slice a m c/\kv= .int .i64 k/\k<=n+1/\Hid (wr.ownsRow w1.heap.size 79 2 (.slice a m c) m (z1b ((X.ser.parts.take k).flatMap fun x=>z1Q x.1.st)))/\Hid (m=((X.ser.parts.take k).flatMap fun x=>z1Q x.1.st).length)/\Hid (Below w1.heap.size w1 wr)) (fun _ kv _=>match kv with | .int _ y=>n+1 - y.toNat|_=>0)
 case atStart=>exact⟨0,0,none,0,rfl,rfl,uA _,z7 (uN _ _ _ _),z7 rfl,z7 wD⟩
 case round=>
  obtain⟨k,m,a,c,rfl,rfl,hk,a7,hm,I⟩:=hrel;by_cases bH:k<n+1
  .have d1:decide ((k:Int)<(n:Int)+1)=true:=hQ;obtain⟨⟨x,cl⟩,a4⟩:∃y,X.parts[k]? =some y:=⟨_,wL (by have:=aL.o;omega)⟩;have a2:=HX.o.low I.o;have lg:=a2.lts X.g (.inr (.inl rfl));have aR:=(a2.partOk a4).1;have hc:=z7 (a2.partAt a4 rfl);have bG:(0:Int)<=k/\(k:Int)<(n:Int)+1:=wF;have b6:=z7 a4;have L:=z7 aR;have aO:=A.o.trans (I.o.mono A.o.size);have b4:=z7 (HT.o.low aO);clear a2 aR a4 aO;obtain⟨bl,aG⟩:=zN x.b.length;obtain⟨N,hN⟩:=zN x.p.l.length;obtain⟨W2,aB,a1⟩:=((Loc.start wr).new (.cells (x.vals cl).toArray 108)).named;have a0:=z7 a1;have J:=z7 (q3P x.a bl x.c x.p.l x.b W2 (by rw[aG];exact(L.o.rd.now).low a1.low) (by have:=L.o.ok.bits;omega) (b4.o.low a1.low));rw[<-hN]at J;have aD:=z7 aG;have HN:=z7 hN;have a9:Hid (W2.ownsRow w1.heap.size 79 2 (.slice a m c) m (z1b ((X.ser.parts.take k).flatMap fun x=>z1Q x.1.st))):=z7 (by rw[aB];exact a7.o.alloc _);have b5:=z7 aB;clear a1 aG hN aB;go_upto_region 5 with(first|refine z0u rfl 108 _ rfl X.g (k*11) rfl _ hc.o z3w z1a ?_|(refine z0e rfl 108 _ _ rfl wr.heap.size 0 rfl (x.vals cl).toArray rfl (by exact z0B (j8 wr _) rfl) (by exact z0y (j8 wr _)) z1a (x.one cl) ?_;rw[z3m _ _ _ _ (by rfl)]))
   refine z0s b5.o ?_;have c0:=z1o (a0.o.get 0 rfl) 0 (.slice x.a bl x.c) (by rw[aD.o];rfl);have c1:=z1o (a0.o.get 0 rfl) 1 (.int .i64 N) (by rw[HN.o];rfl);simp only[uZ]at c0 c1;have l2:=a0.o.lt 0 rfl;clear hc;go_wp2_with fail;refine J.o.mono ?_;rintro e w3 ⟨⟨st,av,cv,aU,rfl,Y⟩|⟨bC,rfl⟩,aE⟩
   .obtain rfl:st=x.p.st:=by
     have:=L.o.ok.rd;rw[aU]at this;exact um this
    have R:=z7 Y;have b0:=z7 (a0.o.call aE);have a8:=z7 (ownsRow_below a9.o aE wE);obtain⟨pn,a3⟩:=zN x.p.st.length;rw[<-a3]at R ⊢;have b2:=z7 a3;have bE:pn<=24:=(by rw[a3];exact L.o.ok.len);clear aU Y aE a3 c0 c1 l2 J;go_upto_region 6 with fail
    obtain⟨w4,aI,aA⟩:=(b0.o.new (.cells #[.int .i64 ((z0o z0i x.p.st).n:Nat),.int .i64 (z0o z0i x.p.st).last,.int .i64 (z0o z0i x.p.st).delta,.bool (z0o z0i x.p.st).val.has,.int .u64 ((z0o z0i x.p.st).val.prev:Nat),.int .u8 ((z0o z0i x.p.st).val.lead:Nat),.int .u8 ((z0o z0i x.p.st).val.width:Nat)] 106)).named;refine z0s aI ?_;have aF:Below w3.heap.size w3 w4:=(by rw[aI];exact q5 _ _);have O:=z7 (ownsRow_below a8.o aF wE);have aM:=z7 (z0d (ownsRow_below R.o aF wE));have b1:=z7 aA;have bI:m<=24*1000000001:=by
     have h1:=y8k b3.o k;have h2:=hm.o;have h3:k<=1000000001:=wF;have:k*24<=1000000001*24:=pF _ h3;omega
    have U:Hid (w1.heap.size<=w4.heap.size):=z7 (by have:=I.o.size;have:=aA.low.size;omega);have bJ:IntKind.i64.wrap ((k:Int)+1)=((k+1:Nat):Int):=z0l wF wF;clear aI aF aA;go_wp2_with (at_builtin;refine z2r rfl _ _ 41 rfl w1.heap.size 79 iS _ 2 16 underlying41 bA aV aX aY rfl wG (.slice a m c) m _ rfl O.o _ pn _ rfl aM.o (z7E _) (by unfold maxLen;omega) wF U.o ?_;intro v5 w5 h5 aN bF b8;obtain⟨a5,c5,rfl⟩:=z1X h5;(have H5:=z7 h5;have aW:=z7 aN;clear h5 aN bF b8));have aS:Hid (X.ser.parts[k]? =some (x.p,cl)):=z7 (by rw[X.parts_ser,uF,b6.o];rfl);refine⟨⟨k+1,m+pn,a5,c5,rfl,rfl,wF,?_,?_,?_⟩,by show n+1 - ((k+1:Nat):Int).toNat<n+1 - (k:Int).toNat;omega⟩
    .rw[y0O _ _ _ _ aS.o,z5u];exact z7 H5.o
    .rw[y0O _ _ _ _ aS.o,wP];refine z7 ?_;rw[<-hm.o,b2.o];show _=m+(z1Q x.p.st).length;unfold z1Q;rw[we]
    exact z7 ((I.o.trans (b1.o.low.mono I.o.size)).grown aW.o U.o (fun j hj=>(O.o.lt j hj).1))
   exact absurd bC (by rw[L.o.ok.rd];simp)
  have d1:decide ((k:Int)<(n:Int)+1)=false:=wC;obtain rfl:k=n+1:=wF
  go_wp2;go_ret;have J:X.ser.parts.take (n+1)=X.ser.parts:=wt (by rw[X.parts_ser,we];have:=aL.o;omega);have h1:=a7.o;have h2:=hm.o;rw[J]at h1 h2;rw[<-b7.o];exact⟨a,m,c,rfl,z0f h1 A.o.size,h2,A.o.trans (I.o.mono A.o.size)⟩
structure FrL where
 kind:Nat
 epoch:Nat
 series:Nat
 p:Nat×Nat×Nat
 count:Nat
 closed:Bool
 sum:Nat
 bits:List Bool
def FrL.fr(r:FrL)(b:List UInt8):Fr:=⟨r.kind,r.epoch,r.series,r.p.1,r.p.2.1,r.p.2.2,r.count,r.closed,r.sum,b,(r.bits.length:Nat)⟩
def z9M.frl(r:z9M):FrL:=⟨0,0,r.series,r.p,r.count,r.closed,r.sum,r.bits⟩
theorem z9M.frl_fr(r:z9M)(b:List UInt8):r.frl.fr b=r.fr b:=rfl
structure FrC where
 r:FrL
 a:Option Addr
 c:Nat
 b:List UInt8
def FrC.v(x:FrC):Value:=frV (x.r.fr x.b) (.slice x.a x.b.length x.c)
def FrC.cells(x:FrC):List Value:=(z0b (x.r.fr x.b) (.slice x.a x.b.length x.c)).toList
theorem FrC.cells_len(x:FrC):x.cells.length=11:=rfl
theorem FrC.one(x:FrC):∀u∈x.cells,u.oneCell'=true:=fun u A=>by
 unfold FrC.cells z0b at A;simp only[wy,ou,kg]at A;rcases A with rfl|rfl|rfl|rfl|rfl|rfl|rfl|rfl|rfl|rfl|rfl<;>rfl
structure FrC.Ok (w:World) (B:Nat) (x:FrC):Prop where
 row:w.ownsRow B 5 1 (.slice x.a x.b.length x.c) x.b.length (z0c x.b)
 bits:z0S x.b x.r.bits
structure z2H (w:World) (B:Nat) (a:Option Addr) (n c:Nat) (xs:List FrC):Prop where
 row:w.ownsRow B 51 11 (.slice a n c) n (xs.flatMap FrC.cells)
 len:n=xs.length
 each:∀x∈xs,x.Ok w B
theorem FrC.Ok.below{w w':World}{B C:Nat}{x:FrC}(h:x.Ok w B)(hb:Below C w w')(A:w.heap.size<=C):x.Ok w' B:=⟨ownsRow_below h.row hb A,h.bits⟩
theorem z2H.low{w w':World}{B:Nat}{a:Option Addr}{n c:Nat}{A:List FrC}(h:z2H w B a n c A)(hb:Below w.heap.size w w'):z2H w' B a n c A:=
 ⟨ownsRow_below h.row hb wE,h.len,fun x I=>(h.each x I).below hb wE⟩
theorem z2H.base{w:World}{B A:Nat}{a:Option Addr}{n c:Nat}{L:List FrC}(h:z2H w B a n c L)(I:A<=B):z2H w A a n c L:=
 ⟨z0f h.row I,h.len,fun x J=>⟨z0f (h.each x J).row I,(h.each x J).bits⟩⟩
theorem z2H.nil(w:World)(B:Nat):z2H w B none 0 0 []:=⟨uN _ _ _ _,rfl,fun x A=>by cases A⟩
theorem z5n{w:World}{B Y e R s s' n n' k:Nat}{v U:Value}{xs L:List Value}(h:w.ownsRow B e s v n xs)(h':w.ownsRow Y R s' U n' L)(he:e≠R)(J:v.ownBlock=some k):U.ownBlock≠some k:=by
 intro I;rcases h.2 with⟨rfl, -⟩|⟨g,a0,a1,rfl, -,hg, -⟩
 .cases J
 rcases h'.2 with⟨rfl, -⟩|⟨g',N,O,rfl, -,A, -⟩
 .cases I
 simp only[Value.ownBlock,wK]at J I;subst J;subst I;rw[hg]at A;simp only[wK,rA]at A;exact he A.2.1
theorem z2H.snoc{w w':World}{B:Nat}{a a':Option Addr}{n c c':Nat}{L:List FrC}{x:FrC}(h:z2H w B a n c L)(O:x.Ok w B)(N:w.grownBy w' (Value.slice a n c).ownBlock)(J:w'.ownsRow B 51 11 (.slice a' (n+1) c') (n+1) (L.flatMap FrC.cells++x.cells)):z2H w' B a' (n+1) c' (L++ [x]):=by
 have I:∀y:FrC,y.Ok w B->y.Ok w' B:=fun y A=>⟨j7 A.row fun k I=>N.block k (A.row.lt k I).2 fun e=>z5n A.row h.row wG I e.symm,A.bits⟩;refine⟨by rw[uk,ij];exact J,by rw[wP,pP,h.len],fun y A=>?_⟩;rcases uB.1 A with A|A
 .exact I y (h.each y A)
 rw[uD]at A;subst A;exact I _ O
def z4p(id k:Nat)(x:z0R×Bool):FrL:=⟨0,0,id,(k,0,0),x.1.st.length,x.2,0,x.1.l⟩
def z0z(id:Nat):Nat->List (z0R×Bool)->List FrL
 | _, []=> []
 | k,x::l=>if 0<x.1.st.length then z4p id k x::z0z id (k+1) l else z0z id (k+1) l
def z1k(id:Nat)(s:z0T):List FrL:=z0z id 0 s.parts
theorem z4K(id:Nat):∀(l m:List (z0R×Bool)) (k:Nat),z0z id k (l++m)=z0z id k l++z0z id (k+l.length) m
 | [],m,k=>by simp[z0z]
 | x::l,m,k=>by
  have A:=z4K id l m (k+1);rw[show k+1+l.length=k+(x::l).length by rw[wW];omega]at A;by_cases h:0<x.1.st.length
  .rw[uY,z0z,wZ h,A,z0z,wZ h,uY]
  rw[uY,z0z,wR h,A,z0z,wR h]
theorem y0U(id:Nat)(l:List (z0R×Bool))(k:Nat)(x:z0R×Bool)(h:l[k]? =some x):z0z id 0 (l.take (k+1))=z0z id 0 (l.take k)++if 0<x.1.st.length then [z4p id k x]else []:=by
 have A:k<l.length:=(wY.1 h).1;rw[uG,h,og,z4K,uR,uZ,ku wF];unfold z0z;split<;>simp[z0z]
theorem y3F(E:List Nat)(J:Nat)(A:Int)(h:∀n,n<E.length->((E.getD n 0:Nat):Int) - J<=A):∀(f n:Nat),n<=E.length->E.length - n<=f->z6u E J A f n=E.length
 | 0,n,h1,h2=>by unfold z6u;omega
 | f+1,n,h1,h2=>by
  unfold z6u;split
  .rename_i I;exact y3F E J A h f (n+1) I.1 wF
  rename_i I;by_cases L:n<E.length
  .exact absurd ⟨L,h n L⟩ I
  omega
theorem q2j(p:z0R):toP p 0=0:=rfl
theorem y3B{s:z0T}(U:s.Ok)(id k:Nat)(x:z0R)(cl:Bool)(I:s.parts[k]? =some (x,cl))(N:0<x.st.length):(z4B s id (k,0,0) (x.l.length:Nat)).frl=z4p id k (x,cl)/\(z4B s id (k,0,0) (x.l.length:Nat)).err=0:=by
 have L:=z0T.parts_small U _ (wX I);simp only at L;have R:z4M s (k,0,0)=some (x,cl):=by
  unfold z4M;simp only[I];rw[wR];rintro(h|⟨-,h⟩|h)
  .omega
  .omega
  exact h (q2j x)
 have J:((k,0,0):Nat×Nat×Nat)≠z1P s:=fun e=>by
  unfold z1P at e;simp only[wk]at e;have A:s.parts[k]? =some (s.cur,false):=by
   unfold z0T.parts;rw[e.1,uO wH];simp
  rw[I]at A;simp only[wK,wk]at A;rw[A.1]at N;omega
 have O:y1l x 0 0 (x.l.length:Nat)=x.st.length:=by
  unfold y1l;have:=y3F (z1C x.st) 0 (x.l.length:Nat) (fun n Y=>by
   rw[<-y6y];have:=y0j L (n+1);omega) (x.st.length - (0+1)) (0+1) (by rw[z4l];omega) (by rw[z4l];omega)
  rw[this,z4l]
 unfold z4B;rw[R];simp only;rw[wR J];unfold z9M.frl z4p;simp only[O,rO,ow,y1y L,kQ,qt,ui,iK];exact⟨rfl,trivial⟩
def y8f(id:Nat)(s:z0T)(w:World)(e:Ending)(w':World):Prop:=
 ∃a n c xs,e= .returned (.slice a n c)/\z2H w' w.heap.size a n c xs/\xs.map FrC.r=z1k id s/\Below w.heap.size w w'
theorem z8z(id:Nat):∀(l:List (z0R×Bool)) (k:Nat),(z0z id k l).length<=l.length
 | [],k=>wJ _
 | x::l,k=>by
  unfold z0z;have:=z8z id l (k+1);split
  .simp only[wW];omega
  simp only[wW];omega
theorem y9d:(prog.info? 51).map (fun i=>(i.zero,i.size,i.bytes))=some (some (.agg z1W),11,72):=by kernel_rfl
theorem y4D(bb mb B:Nat)(E:List (Int×z0I))(b:z0h)(S:Nat->Prop)(id:Nat)(bG:id<4294967296)(aJ:(j9 b id).done.length<=1000000000)(w:World)(h:z0w w bb mb E b B S):
  Calls prog 13 #[.pointer (some ⟨bb,0,none⟩),.int .u32 id] w (y8f id (j9 b id) w):=by
 obtain⟨iF,bW,bJ,bL,bM⟩:=oq y9d;have bN:=z7 (z9G bb mb B E b S id bG w h);have H:=z7 h;have aH:=z7 aJ;clear h aJ;go_enter func13,ntmps13;go_wp2_with fail;refine bN.o.mono ?_;rintro e w1 ⟨X,rfl,hX,aX,hb, -⟩;have HX:=z7 hX;have b8:=z7 aX;have bD:X.done.length<=1000000000:=by have:=aH.o;rw[<-aX,X.done_len]at this;exact this
 have bH:=hX.ok;have b0:=X.parts_len;obtain⟨s0,s1,s2,sf⟩:=hX.cells;have ls:=hX.lts X.sb (.inl rfl);obtain⟨n,hn⟩:=zN X.done.length;rw[<-hn]at s0 bD b0;have bV:=z7 bH;have b5:=z7 b0;have J:=z7 hb;clear hX aX hb hn bH b0;go_wp2_with fail;go_loopw[5,18] (fun ov kv wr=>∃(k m:Nat) (a:Option Addr) (c:Nat),ov= .slice a m c/\kv= .int .i64 (k:Nat)/\k<=n+1/\Hid (∃I,z2H wr w1.heap.size a m c I/\I.map FrC.r=z0z id 0 (X.ser.parts.take k))/\Hid (Below w1.heap.size w1 wr)) (fun _ kv _=>match kv with | .int _ y=>n+1 - y.toNat|_=>0)
 case atStart=>exact⟨0,0,none,0,rfl,rfl,uA _,z7 ⟨[],z2H.nil _ _,rfl⟩,z7 wD⟩
 case round=>
  obtain⟨k,m,a,c,rfl,rfl,hk,aL,A⟩:=hrel;have cJ:IntKind.i64.wrap ((k:Int)+1)=((k+1:Nat):Int):=z0l wF wF;by_cases cH:k<n+1
  .have d1:decide ((k:Int)<(n:Int)+1)=true:=hQ;obtain⟨⟨x,cl⟩,aA⟩:∃y,X.parts[k]? =some y:=⟨_,wL (by have:=b5.o;omega)⟩;have aC:=HX.o.low A.o;have lg:=aC.lts X.g (.inr (.inl rfl));have aG:=(aC.partOk aA).1;have hc:=z7 (aC.partAt aA rfl);have cG:(0:Int)<=k/\(k:Int)<(n:Int)+1:=wF;have cE:=z7 aA;have cC:=z7 aG;have b2:Hid (X.ser.parts[k]? =some (x.p,cl)):=z7 (by rw[X.parts_ser,uF,aA];rfl);have aZ:=J.o.trans (A.o.mono J.o.size);obtain⟨W2,bA,aB⟩:=((Loc.start wr).new (.cells (x.vals cl).toArray 108)).named;have a2:=z7 aB;obtain⟨N,hN⟩:=zN x.p.l.length;obtain⟨L,b1⟩:=zN x.p.st.length;have cF:N<=3504:=(by rw[hN];exact aG.ok.bits);have c6:L<=24:=(by rw[b1];exact aG.ok.len);have bR:=z7 (q4w bb mb B E b S id bG k 0 0 wF wF wF (N:Int) wF aH.o W2 (H.o.low (aZ.trans (aB.low.mono aZ.size))));have a8:∃I,z2H W2 w1.heap.size a m c I/\I.map FrC.r=z0z id 0 (X.ser.parts.take k):=(by obtain⟨I,h1,h2⟩:=aL.o;exact⟨I,h1.low aB.low,h2⟩);have a4:=z7 a8;have HN:=z7 hN;have a3:=z7 b1;have bX:=z7 bA;clear aC aG aA aZ aB hN b1 bA a8;go_upto_region 5 with(first|refine z0u rfl 108 _ rfl X.g (k*11) rfl _ hc.o z3w z1a ?_|(refine z0e rfl 108 _ _ rfl wr.heap.size 0 rfl (x.vals cl).toArray rfl (by exact z0B (j8 wr _) rfl) (by exact z0y (j8 wr _)) z1a (x.one cl) ?_;rw[z3m _ _ _ _ (by rfl)]))
   refine z0s bX.o ?_;have c1:=z1o (a2.o.get 0 rfl) 1 (.int .i64 N) (by rw[HN.o];rfl);have c2:=z1o (a2.o.get 0 rfl) 2 (.slice x.ea L x.ec) (by rw[a3.o];rfl);simp only[uZ]at c1 c2;have l2:=a2.o.lt 0 rfl;clear hc;by_cases aW:0<L
   .have d2:decide ((0:Int)<(L:Int))=true:=hQ;go_wp2_with fail;refine bR.o.mono ?_;rintro e O ⟨U,Y,bc,rfl,a9,a0,aE⟩;obtain⟨a6,aF⟩:=y3B bV.o id k x.p cl b2.o (by rw[<-a3.o];exact aW);rw[b8.o,<-HN.o]at a6 aF;obtain⟨R,hR⟩:=zN (z4B (j9 b id) id (k,0,0) (N:Int));rw[<-hR]at a6 aF a0 ⊢;obtain⟨⟨D,EB,EC⟩,hD⟩:∃d,d=R.dest:=⟨_,rfl⟩;rw[<-hD,aF];have HR:=z7 a6;have aS:=z7 a9;have aM:=z7 a0;have bS:=z7 (a2.o.call aE);have aR:Hid (∃I,z2H O w1.heap.size a m c I/\I.map FrC.r=z0z id 0 (X.ser.parts.take k)):=z7 (by obtain⟨I,h1,h2⟩:=a4.o;exact⟨I,h1.low aE,h2⟩);have aN:=z7 ((bS.o.new (.cells z1W 51)).new' (.cells #[.int .u32 0,.int .u32 0,.int .u32 0] 45) (n:=O.heap.size+1) wH);obtain⟨bl,aY⟩:=zN bc.length;have bE:frV (R.fr bc) (.slice U bc.length Y)= .agg #[.int .u8 0,.int .u32 0,.int .u32 id,.int .u32 (k:Nat),.int .u32 0,.int .u32 0,.int .u32 L,.bool cl,.int .u64 0,.slice U bl Y,.int .i64 N]:=by
     rw[<-z9M.frl_fr,a6];unfold z4p FrL.fr frV z0b;simp only;rw[<-a3.o,<-HN.o,aY];rfl
    rw[bE];have bO:=z7 aY;have c7:=z7 (z0B (aN.o.get 1 rfl) (n:=11) rfl);have cA:=z7 (z0y (aN.o.get 1 rfl));obtain⟨KT,bY⟩:=zN (([(wr.heap.size,.cells (x.vals cl).toArray 108 (0,0))]:List (Nat×Obj)));obtain⟨W6,bB,b9⟩:=((z0U.of (S:=fun _=>False) aN.o).lay (K':= [(O.heap.size+1,.cells #[.int .u32 0,.int .u32 0,.int .u32 0] 45 (0,0)),(O.heap.size,.cells #[.int .u8 0,.int .u32 0,.int .u32 id,.int .u32 (k:Nat),.int .u32 0,.int .u32 0,.int .u32 L,.bool cl,.int .u64 0,.slice U bl Y,.int .i64 N] 51 (0,0)),(wr.heap.size,.cells (x.vals cl).toArray 108 (0,0))]) 1 0 [.int .u8 0,.int .u32 0,.int .u32 id,.int .u32 (k:Nat),.int .u32 0,.int .u32 0,.int .u32 L,.bool cl,.int .u64 0,.slice U bl Y,.int .i64 N] rfl rfl rfl rfl).named;have b7:=z7 bB;have aO:=z7 b9;obtain⟨q0,q1,q2,qf⟩:=cells3 (aO.o.get 0 rfl);have lq:=aO.o.lt 0 rfl;have cB:=z7 aE;clear a9 a0 aE b9 bB bE hR hD a6 aF c1 c2 l2 aY bY;go_upto_region 7 with(refine z0e rfl 51 _ _ rfl O.heap.size 0 rfl #[.int .u8 0,.int .u32 0,.int .u32 id,.int .u32 (k:Nat),.int .u32 0,.int .u32 0,.int .u32 L,.bool cl,.int .u64 0,.slice U bl Y,.int .i64 N] rfl c7.o cA.o z0D (by simp[Value.oneCell']) ?_;refine z5J b7.o ?_)
    obtain⟨W7,aU,aT⟩:=(aO.o.lay (K':= [(O.heap.size+1,.cells #[.int .u32 D,.int .u32 EB,.int .u32 EC] 45 (0,0)),(O.heap.size,.cells #[.int .u8 0,.int .u32 0,.int .u32 id,.int .u32 (k:Nat),.int .u32 0,.int .u32 0,.int .u32 L,.bool cl,.int .u64 0,.slice U bl Y,.int .i64 N] 51 (0,0)),(wr.heap.size,.cells (x.vals cl).toArray 108 (0,0))]) 0 0 [.int .u32 D,.int .u32 EB,.int .u32 EC] rfl rfl rfl rfl).named;refine z0s aU ?_;have a7:Below wr.heap.size wr W7:=aT.low.toBelow;have b3:Below O.heap.size O W7:=by
     have h5:Below O.heap.size O ((O.alloc (.cells z1W 51)).alloc (.cells #[.int .u32 0,.int .u32 0,.int .u32 0] 45)):=(q5 _ _).trans ((q5 _ _).mono wH);have o6:z0n (fun k=>O.heap.size<=k) ((O.alloc (.cells z1W 51)).alloc (.cells #[.int .u32 0,.int .u32 0,.int .u32 0] 45)) W6:=by
      rw[b7.o];exact z0n.setCells (S:=fun k=>O.heap.size<=k) wE _ _ _
     have o7:z0n (fun k=>O.heap.size<=k) W6 W7:=by
      rw[aU];exact z0n.setCells (S:=fun k=>O.heap.size<=k) (rK _) _ _ _
     exact z0n.below (((z0n.of_below h5).trans o6 fun k hk=> .inl hk).trans o7 fun k hk=> .inl hk) wE (fun k hk=>hk)
    have aD:∃I,z2H W7 w1.heap.size a m c I/\I.map FrC.r=z0z id 0 (X.ser.parts.take k):=(by obtain⟨I,h1,h2⟩:=aR.o;exact⟨I,h1.low b3,h2⟩);have bT:=z7 aT;have bU:=z7 (ownsRow_below aS.o b3 wE);have a1:Hid (Below w1.heap.size w1 W7):=z7 (A.o.trans (a7.mono A.o.size));obtain⟨I,hF,bI⟩:=aD;have HF:=z7 hF;have aI:=z7 bI;clear aU aT b3 a7 hF bI q0 q1 q2 qf lq;have aV:Hid (z2H (W7.alloc (.cells #[.int .u8 0,.int .u32 0,.int .u32 id,.int .u32 (k:Nat),.int .u32 0,.int .u32 0,.int .u32 L,.bool cl,.int .u64 0,.slice U bl Y,.int .i64 N] 51)) w1.heap.size a m c I):=z7 (HF.o.low (q5 _ _));have b6:Hid (Rd (W7.alloc (.cells #[.int .u8 0,.int .u32 0,.int .u32 id,.int .u32 (k:Nat),.int .u32 0,.int .u32 0,.int .u32 L,.bool cl,.int .u64 0,.slice U bl Y,.int .i64 N] 51)) (.slice (some ⟨W7.heap.size,0,none⟩) 1 1) 11 1 [.int .u8 0,.int .u32 0,.int .u32 id,.int .u32 (k:Nat),.int .u32 0,.int .u32 0,.int .u32 L,.bool cl,.int .u64 0,.slice U bl Y,.int .i64 N]):=z7 (z3t _ _ _ 1 11 wG rfl);have cI:m<=1000000001:=by
     have h1:=HF.o.len;have h2:(I.map FrC.r).length=I.length:=we _;rw[aI.o]at h2;have h3:=z8z id (X.ser.parts.take k) 0;have h4:(X.ser.parts.take k).length<=k:=(by rw[uR];omega);omega
    have a5:Hid (w1.heap.size<=(W7.alloc (.cells #[.int .u8 0,.int .u32 0,.int .u32 id,.int .u32 (k:Nat),.int .u32 0,.int .u32 0,.int .u32 L,.bool cl,.int .u64 0,.slice U bl Y,.int .i64 N] 51)).heap.size):=z7 (by have:=a1.o.size;simp;omega);go_wp2_with (first|refine z0u rfl 51 _ rfl O.heap.size 0 rfl #[.int .u8 0,.int .u32 0,.int .u32 id,.int .u32 (k:Nat),.int .u32 0,.int .u32 0,.int .u32 L,.bool cl,.int .u64 0,.slice U bl Y,.int .i64 N] (z1o (bT.o.get 1 rfl)) z1R z0D ?_|(at_builtin;refine z1I rfl _ _ 61 rfl w1.heap.size 51 iF _ 11 72 underlying61 bW bJ bL bM rfl wG a m c _ rfl aV.o.row _ 1 [.int .u8 0,.int .u32 0,.int .u32 id,.int .u32 (k:Nat),.int .u32 0,.int .u32 0,.int .u32 L,.bool cl,.int .u64 0,.slice U bl Y,.int .i64 N] rfl b6.o wG (by simp[Value.oneCell']) (by unfold maxLen;omega) wF a5.o ?_;intro g5 c5 w5 h5 bF bZ;(have H5:=z7 h5;have b4:=z7 bF;clear h5 bF bZ)));have c9:FrC.Ok (W7.alloc (.cells #[.int .u8 0,.int .u32 0,.int .u32 id,.int .u32 (k:Nat),.int .u32 0,.int .u32 0,.int .u32 L,.bool cl,.int .u64 0,.slice U bl Y,.int .i64 N] 51)) w1.heap.size ⟨z4p id k (x.p,cl),U,Y,bc⟩:=by
     refine⟨z0f ((bU.o).alloc _) (by have:=A.o.size;have:=a2.o.low.size;omega),?_⟩;have h9:=aM.o;rw[show R.bits=(R.frl).bits from rfl,HR.o]at h9;exact h9
    have c8:=aV.o.snoc c9 b4.o (a':=some ⟨g5,0,none⟩) (c':=c5) (by
     have h9:=H5.o;have e9:FrC.cells ⟨z4p id k (x.p,cl),U,Y,bc⟩= [.int .u8 0,.int .u32 0,.int .u32 id,.int .u32 (k:Nat),.int .u32 0,.int .u32 0,.int .u32 L,.bool cl,.int .u64 0,.slice U bl Y,.int .i64 N]:=by
      unfold FrC.cells z4p FrL.fr z0b;simp only;rw[<-a3.o,<-HN.o,bO.o];rfl
     rw[e9];exact h9)
    exact⟨⟨k+1,m+1,some ⟨g5,0,none⟩,c5,rfl,rfl,wF,z7 ⟨_,c8,by rw[uV,aI.o,y0U id _ _ _ b2.o,wZ (by rw[<-a3.o];exact aW)];rfl⟩,z7 ((a1.o.trans ((q5 _ _).mono a1.o.size)).grown b4.o a5.o (fun j hj=>(aV.o.row.lt j hj).1))⟩,by show n+1 - ((k+1:Nat):Int).toNat<n+1 - (k:Int).toNat;omega⟩
   have d2:decide ((0:Int)<(L:Int))=false:=wC;go_wp2;obtain⟨I,h1,h2⟩:=a4.o;exact⟨⟨k+1,m,a,c,rfl,rfl,wF,z7 ⟨I,h1,by rw[h2,y0U id _ _ _ b2.o,wR (by rw[<-a3.o];exact aW),ue]⟩,z7 (A.o.trans (a2.o.low.mono A.o.size))⟩,by show n+1 - ((k+1:Nat):Int).toNat<n+1 - (k:Int).toNat;omega⟩
  have d1:decide ((k:Int)<(n:Int)+1)=false:=wC;obtain rfl:k=n+1:=wF
  go_wp2;go_ret;have bC:X.ser.parts.take (n+1)=X.ser.parts:=wt (by rw[X.parts_ser,we];have:=b5.o;omega);obtain⟨I,h1,h2⟩:=aL.o;rw[bC]at h2;rw[<-b8.o];exact⟨a,m,c,I,rfl,h1.base J.o.size,h2,J.o.trans (A.o.mono J.o.size)⟩
theorem q2k(n W:Nat):beN n (W+1)=beN (n/256) W++ [UInt8.ofNat n]:=by
 unfold beN;rw[List.range_succ,uV]
 congr 1
 .refine kk fun j A=>?_;have I:j<W:=rI.1 A;rw[Nat.div_div_eq_div_mul,show W+1 - 1 - j=(W - 1 - j)+1 by omega,Nat.mul_add,ke,dP (2^_)]
 simp
theorem z6S:∀(W n:Nat),n<256^W->z4y (beN n W)=n
 | 0,n,h=>by
  have:n=0:=by simpa using h
  subst this;rfl
 | W+1,n,h=>by
  rw[q2k,z9q,z6S W (n/256) (by rw[mc]at h;exact Nat.div_lt_of_lt_mul (by rw[dP];exact h))];rw[oo];omega
theorem z9R(n W:Nat)(r:List UInt8):(beN n W++r).take W=beN n W:=by rw[pE (by rw[z2q];exact wJ _),wt (by rw[z2q];exact wJ _)]
theorem z8a(n W:Nat)(r:List UInt8):(beN n W++r).drop W=r:=by
 have:=rE (l₁:=beN n W) (l₂:=r)
 rwa [z2q]at this
theorem z7d{B q W n:Nat}{k:IntKind}{r:List UInt8}{w w':World}{e:Ending}(h:y4H B q W (beN n W++r) k w e w')(L:n<256^W):z0n (fun j=>j=q) w w'/\e= .returned (.int k (n:Nat))/\z3j B w' q r:=by
 obtain⟨N,⟨-,A,I⟩|⟨J, -⟩⟩:=h
 .rw[z9R,z6S W n L]at A;rw[z8a]at I;exact⟨N,A,I⟩
 rw[wP,z2q]at J;omega
theorem y7b{B q a b c:Nat}{r:List UInt8}{w w':World}{e:Ending}(h:y4e B q (beN a 4++(beN b 4++(beN c 4++r))) w e w')(O:a<4294967296)(hb:b<4294967296)(R:c<4294967296):z0n (fun j=>j=q) w w'/\e= .returned (z4k (a,b,c))/\z3j B w' q r:=by
 have J:(beN a 4++(beN b 4++(beN c 4++r))).drop 8=beN c 4++r:=by rw[show 8=4+4 by rfl,<-oe,z8a,z8a]
 have N:(beN a 4++(beN b 4++(beN c 4++r))).drop 4=beN b 4++(beN c 4++r):=z8a _ _ _;have A:(beN a 4++(beN b 4++(beN c 4++r))).drop 12=r:=by rw[show 12=8+4 by rfl,<-oe,J,z8a]
 obtain⟨Y,⟨-,I,L⟩|⟨U, -⟩⟩:=h
 .rw[A]at L;unfold fld at I;rw[J,N,kQ,z9R,z9R,z9R,z6S 4 a O,z6S 4 b hb,z6S 4 c R]at I;exact⟨Y,I,L⟩
 simp only[wP,z2q]at U;omega
theorem z3j.hi{B:Nat}{w:World}{q:Nat}{b:List UInt8}(h:z3j B w q b):B<=q:=by
 obtain⟨I,m,c,A⟩:=h;exact A.hi
theorem z3j.set{B:Nat}{w w':World}{q:Nat}{b:List UInt8}(h:z3j B w q b)(g:Nat)(L:B<=g)(A:g≠q)(I:∀k,k≠g->w'.heap[k]? =w.heap[k]?):z3j B w' q b:=h.keep fun k J=>I k wF
def y3J(b:Bool):Nat:=if b then 1 else 0
theorem q3b(s A I J cnt:Nat)(cl:Bool)(N:Nat)(b:List UInt8):z5a s A I J cnt cl N b=beN 4 1++(beN s 4++(beN A 4++(beN I 4++(beN J 4++(beN cnt 4++(beN (y3J cl) 1++(beN N 2++b))))))):=by
 have L:beN 4 1= [4]:=rfl;unfold z5a z8O y3J;rw[L];simp only[uH,eQ,wj,ue]
theorem q2E(B q s ck pb pc cnt N:Nat)(cl:Bool)(b:List UInt8)(hs:s<4294967296)(cI:ck<4294967296)(cL:pb<4294967296)(cM:pc<4294967296)(bW:cnt<4294967296)(hN:N<65536)(hb:b.length<=1000000)(w:World)(h:z3j B w q (z5a s ck pb pc cnt cl N b)):
  Calls prog 62 #[.pointer (some ⟨q,0,none⟩)] w fun e w'=>z0n (fun j=>j=q) w w'/\z3j B w' q []/\∃a c,e= .returned (.agg #[.int .u8 4,.int .u32 0,.int .u32 s,.int .i64 0,.int .u64 0,.int .u32 ck,.int .u32 pb,.int .u32 pc,.int .u32 cnt,.bool cl,.slice a b.length c,.int .i64 N])/\w'.ownsRow w.heap.size 5 1 (.slice a b.length c) b.length (z0c b):=by
 rw[q3b]at h;have cV:=h.lt;have hz:(zeroValue 92).run prog w= .ok (.agg z1l) w:=by kernel_rfl
 have HN:=z7 (y1B B q 1 wG _ (w.alloc (.cells z1l 92)) (h.low (q5 w _)));have bJ:=z7 ((z0U.start (fun j=>j=q) w).new (.cells z1l 92));have cU:(w.alloc (.cells z1l 92)).heap.size=w.heap.size+1:=wH
 have cX:IntKind.i64.wrap (N:Int)=N:=z0l wF wF;have aC:∃m9,m9=b.length:=⟨_,rfl⟩;obtain⟨m9,aC⟩:=aC;rw[<-aC];have a9:=z7 aC;clear h aC;go_enter func62,ntmps62;go_wp2_with fail;refine HN.o.mono ?_;intro e w2 ht;obtain⟨U,rfl,I⟩:=z7d ht wG;have b9:=bJ.o.go (S':=fun j=>j=q) U (fun k A=> .inl A) (fun p hp e=>by simp only[uD]at hp;subst hp;have e':w.heap.size=q:=e;omega);have cC:w.heap.size≠q:=wF
 have cE:=b9.new (.cells #[.int .u8 4,.int .u32 0,.int .u32 0,.int .i64 0,.int .u64 0,.int .u32 0,.int .u32 0,.int .u32 0,.int .u32 0,.bool false,.slice none 0 0,.int .i64 0] 92);obtain⟨w3,bH,bX⟩:=cE.named;have bE:=I.low (q5 w2 (.cells #[.int .u8 4,.int .u32 0,.int .u32 0,.int .i64 0,.int .u64 0,.int .u32 0,.int .u32 0,.int .u32 0,.int .u32 0,.bool false,.slice none 0 0,.int .i64 0] 92));rw[<-bH]at bE;have b7:=z7 bX;have bR:=z7 bE;have J:w2.heap.size≠q:=by have:=U.size;omega
 have cN:q<w2.heap.size:=by have:=U.size;omega
 have cA:w2.heap.size≠w.heap.size:=by have:=b9.lt 0 rfl;omega
 clear ht U I b9 cE bX bE HN bJ;go_upto_region 12 with fail
 refine z0s bH ?_;obtain⟨g3,cB⟩:=zN w2.heap.size;rw[<-cB]at b7 J cA cN ⊢;clear bH cB;have L:Hid (∀K:List (Nat×Obj),K.map Prod.fst= [g3,w.heap.size]->∀p∈K,¬p.1=q):=z7 fun K hK p hp e=>by
  have h1:p.1∈K.map Prod.fst:=uC.2 ⟨p,hp,rfl⟩;rw[hK]at h1;simp only[wy,ou,kg]at h1;rcases h1 with h1|h1
  .exact J (h1.symm.trans e)
  exact cC (h1.symm.trans e)
 go_wp2_with fail;refine(z8e B q _ w3 bR.o).mono ?_;intro e w4 ht;obtain⟨U,rfl,I⟩:=z7d ht hs;have bL:=z7 (b7.o.go (S':=fun j=>j=q) U (fun k A=> .inl A) (L.o _ rfl));have bS:=z7 I;clear ht U I b7 bR;go_wp2_with fail;refine(q3L B q _ w4 bS.o).mono ?_;intro e w5 ht;obtain⟨U,rfl,I⟩:=y7b ht cI cL cM;have aL:=z7 (bL.o.go (S':=fun j=>j=q) U (fun k A=> .inl A) (L.o _ rfl));have b8:=z7 I;clear ht U I bL bS;obtain⟨c0,c1,c2,c3,c4,c5,c6,c7,c8,c9,O,R,cf⟩:=z5K (aL.o.get 0 rfl);have l3:=aL.o.lt 0 rfl;have bA:=aL.o.lay (K':= [(g3,.cells #[.int .u8 4,.int .u32 0,.int .u32 s,.int .i64 0,.int .u64 0,.int .u32 0,.int .u32 0,.int .u32 0,.int .u32 0,.bool false,.slice none 0 0,.int .i64 0] 92 (0,0)),(w.heap.size,.cells z1l 92 (0,0))]) 0 2 [.int .u32 s] rfl rfl rfl rfl;have bF:=z7 (bA.get 0 rfl);have aN:=bA.lay (K':= [(g3,.cells #[.int .u8 4,.int .u32 0,.int .u32 s,.int .i64 0,.int .u64 0,.int .u32 ck,.int .u32 pb,.int .u32 pc,.int .u32 0,.bool false,.slice none 0 0,.int .i64 0] 92 (0,0)),(w.heap.size,.cells z1l 92 (0,0))]) 0 5 [.int .u32 ck,.int .u32 pb,.int .u32 pc] rfl rfl rfl rfl;obtain⟨w7,aO,aN⟩:=aN.named;have cO:w7.heap[q]? =w5.heap[q]? :=by rw[aO];exact(z0p wF _ _ _).trans (z0p wF _ _ _)
 have cF:z3j B w7 q _:=b8.o.set g3 (by have:=b8.o.hi;omega) J (fun k A=>by rw[aO];exact(z0p A _ _ _).trans (z0p A _ _ _));have bM:=z7 aN;have bT:=z7 cF;clear bA aN cO cF;go_upto_region 13 with(refine z0e rfl 45 _ _ rfl g3 5 rfl #[.int .u32 ck,.int .u32 pb,.int .u32 pc] rfl (fun j hj=>by have h9:=z0B bF.o (n:=12) rfl (5+j) (by have:j<3:=hj;omega);rw[uZ]at h9;exact h9) (z0y bF.o) z2U rfl ?_)
 refine z0s aO ?_;clear c0 c1 c2 c3 c4 c5 c6 c7 c8 c9 O R cf l3 aL b8 bF aO;go_wp2_with fail;refine(z8e B q _ w7 bT.o).mono ?_;intro e w8 ht;obtain⟨U,rfl,I⟩:=z7d ht bW;have aM:=z7 (bM.o.go (S':=fun j=>j=q) U (fun k A=> .inl A) (L.o _ rfl));obtain⟨c0,c1,c2,c3,c4,c5,c6,c7,c8,c9,O,R,cf⟩:=z5K (aM.o.get 0 rfl);have l3:=aM.o.lt 0 rfl;obtain⟨w9,bI,bY⟩:=(aM.o.lay (K':= [(g3,.cells #[.int .u8 4,.int .u32 0,.int .u32 s,.int .i64 0,.int .u64 0,.int .u32 ck,.int .u32 pb,.int .u32 pc,.int .u32 cnt,.bool false,.slice none 0 0,.int .i64 0] 92 (0,0)),(w.heap.size,.cells z1l 92 (0,0))]) 0 8 [.int .u32 cnt] rfl rfl rfl rfl).named;have bU:=z7 (I.set (w':=w9) g3 (by have:=I.hi;omega) J (fun k A=>by rw[bI];exact z0p A _ _ _));have bN:=z7 bY;clear ht U I bM bT bY;go_upto_region 14 with fail
 refine z0s bI ?_;clear c0 c1 c2 c3 c4 c5 c6 c7 c8 c9 O R cf l3 aM bI;go_wp2_with fail;refine(y1B B q 1 wG _ w9 bU.o).mono ?_;intro e cR ht;obtain⟨U,rfl,I⟩:=z7d ht (by unfold y3J;split<;>decide);have aS:=z7 (bN.o.go (S':=fun j=>j=q) U (fun k A=> .inl A) (L.o _ rfl));have aV:=z7 I;clear ht U I bN bU;go_wp2_with fail;refine(q5M (y3J cl) cR).mono ?_;rintro e cY ⟨aA,⟨-,rfl⟩|⟨h1, -⟩⟩
 case inr=>exfalso;unfold y3J at h1;split at h1<;>omega
 have bD:(y3J cl==1)=cl:=by cases cl<;>rfl
 rw[bD];have a1:=z7 (aS.o.call aA);have I:=aV.o.low aA;obtain⟨c0,c1,c2,c3,c4,c5,c6,c7,c8,c9,O,R,cf⟩:=z5K (a1.o.get 0 rfl);have l3:=a1.o.lt 0 rfl;obtain⟨cG,aF,b0⟩:=(a1.o.lay (K':= [(g3,.cells #[.int .u8 4,.int .u32 0,.int .u32 s,.int .i64 0,.int .u64 0,.int .u32 ck,.int .u32 pb,.int .u32 pc,.int .u32 cnt,.bool cl,.slice none 0 0,.int .i64 0] 92 (0,0)),(w.heap.size,.cells z1l 92 (0,0))]) 0 9 [.bool cl] rfl rfl rfl rfl).named;have aX:=z7 (I.set (w':=cG) g3 (by have:=I.hi;omega) J (fun k A=>by rw[aF];exact z0p A _ _ _));have aT:=z7 b0;clear aA I aS aV b0 bD;go_upto_region 15 with fail
 refine z0s aF ?_;clear c0 c1 c2 c3 c4 c5 c6 c7 c8 c9 O R cf l3 a1 aF;go_wp2_with fail;refine(y1B B q 2 wG _ cG aX.o).mono ?_;intro e cZ ht;obtain⟨U,rfl,I⟩:=z7d ht hN;have a2:=z7 (aT.o.go (S':=fun j=>j=q) U (fun k A=> .inl A) (L.o _ rfl));obtain⟨c0,c1,c2,c3,c4,c5,c6,c7,c8,c9,O,R,cf⟩:=z5K (a2.o.get 0 rfl);have l3:=a2.o.lt 0 rfl;obtain⟨a7,aG,b1⟩:=(a2.o.lay (K':= [(g3,.cells #[.int .u8 4,.int .u32 0,.int .u32 s,.int .i64 0,.int .u64 0,.int .u32 ck,.int .u32 pb,.int .u32 pc,.int .u32 cnt,.bool cl,.slice none 0 0,.int .i64 N] 92 (0,0)),(w.heap.size,.cells z1l 92 (0,0))]) 0 11 [.int .i64 N] rfl rfl rfl rfl).named;have aY:=z7 (I.set (w':=a7) g3 (by have:=I.hi;omega) J (fun k A=>by rw[aG];exact z0p A _ _ _));have aU:=z7 b1;clear ht U I aT aX b1;go_upto_region 16 with fail
 refine z0s aG ?_;clear c0 c1 c2 c3 c4 c5 c6 c7 c8 c9 O R cf l3 a2 aG;obtain⟨ad,m,c,hR⟩:=aY.o;have cJ:m=m9:=by rw[a9.o];exact hR.len
 subst cJ;have q0:a7.cell? ⟨q,0,none⟩=some (.slice (some ad) m c):=by have h9:=z1o hR.blk 0 _ rfl;rwa [uZ]at h9
 have qf:=z0y hR.blk;have lq:=hR.lt;have HT:=z7 (q0q q ad m c m b a7 hR.blk hR.rd hR.len hR.cap hR.few wE);have HR:=z7 hR;clear hR aY;go_wp2_with fail;refine HT.o.mono ?_;rintro e a0 ⟨bV,bB,rfl,a5,aH,aJ⟩;have b4:b.take m=b:=wt (by have:=a9.o;omega);have b3:b.drop m= []:=dK (by have:=a9.o;omega);rw[b4]at aH;rw[b3]at aJ;have bC:=HR.o.far;have kq:∀k,k≠q->a0.heap[k]? =a7.heap[k]? :=fun k A=>by rw[a5];exact q7 A
 have aI:RdB a0 (.slice (some ad) m c) b:=aH.kept fun k A _=>kq k (fun e=>by simp only[Value.ownBlock,pK,wK]at A;exact bC (A.trans e));have b5:z0n (fun j=>j=q) a7 a0:=by rw[a5];exact z0n.setCell a7 _ rfl
 have b6:z3j B a0 q []:=⟨bV,m - m,c - m,⟨by rw[a5];have h9:=z0a HR.o.blk 0 (.slice (some bV) (m - m) (c - m));simpa using h9,aJ.kept fun k A _=>kq k (fun e=>by simp only[Value.ownBlock,pK,wK]at A;exact bC (by rw[<-bB];exact A.trans e)),by rw[bB];exact HR.o.lo,HR.o.hi,wH,by have:=HR.o.cap;omega,by have:=HR.o.few;omega⟩⟩;have Y:=z7 (aU.o.go (S':=fun j=>j=q) b5 (fun k A=> .inl A) (L.o _ rfl));have aZ:=z7 b6;have aR:=z7 (y5x (some ad) m c b a0 aI a9.o (by have:=a9.o;omega));clear bB aH aJ b4 b3 bC kq aI b5 b6 a5 HT HR aU q0 qf lq;go_wp2_with fail;refine aR.o.mono ?_;rintro e cD ⟨ca,cc,rfl,aE,aB⟩;have a3:=z7 (Y.o.call aB);have I:=aZ.o.low aB;obtain⟨c0,c1,c2,c3,c4,c5,c6,c7,c8,c9,O,R,cf⟩:=z5K (a3.o.get 0 rfl);have l3:=a3.o.lt 0 rfl;obtain⟨cH,a6,b2⟩:=(a3.o.lay (K':= [(g3,.cells #[.int .u8 4,.int .u32 0,.int .u32 s,.int .i64 0,.int .u64 0,.int .u32 ck,.int .u32 pb,.int .u32 pc,.int .u32 cnt,.bool cl,.slice ca m cc,.int .i64 N] 92 (0,0)),(w.heap.size,.cells z1l 92 (0,0))]) 0 10 [.slice ca m cc] rfl rfl rfl rfl).named;have aD:=z7 (I.set (w':=cH) g3 (by have:=I.hi;omega) J (fun k A=>by rw[a6];exact z0p A _ _ _));have bG:w.heap.size<=a0.heap.size:=Y.o.low.size;have cT:=Y.o.lt 0 rfl;have cS:=Y.o.lt 1 rfl
 have a4:cH.ownsRow a0.heap.size 5 1 (.slice ca m cc) m (z0c b):=j7 aE fun k A=>by
  rw[a6];exact z0p (by have:=(aE.lt k A).1;omega) _ _ _
 have a8:=z7 b2;have aW:=z7 a4;clear aE aB I b2 a4 Y aZ aR;go_upto_region 17 with fail
 refine z0s a6 ?_;clear c0 c1 c2 c3 c4 c5 c6 c7 c8 c9 O R cf l3 a3 a6;have k3:=z7 (a8.o.get 0 rfl);have k2:=z7 (a8.o.get 1 rfl);go_wp2_with (first|(refine z0u rfl 92 _ rfl g3 0 rfl _ (z1o k3.o) z1U z0K ?_)|(refine z0e rfl 92 _ _ rfl w.heap.size 0 rfl #[.int .u8 4,.int .u32 0,.int .u32 s,.int .i64 0,.int .u64 0,.int .u32 ck,.int .u32 pb,.int .u32 pc,.int .u32 cnt,.bool cl,.slice ca m cc,.int .i64 N] rfl (z0B k2.o (n:=12) rfl) (z0y k2.o) z0K (by simp[Value.oneCell']) ?_));have bZ:=a8.o.lay (K':= [(g3,.cells #[.int .u8 4,.int .u32 0,.int .u32 s,.int .i64 0,.int .u64 0,.int .u32 ck,.int .u32 pb,.int .u32 pc,.int .u32 cnt,.bool cl,.slice ca m cc,.int .i64 N] 92 (0,0)),(w.heap.size,.cells #[.int .u8 4,.int .u32 0,.int .u32 s,.int .i64 0,.int .u64 0,.int .u32 ck,.int .u32 pb,.int .u32 pc,.int .u32 cnt,.bool cl,.slice ca m cc,.int .i64 N] 92 (0,0))]) 1 0 (#[.int .u8 4,.int .u32 0,.int .u32 s,.int .i64 0,.int .u64 0,.int .u32 ck,.int .u32 pb,.int .u32 pc,.int .u32 cnt,.bool cl,.slice ca m cc,.int .i64 N]:Array Value).toList rfl rfl rfl rfl;have bO:=z7 bZ;clear bZ;refine wU (q2R rfl rfl (bO.o.get 1 rfl) z1U z0K) rfl ?_;refine⟨bO.o.low,aD.o.set w.heap.size (by have:=aD.o.hi;omega) cC (fun k A=>z0p A _ _ _),ca,cc,rfl,?_⟩;refine z0f (j7 aW.o fun k A=>z0p (fun e=>?_) _ _ _) bG;have:=(aW.o.lt k A).1;omega

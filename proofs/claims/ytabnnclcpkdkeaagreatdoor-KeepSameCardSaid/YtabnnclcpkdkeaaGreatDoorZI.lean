/- The codes of numbers. -/
import Derived.Test.YtabnnclcpkdkeaaGreatDoorZBase
import Derived.Lib.TrailingZeros
namespace Go.Proofs.YtabnnclcpkdkeaaGreatDoor
set_option linter.all false
set_option maxRecDepth 100000
set_option maxHeartbeats 0
open Go.RowKit
def rdN(w:Nat)(l:List Bool):Option (Nat×List Bool):=if w<=l.length then some (z3R (l.take w),l.drop w)else none
theorem z5o{v w:Nat}(h:v<2^w)(r:List Bool):rdN w (z3o v w++r)=some (v,r):=by
 unfold rdN;rw[wZ (by simp[z1h]),pE (by simp[z1h]),wt (by simp[z1h]),q1G,dh h,ib (by simp[z1h]),dK (by simp[z1h])];rfl
theorem z6E{w n:Nat}{l r:List Bool}(h:rdN w l=some (n,r)):r.length+w=l.length/\n<2^w/\l=z3o n w++r:=by
 unfold rdN at h;split at h
 .rename_i L;simp only[wK,wk]at h;obtain⟨rfl,rfl⟩:=h;have J:(l.take w).length=w:=by simp;omega
  have A:=z7w (l.take w);rw[J]at A;refine⟨by simp;omega,A,?_⟩;have I:=q1H (l.take w);rw[J]at I;rw[I,pZ]
 cases h
def z4Q(v:Int):Nat:=if 0<=v then(2*v).toNat else(-2*v - 1).toNat
def z3U(n:Nat):Int:=if n%2=0 then((n/2:Nat):Int)else -((n/2:Nat):Int) - 1
theorem y6t(v:Int):z3U (z4Q v)=v:=by unfold z4Q z3U;split<;>split<;>omega
theorem y6E(n:Nat):z4Q (z3U n)=n:=by unfold z4Q z3U;split<;>split<;>omega
theorem y1O{v:Int}(A: -9223372036854775808<=v)(I:v<=9223372036854775807):z4Q v<2^64:=by unfold z4Q;split<;>omega
def z4o(k:Nat):Nat:= [0,7,9,12,32,64].getD k 64
def z0W(n:Nat):Nat:=if n<1 then 0 else if n<128 then 1 else if n<512 then 2 else if n<4096 then 3 else if n<4294967296 then 4 else 5
theorem z5R(n:Nat):z0W n<=5:=by unfold z0W;(repeat' split)<;>omega
theorem y7u{n:Nat}(h:n<2^64):n<2^z4o (z0W n):=by unfold z0W;(repeat' split)<;>simp[z4o]<;>omega
def y0s(k:Nat):List Bool:=if k<5 then List.replicate k true++ [false]else List.replicate 5 true
def y0P(v:Int):List Bool:=y0s (z0W (z4Q v))++z3o (z4Q v) (z4o (z0W (z4Q v)))
def z5b:List Bool->Option (Nat×List Bool)
 | false::r=>some (0,r)
 | true::false::r=>some (1,r)
 | true::true::false::r=>some (2,r)
 | true::true::true::false::r=>some (3,r)
 | true::true::true::true::false::r=>some (4,r)
 | true::true::true::true::true::r=>some (5,r)
 | _=>none
def z9A(l:List Bool):Option (Int×List Bool):=match z5b l with
 | none=>none
 | some (k,r)=>match rdN (z4o k) r with
  | none=>none
  | some (n,r')=>if z0W n=k then some (z3U n,r')else none
theorem y7n{k:Nat}(h:k<=5)(r:List Bool):z5b (y0s k++r)=some (k,r):=by
 match k,h with
 | 0,_=>rfl
 | 1,_=>rfl
 | 2,_=>rfl
 | 3,_=>rfl
 | 4,_=>rfl
 | 5,_=>rfl
theorem y7a{v:Int}(A: -9223372036854775808<=v)(I:v<=9223372036854775807)(r:List Bool):z9A (y0P v++r)=some (v,r):=by
 have h:=y1O A I;unfold z9A y0P;rw[wj,y7n (z5R _)];simp only;rw[z5o (y7u h)];simp only[de,y6t]
theorem q1V{k:Nat}{l r:List Bool}(h:z5b l=some (k,r)):r.length<l.length/\k<=5/\l=y0s k++r:=by
 unfold z5b at h;split at h;all_goals first
  | (simp only[wK,wk]at h;obtain⟨rfl,rfl⟩:=h;refine⟨by simp;try omega,wF,rfl⟩)
  | cases h
theorem y2y{v:Int}{l r:List Bool}(h:z9A l=some (v,r)):r.length<l.length/\l=y0P v++r/\ -9223372036854775808<=v/\v<=9223372036854775807:=by
 unfold z9A at h;split at h
 .cases h
 rename_i k r1 R;split at h
 .cases h
 rename_i n r2 U;split at h
 .rename_i O;simp only[wK,wk]at h;obtain⟨rfl,rfl⟩:=h;obtain⟨Y,I,J⟩:=q1V R;obtain⟨b1,L,N⟩:=z6E U;have A:n<2^64:=wS L (uU wG (by
   match k,I with
   | 0,_=>decide
   | 1,_=>decide
   | 2,_=>decide
   | 3,_=>decide
   | 4,_=>decide
   | 5,_=>decide))
  refine⟨wF,?_,?_⟩
  .unfold y0P;rw[y6E,O,J,N,wj]
  unfold z3U;split<;>omega
 cases h
structure z4N where
 has:Bool
 prev:Nat
 lead:Nat
 width:Nat
deriving DecidableEq
def zeroV:z4N:=⟨false,0,0,0⟩
def z1x(s:z4N):Bool:=if s.has then decide (s.lead<=31/\s.lead+s.width<=64/\(0<s.width\/s.lead=0))else decide (s=zeroV)
def bl(d:Nat):Nat:=if d=0 then 0 else d.log2+1
def lz(d:Nat):Nat:=64 - bl d
def tz(d:Nat):Nat:=Go.Lib.ctz 64 d
theorem q8l(d:Nat):d<2^bl d:=by
 unfold bl;split
 .omega
 exact Nat.lt_log2_self
theorem q6P{d:Nat}(h:d<2^64):bl d<=64:=by
 unfold bl;split
 .omega
 rename_i A;have:=(Nat.log2_lt A).2 h;omega
theorem q2C{d:Nat}(h:d<2^64):d<2^(64 - lz d):=by
 have:=q6P h;rw[show 64 - lz d=bl d by unfold lz;omega];exact q8l d
theorem y9Y{d:Nat}(h:d<2^64)(A:d≠0):∃m,d=2^tz d*(2*m+1)/\tz d<64:=by
 unfold tz Go.Lib.ctz;rw[wR A];exact Go.Lib.ctzFrom_spec 64 d wF h
theorem q4f{d:Nat}(h:d<2^64)(A:d≠0):lz d+tz d<64:=by
 obtain⟨m,L,O⟩:=y9Y h A;have I:=q2C h;have J:2^tz d<=d:=Nat.le_of_dvd wF ⟨2*m+1,L⟩;have N:tz d<64 - lz d:=(Nat.pow_lt_pow_iff_right wG).1 (pS J I);omega
theorem y9h{d k:Nat}(h:d<2^64)(A:d≠0)(I:k<=tz d):d/2^k*2^k=d:=by
 obtain⟨m,J,_⟩:=y9Y h A;refine Nat.div_mul_cancel (Nat.dvd_trans (Nat.pow_dvd_pow 2 I) ⟨2*m+1,J⟩)
def z5s(lead size d:Nat):Bool:=decide (0<size/\lead<=lz d/\64 - lead - size<=tz d)
def z3E(d:Nat):Nat:=min (lz d) 31
def z2n(d:Nat):Nat:=64 - z3E d - tz d
def z5r(s:z4N)(v:Nat):List Bool×z4N:=
 if s.has=false then(z3o v 64,⟨true,v,0,0⟩)
 else if v^^^s.prev=0 then([false],{s with prev:=v})
 else if z5s s.lead s.width (v^^^s.prev)then([true,false]++z3o ((v^^^s.prev)/2^(64 - s.lead - s.width)) s.width,{s with prev:=v})
 else([true,true]++z3o (z3E (v^^^s.prev)) 5++z3o (z2n (v^^^s.prev) - 1) 6++z3o ((v^^^s.prev)/2^tz (v^^^s.prev)) (z2n (v^^^s.prev)),⟨true,v,z3E (v^^^s.prev),z2n (v^^^s.prev)⟩)
def z3K(s:z4N)(l:List Bool):Option (Nat×z4N×List Bool):=
 if s.has=false then(rdN 64 l).map fun p=>(p.1,⟨true,p.1,0,0⟩,p.2)
 else match l with
  | false::r=>some (s.prev,s,r)
  | true::false::r=>match rdN s.width r with
   | none=>none
   | some (d,r')=>if d=0 then none else some (s.prev^^^(d*2^(64 - s.lead - s.width)),{s with prev:=s.prev^^^(d*2^(64 - s.lead - s.width))},r')
  | true::true::r=>match rdN 5 r with
   | none=>none
   | some (ld,r1)=>match rdN 6 r1 with
    | none=>none
    | some (z,r2)=>if 64<ld+(z+1)then none else match rdN (z+1) r2 with
     | none=>none
     | some (d,r3)=>
      if d=0\/z5s s.lead s.width (d*2^(64 - ld - (z+1)))=true\/ld≠z3E (d*2^(64 - ld - (z+1)))\/z+1≠z2n (d*2^(64 - ld - (z+1)))then none
      else some (s.prev^^^(d*2^(64 - ld - (z+1))),⟨true,s.prev^^^(d*2^(64 - ld - (z+1))),ld,z+1⟩,r3)
  | _=>none
theorem y2f{a b:Nat}(A:a<2^64)(hb:b<2^64):a^^^b<2^64:=ky A hb
theorem y3b{a b:Nat}:b^^^(a^^^b)=a:=by rw[Nat.xor_comm a b,<-Nat.xor_assoc,Nat.xor_self,Nat.zero_xor]
theorem z9p{d:Nat}(h:d<2^64)(A:d≠0):0<z2n d/\z3E d<=31/\z3E d+z2n d<=64/\64 - z3E d - z2n d=tz d:=by
 have I:=q4f h A;unfold z2n z3E;omega
theorem q1t{d:Nat}(h:d<2^64)(A:d≠0):d/2^tz d<2^z2n d:=by
 have J:=q4f h A;have I:=q2C h;rw[ix (pV _),<-ke];refine wS I (uU wG ?_);unfold z2n z3E;omega
theorem y2T{d k:Nat}(h:d<2^64)(A:d≠0)(I:k<=tz d):d/2^k≠0:=fun e=>by
 have:=y9h h A I;rw[e]at this;omega
theorem y3P{s:z4N}{v:Nat}(L:z1x s=true)(N:v<2^64)(O:s.prev<2^64)(r:List Bool):z3K s ((z5r s v).1++r)=some (v,(z5r s v).2,r):=by
 unfold z3K z5r;by_cases J:s.has=false
 .simp only[J,de];rw[z5o N];rfl
 rw[wR J,wR J];have A:=y2f N O;by_cases hd:v^^^s.prev=0
 .rw[wZ hd];have e:v=s.prev:=by
   have:= @y3b v s.prev;rw[hd,qK]at this;exact this.symm
  subst e;rfl
 rw[wR hd];by_cases hb:z5s s.lead s.width (v^^^s.prev)=true
 .rw[wZ hb];have I:=ua hb;have R:s.lead+s.width<=64:=by
   unfold z1x at L;rw[wZ (by simpa using J)]at L;exact(ua L).2.1
  have U:(v^^^s.prev)/2^(64 - s.lead - s.width)<2^s.width:=by
   rw[ix (pV _),<-ke];exact wS (q2C A) (uU wG wF)
  simp only[uY,uW];rw[z5o U];simp only;rw[wR (y2T A hd I.2.2),y9h A hd I.2.2,y3b]
 rw[wR hb];obtain⟨z1,z2,z3,Y⟩:=z9p A hd;simp only[uY,uW,wj];rw[z5o wF];simp only;rw[z5o wF];simp only;rw[show z2n (v^^^s.prev) - 1+1=z2n (v^^^s.prev) by omega,wR wF,z5o (q1t A hd)];simp only;rw[Y,y9h A hd wE,y3b,wR (by simp[y2T A hd wE,hb])]
theorem q4q{s s':z4N}{v:Nat}{l r:List Bool}(h:z3K s l=some (v,s',r))(R:s.prev<2^64)(I:z1x s=true):r.length<l.length/\v<2^64/\z1x s'=true/\s'.has=true/\s'.prev=v:=by
 unfold z3K at h;split at h
 .rename_i A;simp only[uM]at h;obtain⟨⟨n,r1⟩,N,L⟩:=h;simp only[wk]at L;obtain⟨rfl,rfl,rfl⟩:=L;obtain⟨Y,J,a3⟩:=z6E N;exact⟨wF,J,by simp[z1x],rfl,rfl⟩
 rename_i A;have A:s.has=true:=by simpa using A
 have U:=I;unfold z1x at I;rw[wZ A]at I;have I:=ua I;split at h
 .simp only[wK,wk]at h;obtain⟨rfl,rfl,rfl⟩:=h;exact⟨wH,R,U,A,rfl⟩
 .split at h
  .cases h
  rename_i d r1 hd;split at h
  .cases h
  simp only[wK,wk]at h;obtain⟨rfl,rfl,rfl⟩:=h;obtain⟨Y,J,a3⟩:=z6E hd;have O:d*2^(64 - s.lead - s.width)<2^64:=by
   have:d*2^(64 - s.lead - s.width)<2^s.width*2^(64 - s.lead - s.width):=dz J (pV _);rw[<-ke]at this;exact wS this (uU wG wF)
  refine⟨by simp;omega,y2f R O,?_,A,rfl⟩;unfold z1x;rw[wZ A];exact wQ I
 .split at h
  .cases h
  rename_i ld r1 N;split at h
  .cases h
  rename_i z r2 L;split at h
  .cases h
  rename_i hz;split at h
  .cases h
  rename_i d r3 h3;split at h
  .cases h
  simp only[wK,wk]at h;obtain⟨rfl,rfl,rfl⟩:=h;obtain⟨Y,J,a3⟩:=z6E N;obtain⟨b1,b2,b3⟩:=z6E L;obtain⟨c1,c2,c3⟩:=z6E h3;have O:d*2^(64 - ld - (z+1))<2^64:=by
   have:d*2^(64 - ld - (z+1))<2^(z+1)*2^(64 - ld - (z+1)):=dz c2 (pV _);rw[<-ke]at this;exact wS this (uU wG wF)
  refine⟨by simp;omega,y2f R O,?_,rfl,rfl⟩;unfold z1x;simp only[de];exact wQ ⟨wF,wF,.inl wF⟩
 cases h
def w64(n:Int):Int:=IntKind.i64.wrap n
theorem z2Q(n:Int): -9223372036854775808<=w64 n/\w64 n<=9223372036854775807:=by unfold w64;rw[uL];omega
theorem q3F(a b:Int)(A: -9223372036854775808<=a)(I:a<=9223372036854775807):w64 (w64 (a - b)+b)=a:=by unfold w64;rw[uL,uL];omega
theorem q1n(a b:Int)(A: -9223372036854775808<=a)(I:a<=9223372036854775807):w64 (b+w64 (a - b))=a:=by unfold w64;rw[uL,uL];omega
structure z1m where
 t:Int
 v:Nat
deriving DecidableEq
def z1m.Ok(s:z1m):Prop:= -9223372036854775808<=s.t/\s.t<=9223372036854775807/\s.v<18446744073709551616
structure z2g where
 n:Nat
 last:Int
 delta:Int
 val:z4N
deriving DecidableEq
def z0i:z2g:=⟨0,0,0,zeroV⟩
structure z2g.Ok (e:z2g):Prop where
 zero:e.n=0->e=z0i
 has:0<e.n->e.val.has=true
 val:z1x e.val=true
 prev:e.val.prev<18446744073709551616
 last: -9223372036854775808<=e.last/\e.last<=9223372036854775807
 delta: -9223372036854775808<=e.delta/\e.delta<=9223372036854775807
theorem z5p:z0i.Ok:=⟨fun _=>rfl,fun h=>by simp[z0i]at h,by simp[z0i,z1x,zeroV],by simp[z0i,zeroV],by simp[z0i],by simp[z0i]⟩
def y5h(t:Int):Nat:=(t%18446744073709551616).toNat
theorem q0u(t:Int):y5h t<2^64:=by unfold y5h;omega
theorem q1p{t:Int}(A: -9223372036854775808<=t)(I:t<=9223372036854775807):w64 ((y5h t:Nat):Int)=t:=by unfold y5h w64;rw[uL];omega
def z3p(e:z2g)(s:z1m):List Bool×z2g:=
 if e.n=0 then(z3o (y5h s.t) 64++(z5r e.val s.v).1,⟨1,s.t,e.delta,(z5r e.val s.v).2⟩)
 else(y0P (w64 (w64 (s.t - e.last) - e.delta))++(z5r e.val s.v).1,⟨e.n+1,s.t,w64 (s.t - e.last),(z5r e.val s.v).2⟩)
def z6x(e:z2g)(l:List Bool):Option (Int×Int×List Bool):=
 if e.n=0 then(rdN 64 l).map fun p=>(w64 (p.1:Int),0,p.2)
 else match z9A l with
  | none=>none
  | some (d,r)=>if e.last<w64 (e.last+w64 (d+e.delta))then some (w64 (e.last+w64 (d+e.delta)),w64 (d+e.delta),r)else none
def z1D(e:z2g)(l:List Bool):Option (z1m×z2g×List Bool):=match z6x e l with
 | none=>none
 | some (t,delta,r)=>match z3K e.val r with
  | none=>none
  | some (v,k,r')=>some (⟨t,v⟩,⟨e.n+1,t,delta,k⟩,r')
theorem y8J{e:z2g}{s:z1m}(J:e.Ok)(I:s.Ok)(L:0<e.n->e.last<s.t)(r:List Bool):z1D e ((z3p e s).1++r)=some (s,(z3p e s).2,r):=by
 unfold z1D z6x z3p;by_cases A:e.n=0
 .rw[wZ A,wZ A];simp only[wj];rw[z5o (q0u _)];simp only[pK];rw[y3P J.val I.2.2 J.prev,q1p I.1 I.2.1];simp only[A];have:=J.zero A;rw[this];rfl
 rw[wR A,wR A];simp only[wj];rw[y7a (z2Q _).1 (z2Q _).2];simp only;rw[q3F _ _ (z2Q _).1 (z2Q _).2,q1n _ _ I.1 I.2.1,wZ (L wF)];simp only;rw[y3P J.val I.2.2 J.prev]
theorem z2h{e J:z2g}{s:z1m}{l r:List Bool}(Y:e.Ok)(h:z1D e l=some (s,J,r)):r.length<l.length/\s.Ok/\J.Ok/\J.n=e.n+1/\J.last=s.t/\(0<e.n->e.last<s.t):=by
 unfold z1D z6x at h;split at h
 .cases h
 rename_i t delta r1 A;split at h
 .cases h
 rename_i v k r2 h2;simp only[wK,wk]at h;obtain⟨rfl,rfl,rfl⟩:=h;obtain⟨a1,I,N,O,R⟩:=q4q h2 Y.prev Y.val;split at A
 .rename_i h0;simp only[uM]at A;obtain⟨⟨n,r3⟩,L,U⟩:=A;simp only[wk]at U;obtain⟨rfl,rfl,rfl⟩:=U;obtain⟨b1,b2,b3⟩:=z6E L;exact⟨wF,⟨(z2Q _).1,(z2Q _).2,I⟩,⟨fun h=>by simp at h,fun _=>O,N,by simp only;rw[R];exact I,z2Q _,wH⟩,rfl,rfl,fun h=>wF⟩
 rename_i h0;split at A
 .cases A
 rename_i d r3 L;split at A
 .rename_i ht;simp only[wK,wk]at A;obtain⟨rfl,rfl,rfl⟩:=A;have b1:=(y2y L).1;exact⟨wF,⟨(z2Q _).1,(z2Q _).2,I⟩,⟨fun h=>by simp at h,fun _=>O,N,by simp only;rw[R];exact I,z2Q _,z2Q _⟩,rfl,rfl,fun _=>ht⟩
 cases A
theorem z8r{w n:Nat}{l r:List Bool}(h:rdN w l=some (n,r)):∃x,l=x++r/\∀m,rdN w (x++m)=some (n,m):=by
 obtain⟨J,A,I⟩:=z6E h;exact⟨_,I,fun m=>z5o A m⟩
theorem q3Q{v:Int}{l r:List Bool}(h:z9A l=some (v,r)):∃x,l=x++r/\∀m,z9A (x++m)=some (v,m):=by
 obtain⟨L,A,I,J⟩:=y2y h;exact⟨_,A,fun m=>y7a I J m⟩
theorem q2K{s s':z4N}{v:Nat}{l r:List Bool}(h:z3K s l=some (v,s',r)):∃x,l=x++r/\∀m,z3K s (x++m)=some (v,s',m):=by
 unfold z3K at h;split at h
 .rename_i A;simp only[uM]at h;obtain⟨⟨n,R⟩,N,L⟩:=h;simp only[wk]at L;obtain⟨rfl,rfl,rfl⟩:=L;obtain⟨x,J,I⟩:=z8r N;refine⟨x,J,fun m=>?_⟩;unfold z3K;rw[wZ A,I];rfl
 rename_i A;split at h
 .simp only[wK,wk]at h;obtain⟨rfl,rfl,rfl⟩:=h;refine⟨[false],rfl,fun m=>?_⟩;unfold z3K;rw[wR A];rfl
 .split at h
  .cases h
  rename_i d R hd;obtain⟨x,J,I⟩:=z8r hd;split at h
  .cases h
  rename_i O;simp only[wK,wk]at h;obtain⟨rfl,rfl,rfl⟩:=h;refine⟨true::false::x,by rw[J];rfl,fun m=>?_⟩;unfold z3K;rw[wR A];simp only[uY];rw[I];simp only;rw[wR O]
 .split at h
  .cases h
  rename_i ld R N;obtain⟨x,J,I⟩:=z8r N;split at h
  .cases h
  rename_i z r2 L;obtain⟨y,hy,hn⟩:=z8r L;split at h
  .cases h
  rename_i hz;split at h
  .cases h
  rename_i d r3 U;obtain⟨q,hq,ho⟩:=z8r U;split at h
  .cases h
  rename_i Y;simp only[wK,wk]at h;obtain⟨rfl,rfl,rfl⟩:=h;refine⟨true::true::(x++(y++q)),by rw[J,hy,hq];simp,fun m=>?_⟩;unfold z3K;rw[wR A];simp only[uY,wj];rw[I];simp only;rw[hn];simp only;rw[wR hz,ho];simp only;rw[wR Y]
 cases h
theorem z9l{e O:z2g}{s:z1m}{l r:List Bool}(h:z1D e l=some (s,O,r)):∃x,l=x++r/\∀m,z1D e (x++m)=some (s,O,m):=by
 unfold z1D z6x at h;split at h
 .cases h
 rename_i t delta r1 A;split at h
 .cases h
 rename_i v k r2 h2;simp only[wK,wk]at h;obtain⟨rfl,rfl,rfl⟩:=h;obtain⟨y,Y,U⟩:=q2K h2;split at A
 .rename_i I;simp only[uM]at A;obtain⟨⟨n,r3⟩,J,R⟩:=A;simp only[wk]at R;obtain⟨rfl,rfl,rfl⟩:=R;obtain⟨x,N,L⟩:=z8r J;refine⟨x++y,by rw[N,Y,wj],fun m=>?_⟩;unfold z1D z6x;rw[wZ I,wj,L];simp only[pK];rw[U]
 rename_i I;split at A
 .cases A
 rename_i d r3 J;obtain⟨x,N,L⟩:=q3Q J;split at A
 .rename_i ht;simp only[wK,wk]at A;obtain⟨rfl,rfl,rfl⟩:=A;refine⟨x++y,by rw[N,Y,wj],fun m=>?_⟩;unfold z1D z6x;rw[wR I,wj,L];simp only;rw[wZ ht];simp only;rw[U]
 cases A
theorem y9t{e A:z2g}{s:z1m}{l r:List Bool}(h:z1D e l=some (s,A,r))(m:List Bool):z1D e (l++m)=some (s,A,r++m):=by
 obtain⟨x,J,I⟩:=z9l h;rw[J,wj];exact I _
structure z1t where
 s:z1m
 e:z2g
 at_:Nat
def z0o(e:z2g)(st:List z1t):z2g:=(st.getLast?.map z1t.e).getD e
def z6T(k:Nat)(st:List z1t):Nat:=(st.getLast?.map z1t.at_).getD k
def z3x:Nat->z2g->Nat->List Bool->Option (List z1t)
 | _,_,_, []=>some []
 | 0,_,_,_::_=>none
 | f+1,e,k,b::l=>match z1D e (b::l)with
  | none=>none
  | some (s,e',r)=>(z3x f e' (k+((b::l).length - r.length)) r).map (⟨s,e',k+((b::l).length - r.length)⟩::·)
def z5t(l:List Bool):Option (List z1t):=z3x l.length z0i 0 l
theorem z4L(f:Nat)(e:z2g)(k:Nat):z3x f e k []=some []:=by cases f<;>rfl
theorem z9g(e:z2g)(x:z1t)(A:List z1t):z0o e (x::A)=z0o x.e A:=by
 unfold z0o;cases A with
 | nil=>rfl
 | cons y A=>rw[qm];rw[mw wH];rfl
theorem y1Z(k:Nat)(x:z1t)(A:List z1t):z6T k (x::A)=z6T x.at_ A:=by
 unfold z6T;cases A with
 | nil=>rfl
 | cons y A=>rw[qm];rw[mw wH];rfl
theorem z5W:∀{f:Nat} {e:z2g} {k:Nat} {l:List Bool} {A:List z1t},e.Ok->z3x f e k l=some A->∀g,l.length<=g->z3x g e k l=some A
 | f,e,k, [],A,he,h,g,hg=>by rw[z4L]at h ⊢;exact h
 | 0,e,k,b::l,A,he,h,g,hg=>by simp[z3x]at h
 | f+1,e,k,b::l,A,he,h,0,hg=>by simp at hg
 | f+1,e,k,b::l,A,he,h,g+1,hg=>by
  unfold z3x at h ⊢;split at h
  .cases h
  rename_i s O r L;have J:=z2h he L;simp only[L,uM]at h ⊢;obtain⟨I,N,rfl⟩:=h;exact⟨I,z5W J.2.2.1 N g (by have:=J.1;simp at hg this;omega),rfl⟩
theorem y5I:∀{f:Nat} {e:z2g} {k:Nat} {l m:List Bool} {I:List z1t},e.Ok->z3x f e k l=some I->∀g,l.length+m.length<=g->z3x g e k (l++m)=(z3x g (z0o e I) (k+l.length) m).map (I++·)
 | f,e,k, [],m,I,A,h,g,hg=>by
  rw[z4L]at h;cases h;simp[z0o]
 | 0,e,k,b::l,m,I,A,h,g,hg=>by simp[z3x]at h
 | f+1,e,k,b::l,m,I,A,h,0,hg=>by simp at hg
 | f+1,e,k,b::l,m,I,A,h,g+1,hg=>by
  unfold z3x at h;split at h
  .cases h
  rename_i s Y r N;have O:=z2h A N;simp only[uM]at h;obtain⟨J,L,rfl⟩:=h;have U:=O.1;have h3:=y5I (m:=m) O.2.2.1 L g (by simp at hg U;omega);rw[uY];have h4:=y9t N m;rw[uY]at h4
  conv=>lhs;unfold z3x
  rw[h4];simp only;have e1:(b::(l++m)).length - (r++m).length=(b::l).length - r.length:=(by simp;omega);have e2:k+((b::l).length - r.length)+r.length=k+(b::l).length:=wF;rw[e1,h3,z9g,e2];have h5:∀e k,e.Ok->z3x (g+1) e k m=z3x g e k m:=fun e k A=>by
   cases hx:z3x g e k m with
   | some x=>exact z5W A hx _ (by simp at hg;omega)
   | none=>
    cases hy:z3x (g+1) e k m with
    | none=>rfl
    | some y=>have:=z5W A hy g (by simp at hg;omega);rw[hx]at this;cases this
  have R:(z0o Y J).Ok:=by
   have key:∀{f:Nat} {e:z2g} {k:Nat} {l:List Bool} {I:List z1t},e.Ok->z3x f e k l=some I->(z0o e I).Ok:=by
    intro f
    induction f with
    | zero=>intro e k l I A h;cases l with
     | nil=>rw[z4L]at h;cases h;exact A
     | cons b l=>simp[z3x]at h
    | succ f ih=>intro e k l I A h;cases l with
     | nil=>rw[z4L]at h;cases h;exact A
     | cons b l=>
      unfold z3x at h;split at h
      .cases h
      rename_i s Y r N;simp only[uM]at h;obtain⟨J,L,rfl⟩:=h;rw[z9g];exact ih (z2h A N).2.2.1 L
   exact key O.2.2.1 L
  rw[h5 _ _ R,qS];rfl
theorem z8G:∀{f:Nat} {e:z2g} {k:Nat} {l:List Bool} {A:List z1t},e.Ok->z3x f e k l=some A->
  (z0o e A).Ok/\(z0o e A).n=e.n+A.length/\z6T k A=k+l.length/\(∀x∈A,x.s.Ok/\x.e.Ok/\k<x.at_/\x.at_<=k+l.length/\e.n<x.e.n/\x.e.last=x.s.t/\(0<e.n->e.last<x.s.t))/\A.Pairwise fun x y=>x.at_<y.at_/\x.s.t<y.s.t
 | f,e,k, [],A,he,h=>by
  rw[z4L]at h;cases h;exact⟨he,rfl,rfl,(fun x I=>by cases I),qV⟩
 | 0,e,k,b::l,A,he,h=>by simp[z3x]at h
 | f+1,e,k,b::l,A,he,h=>by
  unfold z3x at h;split at h
  .cases h
  rename_i s e' r hr;obtain⟨c1,c2,c3,c4,J,N⟩:=z2h he hr;simp only[uM]at h;obtain⟨a0,h2,rfl⟩:=h;obtain⟨d1,d2,d3,O,d5⟩:=z8G c3 h2;rw[z9g,y1Z];refine⟨d1,by rw[d2,c4,wW];omega,by rw[d3];omega,fun x I=>?_,?_⟩
  .rcases wy.1 I with rfl|I
   .exact⟨c2,c3,by show k<k+_;omega,by show k+_<=_;omega,by show e.n<e'.n;omega,J,N⟩
   obtain⟨R,U,Y,g4,g5,g6,L⟩:=O x I;exact⟨R,U,wF,wF,wF,g6,fun h0=>by have:=N h0;have:=L wF;rw[J]at this;omega⟩
  refine List.Pairwise.cons (fun y hy=>?_) d5;obtain⟨R,U,Y,g4,g5,g6,L⟩:=O y hy;exact⟨Y,by have:=L wF;rw[J]at this;exact this⟩
theorem y1X:∀{f:Nat} {e:z2g} {k:Nat} {l:List Bool} {A:List z1t},e.Ok->z3x f e k l=some A->∀n,n<=A.length->z3x f e k (l.take (z6T k (A.take n) - k))=some (A.take n)
 | f,e,k, [],A,he,h,n,hn=>by
  rw[z4L]at h;cases h;simp[z4L]
 | 0,e,k,b::l,A,he,h,n,hn=>by simp[z3x]at h
 | f+1,e,k,b::l,A,he,h,0,hn=>by rw[iK];show z3x (f+1) e k ((b::l).take (k - k))=_;rw[pI];rfl
 | f+1,e,k,b::l,A,he,h,n+1,hn=>by
  have hs:=z8G he h;unfold z3x at h;split at h
  .cases h
  rename_i s e' r Y;obtain⟨c1,c2,c3,c4,c5,c6⟩:=z2h he Y;simp only[uM]at h;obtain⟨I,R,rfl⟩:=h;have L:=y1X c3 R n (by simpa using hn);rw[dw,y1Z];simp only;obtain⟨p,N⟩:=zN ((b::l).length - r.length);rw[<-N]at L R ⊢;obtain⟨q,hq⟩:=zN (z6T (k+p) (I.take n) - (k+p));rw[<-hq]at L;have a0:k+p<=z6T (k+p) (I.take n):=by
   have h5:=z8G c3 L;rw[h5.2.2.1];omega
  have e1:z6T (k+p) (I.take n) - k=p+q:=wF;rw[e1];obtain⟨x,hx,hm⟩:=z9l Y;have J:p=x.length:=(by rw[N,hx];simp);have O:(b::l).take (p+q)=x++r.take q:=(by rw[hx,List.take_append,wt wF,show p+q - x.length=q by omega]);rw[O];have U:=hm (r.take q);cases hxr:x++r.take q with
  | nil=>
   have:x= []:=(List.append_eq_nil_iff.1 hxr).1;rw[this]at J;have:=c1;simp at J this N;omega
  | cons c l'=>
   rw[hxr]at U;unfold z3x;rw[U];have h7:(c::l').length - (r.take q).length=p:=(by rw[<-hxr];simp;omega);simp only[h7];rw[L];rfl
def z1Q(st:List z1t):List z1m:=st.map z1t.s
def z1C(st:List z1t):List Nat:=st.map z1t.at_
theorem z3T{l:List Bool}{A:List z1t}(h:z5t l=some A):(z0o z0i A).Ok/\(z0o z0i A).n=A.length/\z6T 0 A=l.length/\(∀x∈A,x.s.Ok/\x.e.Ok/\0<x.at_/\x.at_<=l.length/\x.e.last=x.s.t)/\A.Pairwise fun x y=>x.at_<y.at_/\x.s.t<y.s.t:=by
 obtain⟨O,R,U,Y,h5⟩:=z8G z5p h;exact⟨O,by rw[R];simp[z0i],by rw[U];omega,fun x hx=>by obtain⟨I,J,L,a4,a5,N,a7⟩:=Y x hx;exact⟨I,J,L,wF,N⟩,h5⟩
theorem q3o{l m:List Bool}{I:List z1t}(h:z5t l=some I):z5t (l++m)=(z3x m.length (z0o z0i I) l.length m).map (I++·):=by
 have J:=y5I (m:=m) z5p h (l.length+m.length) wE;have A:=(z3T h).1;unfold z5t;rw[wP,J,uZ]
 congr 1
 cases hx:z3x (l.length+m.length) (z0o z0i I) l.length m with
 | some x=>exact(z5W A hx _ wE).symm
 | none=>
  cases hy:z3x m.length (z0o z0i I) l.length m with
  | none=>rfl
  | some y=>have:=z5W A hy (l.length+m.length) wF;rw[hx]at this;cases this
theorem q3v{l:List Bool}{A:List z1t}{s:z1m}(h:z5t l=some A)(N:s.Ok)(O:0<A.length->(z0o z0i A).last<s.t):
  z5t (l++(z3p (z0o z0i A) s).1)=some (A++ [⟨s,(z3p (z0o z0i A) s).2,l.length+(z3p (z0o z0i A) s).1.length⟩]):=by
 obtain⟨J,L,R,U,Y⟩:=z3T h;have hb:=y8J J N (by rw[L];exact O) [];rw[ue]at hb;have I:=z2h J hb;rw[q3o h];cases hw:(z3p (z0o z0i A) s).1 with
 | nil=>rw[hw]at I;simp at I
 | cons b w=>
  rw[hw]at hb;simp only[wW];unfold z3x;rw[hb];simp[z4L]
theorem y8w{l:List Bool}{A:List z1t}(h:z5t l=some A){n:Nat}(J:n<=A.length):z5t (l.take (z6T 0 (A.take n)))=some (A.take n):=by
 have I:=y1X z5p h n J;rw[qt]at I;exact z5W z5p I _ wH

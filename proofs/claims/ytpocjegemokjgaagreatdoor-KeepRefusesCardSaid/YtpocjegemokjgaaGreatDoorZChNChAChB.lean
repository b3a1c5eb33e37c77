/-
  A chunk's bits, read sample by sample: what stands behind makes no difference; what is written is read; fronts. No program.
-/
import Derived.Test.YtpocjegemokjgaaGreatDoorZHqSeANoCNoD
namespace Go.Proofs.YtpocjegemokjgaaGreatDoor
open Go.Proofs.Tryz
set_option linter.all false
set_option maxRecDepth 100000
set_option maxHeartbeats 12800000
open Go.RowKit
theorem z7P{w n:Nat}{l r:List Bool}(h:rdN w l=some (n,r)):∃x,l=x++r/\∀m,rdN w (x++m)=some (n,m):=by
 obtain⟨I,A,B⟩:=z5N h;exact⟨_,B,fun m=>z4Q A m⟩
theorem q2o{v:Int}{l r:List Bool}(h:z8l l=some (v,r)):∃x,l=x++r/\∀m,z8l (x++m)=some (v,m):=by
 obtain⟨J,A,B,I⟩:=y0G h;exact⟨_,A,fun m=>y5e B I m⟩
theorem q2H{s s':z4Z}{v:Nat}{l r:List Bool}(h:z3P s l=some (v,s',r)):∃x,l=x++r/\∀m,z3P s (x++m)=some (v,s',m):=by
 unfold z3P at h;split at h
 ·rename_i A;simp only[Option.map_eq_some_iff]at h;obtain⟨⟨n,O⟩,L,J⟩:=h;simp only[Prod.mk.injEq]at J;obtain⟨rfl,rfl,rfl⟩:=J;obtain⟨x,I,B⟩:=z7P L;refine⟨x,I,fun m=>?_⟩;unfold z3P;rw[if_pos A,B];rfl
 ·rename_i A;split at h
  ·simp only[Option.some.injEq,Prod.mk.injEq]at h;obtain⟨rfl,rfl,rfl⟩:=h;refine⟨[false],rfl,fun m=>?_⟩;unfold z3P;rw[if_neg A];rfl
  ·split at h
   ·cases h
   ·rename_i d O hd;obtain⟨x,I,B⟩:=z7P hd;split at h
    ·cases h
    ·rename_i N;simp only[Option.some.injEq,Prod.mk.injEq]at h;obtain⟨rfl,rfl,rfl⟩:=h;refine⟨true::false::x,by rw[I];rfl,fun m=>?_⟩;unfold z3P;rw[if_neg A];simp only[List.cons_append];rw[B];simp only;rw[if_neg N]
  ·split at h
   ·cases h
   ·rename_i ld O L;obtain⟨x,I,B⟩:=z7P L;split at h
    ·cases h
    ·rename_i z r2 J;obtain⟨y,hy,Y⟩:=z7P J;split at h
     ·cases h
     ·rename_i hz;split at h
      ·cases h
      ·rename_i d r3 R;obtain⟨q,hq,ho⟩:=z7P R;split at h
       ·cases h
       ·rename_i U;simp only[Option.some.injEq,Prod.mk.injEq]at h;obtain⟨rfl,rfl,rfl⟩:=h;refine⟨true::true::(x++(y++q)),by rw[I,hy,hq];simp,fun m=>?_⟩;unfold z3P;rw[if_neg A];simp only[List.cons_append,List.append_assoc];rw[B];simp only;rw[Y];simp only;rw[if_neg hz,ho];simp only;rw[if_neg U]
  ·cases h
theorem z8D{e N:z1M}{s:z1c}{l r:List Bool}(h:z1n e l=some (s,N,r)):∃x,l=x++r/\∀m,z1n e (x++m)=some (s,N,m):=by
 unfold z1n z5W at h;split at h
 ·cases h
 ·rename_i t delta r1 A;split at h
  ·cases h
  ·rename_i v k r2 Y;simp only[Option.some.injEq,Prod.mk.injEq]at h;obtain⟨rfl,rfl,rfl⟩:=h;obtain⟨y,U,R⟩:=q2H Y;split at A
   ·rename_i B;simp only[Option.map_eq_some_iff]at A;obtain⟨⟨n,r3⟩,I,O⟩:=A;simp only[Prod.mk.injEq]at O;obtain⟨rfl,rfl,rfl⟩:=O;obtain⟨x,L,J⟩:=z7P I;refine⟨x++y,by rw[L,U,List.append_assoc],fun m=>?_⟩;unfold z1n z5W;rw[if_pos B,List.append_assoc,J];simp only[Option.map_some];rw[R]
   ·rename_i B;split at A
    ·cases A
    ·rename_i d r3 I;obtain⟨x,L,J⟩:=q2o I;split at A
     ·rename_i ht;simp only[Option.some.injEq,Prod.mk.injEq]at A;obtain⟨rfl,rfl,rfl⟩:=A;refine⟨x++y,by rw[L,U,List.append_assoc],fun m=>?_⟩;unfold z1n z5W;rw[if_neg B,List.append_assoc,J];simp only;rw[if_pos ht];simp only;rw[R]
     ·cases A
theorem y7z{e A:z1M}{s:z1c}{l r:List Bool}(h:z1n e l=some (s,A,r))(m:List Bool):z1n e (l++m)=some (s,A,r++m):=by
 obtain⟨x,I,B⟩:=z8D h;rw[I,List.append_assoc];exact B _
structure z1d where
 s:z1c
 e:z1M
 at_:Nat
def z0m(e:z1M)(st:List z1d):z1M:=(st.getLast?.map z1d.e).getD e
def z6u(k:Nat)(st:List z1d):Nat:=(st.getLast?.map z1d.at_).getD k
def z3e:Nat->z1M->Nat->List Bool->Option (List z1d)
 | _,_,_, []=>some []
 | 0,_,_,_::_=>none
 | f+1,e,k,b::l=>match z1n e (b::l)with
  | none=>none
  | some (s,e',r)=>(z3e f e' (k+((b::l).length - r.length)) r).map (⟨s,e',k+((b::l).length - r.length)⟩::·)
def z5o(l:List Bool):Option (List z1d):=z3e l.length z0h 0 l
theorem z4d(f:Nat)(e:z1M)(k:Nat):z3e f e k []=some []:=by cases f<;>rfl
theorem z8x(e:z1M)(x:z1d)(A:List z1d):z0m e (x::A)=z0m x.e A:=by
 unfold z0m;cases A with
 | nil=>rfl
 | cons y A=>rw[List.getLast?_cons_cons];rw[List.getLast?_eq_some_getLast (by simp)];rfl
theorem y1j(k:Nat)(x:z1d)(A:List z1d):z6u k (x::A)=z6u x.at_ A:=by
 unfold z6u;cases A with
 | nil=>rfl
 | cons y A=>rw[List.getLast?_cons_cons];rw[List.getLast?_eq_some_getLast (by simp)];rfl
theorem z5t:∀{f:Nat} {e:z1M} {k:Nat} {l:List Bool} {A:List z1d},e.Ok->z3e f e k l=some A->∀g,l.length<=g->z3e g e k l=some A
 | f,e,k, [],A,he,h,g,hg=>by rw[z4d]at h ⊢;exact h
 | 0,e,k,b::l,A,he,h,g,hg=>by simp[z3e]at h
 | f+1,e,k,b::l,A,he,h,0,hg=>by simp at hg
 | f+1,e,k,b::l,A,he,h,g+1,hg=>by
  unfold z3e at h ⊢;split at h
  ·cases h
  ·rename_i s N r J;have I:=z1N he J;simp only[J,Option.map_eq_some_iff]at h ⊢;obtain⟨B,L,rfl⟩:=h;exact⟨B,z5t I.2.2.1 L g (by have:=I.1;simp at hg this;omega),rfl⟩
theorem y5a:∀{f:Nat} {e:z1M} {k:Nat} {l m:List Bool} {B:List z1d},e.Ok->z3e f e k l=some B->∀g,l.length+m.length<=g->z3e g e k (l++m)=(z3e g (z0m e B) (k+l.length) m).map (B++·)
 | f,e,k, [],m,B,A,h,g,hg=>by
  rw[z4d]at h;cases h;simp[z0m]
 | 0,e,k,b::l,m,B,A,h,g,hg=>by simp[z3e]at h
 | f+1,e,k,b::l,m,B,A,h,0,hg=>by simp at hg
 | f+1,e,k,b::l,m,B,A,h,g+1,hg=>by
  unfold z3e at h;split at h
  ·cases h
  ·rename_i s U r L;have N:=z1N A L;simp only[Option.map_eq_some_iff]at h;obtain⟨I,J,rfl⟩:=h;have R:=N.1;have h3:=y5a (m:=m) N.2.2.1 J g (by simp at hg R;omega);rw[List.cons_append];have Y:=y7z L m;rw[List.cons_append]at Y
   conv=>lhs;unfold z3e
   rw[Y];simp only;have e1:(b::(l++m)).length - (r++m).length=(b::l).length - r.length:=(by simp;omega);have e2:k+((b::l).length - r.length)+r.length=k+(b::l).length:=(by omega);rw[e1,h3,z8x,e2];have h5:∀e k,e.Ok->z3e (g+1) e k m=z3e g e k m:=fun e k A=>by
    cases hx:z3e g e k m with
    | some x=>exact z5t A hx _ (by simp at hg;omega)
    | none=>
     cases hy:z3e (g+1) e k m with
     | none=>rfl
     | some y=>have:=z5t A hy g (by simp at hg;omega);rw[hx]at this;cases this
   have O:(z0m U I).Ok:=by
    have key:∀{f:Nat} {e:z1M} {k:Nat} {l:List Bool} {B:List z1d},e.Ok->z3e f e k l=some B->(z0m e B).Ok:=by
     intro f
     induction f with
     | zero=>intro e k l B A h;cases l with
      | nil=>rw[z4d]at h;cases h;exact A
      | cons b l=>simp[z3e]at h
     | succ f ih=>intro e k l B A h;cases l with
      | nil=>rw[z4d]at h;cases h;exact A
      | cons b l=>
       unfold z3e at h;split at h
       ·cases h
       ·rename_i s U r L;simp only[Option.map_eq_some_iff]at h;obtain⟨I,J,rfl⟩:=h;rw[z8x];exact ih (z1N A L).2.2.1 J
    exact key N.2.2.1 J
   rw[h5 _ _ O,Option.map_map];rfl
theorem z7M:∀{f:Nat} {e:z1M} {k:Nat} {l:List Bool} {A:List z1d},e.Ok->z3e f e k l=some A->
  (z0m e A).Ok/\(z0m e A).n=e.n+A.length/\z6u k A=k+l.length/\(∀x∈A,x.s.Ok/\x.e.Ok/\k<x.at_/\x.at_<=k+l.length/\e.n<x.e.n/\x.e.last=x.s.t/\(0<e.n->e.last<x.s.t))/\A.Pairwise fun x y=>x.at_<y.at_/\x.s.t<y.s.t
 | f,e,k, [],A,he,h=>by
  rw[z4d]at h;cases h;exact⟨he,rfl,rfl,(fun x B=>by cases B),List.Pairwise.nil⟩
 | 0,e,k,b::l,A,he,h=>by simp[z3e]at h
 | f+1,e,k,b::l,A,he,h=>by
  unfold z3e at h;split at h
  ·cases h
  ·rename_i s e' r hr;obtain⟨c1,c2,c3,c4,I,L⟩:=z1N he hr;simp only[Option.map_eq_some_iff]at h;obtain⟨a0,h2,rfl⟩:=h;obtain⟨d1,d2,d3,N,d5⟩:=z7M c3 h2;rw[z8x,y1j];refine⟨d1,by rw[d2,c4,List.length_cons];omega,by rw[d3];omega,fun x B=>?_,?_⟩
   ·rcases List.mem_cons.1 B with rfl|B
    ·exact⟨c2,c3,by show k<k+_;omega,by show k+_<=_;omega,by show e.n<e'.n;omega,I,L⟩
    ·obtain⟨O,R,U,g4,g5,Y,J⟩:=N x B;exact⟨O,R,by omega,by omega,by omega,Y,fun h0=>by have:=L h0;have:=J (by omega);rw[I]at this;omega⟩
   ·refine List.Pairwise.cons (fun y hy=>?_) d5;obtain⟨O,R,U,g4,g5,Y,J⟩:=N y hy;exact⟨U,by have:=J (by omega);rw[I]at this;exact this⟩
theorem y1v:∀{f:Nat} {e:z1M} {k:Nat} {l:List Bool} {A:List z1d},e.Ok->z3e f e k l=some A->∀n,n<=A.length->z3e f e k (l.take (z6u k (A.take n) - k))=some (A.take n)
 | f,e,k, [],A,he,h,n,hn=>by
  rw[z4d]at h;cases h;simp[z4d]
 | 0,e,k,b::l,A,he,h,n,hn=>by simp[z3e]at h
 | f+1,e,k,b::l,A,he,h,0,hn=>by rw[List.take_zero];show z3e (f+1) e k ((b::l).take (k - k))=_;rw[Nat.sub_self];rfl
 | f+1,e,k,b::l,A,he,h,n+1,hn=>by
  have hs:=z7M he h;unfold z3e at h;split at h
  ·cases h
  ·rename_i s e' r U;obtain⟨c1,c2,c3,c4,c5,c6⟩:=z1N he U;simp only[Option.map_eq_some_iff]at h;obtain⟨B,O,rfl⟩:=h;have J:=y1v c3 O n (by simpa using hn);rw[List.take_succ_cons,y1j];simp only;obtain⟨p,L⟩:=zN ((b::l).length - r.length);rw[<-L]at J O ⊢;obtain⟨q,hq⟩:=zN (z6u (k+p) (B.take n) - (k+p));rw[<-hq]at J;have a0:k+p<=z6u (k+p) (B.take n):=by
    have h5:=z7M c3 J;rw[h5.2.2.1];omega
   have e1:z6u (k+p) (B.take n) - k=p+q:=(by omega);rw[e1];obtain⟨x,Y,hm⟩:=z8D U;have I:p=x.length:=(by rw[L,Y];simp);have N:(b::l).take (p+q)=x++r.take q:=(by rw[Y,List.take_append,List.take_of_length_le (by omega),show p+q - x.length=q by omega]);rw[N];have R:=hm (r.take q);cases hxr:x++r.take q with
   | nil=>
    have:x= []:=(List.append_eq_nil_iff.1 hxr).1;rw[this]at I;have:=c1;simp at I this L;omega
   | cons c l'=>
    rw[hxr]at R;unfold z3e;rw[R];have h7:(c::l').length - (r.take q).length=p:=(by rw[<-hxr];simp;omega);simp only[h7];rw[J];rfl
def z2l(st:List z1d):List z1c:=st.map z1d.s
def z1p(st:List z1d):List Nat:=st.map z1d.at_
theorem z3C{l:List Bool}{A:List z1d}(h:z5o l=some A):(z0m z0h A).Ok/\(z0m z0h A).n=A.length/\z6u 0 A=l.length/\(∀x∈A,x.s.Ok/\x.e.Ok/\0<x.at_/\x.at_<=l.length/\x.e.last=x.s.t)/\A.Pairwise fun x y=>x.at_<y.at_/\x.s.t<y.s.t:=by
 obtain⟨N,O,R,U,Y⟩:=z7M z4R h;exact⟨N,by rw[O];simp[z0h],by rw[R];omega,fun x hx=>by obtain⟨B,I,J,a4,a5,L,a7⟩:=U x hx;exact⟨B,I,J,by omega,L⟩,Y⟩
theorem q2e{l m:List Bool}{B:List z1d}(h:z5o l=some B):z5o (l++m)=(z3e m.length (z0m z0h B) l.length m).map (B++·):=by
 have I:=y5a (m:=m) z4R h (l.length+m.length) (Nat.le_refl _);have A:=(z3C h).1;unfold z5o;rw[List.length_append,I,Nat.zero_add]
 congr 1
 cases hx:z3e (l.length+m.length) (z0m z0h B) l.length m with
 | some x=>exact(z5t A hx _ (Nat.le_refl _)).symm
 | none=>
  cases hy:z3e m.length (z0m z0h B) l.length m with
  | none=>rfl
  | some y=>have:=z5t A hy (l.length+m.length) (by omega);rw[hx]at this;cases this
theorem q1M{l:List Bool}{A:List z1d}{s:z1c}(h:z5o l=some A)(L:s.Ok)(N:0<A.length->(z0m z0h A).last<s.t):
  z5o (l++(z3a (z0m z0h A) s).1)=some (A++ [⟨s,(z3a (z0m z0h A) s).2,l.length+(z3a (z0m z0h A) s).1.length⟩]):=by
 obtain⟨I,J,O,R,U⟩:=z3C h;have hb:=y6L I L (by rw[J];exact N) [];rw[List.append_nil]at hb;have B:=z1N I hb;rw[q2e h];cases hw:(z3a (z0m z0h A) s).1 with
 | nil=>rw[hw]at B;simp at B
 | cons b w=>
  rw[hw]at hb;simp only[List.length_cons];unfold z3e;rw[hb];simp[z4d]
theorem y6F{l:List Bool}{A:List z1d}(h:z5o l=some A){n:Nat}(I:n<=A.length):z5o (l.take (z6u 0 (A.take n)))=some (A.take n):=by
 have B:=y1v z4R h n I;rw[Nat.sub_zero]at B;exact z5t z4R B _ (by simp)
theorem y3A{has:Bool}{prev lead width:Nat}(A:z1k ⟨has,prev,lead,width⟩=true):lead<256/\width<256:=by
 cases has with
 | false=>
  have:z1k ⟨false,prev,lead,width⟩=decide (prev=0/\lead=0/\width=0):=by unfold z1k zeroV;simp
  rw[this]at A;have:=of_decide_eq_true A;omega
 | true=>
  unfold z1k at A;simp only[if_true]at A;have:=of_decide_eq_true A;omega
theorem q0v(A:Nat)(el N:Int)(has:Bool)(prev lead width:Nat)(J:z1M.Ok ⟨A,el,N,⟨has,prev,lead,width⟩⟩)(w:World):
  Calls prog 122 #[.agg #[.int .i64 A,.int .i64 el,.int .i64 N,.bool has,.int .u64 prev,.int .u8 lead,.int .u8 width]] w fun e w'=>e= .returned (.bool true)/\Below w.heap.size w w':=by
 have R:=z7 ((Loc.start w).new (.cells #[.int .i64 A,.int .i64 el,.int .i64 N,.bool has,.int .u64 prev,.int .u8 lead,.int .u8 width] 98));by_cases h0:A=0
 ·have hz:=J.zero h0;simp only[z0h,zeroV,z1M.mk.injEq,z4Z.mk.injEq]at hz;obtain⟨rfl,rfl,rfl,rfl,rfl,rfl,rfl⟩:=hz;clear J h0;go_enter func122,ntmps122;go_wp2;go_ret;exact⟨rfl,R.o.low⟩
 ·have Y:=J.has (by show 0<A;omega);simp only at Y;subst Y;have O:=J.val;have B:=y3A O;have U:=z7 (y5Z true prev lead width B.1 B.2);rw[O]at U;have d0:((A:Int)==0)=false:=by simp;omega
  have d1:decide ((A:Int)<0)=false:=decide_eq_false (by omega);clear J O B h0;go_enter func122,ntmps122;go_wp2_with fail;refine(U.o _).mono ?_;rintro e w2 ⟨rfl,I⟩;have L:=z7 (R.o.call I);clear I;go_wp2;go_ret;exact⟨rfl,L.o.low⟩
theorem y4l(a:Option Addr)(n c:Nat)(l:List Bool)(b:List UInt8)(U:Nat)(el R:Int)(has:Bool)(prev lead width:Nat)(he:z1M.Ok ⟨U,el,R,⟨has,prev,lead,width⟩⟩)(w:World)(h:z0r w a n c l b)(hl:l.length<=549755813888):
  Calls prog 83 #[.agg #[.slice a n c,.int .i64 l.length],.agg #[.int .i64 U,.int .i64 el,.int .i64 R,.bool has,.int .u64 prev,.int .u8 lead,.int .u8 width]] w fun e w'=>e= .returned (.int .u16 0)/\Below w.heap.size w w':=by
 obtain⟨N,hN⟩:=zN l.length;rw[<-hN];have a0:=z7 (z2q h.bits);have A:=z7 h.len;have a2:n<=70368744177665:=by have:=h.bits.len;have:=h.len;omega
 have a1:N<=549755813888:=by omega
 have HS:=z7 (q0v U el R has prev lead width he);have H:=z7 h;have HN:=z7 hN;clear h hN he hl;have I:=z7 (((Loc.start w).new (.cells #[.slice a n c,.int .i64 (N:Nat)] 49)).new' (.cells #[.int .i64 U,.int .i64 el,.int .i64 R,.bool has,.int .u64 prev,.int .u8 lead,.int .u8 width] 98) (n:=w.heap.size+1) (by simp));go_enter func83,ntmps83;go_wp2_with fail;have B:=z2M a c b N _ (by have:=(H.o.low I.o.low).rd;rw[A.o]at this;exact this) (by have:=A.o;omega) (by omega) (by omega);rw[<-A.o,HN.o,a0.o,<-HN.o]at B;refine B.mono ?_;rintro e w2 ⟨rfl,L⟩;have J:=z7 (I.o.call L);clear L B;obtain⟨c0,c1,c2,c3,c4,c5,c6,cf⟩:=z2X (J.o.get 0 rfl);go_wp2_with fail;refine(HS.o _).mono ?_;rintro e w3 ⟨rfl,O⟩;have Y:=z7 (J.o.call O);clear O;go_wp2;go_ret;exact⟨rfl,Y.o.low⟩
def y0U(W:World)(l:List Bool)(x:z1M)(e:Ending)(w':World):Prop:=
 ∃a n c b,e= .returned (.tuple #[.agg #[.slice a n c,.int .i64 l.length],.agg #[.int .i64 (x.n:Nat),.int .i64 x.last,.int .i64 x.delta,.bool x.val.has,.int .u64 (x.val.prev:Nat),.int .u8 (x.val.lead:Nat),.int .u8 (x.val.width:Nat)],.int .u16 0])/\w'.ownsRow W.heap.size 5 1 (.slice a n c) n (z0b b)/\n=b.length/\z0R b l/\Below W.heap.size W w'
theorem y5h(v:Int):(z9u v).length<=69:=by
 unfold z9u;rw[List.length_append,z0X];have A:(z9Q (z0H (z4s v))).length<=5:=by unfold z9Q;split<;>simp;omega
 have B:=(z6C (z5q (z4s v))).2.2.2;omega
theorem z5s{n m:Int}(h:IntKind.i64.wrap n=m):Go.RowKit.wrap64 n=m:=by rw[q2F,h]
theorem q5y(a:Option Addr)(n c:Nat)(l:List Bool)(b:List UInt8)(en:Nat)(el ed:Int)(has:Bool)(prev lead width:Nat)(t:Int)(v:Nat)(he:z1M.Ok ⟨en,el,ed,⟨has,prev,lead,width⟩⟩)(hs:z1c.Ok ⟨t,v⟩)(ht:0<en->el<t)(aD:en<=1099511627776)(w:World)(h:z0r w a n c l b)(hl:l.length<=549755812000)(hT:z1u w):
  Calls prog 38 #[.agg #[.slice a n c,.int .i64 l.length],.agg #[.int .i64 en,.int .i64 el,.int .i64 ed,.bool has,.int .u64 prev,.int .u8 lead,.int .u8 width],.agg #[.int .i64 t,.int .u64 v]] w (y0U w (l++(z3a ⟨en,el,ed,⟨has,prev,lead,width⟩⟩ ⟨t,v⟩).1) (z3a ⟨en,el,ed,⟨has,prev,lead,width⟩⟩ ⟨t,v⟩).2):=by
 obtain⟨N,hN⟩:=zN l.length;have aX:=z7 (fun w' (hb:z0r w' a n c l b)=>y4l a n c l b en el ed has prev lead width he w' hb (by omega));rw[<-hN]at aX ⊢;have bA:N<=549755812000:=by omega
 have HX:=z7 (fun(a':Option Addr) n' c' l' b' w' (h':z0r w' a' n' c' l' b') (b4:l'.length<=549755813000) (b2:z1u w')=>q4P a' n' c' l' b' has prev lead width v he.val he.prev hs.2.2 w' h' b4 b2);obtain⟨X,hX⟩:=zN (z4S ⟨has,prev,lead,width⟩ v);rw[<-hX]at HX;obtain⟨Xl,⟨xh,xp,xl,xw⟩⟩:=X;unfold y1E at HX;simp only at HX;have aO:=z7 ((((((Loc.start w).new (.cells #[.slice a n c,.int .i64 (N:Nat)] 49)).new' (.cells #[.int .i64 en,.int .i64 el,.int .i64 ed,.bool has,.int .u64 prev,.int .u8 lead,.int .u8 width] 98) (n:=w.heap.size+1) (by simp)).new' (.cells #[.int .i64 t,.int .u64 v] 71) (n:=w.heap.size+1+1) (by simp)).new' (.cells #[.slice none 0 0,.int .i64 0] 49) (n:=w.heap.size+1+1+1) (by simp)).new' (.cells #[.int .i64 0,.int .i64 0,.int .i64 0,.bool false,.int .u64 0,.int .u8 0,.int .u8 0] 98) (n:=w.heap.size+1+1+1+1) (by simp));have H:=z7 h;have HN:=z7 hN;have HT:=z7 (fun w' (hb:Below w.heap.size w w')=>hT.low hb);have b8:IntKind.i64.wrap ((en:Int)+1)=((en+1:Nat):Int):=z0n (by omega) (by omega);have hu:IntKind.u64.wrap t=(y3X t:Int):=by rw[IntKind.wrap_u64];unfold y3X;omega
 by_cases h0:en=0
 ·have hz:=he.zero h0;simp only[z0h,zeroV,z1M.mk.injEq,z4Z.mk.injEq]at hz;obtain⟨rfl,rfl,rfl,rfl,rfl,rfl,rfl⟩:=hz;have b9:IntKind.i64.wrap 1=1:=by rw[IntKind.wrap_i64];rfl
  obtain⟨U,hU⟩:=zN (y3X t);have aY:U<18446744073709551616:=by rw[hU];exact y7Y t
  rw[<-hU]at hu;have aB:Hid (z3a z0h ⟨t,v⟩=(z2U U 64++Xl,⟨1,t,0,⟨xh,xp,xl,xw⟩⟩)):=z7 (by
   have h9:z3a z0h ⟨t,v⟩=(z2U (y3X t) 64++(z4S ⟨false,0,0,0⟩ v).1,⟨1,t,0,(z4S ⟨false,0,0,0⟩ v).2⟩):=rfl;rw[h9,<-hX,<-hU])
  have aL:z3a ⟨0,0,0,⟨false,0,0,0⟩⟩ ⟨t,v⟩=(z2U U 64++Xl,⟨1,t,0,⟨xh,xp,xl,xw⟩⟩):=aB.o;rw[aL];simp only;obtain⟨R,a9⟩:=zN (l++(z2U U 64++Xl));rw[<-a9];have aV:=z7 a9;clear a9 aL aB he hs ht h0 h hN hl hT hX hU aD;go_enter func38,ntmps38;go_wp2_with fail;refine(aX.o _ (H.o.low aO.o.low)).mono ?_;rintro e w2 ⟨rfl,aH⟩;have I:=z7 (aO.o.call aH);clear aH;obtain⟨c0,c1,cf⟩:=z0i (I.o.get 4 rfl);obtain⟨e0,e1,e2,e3,e4,e5,e6,ef⟩:=z2X (I.o.get 3 rfl);obtain⟨s0,s1,sf⟩:=z0i (I.o.get 2 rfl);go_wp2_with fail;have hP:=y3C a n c l b U 64 w2 (H.o.low I.o.low) (by have:=HN.o;omega) aY (by decide);rw[<-HN.o]at hP;refine hP.mono ?_;rintro e w3 ⟨a3,n3,c3,b3,rfl,O,aM,A,aI⟩;obtain⟨l3,a1⟩:=zN (l++z2U U 64);have aW:l3.length<=549755812100:=by rw[a1,List.length_append,z0X];have:=HN.o;omega
  have aE:Hid (R=l3++Xl):=z7 (by rw[aV.o,a1,List.append_assoc]);rw[<-a1]at A ⊢;obtain⟨N3,a7⟩:=zN l3.length;rw[<-a7];have aT:=z7 a7;have a0:=z7 (I.o.call aI);have b0:w.heap.size+1+1+1+1<w2.heap.size:=I.o.lt 0 rfl;have a2:=z7 (z0F (b:=w.heap.size+1) (j:=1) (u:= .int .i64 t) (z0F (b:=w.heap.size+1) (j:=0) (u:=(.int .i64 1)) (z0F (b:=w.heap.size) (j:=1) (u:= .int .i64 N3) (z0F (b:=w.heap.size) (j:=0) (u:= .slice a3 n3 c3) O (by omega)) (by omega)) (by omega)) (by omega));have aS:=z7 aM;have aR:=z7 A;clear O aM A aI a1 a7 hP c0 c1 cf e0 e1 e2 e3 e4 e5 e6 ef s0 s1 sf;obtain⟨c0,c1,cf⟩:=z0i (a0.o.get 4 rfl);obtain⟨e0,e1,e2,e3,e4,e5,e6,ef⟩:=z2X (a0.o.get 3 rfl);obtain⟨s0,s1,sf⟩:=z0i (a0.o.get 2 rfl);go_upto_region 13 with fail
  obtain⟨W4,aG,aF⟩:=(show Loc w [(w.heap.size+1+1+1+1,.cells #[.int .i64 0,.int .i64 0,.int .i64 0,.bool false,.int .u64 0,.int .u8 0,.int .u8 0] 98 (0,0)),(w.heap.size+1+1+1,.cells #[.slice none 0 0,.int .i64 0] 49 (0,0)),(w.heap.size+1+1,.cells #[.int .i64 t,.int .u64 v] 71 (0,0)),(w.heap.size+1,.cells #[(.int .i64 1),.int .i64 t,.int .i64 0,.bool false,.int .u64 0,.int .u8 0,.int .u8 0] 98 (0,0)),(w.heap.size,.cells #[.slice a3 n3 c3,.int .i64 N3] 49 (0,0))] _ from(((a0.o.set2 4 rfl (.slice a3 n3 c3) (.int .i64 N3)).set 3 rfl 0 (.int .i64 1)).set 3 rfl 1 (.int .i64 t))).named;rw[<-aG]at a2 ⊢;have J:=z7 aF;clear aF aG c0 c1 cf e0 e1 e2 e3 e4 e5 e6 ef s0 s1 sf;obtain⟨c0,c1,cf⟩:=z0i (J.o.get 4 rfl);obtain⟨e0,e1,e2,e3,e4,e5,e6,ef⟩:=z2X (J.o.get 3 rfl);obtain⟨s0,s1,sf⟩:=z0i (J.o.get 2 rfl);go_wp2_with fail;have hX:=HX.o a3 n3 c3 l3 b3 W4 (z5l a2.o aS.o aR.o) (by omega) (HT.o _ J.o.low);rw[<-aT.o,<-aE.o]at hX;refine hX.mono ?_;rintro e w5 ⟨a5,n5,c5,b5,rfl,Y,aN,B,aJ⟩;obtain⟨N5,a8⟩:=zN R.length;rw[<-a8];have L:=z7 (J.o.call aJ);have b1:w.heap.size+1+1+1+1<W4.heap.size:=J.o.lt 0 rfl;have a6:=z7 Y;have aC:=z7 aN;have aA:=z7 B;have aU:=z7 a8;clear Y aN B aJ a8 hX c0 c1 cf e0 e1 e2 e3 e4 e5 e6 ef s0 s1 sf;obtain⟨c0,c1,cf⟩:=z0i (L.o.get 4 rfl);obtain⟨e0,e1,e2,e3,e4,e5,e6,ef⟩:=z2X (L.o.get 3 rfl)
  obtain⟨r0,r1,rf⟩:=z0i (L.o.get 1 rfl);obtain⟨x0,x1,x2,x3,x4,x5,x6,xf⟩:=z2X (L.o.get 0 rfl);go_wp2_with fail;go_region
  go_wp2;have a4:=((((L.o.set2 4 rfl (.slice a5 n5 c5) (.int .i64 N5)).set7_3_4 3 rfl (.bool xh) (.int .u64 xp) (.int .u8 xl) (.int .u8 xw)).set2 1 rfl (.slice a5 n5 c5) (.int .i64 N5)).set7 0 rfl (.int .i64 1) (.int .i64 t) (.int .i64 0) (.bool xh) (.int .u64 xp) (.int .u8 xl) (.int .u8 xw)).drew;refine bodyPost_ret (y5v rfl _ _ (w.heap.size+1+1+1) _ _ rfl (a4.get 1 rfl) rfl (w.heap.size+1+1+1+1) _ _ _ _ _ _ _ rfl (a4.get 0 rfl) rfl) rfl ?_;refine⟨a5,n5,c5,b5,by rw[<-aU.o];rfl,?_,aC.o,aA.o,a4.low⟩;have g0:=a6.o;have g1:=z6m (b:=w.heap.size+1) (x0:= .bool xh) (x1:= .int .u64 xp) (x2:= .int .u8 xl) (x3:= .int .u8 xw) (z5i (b:=w.heap.size) (x0:= .slice a5 n5 c5) (x1:= .int .i64 N5) g0 (by omega)) (by omega);have g2:=z5k (b:=w.heap.size+1+1+1+1) (x0:= .int .i64 1) (x1:= .int .i64 t) (x2:= .int .i64 0) (x3:= .bool xh) (x4:= .int .u64 xp) (x5:= .int .u8 xl) (x6:= .int .u8 xw) (z5i (b:=w.heap.size+1+1+1) (x0:= .slice a5 n5 c5) (x1:= .int .i64 N5) g1 (by omega)) (by omega);exact z0c (z4i g2) (by omega:w.heap.size<=W4.heap.size)
 ·have d0:((en:Int)==0)=false:=by simp;omega
  have d1:decide ((0:Int)<en)=true:=decide_eq_true (by omega);have n1:decide (0<en)=true:=decide_eq_true (by omega);have d2:decide (t<=el)=false:=decide_eq_false (by have:=ht (by omega);omega);obtain⟨D,hD⟩:=zN (w64 (t - el));obtain⟨Z,hZ⟩:=zN (w64 (D - ed));have aZ: -9223372036854775808<=Z/\Z<=9223372036854775807:=by rw[hZ];exact z2w _
  have b6:IntKind.i64.wrap (t - el)=D:=hD.symm;have b7:IntKind.i64.wrap (D - ed)=Z:=hZ.symm;have bB:=z5s b6;have bC:=z5s b7;obtain⟨M,hM⟩:=zN (en+1);rw[<-hM]at b8;have aB:Hid (z3a ⟨en,el,ed,⟨has,prev,lead,width⟩⟩ ⟨t,v⟩=(z9u Z++Xl,⟨M,t,D,⟨xh,xp,xl,xw⟩⟩)):=z7 (by unfold z3a;simp only;rw[if_neg h0,<-hX,<-hD,<-hZ,<-hM]);rw[aB.o];simp only;obtain⟨R,a9⟩:=zN (l++(z9u Z++Xl));rw[<-a9];have aV:=z7 a9;clear a9 hM aB he hs ht h0 h hN hl hT hX hD hZ aD;go_enter func38,ntmps38;go_wp2_with fail;refine(aX.o _ (H.o.low aO.o.low)).mono ?_;rintro e w2 ⟨rfl,aH⟩;have I:=z7 (aO.o.call aH);clear aH;obtain⟨c0,c1,cf⟩:=z0i (I.o.get 4 rfl);obtain⟨e0,e1,e2,e3,e4,e5,e6,ef⟩:=z2X (I.o.get 3 rfl);obtain⟨s0,s1,sf⟩:=z0i (I.o.get 2 rfl);go_wp2_with fail;have hP:=q5i a n c l b Z w2 (H.o.low I.o.low) (by have:=HN.o;omega) aZ.1 aZ.2;rw[<-HN.o]at hP;refine hP.mono ?_;rintro e w3 ⟨a3,n3,c3,b3,rfl,O,aM,A,aI⟩;obtain⟨l3,a1⟩:=zN (l++z9u Z);have aW:l3.length<=549755812100:=by rw[a1,List.length_append];have:=y5h Z;have:=HN.o;omega
  have aE:Hid (R=l3++Xl):=z7 (by rw[aV.o,a1,List.append_assoc]);rw[<-a1]at A ⊢;obtain⟨N3,a7⟩:=zN l3.length;rw[<-a7];have aT:=z7 a7;have a0:=z7 (I.o.call aI);have b0:w.heap.size+1+1+1+1<w2.heap.size:=I.o.lt 0 rfl;have a2:=z7 (z0F (b:=w.heap.size+1) (j:=1) (u:= .int .i64 t) (z0F (b:=w.heap.size+1) (j:=0) (u:=(.int .i64 (M:Nat))) (z0F (b:=w.heap.size+1) (j:=2) (u:= .int .i64 D) (z0F (b:=w.heap.size) (j:=1) (u:= .int .i64 N3) (z0F (b:=w.heap.size) (j:=0) (u:= .slice a3 n3 c3) O (by omega)) (by omega)) (by omega)) (by omega)) (by omega));have aS:=z7 aM;have aR:=z7 A;clear O aM A aI a1 a7 hP c0 c1 cf e0 e1 e2 e3 e4 e5 e6 ef s0 s1 sf;obtain⟨c0,c1,cf⟩:=z0i (a0.o.get 4 rfl);obtain⟨e0,e1,e2,e3,e4,e5,e6,ef⟩:=z2X (a0.o.get 3 rfl);obtain⟨s0,s1,sf⟩:=z0i (a0.o.get 2 rfl);go_upto_region 13 with fail
  obtain⟨W4,aG,aF⟩:=(show Loc w [(w.heap.size+1+1+1+1,.cells #[.int .i64 0,.int .i64 0,.int .i64 0,.bool false,.int .u64 0,.int .u8 0,.int .u8 0] 98 (0,0)),(w.heap.size+1+1+1,.cells #[.slice none 0 0,.int .i64 0] 49 (0,0)),(w.heap.size+1+1,.cells #[.int .i64 t,.int .u64 v] 71 (0,0)),(w.heap.size+1,.cells #[(.int .i64 (M:Nat)),.int .i64 t,.int .i64 D,.bool has,.int .u64 prev,.int .u8 lead,.int .u8 width] 98 (0,0)),(w.heap.size,.cells #[.slice a3 n3 c3,.int .i64 N3] 49 (0,0))] _ from((((a0.o.set2 4 rfl (.slice a3 n3 c3) (.int .i64 N3)).set 3 rfl 2 (.int .i64 D)).set 3 rfl 0 (.int .i64 (M:Nat))).set 3 rfl 1 (.int .i64 t))).named;rw[<-aG]at a2 ⊢;have J:=z7 aF;clear aF aG c0 c1 cf e0 e1 e2 e3 e4 e5 e6 ef s0 s1 sf;obtain⟨c0,c1,cf⟩:=z0i (J.o.get 4 rfl);obtain⟨e0,e1,e2,e3,e4,e5,e6,ef⟩:=z2X (J.o.get 3 rfl);obtain⟨s0,s1,sf⟩:=z0i (J.o.get 2 rfl);go_wp2_with fail;have hX:=HX.o a3 n3 c3 l3 b3 W4 (z5l a2.o aS.o aR.o) (by omega) (HT.o _ J.o.low);rw[<-aT.o,<-aE.o]at hX;refine hX.mono ?_;rintro e w5 ⟨a5,n5,c5,b5,rfl,Y,aN,B,aJ⟩;obtain⟨N5,a8⟩:=zN R.length;rw[<-a8];have L:=z7 (J.o.call aJ);have b1:w.heap.size+1+1+1+1<W4.heap.size:=J.o.lt 0 rfl;have a6:=z7 Y;have aC:=z7 aN;have aA:=z7 B;have aU:=z7 a8;clear Y aN B aJ a8 hX c0 c1 cf e0 e1 e2 e3 e4 e5 e6 ef s0 s1 sf;obtain⟨c0,c1,cf⟩:=z0i (L.o.get 4 rfl)
  obtain⟨e0,e1,e2,e3,e4,e5,e6,ef⟩:=z2X (L.o.get 3 rfl);obtain⟨r0,r1,rf⟩:=z0i (L.o.get 1 rfl);obtain⟨x0,x1,x2,x3,x4,x5,x6,xf⟩:=z2X (L.o.get 0 rfl);go_wp2_with fail;go_region
  go_wp2;have a4:=((((L.o.set2 4 rfl (.slice a5 n5 c5) (.int .i64 N5)).set7_3_4 3 rfl (.bool xh) (.int .u64 xp) (.int .u8 xl) (.int .u8 xw)).set2 1 rfl (.slice a5 n5 c5) (.int .i64 N5)).set7 0 rfl (.int .i64 (M:Nat)) (.int .i64 t) (.int .i64 D) (.bool xh) (.int .u64 xp) (.int .u8 xl) (.int .u8 xw)).drew;refine bodyPost_ret (y5v rfl _ _ (w.heap.size+1+1+1) _ _ rfl (a4.get 1 rfl) rfl (w.heap.size+1+1+1+1) _ _ _ _ _ _ _ rfl (a4.get 0 rfl) rfl) rfl ?_;refine⟨a5,n5,c5,b5,by rw[<-aU.o];rfl,?_,aC.o,aA.o,a4.low⟩;have g0:=a6.o;have g1:=z6m (b:=w.heap.size+1) (x0:= .bool xh) (x1:= .int .u64 xp) (x2:= .int .u8 xl) (x3:= .int .u8 xw) (z5i (b:=w.heap.size) (x0:= .slice a5 n5 c5) (x1:= .int .i64 N5) g0 (by omega)) (by omega);have g2:=z5k (b:=w.heap.size+1+1+1+1) (x0:= .int .i64 (M:Nat)) (x1:= .int .i64 t) (x2:= .int .i64 D) (x3:= .bool xh) (x4:= .int .u64 xp) (x5:= .int .u8 xl) (x6:= .int .u8 xw) (z5i (b:=w.heap.size+1+1+1) (x0:= .slice a5 n5 c5) (x1:= .int .i64 N5) g1 (by omega)) (by omega);exact z0c (z4i g2) (by omega:w.heap.size<=W4.heap.size)
theorem y0Q{fn:Func}{A B I J:Tmp}(h:fn.results= #[.tmp A,.tmp B,.tmp I,.tmp J])(tmps:Array Value)(w:World):
  (results fn tmps).run prog w= .ok (.tuple #[tmps.getD A undef,tmps.getD B undef,tmps.getD I undef,tmps.getD J undef]) w:=by
 simp[results,h,go_sem]
def z6s(l:List Bool)(i:Nat)(x:z1M)(w:World)(e:Ending)(w':World):Prop:=
 Below w.heap.size w w'/\((∃t d p,z5W x (l.drop i)=some (t,d,l.drop p)/\p<=l.length/\e= .returned (.tuple #[.int .i64 t,.int .i64 d,.int .i64 (p:Nat),.bool true]))\/
  (z5W x (l.drop i)=none/\∃t d p:Int,e= .returned (.tuple #[.int .i64 t,.int .i64 d,.int .i64 p,.bool false])))
theorem q4e(a:Option Addr)(n c:Nat)(l:List Bool)(b:List UInt8)(i:Nat)(U:Nat)(el I:Int)(has:Bool)(prev lead width:Nat)(w:World)(h:z0r w a n c l b)(hl:l.length<=549755813000)(hi:i<=l.length):
  Calls prog 141 #[.agg #[.slice a n c,.int .i64 l.length],.int .i64 i,.agg #[.int .i64 U,.int .i64 el,.int .i64 I,.bool has,.int .u64 prev,.int .u8 lead,.int .u8 width]] w (z6s l i ⟨U,el,I,⟨has,prev,lead,width⟩⟩ w):=by
 obtain⟨N,hN⟩:=zN l.length;have HB:=z7 (y1i a n c l b i 64);have HZ:=z7 (q5s a n c l b i);rw[<-hN]at HB HZ ⊢;have aA:N<=549755813000:=by omega
 have aB:i<=N:=by omega
 have H:=z7 h;have HN:=z7 hN;have R:=z7 (((Loc.start w).new (.cells #[.slice a n c,.int .i64 (N:Nat)] 49)).new' (.cells #[.int .i64 U,.int .i64 el,.int .i64 I,.bool has,.int .u64 prev,.int .u8 lead,.int .u8 width] 98) (n:=w.heap.size+1) (by simp));clear h hN hl hi;by_cases h0:U=0
 ·subst h0;have aC:IntKind.i64.wrap ((i:Int)+64)=((i+64:Nat):Int):=by rw[z0n (by omega) (by omega)];omega
  go_enter func141,ntmps141;go_wp2_with fail;refine(HB.o _ (H.o.low R.o.low) (by have:=HN.o;omega) (by omega) (by decide)).mono ?_;rintro e w2 ⟨rfl,L⟩;have J:=z7 (R.o.call L);clear L;obtain⟨V,hV⟩:=zN (z2E l i 64);obtain⟨E,hE⟩:=zN (z2e l i 64);rw[<-hV,<-hE];have HV:=z7 hV;have HE:=z7 hE;obtain⟨T,B⟩:=zN (w64 (V:Int));have aE:IntKind.i64.wrap (V:Int)=T:=B.symm;have a5:=z7 B;clear hV hE B;by_cases hE0:E=0
  ·have O:Hid (∀w',Below w.heap.size w w'->z6s l i ⟨0,el,I,⟨has,prev,lead,width⟩⟩ w (.returned (.tuple #[.int .i64 T,.int .i64 0,.int .i64 ((i+64:Nat):Int),.bool true])) w'):=z7 fun w' hb=>by
    have h1:z2e l i 64=0:=(by rw[<-HE.o];exact hE0);refine⟨hb,.inl ⟨T,0,i+64,?_,z1Y.1 h1,rfl⟩⟩;unfold z5W;rw[if_pos rfl,z5c h1,a5.o,HV.o];rfl
   subst hE0;go_wp2;refine bodyPost_ret (y0Q rfl _ _) rfl ?_;exact O.o _ J.o.low
  ·have d0:((E:Int)==0)=false:=(by simp;omega);have O:Hid (∀w',Below w.heap.size w w'->z6s l i ⟨0,el,I,⟨has,prev,lead,width⟩⟩ w (.returned (.tuple #[.int .i64 T,.int .i64 0,.int .i64 ((i+64:Nat):Int),.bool false])) w'):=z7 fun w' hb=>by
    refine⟨hb,.inr ⟨?_,T,0,_,rfl⟩⟩;unfold z5W;rw[if_pos rfl,rd_not (by have:=HN.o;omega) (by rw[<-HE.o];exact hE0)];rfl
   clear hE0;go_wp2;refine bodyPost_ret (y0Q rfl _ _) rfl ?_;exact O.o _ J.o.low
 ·have d0:((U:Int)==0)=false:=by simp;omega
  have a3:Hid (z5W ⟨U,el,I,⟨has,prev,lead,width⟩⟩ (l.drop i)=match z8l (l.drop i)with
   | none=>none
   | some (d,r)=>if el<w64 (el+w64 (d+I))then some (w64 (el+w64 (d+I)),w64 (d+I),r)else none):=z7 (by unfold z5W;rw[if_neg h0];rfl)
  clear h0;go_enter func141,ntmps141;go_wp2_with fail;refine(HZ.o _ (H.o.low R.o.low) (by have:=HN.o;omega) (by have:=HN.o;omega)).mono ?_;rintro e w2 ⟨L,a0⟩;have J:=z7 (R.o.call L);clear L;obtain⟨e0,e1,e2,e3,e4,e5,e6,ef⟩:=z2X (J.o.get 0 rfl);rcases a0 with⟨v,r,hz,Y,a4,rfl⟩|⟨hz,x,a9,aF,rfl⟩
  ·obtain⟨p,hp⟩:=zN (l.length - r.length);rw[<-hp]at Y ⊢;have a6:p<=l.length:=(by omega);obtain⟨D,hD⟩:=zN (w64 (v+I));obtain⟨T,B⟩:=zN (w64 (el+D));have a1:IntKind.i64.wrap (v+I)=D:=hD.symm;have a2:IntKind.i64.wrap (el+D)=T:=B.symm;have a7:=z5s a1;have a8:=z5s a2;have A:=a3.o;rw[hz]at A;simp only at A;rw[<-hD,<-B,Y]at A;by_cases hlt:el<T
   ·have O:Hid (∀w',Below w.heap.size w w'->z6s l i ⟨U,el,I,⟨has,prev,lead,width⟩⟩ w (.returned (.tuple #[.int .i64 T,.int .i64 D,.int .i64 (p:Nat),.bool true])) w'):=z7 fun w' hb=>by
     rw[if_pos hlt]at A;exact⟨hb,.inl ⟨T,D,p,A,a6,rfl⟩⟩
    have d1:decide (el<T)=true:=decide_eq_true hlt;clear A hD B hz Y a4 hp hlt;go_wp2_with fail;go_quiet (fail)
    go_wp2;refine bodyPost_ret (y0Q rfl _ _) rfl ?_;exact O.o _ (z0k J.o.low)
   ·have O:Hid (∀w',Below w.heap.size w w'->z6s l i ⟨U,el,I,⟨has,prev,lead,width⟩⟩ w (.returned (.tuple #[.int .i64 T,.int .i64 D,.int .i64 (p:Nat),.bool false])) w'):=z7 fun w' hb=>by
     rw[if_neg hlt]at A;exact⟨hb,.inr ⟨A,_,_,_,rfl⟩⟩
    have d1:decide (el<T)=false:=decide_eq_false hlt;clear A hD B hz Y a4 hp hlt;go_wp2_with fail;go_quiet (fail)
    go_wp2;refine bodyPost_ret (y0Q rfl _ _) rfl ?_;exact O.o _ (z0k J.o.low)
  ·have A:=a3.o;rw[hz]at A;obtain⟨D,hD⟩:=zN (w64 (0+I));rw[Int.zero_add]at hD;obtain⟨T,B⟩:=zN (w64 (el+D));have a1:IntKind.i64.wrap I=D:=hD.symm;have a2:IntKind.i64.wrap (el+D)=T:=B.symm;have a7:=z5s a1;have a8:=z5s a2;have d1:((x:Int)==0)=false:=(by simp;omega);have O:Hid (∀w' (t d p:Int),Below w.heap.size w w'->z6s l i ⟨U,el,I,⟨has,prev,lead,width⟩⟩ w (.returned (.tuple #[.int .i64 t,.int .i64 d,.int .i64 p,.bool false])) w'):=z7 fun w' t d p hb=>⟨hb,.inr ⟨A,t,d,p,rfl⟩⟩;clear A hD B hz a9;go_wp2_with fail;go_quiet (fail)
   go_wp2;refine bodyPost_ret (y0Q rfl _ _) rfl ?_;exact O.o _ _ _ _ (z0k J.o.low)
def z7C(l:List Bool)(i:Nat)(x:z1M)(w:World)(e:Ending)(w':World):Prop:=
 Below w.heap.size w w'/\((∃s y p,z1n x (l.drop i)=some (s,y,l.drop p)/\i<p/\p<=l.length/\e= .returned (.tuple #[.agg #[.int .i64 s.t,.int .u64 (s.v:Nat)],.int .i64 (p:Nat),.agg #[.int .i64 (y.n:Nat),.int .i64 y.last,.int .i64 y.delta,.bool y.val.has,.int .u64 (y.val.prev:Nat),.int .u8 (y.val.lead:Nat),.int .u8 (y.val.width:Nat)],.int .u16 0]))\/
  (z1n x (l.drop i)=none/\e= .returned (.tuple #[.agg #[.int .i64 0,.int .u64 0],.int .i64 0,.agg #[.int .i64 0,.int .i64 0,.int .i64 0,.bool false,.int .u64 0,.int .u8 0,.int .u8 0],.int .u16 61])))
theorem q2O(a:Option Addr)(n c:Nat)(l:List Bool)(b:List UInt8)(i:Nat)(J:Nat)(el O:Int)(has:Bool)(prev lead width:Nat)(he:z1M.Ok ⟨J,el,O,⟨has,prev,lead,width⟩⟩)(aC:J<=1099511627776)(w:World)(h:z0r w a n c l b)(hl:l.length<=549755813000)(hi:i<=l.length)(hT:z1u w):
  Calls prog 118 #[.agg #[.slice a n c,.int .i64 l.length],.int .i64 i,.agg #[.int .i64 J,.int .i64 el,.int .i64 O,.bool has,.int .u64 prev,.int .u8 lead,.int .u8 width]] w (z7C l i ⟨J,el,O,⟨has,prev,lead,width⟩⟩ w):=by
 obtain⟨N,hN⟩:=zN l.length;have a3:=z7 (fun w' (hb:z0r w' a n c l b)=>y4l a n c l b J el O has prev lead width he w' hb (by omega));have a1:=z7 (fun w' (hb:z0r w' a n c l b)=>q4e a n c l b i J el O has prev lead width w' hb hl hi);have a4:=z7 (fun w' (hb:z0r w' a n c l b) p (hp:p<=l.length) (aB:z1u w')=>q4I a n c l b p has prev lead width w' hb hl hp he.val he.prev aB);rw[<-hN]at a3 a1 a4 ⊢;have aL:N<=549755813000:=by omega
 have aM:i<=N:=by omega
 have aG:IntKind.i64.wrap ((J:Int)+1)=((J+1:Nat):Int):=z0n (by omega) (by omega);obtain⟨M,hM⟩:=zN (J+1);rw[<-hM]at aG;have a0:=z7 (((((Loc.start w).new (.cells #[.slice a n c,.int .i64 (N:Nat)] 49)).new' (.cells #[.int .i64 J,.int .i64 el,.int .i64 O,.bool has,.int .u64 prev,.int .u8 lead,.int .u8 width] 98) (n:=w.heap.size+1) (by simp)).new' (.cells #[.int .i64 0,.int .u64 0] 71) (n:=w.heap.size+1+1) (by simp)).new' (.cells #[.int .i64 0,.int .i64 0,.int .i64 0,.bool false,.int .u64 0,.int .u8 0,.int .u8 0] 98) (n:=w.heap.size+1+1+1) (by simp));have H:=z7 h;have HN:=z7 hN;have HE:=z7 he;have HM:=z7 hM;have HT:=z7 (fun w' (hb:Below w.heap.size w w')=>hT.low hb);clear h hN hl hi hT he hM aC;go_enter func118,ntmps118;go_wp2_with fail;refine(a3.o _ (H.o.low a0.o.low)).mono ?_;rintro e w2 ⟨rfl,a5⟩;have U:=z7 (a0.o.call a5);clear a5;obtain⟨c0,c1,cf⟩:=z0i (U.o.get 3 rfl);obtain⟨e0,e1,e2,e3,e4,e5,e6,ef⟩:=z2X (U.o.get 2 rfl);go_wp2_with fail;refine(a1.o _ (H.o.low U.o.low)).mono ?_;rintro e w3 ⟨a6,L⟩;have B:=z7 (U.o.call a6);clear a6 c0 c1 cf e0 e1 e2 e3 e4 e5 e6 ef;obtain⟨c0,c1,cf⟩:=z0i (B.o.get 3 rfl);obtain⟨e0,e1,e2,e3,e4,e5,e6,ef⟩:=z2X (B.o.get 2 rfl);rcases L with⟨t,d,p,R,aA,rfl⟩|⟨R,t,d,p,rfl⟩
 ·have a2:=z7 R;have aJ:=z7 aA;have aE:p<=N:=by have:=HN.o;omega
  clear R aA;go_wp2_with fail;refine(a4.o _ (H.o.low B.o.low) p aE (HT.o _ B.o.low)).mono ?_;rintro e w4 ⟨a7,L⟩;have I:=z7 (B.o.call a7);clear a7 c0 c1 cf e0 e1 e2 e3 e4 e5 e6 ef;obtain⟨e0,e1,e2,e3,e4,e5,e6,ef⟩:=z2X (I.o.get 2 rfl);obtain⟨r0,r1,rf⟩:=z0i (I.o.get 1 rfl);obtain⟨x0,x1,x2,x3,x4,x5,x6,xf⟩:=z2X (I.o.get 0 rfl);have l0:=I.o.lt 0 rfl;have l1:=I.o.lt 1 rfl;have l2:=I.o.lt 2 rfl;rcases L with⟨v,s2,r,hx,Y,aF,rfl⟩|⟨hx,x,aH,aI,rfl⟩
  ·obtain⟨p2,a9⟩:=zN (l.length - r.length);rw[<-a9]at Y ⊢;obtain⟨sh,sp,sl,sw⟩:=s2;have HF:Hid (∀w',Below w.heap.size w w'->z7C l i ⟨J,el,O,⟨has,prev,lead,width⟩⟩ w (.returned (.tuple #[.agg #[.int .i64 t,.int .u64 v],.int .i64 p2,.agg #[.int .i64 (M:Nat),.int .i64 t,.int .i64 d,.bool sh,.int .u64 sp,.int .u8 sl,.int .u8 sw],.int .u16 0])) w'):=z7 fun w' hb=>by
    have hc:z1n ⟨J,el,O,⟨has,prev,lead,width⟩⟩ (l.drop i)=some (⟨t,v⟩,⟨M,t,d,⟨sh,sp,sl,sw⟩⟩,l.drop p2):=by
     unfold z1n;rw[a2.o];simp only;rw[hx,HM.o,<-Y]
    have a8:=(z1N HE.o hc).1;simp only[List.length_drop]at a8;exact⟨hb,.inl ⟨_,_,p2,hc,by omega,by omega,rfl⟩⟩
   clear hx Y aF a9;go_wp2_with fail;go_region
   go_wp2;have A:=((((I.o.set2 1 rfl (.int .i64 t) (.int .u64 v)).set7 0 rfl (.int .i64 (M:Nat)) (.int .i64 t) (.int .i64 d) (.bool sh) (.int .u64 sp) (.int .u8 sl) (.int .u8 sw))).call (q5 _ (.cells #[.bool sh,.int .u64 sp,.int .u8 sl,.int .u8 sw] 96))).drew;refine bodyPost_ret (y1N rfl _ _ (w.heap.size+1+1) _ _ rfl (A.get 1 rfl) rfl (w.heap.size+1+1+1) _ _ _ _ _ _ _ rfl (A.get 0 rfl) rfl) rfl ?_;exact HF.o _ A.low
  ·have HF:Hid (∀w',Below w.heap.size w w'->z7C l i ⟨J,el,O,⟨has,prev,lead,width⟩⟩ w (.returned (.tuple #[.agg #[.int .i64 0,.int .u64 0],.int .i64 0,.agg #[.int .i64 0,.int .i64 0,.int .i64 0,.bool false,.int .u64 0,.int .u8 0,.int .u8 0],.int .u16 61])) w'):=z7 fun w' hb=>by
    have hc:z1n ⟨J,el,O,⟨has,prev,lead,width⟩⟩ (l.drop i)=none:=by
     unfold z1n;rw[a2.o];simp only;rw[hx]
    exact⟨hb,.inr ⟨hc,rfl⟩⟩
   have d1:((x:Int)==0)=false:=(by simp;omega);clear hx aH aI;go_wp2;have A:=(((I.o.set2 1 rfl (.int .i64 0) (.int .u64 0)).set7 0 rfl (.int .i64 0) (.int .i64 0) (.int .i64 0) (.bool false) (.int .u64 0) (.int .u8 0) (.int .u8 0))).call (q5 _ (.cells #[.bool false,.int .u64 0,.int .u8 0,.int .u8 0] 96));refine bodyPost_ret (y1N rfl _ _ (w.heap.size+1+1) _ _ rfl (A.get 1 rfl) rfl (w.heap.size+1+1+1) _ _ _ _ _ _ _ rfl (A.get 0 rfl) rfl) rfl ?_;exact HF.o _ A.low
 ·have HF:Hid (∀w',Below w.heap.size w w'->z7C l i ⟨J,el,O,⟨has,prev,lead,width⟩⟩ w (.returned (.tuple #[.agg #[.int .i64 0,.int .u64 0],.int .i64 0,.agg #[.int .i64 0,.int .i64 0,.int .i64 0,.bool false,.int .u64 0,.int .u8 0,.int .u8 0],.int .u16 61])) w'):=z7 fun w' hb=>by
   have hc:z1n ⟨J,el,O,⟨has,prev,lead,width⟩⟩ (l.drop i)=none:=by
    unfold z1n;rw[R]
   exact⟨hb,.inr ⟨hc,rfl⟩⟩
  clear R;obtain⟨r0,r1,rf⟩:=z0i (B.o.get 1 rfl);obtain⟨x0,x1,x2,x3,x4,x5,x6,xf⟩:=z2X (B.o.get 0 rfl);go_wp2;have A:=(B.o.set2 1 rfl (.int .i64 0) (.int .u64 0)).set7 0 rfl (.int .i64 0) (.int .i64 0) (.int .i64 0) (.bool false) (.int .u64 0) (.int .u8 0) (.int .u8 0);refine bodyPost_ret (y1N rfl _ _ (w.heap.size+1+1) _ _ rfl (A.get 1 rfl) rfl (w.heap.size+1+1+1) _ _ _ _ _ _ _ rfl (A.get 0 rfl) rfl) rfl ?_;exact HF.o _ A.low

/- A chunk's samples one by one. -/
import Derived.Test.YtabnnclcpkdkeaaGreatDoorZN
import Derived.Test.YtabnnclcpkdkeaaGreatDoorZO
namespace Go.Proofs.YtabnnclcpkdkeaaGreatDoor
open Go.Proofs.Tryz
set_option linter.unnecessarySimpa false
set_option linter.all false
set_option maxRecDepth 100000
set_option maxHeartbeats 0
open Go.RowKit Go.Shelf
attribute [local go_sem] Oper.semAt_some
theorem q1b{w w':World}{x:Value}{l:List UInt8}(h:RdB w x l)(L:0<l.length->∀b,x.ownBlock=some b->w'.heap[b]? =w.heap[b]?):RdB w' x l:=by
 by_cases I:0<l.length
 .exact h.keep (L I)
 have:l= []:=wT wF;subst this;refine⟨h.1,h.2.imp id ?_⟩;rintro⟨A,c',J,O⟩;exact⟨A,c',J,fun j u N=>by simp[z0c]at N⟩
def z7J:Nat->z2g->Nat->List Bool->List z1t×Bool
 | _,_,_, []=>([],true)
 | 0,_,_,_::_=>([],false)
 | f+1,e,k,b::l=>match z1D e (b::l)with
  | none=>([],false)
  | some (s,e',r)=>(⟨s,e',k+((b::l).length - r.length)⟩::(z7J f e' (k+((b::l).length - r.length)) r).1,(z7J f e' (k+((b::l).length - r.length)) r).2)
theorem z7N(f:Nat)(e:z2g)(k:Nat):z7J f e k []=([],true):=by cases f<;>rfl
theorem y0q(f:Nat)(e:z2g)(k:Nat)(b:Bool)(l:List Bool):z7J (f+1) e k (b::l)=match z1D e (b::l)with
  | none=>([],false)
  | some (s,e',r)=>(⟨s,e',k+((b::l).length - r.length)⟩::(z7J f e' (k+((b::l).length - r.length)) r).1,(z7J f e' (k+((b::l).length - r.length)) r).2):=rfl
theorem q1B(f:Nat)(e:z2g)(k:Nat)(b:Bool)(l:List Bool):z3x (f+1) e k (b::l)=match z1D e (b::l)with
  | none=>none
  | some (s,e',r)=>(z3x f e' (k+((b::l).length - r.length)) r).map (⟨s,e',k+((b::l).length - r.length)⟩::·):=rfl
theorem q3n:∀(f:Nat) (e:z2g) (k:Nat) (l:List Bool),z3x f e k l=if(z7J f e k l).2 then some (z7J f e k l).1 else none
 | f,e,k, []=>by rw[z4L,z7N];rfl
 | 0,e,k,b::l=>rfl
 | f+1,e,k,b::l=>by
  rw[q1B,y0q];cases hc:z1D e (b::l)with
  | none=>rfl
  | some q=>
   obtain⟨s,A,r⟩:=q;simp only;rw[q3n f];cases hP:(z7J f A (k+((b::l).length - r.length)) r).2<;>simp
theorem y4k:∀{f:Nat} {e:z2g} {k:Nat} {l:List Bool},e.Ok->∀g,l.length<=f->l.length<=g->z7J f e k l=z7J g e k l
 | f,e,k, [],he,g,hf,hg=>by rw[z7N,z7N]
 | 0,e,k,b::l,he,g,hf,hg=>by simp at hf
 | f+1,e,k,b::l,he,0,hf,hg=>by simp at hg
 | f+1,e,k,b::l,he,g+1,hf,hg=>by
  unfold z7J;split
  .rfl
  rename_i s L r J;have A:=z2h he J;have I:=A.1;simp only[wW]at I hf hg;rw[y4k A.2.2.1 g wF wF]
def z2o(l:List Bool)(at_:Nat)(x:z2g):List z1t×Bool:=z7J (l.length - at_) x at_ (l.drop at_)
theorem y9l{l:List Bool}{x:z2g}:z2o l l.length x=([],true):=by
 unfold z2o;rw[qi,z7N]
theorem y8X{l:List Bool}{A:Nat}{x:z2g}(h:A<l.length)(I:z1D x (l.drop A)=none):z2o l A x=([],false):=by
 unfold z2o;cases hd:l.drop A with
 | nil=>have:=uS List.length hd;simp at this;omega
 | cons b r=>
  rw[hd]at I;cases hf:l.length - A with
  | zero=>omega
  | succ f=>unfold z7J;rw[I]
theorem y9k{l:List Bool}{A p:Nat}{x y:z2g}{s:z1m}(hx:x.Ok)(h:A<l.length)(hp:p<=l.length)(Y:A<p)(J:z1D x (l.drop A)=some (s,y,l.drop p)):z2o l A x=(⟨s,y,p⟩::(z2o l p y).1,(z2o l p y).2):=by
 have hy:=(z2h hx J).2.2.1;cases hd:l.drop A with
 | nil=>have:=uS List.length hd;simp at this;omega
 | cons b r=>
  have I:(b::r).length=l.length - A:=by rw[<-hd,uE]
  rw[hd]at J;have N:l.length - A=(l.length - A - 1)+1:=wF
  obtain⟨f,L⟩:=zN (l.length - A - 1);rw[<-L]at N;have O:z2o l A x=z7J (f+1) x A (b::r):=by unfold z2o;rw[hd,N]
  have R:A+((b::r).length - (l.drop p).length)=p:=by rw[I,uE];omega
  have U:z2o l p y=z7J f y p (l.drop p):=by unfold z2o;exact y4k hy _ (by rw[uE];omega) (by rw[uE];omega)
  rw[O,y0q,J,U];simp only;rw[R]
theorem q5f(l:List Bool):z5t l=if(z2o l 0 z0i).2 then some (z2o l 0 z0i).1 else none:=q3n _ _ _ _
def wkO(a:Option Addr)(n c N at_:Nat)(x:z2g)(f:Nat):Obj:= .cells #[.slice a n c,.int .i64 N,.int .i64 at_,.int .i64 (x.n:Nat),.int .i64 x.last,.int .i64 x.delta,.bool x.val.has,.int .u64 (x.val.prev:Nat),.int .u8 (x.val.lead:Nat),.int .u8 (x.val.width:Nat),.int .u16 f] 197 (0,0)
def q5D(st:List z1t)(rB:Nat)(a:Option Addr)(n c N:Nat)(pre:List z1t)(x:z1t)(W:World):Prop:=
 (∃r,pre++x::r=st)/\W.heap[rB]? =some (wkO a n c N x.at_ x.e 0)
def q7J(B h:Nat)(W W':World):Prop:=W.heap.size<=W'.heap.size/\∀k,k<B->k≠h->W'.heap[k]? =W.heap[k]?
def q0S(rB:Nat)(X X':World):Prop:=Chg [rB] [] X X'
def z8Y(st:List z1t×Bool)(rB:Nat)(a:Option Addr)(n c N:Nat)(W:World):Prop:=
 W.heap[rB]? =some (if st.2 then wkO a n c N N (z0o z0i st.1) 0 else wkO a n c N 0 z0i 61)
def q4m(rB:Nat)(w:World):Nat:=match w.cell? ⟨rB,2,none⟩with|some (.int _ n)=>n.toNat|_=>0
def wkW(w:World)(rB at_:Nat)(x:z2g)(f:Nat):World:=
 ((((((((w.setCell ⟨rB,2,none⟩ (.int .i64 at_)).setCell ⟨rB,3,none⟩ (.int .i64 (x.n:Nat))).setCell ⟨rB,4,none⟩ (.int .i64 x.last)).setCell ⟨rB,5,none⟩ (.int .i64 x.delta)).setCell ⟨rB,6,none⟩ (.bool x.val.has)).setCell ⟨rB,7,none⟩ (.int .u64 (x.val.prev:Nat))).setCell ⟨rB,8,none⟩ (.int .u8 (x.val.lead:Nat))).setCell ⟨rB,9,none⟩ (.int .u8 (x.val.width:Nat))).setCell ⟨rB,10,none⟩ (.int .u16 f)
theorem y6D{w:World}{b:Nat}{t:TypeId}{fr:Nat×Nat}{I J y2 y3 y4 y5 Y R O L A:Value}(h:w.heap[b]? =some (.cells #[I,J,y2,y3,y4,y5,Y,R,O,L,A] t fr))(x0 x1 x2 x3 x4 x5 x6 N U:Value):(((((((((w.setCell ⟨b,2,none⟩ x0).setCell ⟨b,3,none⟩ x1).setCell ⟨b,4,none⟩ x2).setCell ⟨b,5,none⟩ x3).setCell ⟨b,6,none⟩ x4).setCell ⟨b,7,none⟩ x5).setCell ⟨b,8,none⟩ x6).setCell ⟨b,9,none⟩ N).setCell ⟨b,10,none⟩ U).heap[b]? =some (.cells #[I,J,x0,x1,x2,x3,x4,x5,x6,N,U] t fr):=by
 have h0:(w.setCell ⟨b,2,none⟩ x0).heap[b]? =some (.cells #[I,J,x0,y3,y4,y5,Y,R,O,L,A] t fr):=z0a h 2 x0;have h1:((w.setCell ⟨b,2,none⟩ x0).setCell ⟨b,3,none⟩ x1).heap[b]? =some (.cells #[I,J,x0,x1,y4,y5,Y,R,O,L,A] t fr):=z0a h0 3 x1;have h2:(((w.setCell ⟨b,2,none⟩ x0).setCell ⟨b,3,none⟩ x1).setCell ⟨b,4,none⟩ x2).heap[b]? =some (.cells #[I,J,x0,x1,x2,y5,Y,R,O,L,A] t fr):=z0a h1 4 x2;have h3:((((w.setCell ⟨b,2,none⟩ x0).setCell ⟨b,3,none⟩ x1).setCell ⟨b,4,none⟩ x2).setCell ⟨b,5,none⟩ x3).heap[b]? =some (.cells #[I,J,x0,x1,x2,x3,Y,R,O,L,A] t fr):=z0a h2 5 x3;have h4:(((((w.setCell ⟨b,2,none⟩ x0).setCell ⟨b,3,none⟩ x1).setCell ⟨b,4,none⟩ x2).setCell ⟨b,5,none⟩ x3).setCell ⟨b,6,none⟩ x4).heap[b]? =some (.cells #[I,J,x0,x1,x2,x3,x4,R,O,L,A] t fr):=z0a h3 6 x4;have h5:((((((w.setCell ⟨b,2,none⟩ x0).setCell ⟨b,3,none⟩ x1).setCell ⟨b,4,none⟩ x2).setCell ⟨b,5,none⟩ x3).setCell ⟨b,6,none⟩ x4).setCell ⟨b,7,none⟩ x5).heap[b]? =some (.cells #[I,J,x0,x1,x2,x3,x4,x5,O,L,A] t fr):=z0a h4 7 x5;have h6:(((((((w.setCell ⟨b,2,none⟩ x0).setCell ⟨b,3,none⟩ x1).setCell ⟨b,4,none⟩ x2).setCell ⟨b,5,none⟩ x3).setCell ⟨b,6,none⟩ x4).setCell ⟨b,7,none⟩ x5).setCell ⟨b,8,none⟩ x6).heap[b]? =some (.cells #[I,J,x0,x1,x2,x3,x4,x5,x6,L,A] t fr):=z0a h5 8 x6
 have h7:((((((((w.setCell ⟨b,2,none⟩ x0).setCell ⟨b,3,none⟩ x1).setCell ⟨b,4,none⟩ x2).setCell ⟨b,5,none⟩ x3).setCell ⟨b,6,none⟩ x4).setCell ⟨b,7,none⟩ x5).setCell ⟨b,8,none⟩ x6).setCell ⟨b,9,none⟩ N).heap[b]? =some (.cells #[I,J,x0,x1,x2,x3,x4,x5,x6,N,A] t fr):=z0a h6 9 N;have h8:(((((((((w.setCell ⟨b,2,none⟩ x0).setCell ⟨b,3,none⟩ x1).setCell ⟨b,4,none⟩ x2).setCell ⟨b,5,none⟩ x3).setCell ⟨b,6,none⟩ x4).setCell ⟨b,7,none⟩ x5).setCell ⟨b,8,none⟩ x6).setCell ⟨b,9,none⟩ N).setCell ⟨b,10,none⟩ U).heap[b]? =some (.cells #[I,J,x0,x1,x2,x3,x4,x5,x6,N,U] t fr):=z0a h7 10 U;exact h8
theorem y6K{w:World}{b:Nat}{t:TypeId}{fr:Nat×Nat}{I J y2 y3 y4 Y U O N L A:Value}(h:w.heap[b]? =some (.cells #[I,J,y2,y3,y4,Y,U,O,N,L,A] t fr))(x0 x1 x2 x3 x4 x5 x6 R:Value):((((((((w.setCell ⟨b,2,none⟩ x0).setCell ⟨b,3,none⟩ x1).setCell ⟨b,4,none⟩ x2).setCell ⟨b,5,none⟩ x3).setCell ⟨b,6,none⟩ x4).setCell ⟨b,7,none⟩ x5).setCell ⟨b,8,none⟩ x6).setCell ⟨b,9,none⟩ R).heap[b]? =some (.cells #[I,J,x0,x1,x2,x3,x4,x5,x6,R,A] t fr):=by
 have h0:(w.setCell ⟨b,2,none⟩ x0).heap[b]? =some (.cells #[I,J,x0,y3,y4,Y,U,O,N,L,A] t fr):=z0a h 2 x0;have h1:((w.setCell ⟨b,2,none⟩ x0).setCell ⟨b,3,none⟩ x1).heap[b]? =some (.cells #[I,J,x0,x1,y4,Y,U,O,N,L,A] t fr):=z0a h0 3 x1;have h2:(((w.setCell ⟨b,2,none⟩ x0).setCell ⟨b,3,none⟩ x1).setCell ⟨b,4,none⟩ x2).heap[b]? =some (.cells #[I,J,x0,x1,x2,Y,U,O,N,L,A] t fr):=z0a h1 4 x2;have h3:((((w.setCell ⟨b,2,none⟩ x0).setCell ⟨b,3,none⟩ x1).setCell ⟨b,4,none⟩ x2).setCell ⟨b,5,none⟩ x3).heap[b]? =some (.cells #[I,J,x0,x1,x2,x3,U,O,N,L,A] t fr):=z0a h2 5 x3;have h4:(((((w.setCell ⟨b,2,none⟩ x0).setCell ⟨b,3,none⟩ x1).setCell ⟨b,4,none⟩ x2).setCell ⟨b,5,none⟩ x3).setCell ⟨b,6,none⟩ x4).heap[b]? =some (.cells #[I,J,x0,x1,x2,x3,x4,O,N,L,A] t fr):=z0a h3 6 x4;have h5:((((((w.setCell ⟨b,2,none⟩ x0).setCell ⟨b,3,none⟩ x1).setCell ⟨b,4,none⟩ x2).setCell ⟨b,5,none⟩ x3).setCell ⟨b,6,none⟩ x4).setCell ⟨b,7,none⟩ x5).heap[b]? =some (.cells #[I,J,x0,x1,x2,x3,x4,x5,N,L,A] t fr):=z0a h4 7 x5;have h6:(((((((w.setCell ⟨b,2,none⟩ x0).setCell ⟨b,3,none⟩ x1).setCell ⟨b,4,none⟩ x2).setCell ⟨b,5,none⟩ x3).setCell ⟨b,6,none⟩ x4).setCell ⟨b,7,none⟩ x5).setCell ⟨b,8,none⟩ x6).heap[b]? =some (.cells #[I,J,x0,x1,x2,x3,x4,x5,x6,L,A] t fr):=z0a h5 8 x6
 have h7:((((((((w.setCell ⟨b,2,none⟩ x0).setCell ⟨b,3,none⟩ x1).setCell ⟨b,4,none⟩ x2).setCell ⟨b,5,none⟩ x3).setCell ⟨b,6,none⟩ x4).setCell ⟨b,7,none⟩ x5).setCell ⟨b,8,none⟩ x6).setCell ⟨b,9,none⟩ R).heap[b]? =some (.cells #[I,J,x0,x1,x2,x3,x4,x5,x6,R,A] t fr):=z0a h6 9 R;exact h7
theorem y6B{w:World}{b:Nat}{t:TypeId}{fr:Nat×Nat}{I J y2 L N O R U Y y9 A:Value}(h:w.heap[b]? =some (.cells #[I,J,y2,L,N,O,R,U,Y,y9,A] t fr))(x:Value):(w.setCell ⟨b,2,none⟩ x).heap[b]? =some (.cells #[I,J,x,L,N,O,R,U,Y,y9,A] t fr):=z0a h 2 x
theorem q5l{w:World}{J:Nat}{a:Option Addr}{n c N I L:Nat}{x0:z2g}(h:w.heap[J]? =some (wkO a n c N I x0 L))(A:Nat)(x:z2g)(f:Nat):(wkW w J A x f).heap[J]? =some (wkO a n c N A x f):=
 y6D h _ _ _ _ _ _ _ _ _
theorem y8U(w:World)(I A:Nat)(x:z2g)(f k:Nat)(h:k≠I):(wkW w I A x f).heap[k]? =w.heap[k]? :=by
 unfold wkW;rw[q7 h,q7 h,q7 h,q7 h,q7 h,q7 h,q7 h,q7 h,q7 h]
theorem z7n(w:World)(a:Addr)(u:Value):(w.setCell a u).heap.size=w.heap.size:=by simp[World.setCell]
theorem q7L(w:World)(a:Addr)(u:Value):(w.setCell a u).os=w.os:=rfl
theorem q2X(w:World)(a:Addr)(u:Value):(w.setCell a u).tape=w.tape:=rfl
theorem y8B(w:World)(a:Addr)(u:Value):(w.setCell a u).output=w.output:=rfl
theorem q7M{w I:World}{J:Nat}(hb:Below w.heap.size w I)(A:Nat)(x:z2g)(f:Nat):q0S J w (wkW I J A x f):=by
 have R:(wkW I J A x f).heap.size=I.heap.size:=by unfold wkW;simp only[z7n]
 have O:(wkW I J A x f).os=I.os:=by unfold wkW;simp only[q7L]
 have U:(wkW I J A x f).tape=I.tape:=by unfold wkW;simp only[q2X]
 have Y:(wkW I J A x f).output=I.output:=by unfold wkW;simp only[y8B]
 exact⟨O.trans hb.os,U.trans hb.tape,Y.trans hb.output,by rw[R];exact hb.size,fun k L N=>(y8U I J A x f k (by simpa using N)).trans (hb.block k L),fun k L=>by cases L⟩
structure CgS (W3:World) (f1 f2 f3 f4:World->World) (D:Nat->Bool) (v:Nat->Value) (w':World):Prop where
 no:D 21=false->Below W3.heap.size W3 w'
 s1:D 21=true->D 24=false->∃wc,Below W3.heap.size W3 wc/\w'=f1 wc
 s2:D 24=true->D 27=false->∃wc,Below W3.heap.size W3 wc/\w'=f2 (f1 wc)
 s3:D 27=true->D 30=false->∃wc,Below W3.heap.size W3 wc/\w'=f3 (f2 (f1 wc))
 s4:D 30=true->∃wc,Below W3.heap.size W3 wc/\w'=f4 (f3 (f2 (f1 wc)))
section
variable {W3 w':World} {f1 f2 f3 f4:World->World} {D:Nat->Bool} {v:Nat->Value}
theorem CgS.t1(h:Below W3.heap.size W3 w')(I:D 24=false)(J:D 27=false)(L:D 30=false):CgS W3 f1 f2 f3 f4 (mark D 21) v (f1 w'):=
 ⟨fun e=>(by have A:true=false:=e;cases A),fun _ _=>⟨w',h,rfl⟩,fun e=>(by have A:D 24=true:=e;rw[I]at A;cases A),fun e=>(by have A:D 27=true:=e;rw[J]at A;cases A),fun e=>(by have A:D 30=true:=e;rw[L]at A;cases A)⟩
theorem CgS.t2(h:Below W3.heap.size W3 w')(I:D 21=true)(J:D 27=false)(L:D 30=false):CgS W3 f1 f2 f3 f4 (mark D 24) v (f2 (f1 w')):=
 ⟨fun e=>(by have A:D 21=false:=e;rw[I]at A;cases A),fun _ e=>(by have A:true=false:=e;cases A),fun _ _=>⟨w',h,rfl⟩,fun e=>(by have A:D 27=true:=e;rw[J]at A;cases A),fun e=>(by have A:D 30=true:=e;rw[L]at A;cases A)⟩
theorem CgS.t3(h:Below W3.heap.size W3 w')(I:D 21=true)(J:D 24=true)(L:D 30=false):CgS W3 f1 f2 f3 f4 (mark D 27) v (f3 (f2 (f1 w'))):=
 ⟨fun e=>(by have A:D 21=false:=e;rw[I]at A;cases A),fun _ e=>(by have A:D 24=false:=e;rw[J]at A;cases A),fun _ e=>(by have A:true=false:=e;cases A),fun _ _=>⟨w',h,rfl⟩,fun e=>(by have A:D 30=true:=e;rw[L]at A;cases A)⟩
theorem CgS.t4(h:Below W3.heap.size W3 w')(I:D 21=true)(J:D 24=true)(L:D 27=true):CgS W3 f1 f2 f3 f4 (mark D 30) v (f4 (f3 (f2 (f1 w')))):=
 ⟨fun e=>(by have A:D 21=false:=e;rw[I]at A;cases A),fun _ e=>(by have A:D 24=false:=e;rw[J]at A;cases A),fun _ e=>(by have A:D 27=false:=e;rw[L]at A;cases A),fun _ e=>(by have A:true=false:=e;cases A),fun _=>⟨w',h,rfl⟩⟩
end
structure q8k (l:List Bool) (at_:Nat) (x:z2g) (st:Int) (sv at2:Nat) (y:z2g) (f:Nat):Prop where
 ok:f=0->z2o l at_ x=(⟨⟨st,sv⟩,y,at2⟩::(z2o l at2 y).1,(z2o l at2 y).2)/\at_<at2/\at2<=l.length/\y.Ok/\y.n=x.n+1
 bad:f≠0->z2o l at_ x=([],false)/\at2=0/\y=z0i/\f=61
theorem q6y{l:List Bool}{p q:Nat}(A:p<=l.length)(I:q<=l.length)(h:l.drop p=l.drop q):p=q:=by
 have:=uS List.length h;simp only[uE]at this;omega
theorem q7H(a:Option Addr)(n c:Nat)(l:List Bool)(b:List UInt8)(A:Nat)(x:z2g)(hx:x.Ok)(U:x.n<=1099511627776)(hl:l.length<=549755813000)(Y:A<l.length):
  ∃st sv N y f,q8k l A x st sv N y f/\∀w,z0r w a n c l b->z1H w->Calls prog 129 #[.agg #[.slice a n c,.int .i64 l.length],.int .i64 A,.agg #[.int .i64 (x.n:Nat),.int .i64 x.last,.int .i64 x.delta,.bool x.val.has,.int .u64 (x.val.prev:Nat),.int .u8 (x.val.lead:Nat),.int .u8 (x.val.width:Nat)]] w fun e w'=>
   e= .returned (.tuple #[.agg #[.int .i64 st,.int .u64 (sv:Nat)],.int .i64 (N:Nat),.agg #[.int .i64 (y.n:Nat),.int .i64 y.last,.int .i64 y.delta,.bool y.val.has,.int .u64 (y.val.prev:Nat),.int .u8 (y.val.lead:Nat),.int .u8 (y.val.width:Nat)],.int .u16 (f:Nat)])/\Below w.heap.size w w':=by
 cases hc:z1D x (l.drop A)with
 | none=>
  refine⟨0,0,0,z0i,61,⟨(fun h=>by cases h),fun _=>⟨y8X Y hc,rfl,rfl,rfl⟩⟩,fun w hb hT=>?_⟩;refine(q3t a n c l b A x.n x.last x.delta x.val.has x.val.prev x.val.lead x.val.width hx U w hb hl (qI Y) hT).mono ?_;rintro e w' ⟨J,h|h⟩
  .obtain⟨s,y,p,I,_⟩:=h;have I:z1D x (l.drop A)=_:=I;rw[hc]at I;cases I
  exact⟨h.2,J⟩
 | some q=>
  obtain⟨s,y,r⟩:=q;obtain⟨q,hq,_⟩:=z9l hc;have L:=z2h hx hc;have R:=uS List.length hq;rw[wP,uE]at R;have hr:r=l.drop (A+q.length):=by
   rw[<-oe,hq,rE]
  have a0:=L.1;rw[uE]at a0;have hp:A+q.length<=l.length:=wF
  have O:A<A+q.length:=wF
  rw[hr]at hc;refine⟨s.t,s.v,A+q.length,y,0,⟨fun _=>⟨y9k hx Y hp O hc,O,hp,L.2.2.1,L.2.2.2.1⟩,fun h=>absurd rfl h⟩,fun w hb hT=>?_⟩;refine(q3t a n c l b A x.n x.last x.delta x.val.has x.val.prev x.val.lead x.val.width hx U w hb hl (qI Y) hT).mono ?_;rintro e w' ⟨J,h|h⟩
  .obtain⟨s',y',p,I,h2,h3,h4⟩:=h;have I:z1D x (l.drop A)=_:=I;rw[hc]at I;simp only[wK,wk]at I;obtain⟨rfl,rfl,h5⟩:=I;rw[q6y hp h3 h5];exact⟨h4,J⟩
  have I:z1D x (l.drop A)=none:=h.1;rw[hc]at I;cases I
theorem q0i(n:Nat)(cM:1<=n)(a:Option Addr)(m c:Nat)(l:List Bool)(b:List UInt8)(B h A:Nat)(w:World)
  (hr:w.heap[A]? =some (wkO a m c l.length 0 z0i 0)) (hx:z0r w a m c l b) (hl:l.length<=549755812000) (aR:0<b.length->∀k,(Value.slice a m c).ownBlock=some k->k<B/\k≠h/\k≠A)
  (lB:A<B) (hB:B<=w.heap.size) (nO:A≠h) (hT:∀w',(∀k,k<B->k≠h->k≠A->w'.heap[k]? =w.heap[k]?)->z1H w'):
  q0x Fence.wide n prog 92 #[.pointer (some ⟨A,0,none⟩)] #[] (fun x:z1t=> #[.agg #[.int .i64 x.s.t,.int .u64 (x.s.v:Nat)]]) (q5D (z2o l 0 z0i).1 A a m c l.length) (q7J B h) (q0S A) (fun xs=>xs=(z2o l 0 z0i).1) (z8Y (z2o l 0 z0i) A a m c l.length) w:=by
 intro lp J W hW cI hJ hY h0;refine qh func92 rfl trivial ?_ rfl;simp only[ntmps92,oz,wW,ob,Nat.reduceAdd,Nat.reduceSub,pC,pD,pY,pN,uW,uY];have aS:=(hW.block A wF wH).trans hr;obtain⟨N,hN⟩:=zN l.length;rw[<-hN]at aS hY ⊢;obtain⟨ST,aD⟩:=zN (z2o l 0 z0i);rw[<-aD]at hY ⊢;have b8:=z7 aD;clear aD;have bA:Hid (∀w',(∀k,k<B->k≠h->k≠A->w'.heap[k]? =w.heap[k]?)->z0r w' a m c l b):=z7 fun w' hk=>⟨q1b hx.rd fun h0 k b0=>hk k (aR h0 k b0).1 (aR h0 k b0).2.1 (aR h0 k b0).2.2,hx.len,hx.bits⟩;have bW:=z7 hT;have bJ:Hid (∀k,k<B->k≠h->k≠A->W.heap[k]? =w.heap[k]?):=z7 fun k hk _ _=>hW.block k wF wH;have cG:N<=549755812000:=wF
 have bE:Hid (B<=W.heap.size):=z7 (wV hB hW.size);have bD:=z7 (z2V hx.bits);have aG:=z7 hx.len;have cL:m<=70368744177665:=by have:=hx.bits.len;have:=hx.len;omega
 have HN:=z7 hN;have HJ:=z7 hJ;have HY:=z7 hY;have aY:=z7 aS;have H0:=z7 h0;obtain⟨s0,s1,s2,s3,s4,s5,s6,s7,s8,s9,cF,sf⟩:=z0t aS;clear hx hT aR hr hW hJ hY h0 aS hl hN
 gi_wp2_with fail
 refine⟨trivial,gj.2 ?_⟩;have bB:=bA.o W bJ.o;have b2:=z2X a c b N W (by have:=bB.rd;rw[aG.o]at this;exact this) (by have:=aG.o;omega) wF wF;rw[<-aG.o,HN.o,bD.o,<-HN.o]at b2;refine b2.mono ?_;rintro e W2 ⟨rfl,a8⟩;have bF:Hid (J [] W2):=z7 (HJ.o [] W W2 H0.o ⟨a8.os,a8.tape,a8.output,a8.size,fun k hk _=>a8.block k hk,fun k hk=>by cases hk⟩);have bT:Hid (W2.heap[A]? =some (wkO a m c N 0 z0i 0)):=z7 ((a8.block A (wI.1 aY.o).1).trans aY.o);have bL:Hid (∀k,k<B->k≠h->k≠A->W2.heap[k]? =w.heap[k]?):=z7 fun k hk h1 h2=>(a8.block k (by have:=bE.o;omega)).trans (bJ.o k hk h1 h2);have bC:Hid (B<=W2.heap.size):=z7 (wV bE.o a8.size);clear b2 bB a8 s0 s1 s2 s3 s4 s5 s6 s7 s8 s9 cF sf
 gi_wp2_with fail
 gi_loopw [4] (fun i wr=>∃(a6:List z1t) (Y:Nat) (x:z2g),Y<=N/\Hid (x.Ok/\x.n<=Y)/\Hid (a6++(z2o l Y x).1=ST.1/\(z2o l Y x).2=ST.2/\x=z0o z0i a6)/\wr.heap[A]? =some (wkO a m c N Y x 0)/\Hid (∀k,k<B->k≠h->k≠A->wr.heap[k]? =w.heap[k]?)/\Hid (B<=wr.heap.size)/\Hid (J a6 wr)) (fun i wr=>N - q4m A wr)
 case atStart=>exact⟨[],0,z0i,uA _,z7 ⟨z5p,by simp[z0i]⟩,z7 ⟨by rw[b8.o];rfl,by rw[b8.o],rfl⟩,bT.o,bL,bC,bF⟩
 case round=>
  obtain⟨a6,Y,x,cH,b3,aJ,ur,c8,aZ,bI⟩:=hrel;have ul:=(wI.1 ur).1;have aL:=z7 ur;obtain⟨u0,u1,u2,u3,u4,u5,u6,u7,u8,u9,a7,uf⟩:=z0t ur;clear bF bT bL bC aY H0 ur;have aW:Hid (Y=N->(∃xs,xs=ST.1/\J xs wr)/\z8Y ST A a m c N wr):=z7 fun e=>by
   have h9:=aJ.o;rw[e,HN.o,y9l]at h9;simp only[ue]at h9;refine⟨⟨a6,h9.1,bI.o⟩,?_⟩;unfold z8Y;rw[<-h9.2.1,wZ rfl,<-h9.1,<-h9.2.2,aL.o,e]
  by_cases cJ:Y<N
  .clear aW;have aN:Hid (∀w',Below wr.heap.size wr w'->w'.heap[A]? =some (wkO a m c N Y x 0)):=z7 fun w' hb=>(hb.block A ul).trans aL.o;clear u0 u1 u2 u3 u4 u5 u6 u7 u8 u9 a7 uf
   gi_wp2_with fail
   refine mr.2 ?_;refine q6 17 69 (fun D v w'=>Below wr.heap.size wr w') wD.drew ?_;simp only[z0C];iterate 17 (refine q8.rd ?_ (fun D v w' I L=>?_) ?_;rotate_left;(obtain⟨u0,u1,u2,u3,u4,u5,u6,u7,u8,u9,a7,uf⟩:=z0t (aN.o w' L);clear L I;go_simp;try rfl);go_simp)
   refine q8.fin (fun v w3 L=>?_);have aH:=z7 L;clear L;go_wp2
   gi_wp2_with fail
   obtain⟨st,sv,O,y,f,bO,aI⟩:=q7H a m c l b Y x b3.o.1 (by have:=b3.o.2;omega) (by have:=HN.o;omega) (by have:=HN.o;omega);rw[<-HN.o]at aI;have b6:=z7 bO;have b5:=z7 aI;clear bO aI;obtain⟨tb,aT⟩:=zN w3.heap.size;obtain⟨W3,aM⟩:=zN (w3.alloc (.cells #[.int .i64 0,.int .u64 0] 79));rw[<-aM,<-aT];have a5:Hid (Below wr.heap.size wr W3):=z7 (aH.o.trans (by rw[aM];exact(q5 _ _).mono aH.o.size));have bR:Hid (∀w',Below W3.heap.size W3 w'->w'.heap[tb]? =some (.cells #[.int .i64 0,.int .u64 0] 79 (0,0))):=z7 fun w' hb=>by
    have hg:W3.heap[tb]? =some (.cells #[.int .i64 0,.int .u64 0] 79 (0,0)):=(by rw[aM,aT];exact j8 _ _);exact(hb.block tb (wI.1 hg).1).trans hg
   have aA:A≠tb:=(by have:=aH.o.size;omega);have cC:Hid (B<=tb):=z7 (by have:=aH.o.size;have:=aZ.o;omega);have aE:Hid (∀w',Below W3.heap.size W3 w'->w'.heap[A]? =some (wkO a m c N Y x 0)):=z7 fun w' hb=>aN.o w' (a5.o.trans (hb.mono a5.o.size));have b1:Hid (∀w',Below W3.heap.size W3 w'->∀k,k<B->k≠h->k≠A->w'.heap[k]? =w.heap[k]?):=z7 fun w' hb k hk h1 h2=>((a5.o.trans (hb.mono a5.o.size)).block k (by have:=aZ.o;omega)).trans (c8.o k hk h1 h2);have b9:=z7 aT;clear aM aT;refine mr.2 ?_;refine q6 31 69 (fun D v w'=>CgS W3 (fun w=>(w.setCell ⟨tb,0,none⟩ (.int .i64 st)).setCell ⟨tb,1,none⟩ (.int .u64 sv)) (fun w=>w.setCell ⟨A,2,none⟩ (.int .i64 O)) (fun w=>((((((w.setCell ⟨A,3,none⟩ (.int .i64 (y.n:Nat))).setCell ⟨A,4,none⟩ (.int .i64 y.last)).setCell ⟨A,5,none⟩ (.int .i64 y.delta)).setCell ⟨A,6,none⟩ (.bool y.val.has)).setCell ⟨A,7,none⟩ (.int .u64 (y.val.prev:Nat))).setCell ⟨A,8,none⟩ (.int .u8 (y.val.lead:Nat))).setCell ⟨A,9,none⟩ (.int .u8 (y.val.width:Nat))) (fun w=>w.setCell ⟨A,10,none⟩ (.int .u16 (f:Nat))) D v w') ⟨fun _=>wD.drew,(fun h=>by cases h),(fun h=>by cases h),(fun h=>by cases h),(fun h=>by cases h)⟩ ?_;simp only[z0C];iterate 4 (refine q8.rl ?_ (fun D v w h=>⟨h.no,h.s1,h.s2,h.s3,h.s4⟩) (fun D v w' I L=>?_) ?_;rotate_left;(clear L I;go_simp;try rfl);go_simp)
   iterate 11 (refine q8.rl ?_ (fun D v w h=>⟨h.no,h.s1,h.s2,h.s3,h.s4⟩) (fun D v w' I L=>?_) ?_;rotate_left;(obtain⟨u0,u1,u2,u3,u4,u5,u6,u7,u8,u9,a7,uf⟩:=z0t (aE.o w' (L.no (I.post 21 _ rfl (by kernel_rfl))));clear L I;go_simp;try rfl);go_simp)
   refine q8.ca (.tuple #[.agg #[.int .i64 st,.int .u64 sv],.int .i64 O,.agg #[.int .i64 (y.n:Nat),.int .i64 y.last,.int .i64 y.delta,.bool y.val.has,.int .u64 (y.val.prev:Nat),.int .u8 (y.val.lead:Nat),.int .u8 (y.val.width:Nat)],.int .u16 (f:Nat)]) (fun D v w' I L=>?_) ?_
   .have R:=I.post 21 _ rfl (by kernel_rfl);have a2:=I.post 24 _ rfl (by kernel_rfl);have a3:=I.post 27 _ rfl (by kernel_rfl);have a4:=I.post 30 _ rfl (by kernel_rfl);have HS:=z7 (L.no R);have DD:Hid (D 21=false/\D 24=false/\D 27=false/\D 30=false):=z7 ⟨R,a2,a3,a4⟩;clear L I R a2 a3 a4;go_simp;go_at_call 129;refine(b5.o w' (bA.o w' (b1.o w' HS.o)) (bW.o w' (b1.o w' HS.o))).mono ?_;rintro e cN ⟨rfl,c9⟩;obtain⟨R,a2,a3,a4⟩:=DD.o;refine⟨rfl,⟨fun _=>HS.o.trans (c9.mono HS.o.size),fun e=>?_,fun e=>?_,fun e=>?_,fun e=>?_⟩⟩
    .have e':D 21=true:=e;rw[R]at e';cases e'
    .have e':D 24=true:=e;rw[a2]at e';cases e'
    .have e':D 27=true:=e;rw[a3]at e';cases e'
    have e':D 30=true:=e;rw[a4]at e';cases e'
   go_simp;iterate 5 (refine q8.rl ?_ (fun D v w h=>⟨h.no,h.s1,h.s2,h.s3,h.s4⟩) (fun D v w' I L=>?_) ?_;rotate_left;(clear L I;go_simp;try rfl);go_simp)
   refine q8.ca undef (fun D v w' I L=>?_) ?_
   .have R:D 21=false:=I.self;have a2:=I.post 24 _ rfl (by kernel_rfl);have a3:=I.post 27 _ rfl (by kernel_rfl);have a4:=I.post 30 _ rfl (by kernel_rfl);have HS:=z7 (L.no R);have DD:Hid (D 24=false/\D 27=false/\D 30=false):=z7 ⟨a2,a3,a4⟩;clear L I R a2 a3 a4;obtain⟨z0,z1,zf⟩:=z0m (bR.o w' HS.o);go_simp;exact CgS.t1 HS.o DD.o.1 DD.o.2.1 DD.o.2.2
   go_simp;iterate 2 (refine q8.rl ?_ (fun D v w h=>⟨h.no,h.s1,h.s2,h.s3,h.s4⟩) (fun D v w' I L=>?_) ?_;rotate_left;(clear L I;go_simp;try rfl);go_simp)
   refine q8.ca undef (fun D v w' I L=>?_) ?_
   .have U:D 24=false:=I.self;have R:D 21=true:=I.pre 21 (by kernel_rfl);have a3:=I.post 27 _ rfl (by kernel_rfl);have a4:=I.post 30 _ rfl (by kernel_rfl);obtain⟨wc,a0,a1⟩:=L.s1 R U;have aB:=z7 a0;have DD:=z7 (kh R (kh a3 a4));clear L I U R a3 a4 a0;have aC:=z7 a1;clear a1;have aF:w'.heap[A]? =some (wkO a m c N Y x 0):=(by rw[aC.o];exact(q7 aA).trans ((q7 aA).trans (aE.o wc aB.o)));obtain⟨u0,u1,u2,u3,u4,u5,u6,u7,u8,u9,a7,uf⟩:=z0t aF;clear aF;go_simp;rw[aC.o];exact CgS.t2 aB.o DD.o.1 DD.o.2.1 DD.o.2.2
   go_simp;iterate 2 (refine q8.rl ?_ (fun D v w h=>⟨h.no,h.s1,h.s2,h.s3,h.s4⟩) (fun D v w' I L=>?_) ?_;rotate_left;(clear L I;go_simp;try rfl);go_simp)
   refine q8.ca undef (fun D v w' I L=>?_) ?_
   .have U:D 27=false:=I.self;have R:D 21=true:=I.pre 21 (by kernel_rfl);have a2:D 24=true:=I.pre 24 (by kernel_rfl);have a4:=I.post 30 _ rfl (by kernel_rfl);obtain⟨wc,a0,a1⟩:=L.s2 a2 U;have aB:=z7 a0;have DD:=z7 (kh R (kh a2 a4));clear L I U R a2 a4 a0;have aC:=z7 a1;clear a1;have aF:w'.heap[A]? =some (wkO a m c N O x 0):=(by rw[aC.o];exact y6B ((q7 aA).trans ((q7 aA).trans (aE.o wc aB.o))) _);obtain⟨u0,u1,u2,u3,u4,u5,u6,u7,u8,u9,a7,uf⟩:=z0t aF;clear aF;go_simp;rw[aC.o];exact CgS.t3 aB.o DD.o.1 DD.o.2.1 DD.o.2.2
   go_simp;iterate 2 (refine q8.rl ?_ (fun D v w h=>⟨h.no,h.s1,h.s2,h.s3,h.s4⟩) (fun D v w' I L=>?_) ?_;rotate_left;(clear L I;go_simp;try rfl);go_simp)
   refine q8.ca undef (fun D v w' I L=>?_) ?_
   .have U:D 30=false:=I.self;have R:D 21=true:=I.pre 21 (by kernel_rfl);have a2:D 24=true:=I.pre 24 (by kernel_rfl);have a3:D 27=true:=I.pre 27 (by kernel_rfl);obtain⟨wc,a0,a1⟩:=L.s3 a3 U;have aB:=z7 a0;have DD:=z7 (kh R (kh a2 a3));clear L I U R a2 a3 a0;have aC:=z7 a1;clear a1;have aF:w'.heap[A]? =some (wkO a m c N O y 0):=(by rw[aC.o];exact y6K ((q7 aA).trans ((q7 aA).trans (aE.o wc aB.o))) _ _ _ _ _ _ _ _);obtain⟨u0,u1,u2,u3,u4,u5,u6,u7,u8,u9,a7,uf⟩:=z0t aF;clear aF;go_simp;rw[aC.o];exact CgS.t4 aB.o DD.o.1 DD.o.2.1 DD.o.2.2
   go_simp;refine q8.fin (fun v w8 L=>?_);obtain⟨wc,a0,aX⟩:=L.s4 rfl;clear L;have a1:w8=wkW ((wc.setCell ⟨tb,0,none⟩ (.int .i64 st)).setCell ⟨tb,1,none⟩ (.int .u64 sv)) A O y f:=aX;clear aX;have aU:Hid (w8.heap[A]? =some (wkO a m c N O y f)):=z7 (by rw[a1];exact q5l (by rw[q7 aA,q7 aA];exact aE.o wc a0) O y f);have cB:Hid (w8.heap[tb]? =some (.cells #[.int .i64 st,.int .u64 sv] 79 (0,0))):=z7 (by
    rw[a1,y8U _ _ _ _ _ _ (pz aA)];have:=z0a (z0a (bR.o wc a0) 0 (.int .i64 st)) 1 (.int .u64 sv);simpa using this)
   have cA:Hid (∀k,k<B->k≠h->k≠A->w8.heap[k]? =w.heap[k]?):=z7 fun k hk h1 h2=>by
    have h3:k≠tb:=(by have:=cC.o;omega);rw[a1,y8U _ _ _ _ _ _ h2,q7 h3,q7 h3];exact b1.o wc a0 k hk h1 h2
   have bV:Hid (wr.heap.size<=tb):=z7 (by have:=aH.o.size;rw[b9.o];exact this);have bG:Hid (J a6 w8):=z7 (HJ.o a6 wr w8 bI.o (by
    rw[a1];exact q7M (((a5.o.trans (a0.mono a5.o.size)).setCell bV.o _).setCell bV.o _) O y f))
   have c5:Hid (B<=w8.heap.size):=z7 (by
    have h1:=(a5.o.trans (a0.mono a5.o.size)).size;rw[a1];unfold wkW;simp only[z7n];have:=aZ.o;omega)
   clear a1 a0;obtain⟨u0,u1,u2,u3,u4,u5,u6,u7,u8,u9,a7,uf⟩:=z0t aU.o;obtain⟨z0,z1,zf⟩:=z0m cB.o;by_cases hf:f=0
   .obtain⟨g1,g2,g3,g4,g5⟩:=b6.o.ok hf;subst hf;have a9:Hid (a6++⟨⟨st,sv⟩,y,O⟩::(z2o l O y).1=ST.1/\(z2o l O y).2=ST.2/\y=z0o z0i (a6++ [⟨⟨st,sv⟩,y,O⟩])):=z7 (by
     have h9:=aJ.o;rw[g1]at h9;refine⟨h9.1,h9.2.1,?_⟩;unfold z0o;simp)
    have bS:q5D ST.1 A a m c N a6 ⟨⟨st,sv⟩,y,O⟩ w8:=⟨⟨_,a9.o.1⟩,aU.o⟩;obtain⟨fn,tmps,assign,body,hy,hR⟩:=HY.o a6 ⟨⟨st,sv⟩,y,O⟩ w8 bG.o bS;dsimp only at hy;have cE:Hid (y.Ok/\y.n<=O):=z7 ⟨g4,by have:=b3.o.2;omega⟩;have bM:O<=N/\Y<O:=⟨by have:=HN.o;omega,g2⟩;clear bS g1 g2 g3 g4 g5;have U8:=z7 aU.o;go_wp2
    gi_wp2
    refine hR.mono ?_;rintro e W9 ⟨rfl,bH,aO⟩;have bU:=(aO.2 A lB nO).trans U8.o;have c7:Hid (∀k,k<B->k≠h->k≠A->W9.heap[k]? =w.heap[k]?):=z7 fun k hk h1 h2=>(aO.2 k hk h1).trans (cA.o k hk h1 h2);have c6:Hid (B<=W9.heap.size):=z7 (wV c5.o aO.1);have bX:=z7 bH;have b7:=z7 bU;clear aO bU bH u0 u1 u2 u3 u4 u5 u6 u7 u8 u9 a7 uf z0 z1 zf hy hR
    gi_wp2
    go_roundw
    case rel=>exact⟨_,O,y,bM.1,cE,z7 ⟨by rw[wj];exact a9.o.1,a9.o.2.1,a9.o.2.2⟩,b7.o,c7,c6,bX⟩
    case measure=>
     have e1:q4m A W9=O:=by
      unfold q4m;rw[(z0t b7.o).2.2.1];simp
     have e2:q4m A wr=Y:=by
      unfold q4m;rw[(z0t aL.o).2.2.1];simp
     rw[e1,e2];omega
   obtain⟨g1,g2,g3,g4⟩:=b6.o.bad hf;have aV:Hid ((∃xs,xs=ST.1/\J xs w8)/\z8Y ST A a m c N w8):=z7 (by
    have h9:=aJ.o;rw[g1]at h9;simp only[ue]at h9;refine⟨⟨a6,h9.1,bG.o⟩,?_⟩;unfold z8Y;rw[<-h9.2.1,wR wG,aU.o,g2,g3,g4])
   have bN:f=61:=g4;clear g1 g2 g3 g4 hf;subst bN;go_wp2
   gi_wp2
   refine⟨fun f hf=>(by cases hf),?_⟩
   gi_wp2
   refine wU (eK rfl _ _ _) rfl ⟨⟨_,rfl⟩,aV.o.1,aV.o.2⟩
  obtain⟨q1,q2⟩:=aW.o wF;have aN:Hid (∀w',Below wr.heap.size wr w'->w'.heap[A]? =some (wkO a m c N Y x 0)):=z7 fun w' hb=>(hb.block A ul).trans aL.o;have b4:Hid (∀w',Below wr.heap.size wr w'->(∃xs,xs=ST.1/\J xs w')/\z8Y ST A a m c N w'):=z7 fun w' hb=>by
   obtain⟨xs,h1,h2⟩:=q1;refine⟨⟨xs,h1,HJ.o xs wr w' h2 ⟨hb.os,hb.tape,hb.output,hb.size,fun k hk _=>hb.block k hk,fun k hk=>by cases hk⟩⟩,?_⟩;exact(hb.block A ul).trans q2
  clear q1 q2 aW u0 u1 u2 u3 u4 u5 u6 u7 u8 u9 a7 uf
  gi_wp2_with fail
  refine mr.2 ?_;refine q6 17 69 (fun D v w'=>Below wr.heap.size wr w') wD.drew ?_;simp only[z0C];iterate 17 (refine q8.rd ?_ (fun D v w' I L=>?_) ?_;rotate_left;(obtain⟨u0,u1,u2,u3,u4,u5,u6,u7,u8,u9,a7,uf⟩:=z0t (aN.o w' L);clear L I;go_simp;try rfl);go_simp)
  refine q8.fin (fun v w3 L=>?_);obtain⟨q1,q2⟩:=b4.o w3 L;have bY:=z7 q1;have bZ:=z7 q2;clear L q1 q2;go_wp2
  gi_wp2_with fail
  go_end0
  exact⟨⟨_,rfl⟩,bY.o,bZ.o⟩

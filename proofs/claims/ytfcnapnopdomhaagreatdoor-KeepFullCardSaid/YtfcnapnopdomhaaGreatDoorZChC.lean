/-
  A chunk's samples one by one: the iterator each.
-/
import Derived.Test.YtfcnapnopdomhaaGreatDoorZChB
import Derived.Test.YtfcnapnopdomhaaGreatDoorZStBTaATaAB
namespace Go.Proofs.YtfcnapnopdomhaaGreatDoor
set_option linter.unnecessarySimpa false
set_option linter.unusedSimpArgs false
set_option linter.unusedVariables false
set_option maxRecDepth 100000
set_option maxHeartbeats 12800000
open Go.RowKit Go.Shelf
attribute [local go_sem] Oper.semAt_some
theorem y8o{w w':World}{x:Value}{l:List UInt8}(h:RdB w x l)(hk:0<l.length→∀b,x.ownBlock=some b→w'.heap[b]? =w.heap[b]?):RdB w' x l:=by
 by_cases h0:0<l.length
 ·exact h.keep (hk h0)
 ·have:l= []:=List.eq_nil_of_length_eq_zero (by omega);subst this;refine ⟨h.1,h.2.imp id ?_⟩;rintro ⟨ad,c',h1,h2⟩;exact ⟨ad,c',h1,fun j u hu=>by simp [z0b] at hu⟩
def z6v:Nat→z1A→Nat→List Bool→List z0V×Bool
 | _,_,_, []=>([],true)
 | 0,_,_,_::_=>([],false)
 | f+1,e,k,b::l=>match z1e e (b::l) with
  | none=>([],false)
  | some (s,e',r)=>(⟨s,e',k+((b::l).length - r.length)⟩::(z6v f e' (k+((b::l).length - r.length)) r).1,(z6v f e' (k+((b::l).length - r.length)) r).2)
theorem z6J(f:Nat)(e:z1A)(k:Nat):z6v f e k []=([],true):=by cases f<;>rfl
theorem z8S(f:Nat)(e:z1A)(k:Nat)(b:Bool)(l:List Bool):z6v (f+1) e k (b::l)=match z1e e (b::l) with
  | none=>([],false)
  | some (s,e',r)=>(⟨s,e',k+((b::l).length - r.length)⟩::(z6v f e' (k+((b::l).length - r.length)) r).1,(z6v f e' (k+((b::l).length - r.length)) r).2):=rfl
theorem y8g(f:Nat)(e:z1A)(k:Nat)(b:Bool)(l:List Bool):z2R (f+1) e k (b::l)=match z1e e (b::l) with
  | none=>none
  | some (s,e',r)=>(z2R f e' (k+((b::l).length - r.length)) r).map (⟨s,e',k+((b::l).length - r.length)⟩::·):=rfl
theorem y9b:∀(f:Nat) (e:z1A) (k:Nat) (l:List Bool),z2R f e k l=if (z6v f e k l).2 then some (z6v f e k l).1 else none
 | f,e,k, []=>by rw [z3S,z6J];rfl
 | 0,e,k,b::l=>rfl
 | f+1,e,k,b::l=>by
  rw [y8g,z8S];cases hc:z1e e (b::l) with
  | none=>rfl
  | some q=>
   obtain ⟨s,e',r⟩:=q;simp only;rw [y9b f];cases hP:(z6v f e' (k+((b::l).length - r.length)) r).2<;>simp
theorem y1D:∀{f:Nat} {e:z1A} {k:Nat} {l:List Bool},e.Ok→∀g,l.length≤f→l.length≤g→z6v f e k l=z6v g e k l
 | f,e,k, [],he,g,hf,hg=>by rw [z6J,z6J]
 | 0,e,k,b::l,he,g,hf,hg=>by simp at hf
 | f+1,e,k,b::l,he,0,hf,hg=>by simp at hg
 | f+1,e,k,b::l,he,g+1,hf,hg=>by
  unfold z6v;split
  ·rfl
  ·rename_i s e' r hr;have h1:=z1B he hr;have h2:=h1.1;simp only [List.length_cons] at h2 hf hg;rw [y1D h1.2.2.1 g (by omega) (by omega)]
def z1F(l:List Bool)(at_:Nat)(x:z1A):List z0V×Bool:=z6v (l.length - at_) x at_ (l.drop at_)
theorem y5Z{l:List Bool}{x:z1A}:z1F l l.length x=([],true):=by
 unfold z1F;rw [List.drop_length,z6J]
theorem y4X{l:List Bool}{at_:Nat}{x:z1A}(h:at_<l.length)(hc:z1e x (l.drop at_)=none):z1F l at_ x=([],false):=by
 unfold z1F;cases hd:l.drop at_ with
 | nil=>have:=congrArg List.length hd;simp at this;omega
 | cons b r=>
  rw [hd] at hc;cases hf:l.length - at_ with
  | zero=>omega
  | succ f=>unfold z6v;rw [hc]
theorem y5x{l:List Bool}{at_ p:Nat}{x y:z1A}{s:z1K}(hx:x.Ok)(h:at_<l.length)(hp:p≤l.length)(hap:at_<p)(hc:z1e x (l.drop at_)=some (s,y,l.drop p)):z1F l at_ x=(⟨s,y,p⟩::(z1F l p y).1,(z1F l p y).2):=by
 have hy:=(z1B hx hc).2.2.1;cases hd:l.drop at_ with
 | nil=>have:=congrArg List.length hd;simp at this;omega
 | cons b r=>
  have hlen:(b::r).length=l.length - at_:=by rw [←hd,List.length_drop]
  rw [hd] at hc;have hf:l.length - at_=(l.length - at_ - 1)+1:=by omega
  obtain ⟨f,hf2⟩:∃f,f=l.length - at_ - 1:=⟨_,rfl⟩;rw [←hf2] at hf;have e0:z1F l at_ x=z6v (f+1) x at_ (b::r):=by unfold z1F;rw [hd,hf]
  have e1:at_+((b::r).length - (l.drop p).length)=p:=by rw [hlen,List.length_drop];omega
  have e2:z1F l p y=z6v f y p (l.drop p):=by unfold z1F;exact y1D hy _ (by rw [List.length_drop];omega) (by rw [List.length_drop];omega)
  rw [e0,z8S,hc,e2];simp only;rw [e1]
theorem q0f(l:List Bool):z5c l=if (z1F l 0 z0e).2 then some (z1F l 0 z0e).1 else none:=y9b _ _ _ _
def wkO(a:Option Addr)(n c N at_:Nat)(x:z1A)(f:Nat):Obj:= .cells #[.slice a n c, .int .i64 (N:Nat), .int .i64 (at_:Nat), .int .i64 (x.n:Nat), .int .i64 x.last, .int .i64 x.delta, .bool x.val.has, .int .u64 (x.val.prev:Nat), .int .u8 (x.val.lead:Nat), .int .u8 (x.val.width:Nat), .int .u16 (f:Nat)] 242 (0,0)
def q1W(st:List z0V)(rB:Nat)(a:Option Addr)(n c N:Nat)(pre:List z0V)(x:z0V)(W:World):Prop:=
 (∃r,pre++x::r=st)∧W.heap[rB]? =some (wkO a n c N x.at_ x.e 0)
def q3g(B h:Nat)(W W':World):Prop:=W.heap.size≤W'.heap.size∧∀k,k<B→k≠h→W'.heap[k]? =W.heap[k]?
def y7s(rB:Nat)(X X':World):Prop:=Chg [rB] [] X X'
def z7v(st:List z0V×Bool)(rB:Nat)(a:Option Addr)(n c N:Nat)(W:World):Prop:=
 W.heap[rB]? =some (if st.2 then wkO a n c N N (z0l z0e st.1) 0 else wkO a n c N 0 z0e 61)
def q0n(rB:Nat)(w:World):Nat:=match w.cell? ⟨rB,2,none⟩ with | some (.int _ n)=>n.toNat | _=>0
def wkW(w:World)(rB at_:Nat)(x:z1A)(f:Nat):World:=
 ((((((((w.setCell ⟨rB,2,none⟩ (.int .i64 (at_:Nat))).setCell ⟨rB,3,none⟩ (.int .i64 (x.n:Nat))).setCell ⟨rB,4,none⟩ (.int .i64 x.last)).setCell ⟨rB,5,none⟩ (.int .i64 x.delta)).setCell ⟨rB,6,none⟩ (.bool x.val.has)).setCell ⟨rB,7,none⟩ (.int .u64 (x.val.prev:Nat))).setCell ⟨rB,8,none⟩ (.int .u8 (x.val.lead:Nat))).setCell ⟨rB,9,none⟩ (.int .u8 (x.val.width:Nat))).setCell ⟨rB,10,none⟩ (.int .u16 (f:Nat))
theorem y4c{w:World}{b:Nat}{t:TypeId}{fr:Nat×Nat}{y0 y1 y2 y3 y4 y5 y6 y7 y8 y9 y10:Value}(h:w.heap[b]? =some (.cells #[y0,y1,y2,y3,y4,y5,y6,y7,y8,y9,y10] t fr))(x0 x1 x2 x3 x4 x5 x6 x7 x8:Value):(((((((((w.setCell ⟨b,2,none⟩ x0).setCell ⟨b,3,none⟩ x1).setCell ⟨b,4,none⟩ x2).setCell ⟨b,5,none⟩ x3).setCell ⟨b,6,none⟩ x4).setCell ⟨b,7,none⟩ x5).setCell ⟨b,8,none⟩ x6).setCell ⟨b,9,none⟩ x7).setCell ⟨b,10,none⟩ x8).heap[b]? =some (.cells #[y0,y1,x0,x1,x2,x3,x4,x5,x6,x7,x8] t fr):=by
 have h0:(w.setCell ⟨b,2,none⟩ x0).heap[b]? =some (.cells #[y0,y1,x0,y3,y4,y5,y6,y7,y8,y9,y10] t fr):=j9 h 2 x0;have h1:((w.setCell ⟨b,2,none⟩ x0).setCell ⟨b,3,none⟩ x1).heap[b]? =some (.cells #[y0,y1,x0,x1,y4,y5,y6,y7,y8,y9,y10] t fr):=j9 h0 3 x1;have h2:(((w.setCell ⟨b,2,none⟩ x0).setCell ⟨b,3,none⟩ x1).setCell ⟨b,4,none⟩ x2).heap[b]? =some (.cells #[y0,y1,x0,x1,x2,y5,y6,y7,y8,y9,y10] t fr):=j9 h1 4 x2;have h3:((((w.setCell ⟨b,2,none⟩ x0).setCell ⟨b,3,none⟩ x1).setCell ⟨b,4,none⟩ x2).setCell ⟨b,5,none⟩ x3).heap[b]? =some (.cells #[y0,y1,x0,x1,x2,x3,y6,y7,y8,y9,y10] t fr):=j9 h2 5 x3;have h4:(((((w.setCell ⟨b,2,none⟩ x0).setCell ⟨b,3,none⟩ x1).setCell ⟨b,4,none⟩ x2).setCell ⟨b,5,none⟩ x3).setCell ⟨b,6,none⟩ x4).heap[b]? =some (.cells #[y0,y1,x0,x1,x2,x3,x4,y7,y8,y9,y10] t fr):=j9 h3 6 x4;have h5:((((((w.setCell ⟨b,2,none⟩ x0).setCell ⟨b,3,none⟩ x1).setCell ⟨b,4,none⟩ x2).setCell ⟨b,5,none⟩ x3).setCell ⟨b,6,none⟩ x4).setCell ⟨b,7,none⟩ x5).heap[b]? =some (.cells #[y0,y1,x0,x1,x2,x3,x4,x5,y8,y9,y10] t fr):=j9 h4 7 x5;have h6:(((((((w.setCell ⟨b,2,none⟩ x0).setCell ⟨b,3,none⟩ x1).setCell ⟨b,4,none⟩ x2).setCell ⟨b,5,none⟩ x3).setCell ⟨b,6,none⟩ x4).setCell ⟨b,7,none⟩ x5).setCell ⟨b,8,none⟩ x6).heap[b]? =some (.cells #[y0,y1,x0,x1,x2,x3,x4,x5,x6,y9,y10] t fr):=j9 h5 8 x6
 have h7:((((((((w.setCell ⟨b,2,none⟩ x0).setCell ⟨b,3,none⟩ x1).setCell ⟨b,4,none⟩ x2).setCell ⟨b,5,none⟩ x3).setCell ⟨b,6,none⟩ x4).setCell ⟨b,7,none⟩ x5).setCell ⟨b,8,none⟩ x6).setCell ⟨b,9,none⟩ x7).heap[b]? =some (.cells #[y0,y1,x0,x1,x2,x3,x4,x5,x6,x7,y10] t fr):=j9 h6 9 x7;have h8:(((((((((w.setCell ⟨b,2,none⟩ x0).setCell ⟨b,3,none⟩ x1).setCell ⟨b,4,none⟩ x2).setCell ⟨b,5,none⟩ x3).setCell ⟨b,6,none⟩ x4).setCell ⟨b,7,none⟩ x5).setCell ⟨b,8,none⟩ x6).setCell ⟨b,9,none⟩ x7).setCell ⟨b,10,none⟩ x8).heap[b]? =some (.cells #[y0,y1,x0,x1,x2,x3,x4,x5,x6,x7,x8] t fr):=j9 h7 10 x8;exact h8
theorem y3v{w:World}{b:Nat}{t:TypeId}{fr:Nat×Nat}{y0 y1 y2 y3 y4 y5 y6 y7 y8 y9 y10:Value}(h:w.heap[b]? =some (.cells #[y0,y1,y2,y3,y4,y5,y6,y7,y8,y9,y10] t fr))(x0 x1 x2 x3 x4 x5 x6 x7:Value):((((((((w.setCell ⟨b,2,none⟩ x0).setCell ⟨b,3,none⟩ x1).setCell ⟨b,4,none⟩ x2).setCell ⟨b,5,none⟩ x3).setCell ⟨b,6,none⟩ x4).setCell ⟨b,7,none⟩ x5).setCell ⟨b,8,none⟩ x6).setCell ⟨b,9,none⟩ x7).heap[b]? =some (.cells #[y0,y1,x0,x1,x2,x3,x4,x5,x6,x7,y10] t fr):=by
 have h0:(w.setCell ⟨b,2,none⟩ x0).heap[b]? =some (.cells #[y0,y1,x0,y3,y4,y5,y6,y7,y8,y9,y10] t fr):=j9 h 2 x0;have h1:((w.setCell ⟨b,2,none⟩ x0).setCell ⟨b,3,none⟩ x1).heap[b]? =some (.cells #[y0,y1,x0,x1,y4,y5,y6,y7,y8,y9,y10] t fr):=j9 h0 3 x1;have h2:(((w.setCell ⟨b,2,none⟩ x0).setCell ⟨b,3,none⟩ x1).setCell ⟨b,4,none⟩ x2).heap[b]? =some (.cells #[y0,y1,x0,x1,x2,y5,y6,y7,y8,y9,y10] t fr):=j9 h1 4 x2;have h3:((((w.setCell ⟨b,2,none⟩ x0).setCell ⟨b,3,none⟩ x1).setCell ⟨b,4,none⟩ x2).setCell ⟨b,5,none⟩ x3).heap[b]? =some (.cells #[y0,y1,x0,x1,x2,x3,y6,y7,y8,y9,y10] t fr):=j9 h2 5 x3;have h4:(((((w.setCell ⟨b,2,none⟩ x0).setCell ⟨b,3,none⟩ x1).setCell ⟨b,4,none⟩ x2).setCell ⟨b,5,none⟩ x3).setCell ⟨b,6,none⟩ x4).heap[b]? =some (.cells #[y0,y1,x0,x1,x2,x3,x4,y7,y8,y9,y10] t fr):=j9 h3 6 x4;have h5:((((((w.setCell ⟨b,2,none⟩ x0).setCell ⟨b,3,none⟩ x1).setCell ⟨b,4,none⟩ x2).setCell ⟨b,5,none⟩ x3).setCell ⟨b,6,none⟩ x4).setCell ⟨b,7,none⟩ x5).heap[b]? =some (.cells #[y0,y1,x0,x1,x2,x3,x4,x5,y8,y9,y10] t fr):=j9 h4 7 x5;have h6:(((((((w.setCell ⟨b,2,none⟩ x0).setCell ⟨b,3,none⟩ x1).setCell ⟨b,4,none⟩ x2).setCell ⟨b,5,none⟩ x3).setCell ⟨b,6,none⟩ x4).setCell ⟨b,7,none⟩ x5).setCell ⟨b,8,none⟩ x6).heap[b]? =some (.cells #[y0,y1,x0,x1,x2,x3,x4,x5,x6,y9,y10] t fr):=j9 h5 8 x6
 have h7:((((((((w.setCell ⟨b,2,none⟩ x0).setCell ⟨b,3,none⟩ x1).setCell ⟨b,4,none⟩ x2).setCell ⟨b,5,none⟩ x3).setCell ⟨b,6,none⟩ x4).setCell ⟨b,7,none⟩ x5).setCell ⟨b,8,none⟩ x6).setCell ⟨b,9,none⟩ x7).heap[b]? =some (.cells #[y0,y1,x0,x1,x2,x3,x4,x5,x6,x7,y10] t fr):=j9 h6 9 x7;exact h7
theorem y3B{w:World}{b:Nat}{t:TypeId}{fr:Nat×Nat}{y0 y1 y2 y3 y4 y5 y6 y7 y8 y9 y10:Value}(h:w.heap[b]? =some (.cells #[y0,y1,y2,y3,y4,y5,y6,y7,y8,y9,y10] t fr))(x:Value):(w.setCell ⟨b,2,none⟩ x).heap[b]? =some (.cells #[y0,y1,x,y3,y4,y5,y6,y7,y8,y9,y10] t fr):=j9 h 2 x
theorem q1e{w:World}{rB:Nat}{a:Option Addr}{n c N at0 f0:Nat}{x0:z1A}(h:w.heap[rB]? =some (wkO a n c N at0 x0 f0))(at_:Nat)(x:z1A)(f:Nat):(wkW w rB at_ x f).heap[rB]? =some (wkO a n c N at_ x f):=
 y4c h _ _ _ _ _ _ _ _ _
theorem y5k(w:World)(rB at_:Nat)(x:z1A)(f k:Nat)(h:k≠rB):(wkW w rB at_ x f).heap[k]? =w.heap[k]? :=by
 unfold wkW;rw [q7 h,q7 h,q7 h,q7 h,q7 h,q7 h,q7 h,q7 h,q7 h]
theorem z6w(w:World)(a:Addr)(u:Value):(w.setCell a u).heap.size=w.heap.size:=by simp [World.setCell]
theorem q2X(w:World)(a:Addr)(u:Value):(w.setCell a u).os=w.os:=rfl
theorem q0K(w:World)(a:Addr)(u:Value):(w.setCell a u).tape=w.tape:=rfl
theorem y5U(w:World)(a:Addr)(u:Value):(w.setCell a u).output=w.output:=rfl
theorem q2C{w w1:World}{rB:Nat}(hb:Below w.heap.size w w1)(at_:Nat)(x:z1A)(f:Nat):y7s rB w (wkW w1 rB at_ x f):=by
 have hs:(wkW w1 rB at_ x f).heap.size=w1.heap.size:=by unfold wkW;simp only [z6w]
 have ho:(wkW w1 rB at_ x f).os=w1.os:=by unfold wkW;simp only [q2X]
 have ht:(wkW w1 rB at_ x f).tape=w1.tape:=by unfold wkW;simp only [q0K]
 have hu:(wkW w1 rB at_ x f).output=w1.output:=by unfold wkW;simp only [y5U]
 exact ⟨ho.trans hb.os,ht.trans hb.tape,hu.trans hb.output,by rw [hs];exact hb.size,fun k hk hn=>(y5k w1 rB at_ x f k (by simpa using hn)).trans (hb.block k hk),fun k hk=>by cases hk⟩
structure CgS (W3:World) (f1 f2 f3 f4:World→World) (D:Nat→Bool) (v:Nat→Value) (w':World):Prop where
 no:D 21=false→Below W3.heap.size W3 w'
 s1:D 21=true→D 24=false→∃wc,Below W3.heap.size W3 wc∧w'=f1 wc
 s2:D 24=true→D 27=false→∃wc,Below W3.heap.size W3 wc∧w'=f2 (f1 wc)
 s3:D 27=true→D 30=false→∃wc,Below W3.heap.size W3 wc∧w'=f3 (f2 (f1 wc))
 s4:D 30=true→∃wc,Below W3.heap.size W3 wc∧w'=f4 (f3 (f2 (f1 wc)))
section
variable {W3 w':World} {f1 f2 f3 f4:World→World} {D:Nat→Bool} {v:Nat→Value}
theorem CgS.t1(h:Below W3.heap.size W3 w')(d24:D 24=false)(d27:D 27=false)(d30:D 30=false):CgS W3 f1 f2 f3 f4 (mark D 21) v (f1 w'):=
 ⟨fun e=>(by have e':true=false:=e;cases e'),fun _ _=>⟨w',h,rfl⟩,fun e=>(by have e':D 24=true:=e;rw [d24] at e';cases e'),fun e=>(by have e':D 27=true:=e;rw [d27] at e';cases e'),fun e=>(by have e':D 30=true:=e;rw [d30] at e';cases e')⟩
theorem CgS.t2(h:Below W3.heap.size W3 w')(d21:D 21=true)(d27:D 27=false)(d30:D 30=false):CgS W3 f1 f2 f3 f4 (mark D 24) v (f2 (f1 w')):=
 ⟨fun e=>(by have e':D 21=false:=e;rw [d21] at e';cases e'),fun _ e=>(by have e':true=false:=e;cases e'),fun _ _=>⟨w',h,rfl⟩,fun e=>(by have e':D 27=true:=e;rw [d27] at e';cases e'),fun e=>(by have e':D 30=true:=e;rw [d30] at e';cases e')⟩
theorem CgS.t3(h:Below W3.heap.size W3 w')(d21:D 21=true)(d24:D 24=true)(d30:D 30=false):CgS W3 f1 f2 f3 f4 (mark D 27) v (f3 (f2 (f1 w'))):=
 ⟨fun e=>(by have e':D 21=false:=e;rw [d21] at e';cases e'),fun _ e=>(by have e':D 24=false:=e;rw [d24] at e';cases e'),fun _ e=>(by have e':true=false:=e;cases e'),fun _ _=>⟨w',h,rfl⟩,fun e=>(by have e':D 30=true:=e;rw [d30] at e';cases e')⟩
theorem CgS.t4(h:Below W3.heap.size W3 w')(d21:D 21=true)(d24:D 24=true)(d27:D 27=true):CgS W3 f1 f2 f3 f4 (mark D 30) v (f4 (f3 (f2 (f1 w')))):=
 ⟨fun e=>(by have e':D 21=false:=e;rw [d21] at e';cases e'),fun _ e=>(by have e':D 24=false:=e;rw [d24] at e';cases e'),fun _ e=>(by have e':D 27=false:=e;rw [d27] at e';cases e'),fun _ e=>(by have e':true=false:=e;cases e'),fun _=>⟨w',h,rfl⟩⟩
end
structure q3H (l:List Bool) (at_:Nat) (x:z1A) (st:Int) (sv at2:Nat) (y:z1A) (f:Nat):Prop where
 ok:f=0→z1F l at_ x=(⟨⟨st,sv⟩,y,at2⟩::(z1F l at2 y).1,(z1F l at2 y).2)∧at_<at2∧at2≤l.length∧y.Ok∧y.n=x.n+1
 bad:f≠0→z1F l at_ x=([],false)∧at2=0∧y=z0e∧f=61
theorem q1o{l:List Bool}{p q:Nat}(hp:p≤l.length)(hq:q≤l.length)(h:l.drop p=l.drop q):p=q:=by
 have:=congrArg List.length h;simp only [List.length_drop] at this;omega
theorem q2B(a:Option Addr)(n c:Nat)(l:List Bool)(b:List UInt8)(at_:Nat)(x:z1A)(hx:x.Ok)(hxn:x.n≤1099511627776)(hl:l.length≤549755813000)(hi:at_<l.length):
  ∃st sv at2 y f,q3H l at_ x st sv at2 y f∧∀w,z0o w a n c l b→z1m w→Calls Tryz.prog 178 #[.agg #[.slice a n c, .int .i64 l.length], .int .i64 (at_:Nat), .agg #[.int .i64 (x.n:Nat), .int .i64 x.last, .int .i64 x.delta, .bool x.val.has, .int .u64 (x.val.prev:Nat), .int .u8 (x.val.lead:Nat), .int .u8 (x.val.width:Nat)]] w fun e w'=>
   e= .returned (.tuple #[.agg #[.int .i64 st, .int .u64 (sv:Nat)], .int .i64 (at2:Nat), .agg #[.int .i64 (y.n:Nat), .int .i64 y.last, .int .i64 y.delta, .bool y.val.has, .int .u64 (y.val.prev:Nat), .int .u8 (y.val.lead:Nat), .int .u8 (y.val.width:Nat)], .int .u16 (f:Nat)])∧Below w.heap.size w w':=by
 cases hc:z1e x (l.drop at_) with
 | none=>
  refine ⟨0,0,0,z0e,61,⟨(fun h=>by cases h),fun _=>⟨y4X hi hc,rfl,rfl,rfl⟩⟩,fun w hb hT=>?_⟩;refine (q0E a n c l b at_ x.n x.last x.delta x.val.has x.val.prev x.val.lead x.val.width hx hxn w hb hl (Nat.le_of_lt hi) hT).mono ?_;rintro e w' ⟨hb',h | h⟩
  ·obtain ⟨s,y,p,h1,_⟩:=h;have h1:z1e x (l.drop at_)=_:=h1;rw [hc] at h1;cases h1
  ·exact ⟨h.2,hb'⟩
 | some q=>
  obtain ⟨s,y,r⟩:=q;obtain ⟨q,hq,_⟩:=z7N hc;have hsp:=z1B hx hc;have hlen:=congrArg List.length hq;rw [List.length_append,List.length_drop] at hlen;have hr:r=l.drop (at_+q.length):=by
   rw [←List.drop_drop,hq,List.drop_left]
  have hlr:=hsp.1;rw [List.length_drop] at hlr;have hp:at_+q.length≤l.length:=by omega
  have hap:at_<at_+q.length:=by omega
  rw [hr] at hc;refine ⟨s.t,s.v,at_+q.length,y,0,⟨fun _=>⟨y5x hx hi hp hap hc,hap,hp,hsp.2.2.1,hsp.2.2.2.1⟩,fun h=>absurd rfl h⟩,fun w hb hT=>?_⟩;refine (q0E a n c l b at_ x.n x.last x.delta x.val.has x.val.prev x.val.lead x.val.width hx hxn w hb hl (Nat.le_of_lt hi) hT).mono ?_;rintro e w' ⟨hb',h | h⟩
  ·obtain ⟨s',y',p,h1,h2,h3,h4⟩:=h;have h1:z1e x (l.drop at_)=_:=h1;rw [hc] at h1;simp only [Option.some.injEq,Prod.mk.injEq] at h1;obtain ⟨rfl,rfl,h5⟩:=h1;rw [q1o hp h3 h5];exact ⟨h4,hb'⟩
  ·have h1:z1e x (l.drop at_)=none:=h.1;rw [hc] at h1;cases h1
theorem y6h(n:Nat)(hn1:1≤n)(a:Option Addr)(m c:Nat)(l:List Bool)(b:List UInt8)(B h rB:Nat)(w:World)
  (hr:w.heap[rB]? =some (wkO a m c l.length 0 z0e 0)) (hx:z0o w a m c l b) (hl:l.length≤549755812000) (hob:0<b.length→∀k,(Value.slice a m c).ownBlock=some k→k<B∧k≠h∧k≠rB)
  (lB:rB<B) (hB:B≤w.heap.size) (nO:rB≠h) (hT:∀w',(∀k,k<B→k≠h→k≠rB→w'.heap[k]? =w.heap[k]?)→z1m w'):
  y6p Fence.wide n Tryz.prog 119 #[.pointer (some ⟨rB,0,none⟩)] #[] (fun x:z0V=> #[.agg #[.int .i64 x.s.t, .int .u64 (x.s.v:Nat)]]) (q1W (z1F l 0 z0e).1 rB a m c l.length) (q3g B h) (y7s rB) (fun xs=>xs=(z1F l 0 z0e).1) (z7v (z1F l 0 z0e) rB a m c l.length) w:=by
 intro lp J W hW hlp hJ hY h0;refine callsIn_of_wp Tryz.func119 rfl trivial ?_ rfl;simp only [Tryz.ntmps119,List.size_toArray,List.length_cons,List.length_nil,Nat.reduceAdd,Nat.reduceSub,Array.replicate_succ,Array.replicate_zero,List.push_toArray,List.append_toArray,List.nil_append,List.cons_append];have hr1:=(hW.block rB (by omega) (by simp)).trans hr;obtain ⟨N,hN⟩:∃N,N=l.length:=⟨_,rfl⟩;rw [←hN] at hr1 hY ⊢;obtain ⟨ST,hST⟩:∃ST,ST=z1F l 0 z0e:=⟨_,rfl⟩;rw [←hST] at hY ⊢;have HST:=z7 hST;clear hST;have HX0:Hid (∀w',(∀k,k<B→k≠h→k≠rB→w'.heap[k]? =w.heap[k]?)→z0o w' a m c l b):=z7 fun w' hk=>⟨y8o hx.rd fun h0 k hk'=>hk k (hob h0 k hk').1 (hob h0 k hk').2.1 (hob h0 k hk').2.2,hx.len,hx.bits⟩;have HTB:=z7 hT;have hW0:Hid (∀k,k<B→k≠h→k≠rB→W.heap[k]? =w.heap[k]?):=z7 fun k hk _ _=>hW.block k (by omega) (by simp);have hNl:N≤549755812000:=by omega
 have hBW:Hid (B≤W.heap.size):=z7 (Nat.le_trans hB hW.size);have HSB:=z7 (z2s hx.bits);have HLEN:=z7 hx.len;have hml:m≤70368744177665:=by have:=hx.bits.len;have:=hx.len;omega
 have HN:=z7 hN;have HJ:=z7 hJ;have HY:=z7 hY;have HR1:=z7 hr1;have H0:=z7 h0;obtain ⟨s0,s1,s2,s3,s4,s5,s6,s7,s8,s9,s10,sf⟩:=z0q hr1;clear hx hT hob hr hW hJ hY h0 hr1 hl hN
 gi_wp2_with fail
 refine ⟨trivial,callsIn_wide.2 ?_⟩;have HXW:=HX0.out W hW0.out;have hsn:=z2x a c b N W (by have:=HXW.rd;rw [HLEN.out] at this;exact this) (by have:=HLEN.out;omega) (by omega) (by omega);rw [←HLEN.out,HN.out,HSB.out,←HN.out] at hsn;refine hsn.mono ?_;rintro e W2 ⟨rfl,hb2⟩;have hJ2:Hid (J [] W2):=z7 (HJ.out [] W W2 H0.out ⟨hb2.os,hb2.tape,hb2.output,hb2.size,fun k hk _=>hb2.block k hk,fun k hk=>by cases hk⟩);have hr2:Hid (W2.heap[rB]? =some (wkO a m c N 0 z0e 0)):=z7 ((hb2.block rB (Array.getElem?_eq_some_iff.1 HR1.out).1).trans HR1.out);have hW2:Hid (∀k,k<B→k≠h→k≠rB→W2.heap[k]? =w.heap[k]?):=z7 fun k hk h1 h2=>(hb2.block k (by have:=hBW.out;omega)).trans (hW0.out k hk h1 h2);have hB2:Hid (B≤W2.heap.size):=z7 (Nat.le_trans hBW.out hb2.size);clear hsn HXW hb2 s0 s1 s2 s3 s4 s5 s6 s7 s8 s9 s10 sf
 gi_wp2_with fail
 gi_loopw [4] (fun i wr=>∃(pre:List z0V) (at_:Nat) (x:z1A),at_≤N∧Hid (x.Ok∧x.n≤at_)∧Hid (pre++(z1F l at_ x).1=ST.1∧(z1F l at_ x).2=ST.2∧x=z0l z0e pre)∧wr.heap[rB]? =some (wkO a m c N at_ x 0)∧Hid (∀k,k<B→k≠h→k≠rB→wr.heap[k]? =w.heap[k]?)∧Hid (B≤wr.heap.size)∧Hid (J pre wr)) (fun i wr=>N - q0n rB wr)
 case atStart=>exact ⟨[],0,z0e,Nat.zero_le _,z7 ⟨z4p,by simp [z0e]⟩,z7 ⟨by rw [HST.out];rfl,by rw [HST.out],rfl⟩,hr2.out,hW2,hB2,hJ2⟩
 case round=>
  obtain ⟨pre,at_,x,hat,hxo,hpre,ur,hWr,hBr,hJr⟩:=hrel;have ul:=(Array.getElem?_eq_some_iff.1 ur).1;have HUR:=z7 ur;obtain ⟨u0,u1,u2,u3,u4,u5,u6,u7,u8,u9,u10,uf⟩:=z0q ur;clear hJ2 hr2 hW2 hB2 HR1 H0 ur;have hfx:Hid (at_=N→(∃xs,xs=ST.1∧J xs wr)∧z7v ST rB a m c N wr):=z7 fun e=>by
   have h9:=hpre.out;rw [e,HN.out,y5Z] at h9;simp only [List.append_nil] at h9;refine ⟨⟨pre,h9.1,hJr.out⟩,?_⟩;unfold z7v;rw [←h9.2.1,if_pos rfl,←h9.1,←h9.2.2,HUR.out,e]
  by_cases hlt:at_<N
  ·have d1:decide ((at_:Int)<N)=true:=decide_eq_true (by omega);have n1:decide (at_<N)=true:=decide_eq_true hlt;clear hfx;have hcl:Hid (∀w',Below wr.heap.size wr w'→w'.heap[rB]? =some (wkO a m c N at_ x 0)):=z7 fun w' hb=>(hb.block rB ul).trans HUR.out;clear u0 u1 u2 u3 u4 u5 u6 u7 u8 u9 u10 uf
   gi_wp2_with fail
   refine wpIn_wide.2 ?_;refine q6 17 69 (by kernel_rfl) (by kernel_rfl) rfl (by kernel_rfl) (fun D v w'=>Below wr.heap.size wr w') (fun _=>undef) (Below.refl _ _).drew ?_;simp only [List.take_succ_cons,List.take_zero,List.drop_succ_cons,List.drop_zero];iterate 17 (refine q8.rd (e:=?_) (fun D v w' hD hS=>?_) ?_;rotate_left;(obtain ⟨u0,u1,u2,u3,u4,u5,u6,u7,u8,u9,u10,uf⟩:=z0q (hcl.out w' hS);clear hS hD;first | (go_simp;done) | (go_simp;with_reducible rfl));go_simp)
   refine q8.fin (fun v w3 hS=>?_);have hb3:=z7 hS;clear hS;go_wp2
   gi_wp2_with fail
   obtain ⟨st,sv,at2,y,f,hgi,hget⟩:=q2B a m c l b at_ x hxo.out.1 (by have:=hxo.out.2;omega) (by have:=HN.out;omega) (by have:=HN.out;omega);rw [←HN.out] at hget;have HGI:=z7 hgi;have HGET:=z7 hget;clear hgi hget;obtain ⟨tb,htb⟩:∃tb,tb=w3.heap.size:=⟨_,rfl⟩;obtain ⟨W3,hW3⟩:∃W3,W3=w3.alloc (.cells #[.int .i64 0, .int .u64 0] 113):=⟨_,rfl⟩;rw [←hW3,←htb];have hbW3:Hid (Below wr.heap.size wr W3):=z7 (hb3.out.trans (by rw [hW3];exact (q5 _ _).mono hb3.out.size));have hgt:Hid (∀w',Below W3.heap.size W3 w'→w'.heap[tb]? =some (.cells #[.int .i64 0, .int .u64 0] 113 (0,0))):=z7 fun w' hb=>by
    have hg:W3.heap[tb]? =some (.cells #[.int .i64 0, .int .u64 0] 113 (0,0)):=by rw [hW3,htb];exact j8 _ _
    exact (hb.block tb (Array.getElem?_eq_some_iff.1 hg).1).trans hg
   have htr:rB≠tb:=by have:=hb3.out.size;omega
   have htB:Hid (B≤tb):=z7 (by have:=hb3.out.size;have:=hBr.out;omega);have hcl3:Hid (∀w',Below W3.heap.size W3 w'→w'.heap[rB]? =some (wkO a m c N at_ x 0)):=z7 fun w' hb=>hcl.out w' (hbW3.out.trans (hb.mono hbW3.out.size));have hk3:Hid (∀w',Below W3.heap.size W3 w'→∀k,k<B→k≠h→k≠rB→w'.heap[k]? =w.heap[k]?):=z7 fun w' hb k hk h1 h2=>((hbW3.out.trans (hb.mono hbW3.out.size)).block k (by have:=hBr.out;omega)).trans (hWr.out k hk h1 h2);have HTBE:=z7 htb;clear hW3 htb;refine wpIn_wide.2 ?_;refine q6 31 69 (by kernel_rfl) (by kernel_rfl) rfl (by kernel_rfl) (fun D v w'=>CgS W3 (fun w=>(w.setCell ⟨tb,0,none⟩ (.int .i64 st)).setCell ⟨tb,1,none⟩ (.int .u64 (sv:Nat))) (fun w=>w.setCell ⟨rB,2,none⟩ (.int .i64 (at2:Nat))) (fun w=>((((((w.setCell ⟨rB,3,none⟩ (.int .i64 (y.n:Nat))).setCell ⟨rB,4,none⟩ (.int .i64 y.last)).setCell ⟨rB,5,none⟩ (.int .i64 y.delta)).setCell ⟨rB,6,none⟩ (.bool y.val.has)).setCell ⟨rB,7,none⟩ (.int .u64 (y.val.prev:Nat))).setCell ⟨rB,8,none⟩ (.int .u8 (y.val.lead:Nat))).setCell ⟨rB,9,none⟩ (.int .u8 (y.val.width:Nat))) (fun w=>w.setCell ⟨rB,10,none⟩ (.int .u16 (f:Nat))) D v w') (fun _=>undef) ⟨fun _=>(Below.refl _ _).drew,(fun h=>by cases h),(fun h=>by cases h),(fun h=>by cases h),(fun h=>by cases h)⟩ ?_;simp only [List.take_succ_cons,List.take_zero,List.drop_succ_cons,List.drop_zero]
   iterate 4 (refine q8.read (e:=?_) (fun v=>by rfl) (fun D v w h=>⟨h.no,h.s1,h.s2,h.s3,h.s4⟩) (fun D v w' hD hS=>?_) ?_;rotate_left;(skip;clear hS hD;first | (go_simp;done) | (go_simp;with_reducible rfl));go_simp)
   iterate 11 (refine q8.read (e:=?_) (fun v=>by rfl) (fun D v w h=>⟨h.no,h.s1,h.s2,h.s3,h.s4⟩) (fun D v w' hD hS=>?_) ?_;rotate_left;(obtain ⟨u0,u1,u2,u3,u4,u5,u6,u7,u8,u9,u10,uf⟩:=z0q (hcl3.out w' (hS.no (hD.post 21 _ rfl (by kernel_rfl))));clear hS hD;first | (go_simp;done) | (go_simp;with_reducible rfl));go_simp)
   refine q8.call (.tuple #[.agg #[.int .i64 st, .int .u64 (sv:Nat)], .int .i64 (at2:Nat), .agg #[.int .i64 (y.n:Nat), .int .i64 y.last, .int .i64 y.delta, .bool y.val.has, .int .u64 (y.val.prev:Nat), .int .u8 (y.val.lead:Nat), .int .u8 (y.val.width:Nat)], .int .u16 (f:Nat)]) (fun v=>by rfl) (fun D v w' hD hS=>?_) ?_
   ·have d21:=hD.post 21 _ rfl (by kernel_rfl);have d24:=hD.post 24 _ rfl (by kernel_rfl);have d27:=hD.post 27 _ rfl (by kernel_rfl);have d30:=hD.post 30 _ rfl (by kernel_rfl);have HS:=z7 (hS.no d21);have DD:Hid (D 21=false∧D 24=false∧D 27=false∧D 30=false):=z7 ⟨d21,d24,d27,d30⟩;clear hS hD d21 d24 d27 d30;go_simp;go_at_call 178;refine (HGET.out w' (HX0.out w' (hk3.out w' HS.out)) (HTB.out w' (hk3.out w' HS.out))).mono ?_;rintro e w'' ⟨rfl,hb'⟩;obtain ⟨d21,d24,d27,d30⟩:=DD.out;refine ⟨rfl,⟨fun _=>HS.out.trans (hb'.mono HS.out.size),fun e=>?_,fun e=>?_,fun e=>?_,fun e=>?_⟩⟩
    ·have e':D 21=true:=e;rw [d21] at e';cases e'
    ·have e':D 24=true:=e;rw [d24] at e';cases e'
    ·have e':D 27=true:=e;rw [d27] at e';cases e'
    ·have e':D 30=true:=e;rw [d30] at e';cases e'
   go_simp;iterate 5 (refine q8.read (e:=?_) (fun v=>by rfl) (fun D v w h=>⟨h.no,h.s1,h.s2,h.s3,h.s4⟩) (fun D v w' hD hS=>?_) ?_;rotate_left;(skip;clear hS hD;first | (go_simp;done) | (go_simp;with_reducible rfl));go_simp)
   refine q8.call undef (fun v=>by rfl) (fun D v w' hD hS=>?_) ?_
   ·have d21:D 21=false:=hD.self;have d24:=hD.post 24 _ rfl (by kernel_rfl);have d27:=hD.post 27 _ rfl (by kernel_rfl);have d30:=hD.post 30 _ rfl (by kernel_rfl);have HS:=z7 (hS.no d21);have DD:Hid (D 24=false∧D 27=false∧D 30=false):=z7 ⟨d24,d27,d30⟩;clear hS hD d21 d24 d27 d30;obtain ⟨z0,z1,zf⟩:=z0g (hgt.out w' HS.out);go_simp;exact CgS.t1 HS.out DD.out.1 DD.out.2.1 DD.out.2.2
   go_simp;iterate 2 (refine q8.read (e:=?_) (fun v=>by rfl) (fun D v w h=>⟨h.no,h.s1,h.s2,h.s3,h.s4⟩) (fun D v w' hD hS=>?_) ?_;rotate_left;(skip;clear hS hD;first | (go_simp;done) | (go_simp;with_reducible rfl));go_simp)
   refine q8.call undef (fun v=>by rfl) (fun D v w' hD hS=>?_) ?_
   ·have dself:D 24=false:=hD.self;have d21:D 21=true:=hD.pre 21 (by kernel_rfl);have d27:=hD.post 27 _ rfl (by kernel_rfl);have d30:=hD.post 30 _ rfl (by kernel_rfl);obtain ⟨wc,hbc,hwc⟩:=hS.s1 d21 dself;have HBC:=z7 hbc;have DD:=z7 (And.intro d21 (And.intro d27 d30));clear hS hD dself d21 d27 d30 hbc;have HWC:=z7 hwc;clear hwc;have hu':w'.heap[rB]? =some (wkO a m c N at_ x 0):=(by rw [HWC.out];exact (q7 htr).trans ((q7 htr).trans (hcl3.out wc HBC.out)));obtain ⟨u0,u1,u2,u3,u4,u5,u6,u7,u8,u9,u10,uf⟩:=z0q hu';clear hu';go_simp;rw [HWC.out];exact CgS.t2 HBC.out DD.out.1 DD.out.2.1 DD.out.2.2
   go_simp;iterate 2 (refine q8.read (e:=?_) (fun v=>by rfl) (fun D v w h=>⟨h.no,h.s1,h.s2,h.s3,h.s4⟩) (fun D v w' hD hS=>?_) ?_;rotate_left;(skip;clear hS hD;first | (go_simp;done) | (go_simp;with_reducible rfl));go_simp)
   refine q8.call undef (fun v=>by rfl) (fun D v w' hD hS=>?_) ?_
   ·have dself:D 27=false:=hD.self;have d21:D 21=true:=hD.pre 21 (by kernel_rfl);have d24:D 24=true:=hD.pre 24 (by kernel_rfl);have d30:=hD.post 30 _ rfl (by kernel_rfl);obtain ⟨wc,hbc,hwc⟩:=hS.s2 d24 dself;have HBC:=z7 hbc;have DD:=z7 (And.intro d21 (And.intro d24 d30));clear hS hD dself d21 d24 d30 hbc;have HWC:=z7 hwc;clear hwc;have hu':w'.heap[rB]? =some (wkO a m c N at2 x 0):=(by rw [HWC.out];exact y3B ((q7 htr).trans ((q7 htr).trans (hcl3.out wc HBC.out))) _);obtain ⟨u0,u1,u2,u3,u4,u5,u6,u7,u8,u9,u10,uf⟩:=z0q hu';clear hu';go_simp;rw [HWC.out];exact CgS.t3 HBC.out DD.out.1 DD.out.2.1 DD.out.2.2
   go_simp;iterate 2 (refine q8.read (e:=?_) (fun v=>by rfl) (fun D v w h=>⟨h.no,h.s1,h.s2,h.s3,h.s4⟩) (fun D v w' hD hS=>?_) ?_;rotate_left;(skip;clear hS hD;first | (go_simp;done) | (go_simp;with_reducible rfl));go_simp)
   refine q8.call undef (fun v=>by rfl) (fun D v w' hD hS=>?_) ?_
   ·have dself:D 30=false:=hD.self;have d21:D 21=true:=hD.pre 21 (by kernel_rfl);have d24:D 24=true:=hD.pre 24 (by kernel_rfl);have d27:D 27=true:=hD.pre 27 (by kernel_rfl);obtain ⟨wc,hbc,hwc⟩:=hS.s3 d27 dself;have HBC:=z7 hbc;have DD:=z7 (And.intro d21 (And.intro d24 d27));clear hS hD dself d21 d24 d27 hbc;have HWC:=z7 hwc;clear hwc;have hu':w'.heap[rB]? =some (wkO a m c N at2 y 0):=(by rw [HWC.out];exact y3v ((q7 htr).trans ((q7 htr).trans (hcl3.out wc HBC.out))) _ _ _ _ _ _ _ _);obtain ⟨u0,u1,u2,u3,u4,u5,u6,u7,u8,u9,u10,uf⟩:=z0q hu';clear hu';go_simp;rw [HWC.out];exact CgS.t4 HBC.out DD.out.1 DD.out.2.1 DD.out.2.2
   go_simp;refine q8.fin (fun v w8 hS=>?_);obtain ⟨wc,hbc,hwc0⟩:=hS.s4 rfl;clear hS;have hwc:w8=wkW ((wc.setCell ⟨tb,0,none⟩ (.int .i64 st)).setCell ⟨tb,1,none⟩ (.int .u64 (sv:Nat))) rB at2 y f:=hwc0;clear hwc0;have hu8:Hid (w8.heap[rB]? =some (wkO a m c N at2 y f)):=z7 (by rw [hwc];exact q1e (by rw [q7 htr,q7 htr];exact hcl3.out wc hbc) at2 y f);have ht8:Hid (w8.heap[tb]? =some (.cells #[.int .i64 st, .int .u64 (sv:Nat)] 113 (0,0))):=z7 (by
    rw [hwc,y5k _ _ _ _ _ _ (Ne.symm htr)];have:=j9 (j9 (hgt.out wc hbc) 0 (.int .i64 st)) 1 (.int .u64 (sv:Nat));simpa using this)
   have hk8:Hid (∀k,k<B→k≠h→k≠rB→w8.heap[k]? =w.heap[k]?):=z7 fun k hk h1 h2=>by
    have h3:k≠tb:=by have:=htB.out;omega
    rw [hwc,y5k _ _ _ _ _ _ h2,q7 h3,q7 h3];exact hk3.out wc hbc k hk h1 h2
   have hwt:Hid (wr.heap.size≤tb):=z7 (by have:=hb3.out.size;rw [HTBE.out];exact this);have hJ8:Hid (J pre w8):=z7 (HJ.out pre wr w8 hJr.out (by
    rw [hwc];exact q2C (((hbW3.out.trans (hbc.mono hbW3.out.size)).setCell hwt.out _).setCell hwt.out _) at2 y f))
   have hB8:Hid (B≤w8.heap.size):=z7 (by
    have h1:=(hbW3.out.trans (hbc.mono hbW3.out.size)).size;rw [hwc];unfold wkW;simp only [z6w];have:=hBr.out;omega)
   clear hwc hbc;obtain ⟨u0,u1,u2,u3,u4,u5,u6,u7,u8,u9,u10,uf⟩:=z0q hu8.out;obtain ⟨z0,z1,zf⟩:=z0g ht8.out;by_cases hf:f=0
   ·obtain ⟨g1,g2,g3,g4,g5⟩:=HGI.out.ok hf;subst hf;have hpre8:Hid (pre++⟨⟨st,sv⟩,y,at2⟩::(z1F l at2 y).1=ST.1∧(z1F l at2 y).2=ST.2∧y=z0l z0e (pre++ [⟨⟨st,sv⟩,y,at2⟩])):=z7 (by
     have h9:=hpre.out;rw [g1] at h9;refine ⟨h9.1,h9.2.1,?_⟩;unfold z0l;simp)
    have hok:q1W ST.1 rB a m c N pre ⟨⟨st,sv⟩,y,at2⟩ w8:=⟨⟨_,hpre8.out.1⟩,hu8.out⟩;obtain ⟨fn,tmps,assign,body,hy,hR⟩:=HY.out pre ⟨⟨st,sv⟩,y,at2⟩ w8 hJ8.out hok;dsimp only at hy;have hyo:Hid (y.Ok∧y.n≤at2):=z7 ⟨g4,by have:=hxo.out.2;omega⟩;have hat2:at2≤N∧at_<at2:=⟨by have:=HN.out;omega,g2⟩;clear hok g1 g2 g3 g4 g5;have U8:=z7 hu8.out;go_wp2
    gi_wp2
    refine hR.mono ?_;rintro e W9 ⟨rfl,hJ9,hk9⟩;have hr9:=(hk9.2 rB lB nO).trans U8.out;have hW9:Hid (∀k,k<B→k≠h→k≠rB→W9.heap[k]? =w.heap[k]?):=z7 fun k hk h1 h2=>(hk9.2 k hk h1).trans (hk8.out k hk h1 h2);have hB9:Hid (B≤W9.heap.size):=z7 (Nat.le_trans hB8.out hk9.1);have HJ9:=z7 hJ9;have HR9:=z7 hr9;clear hk9 hr9 hJ9 u0 u1 u2 u3 u4 u5 u6 u7 u8 u9 u10 uf z0 z1 zf hy hR
    gi_wp2
    go_roundw
    case rel=>exact ⟨_,at2,y,hat2.1,hyo,z7 ⟨by rw [List.append_assoc];exact hpre8.out.1,hpre8.out.2.1,hpre8.out.2.2⟩,HR9.out,hW9,hB9,HJ9⟩
    case measure=>
     have e1:q0n rB W9=at2:=by
      unfold q0n;rw [(z0q HR9.out).2.2.1];simp
     have e2:q0n rB wr=at_:=by
      unfold q0n;rw [(z0q HUR.out).2.2.1];simp
     rw [e1,e2];omega
   ·obtain ⟨g1,g2,g3,g4⟩:=HGI.out.bad hf;have hfin:Hid ((∃xs,xs=ST.1∧J xs w8)∧z7v ST rB a m c N w8):=z7 (by
     have h9:=hpre.out;rw [g1] at h9;simp only [List.append_nil] at h9;refine ⟨⟨pre,h9.1,hJ8.out⟩,?_⟩;unfold z7v;rw [←h9.2.1,if_neg (by decide),hu8.out,g2,g3,g4])
    have hf61:f=61:=g4;clear g1 g2 g3 g4 hf;subst hf61;go_wp2
    gi_wp2
    refine ⟨fun f hf=>(by cases hf),?_⟩
    gi_wp2
    refine bodyPost_ret (results_none rfl _ _ _) rfl ⟨⟨_,rfl⟩,hfin.out.1,hfin.out.2⟩
  ·have d1:decide ((at_:Int)<N)=false:=decide_eq_false (by omega);have n1:decide (at_<N)=false:=decide_eq_false hlt;obtain ⟨q1,q2⟩:=hfx.out (by omega);have hcl:Hid (∀w',Below wr.heap.size wr w'→w'.heap[rB]? =some (wkO a m c N at_ x 0)):=z7 fun w' hb=>(hb.block rB ul).trans HUR.out;have HFIN:Hid (∀w',Below wr.heap.size wr w'→(∃xs,xs=ST.1∧J xs w')∧z7v ST rB a m c N w'):=z7 fun w' hb=>by
    obtain ⟨xs,h1,h2⟩:=q1;refine ⟨⟨xs,h1,HJ.out xs wr w' h2 ⟨hb.os,hb.tape,hb.output,hb.size,fun k hk _=>hb.block k hk,fun k hk=>by cases hk⟩⟩,?_⟩;exact (hb.block rB ul).trans q2
   clear q1 q2 hfx u0 u1 u2 u3 u4 u5 u6 u7 u8 u9 u10 uf
   gi_wp2_with fail
   refine wpIn_wide.2 ?_;refine q6 17 69 (by kernel_rfl) (by kernel_rfl) rfl (by kernel_rfl) (fun D v w'=>Below wr.heap.size wr w') (fun _=>undef) (Below.refl _ _).drew ?_;simp only [List.take_succ_cons,List.take_zero,List.drop_succ_cons,List.drop_zero];iterate 17 (refine q8.rd (e:=?_) (fun D v w' hD hS=>?_) ?_;rotate_left;(obtain ⟨u0,u1,u2,u3,u4,u5,u6,u7,u8,u9,u10,uf⟩:=z0q (hcl.out w' hS);clear hS hD;first | (go_simp;done) | (go_simp;with_reducible rfl));go_simp)
   refine q8.fin (fun v w3 hS=>?_);obtain ⟨q1,q2⟩:=HFIN.out w3 hS;have HQ1:=z7 q1;have HQ2:=z7 q2;clear hS q1 q2;go_wp2
   gi_wp2_with fail
   go_end0
   exact ⟨⟨_,rfl⟩,HQ1.out,HQ2.out⟩
end Go.Proofs.YtfcnapnopdomhaaGreatDoor

/-
  In a region that draws its order: a call that hands back several things, and what takes them apart.
-/
import Derived.Test.YtpocjegemokjgaaGreatDoorZRegReg2Reg3
import Derived.Test.YtpocjegemokjgaaGreatDoorZBaseBiMItemsLaw
import Derived.Maps.RangeWalk
import Derived.Maps.OwnOps
import Derived.Maps.OwnSet
import Derived.Sort.KeysCollected
namespace Go.Proofs.YtpocjegemokjgaaGreatDoor
open Go.Proofs.Tryz
set_option linter.all false
set_option maxRecDepth 100000
set_option maxHeartbeats 12800000
section
open Go.RowKit
theorem z1L(D:Nat->Bool)(k:Nat):mark D k k=true:=by simp[mark]
theorem q9{D:Nat->Bool}{k j:Nat}(h:k≠j):mark D k j=D j:=by simp[mark,h]
theorem z0p(v:Nat->Value)(k:Nat)(u:Value):z2O v k u k=u:=by simp[z2O]
theorem z0d{v:Nat->Value}{k j:Nat}{u:Value}(h:k≠j):z2O v k u j=v j:=by simp[z2O,h]
def z8V(j:Nat)(u:Value):Value:=match u with
 | .tuple xs=>xs.getD j undef
 | _=>undef
structure z4O (n m:Nat) (T:Bool->Value->World->Prop) (D:Nat->Bool) (v:Nat->Value) (w:World):Prop where
 t:T (D n) (v n) w
 mv:D (n+1)=true->D n=true/\v (n+1)=v n
 ex:∀j,j<m->D (n+2+j)=true->D (n+1)=true/\v (n+2+j)=z8V j (v n)
 ag:∀j,j<m->D (n+2+m+j)=true->D (n+2+j)=true/\v (n+2+m+j)=z8V j (v n)
section
variable {n m:Nat} {T:Bool->Value->World->Prop} {D:Nat->Bool} {v:Nat->Value} {w w':World}
theorem z4O.start(h:T false (v n) w):z4O n m T (fun _=>false) v w:=⟨h,fun h=>by simp at h,fun j _ h=>by simp at h,fun j _ h=>by simp at h⟩
theorem z4O.read(h:z4O n m T D v w)(k:Nat)(L:k<n):z4O n m T (mark D k) v w:=by
 have I:∀j,n<=j->mark D k j=D j:=fun j J=>q9 (by omega);refine⟨by rw[I n (Nat.le_refl _)];exact h.t,fun A=>?_,fun j J A=>?_,fun j J A=>?_⟩
 ·rw[I _ (by omega)]at A;rw[I _ (by omega)];exact h.mv A
 ·rw[I _ (by omega)]at A;rw[I _ (by omega)];exact h.ex j J A
 ·rw[I _ (by omega)]at A;rw[I _ (by omega)];exact h.ag j J A
theorem z4O.called{u:Value}(h:z4O n m T D v w)(hd:D n=false)(O:T true u w'):z4O n m T (mark D n) (z2O v n u) w':=by
 have J:D (n+1)=false:=by
  cases e:D (n+1)with
  | false=>rfl
  | true=>have:=(h.mv e).1;rw[hd]at this;cases this
 have L:∀j,j<m->D (n+2+j)=false:=fun j I=>by
  cases e:D (n+2+j)with
  | false=>rfl
  | true=>have:=(h.ex j I e).1;rw[J]at this;cases this
 have N:∀j,j<m->D (n+2+m+j)=false:=fun j I=>by
  cases e:D (n+2+m+j)with
  | false=>rfl
  | true=>have:=(h.ag j I e).1;rw[L j I]at this;cases this
 refine⟨by rw[z1L,z0p];exact O,fun A=>?_,fun j I A=>?_,fun j I A=>?_⟩
 ·rw[q9 (by omega),J]at A;cases A
 ·rw[q9 (by omega),L j I]at A;cases A
 ·rw[q9 (by omega),N j I]at A;cases A
theorem z4O.moved(h:z4O n m T D v w)(hd:D n=true):z4O n m T (mark D (n+1)) (z2O v (n+1) (v n)) w:=by
 have J:z2O v (n+1) (v n) n=v n:=z0d (by omega);refine⟨by rw[q9 (by omega),J];exact h.t,fun _=>⟨by rw[q9 (by omega)];exact hd,by rw[z0p,J]⟩,fun j I A=>?_,fun j I A=>?_⟩
 ·rw[q9 (by omega)]at A;exact⟨z1L _ _,by rw[z0d (by omega),J];exact(h.ex j I A).2⟩
 ·rw[q9 (by omega)]at A;exact⟨by rw[q9 (by omega)];exact(h.ag j I A).1,by rw[z0d (by omega),J];exact(h.ag j I A).2⟩
theorem z4O.ext(h:z4O n m T D v w)(i:Nat)(O:i<m)(hd:D (n+1)=true){u:Value}(N:z8V i (v n)=u):z4O n m T (mark D (n+2+i)) (z2O v (n+2+i) u) w:=by
 have I:z2O v (n+2+i) u n=v n:=z0d (by omega);refine⟨by rw[q9 (by omega),I];exact h.t,fun A=>?_,fun j J A=>?_,fun j J A=>?_⟩
 ·rw[q9 (by omega)]at A;rw[q9 (by omega),z0d (by omega),I];exact h.mv A
 ·refine⟨by rw[q9 (by omega)];exact hd,?_⟩;by_cases e:i=j
  ·subst e;rw[z0p,I,N]
  ·rw[q9 (by omega)]at A;rw[z0d (by omega),I];exact(h.ex j J A).2
 ·rw[q9 (by omega)]at A;have L:=h.ag j J A;refine⟨?_,by rw[z0d (by omega),I];exact L.2⟩;by_cases e:i=j
  ·subst e;exact z1L _ _
  ·rw[q9 (by omega)];exact L.1
theorem z4O.asg(h:z4O n m T D v w)(i:Nat)(N:i<m)(hd:D (n+2+i)=true):z4O n m T (mark D (n+2+m+i)) (z2O v (n+2+m+i) (v (n+2+i))) w:=by
 have I:z2O v (n+2+m+i) (v (n+2+i)) n=v n:=z0d (by omega);refine⟨by rw[q9 (by omega),I];exact h.t,fun A=>?_,fun j J A=>?_,fun j J A=>?_⟩
 ·rw[q9 (by omega)]at A;rw[q9 (by omega),z0d (by omega),I];exact h.mv A
 ·rw[q9 (by omega)]at A;rw[q9 (by omega),z0d (by omega),I];exact h.ex j J A
 ·by_cases e:i=j
  ·subst e;exact⟨by rw[q9 (by omega)];exact hd,by rw[z0p,I];exact(h.ex i N hd).2⟩
  ·rw[q9 (by omega)]at A;have L:=h.ag j J A;exact⟨by rw[q9 (by omega)];exact L.1,by rw[z0d (by omega),I];exact L.2⟩
theorem z4O.fin{N:Nat}(I:N=n+2+2*m)(h:z4O n m T (fun j=>decide (j<N)) v w):T true (v n) w/\v (n+1)=v n/\(∀j,j<m->v (n+2+j)=z8V j (v n))/\∀j,j<m->v (n+2+m+j)=z8V j (v n):=by
 subst I;refine⟨?_,(h.mv (by simp;omega)).2,fun j A=>(h.ex j A (by simp;omega)).2,fun j A=>(h.ag j A (by simp;omega)).2⟩;have:=h.t;rw[decide_eq_true (by omega)]at this;exact this
theorem z4O.parts2{N:Nat}{a b:Value}(O:N=n+6)(h:z4O n 2 T (fun j=>decide (j<N)) v w)(L:v n= .tuple #[a,b]):
  v (n+1)= .tuple #[a,b]/\v (n+2)=a/\v (n+3)=b/\v (n+4)=a/\v (n+5)=b:=by
 obtain⟨-,J,A,I⟩:=z4O.fin (by omega) h;rw[L]at J A I;exact⟨J,A 0 (by omega),A 1 (by omega),I 0 (by omega),I 1 (by omega)⟩
end
theorem Rd.addr{w:World}{x:Value}{size m:Nat}{xs:List Value}(h:Rd w x size m xs)(hp:0<m)(hs:0<size):∃b A c,x= .slice (some ⟨b,A,none⟩) m c/\(∀j u,xs[j]? =some u->w.cell? ⟨b,A+j,none⟩=some u)/\b<w.heap.size:=by
 obtain⟨hl,⟨_,hz⟩|⟨O,c,rfl,U⟩⟩:=h
 ·omega
 ·have Y:0<xs.length:=by rw[hl];exact Nat.mul_pos hp hs
  have J:=U 0 _ (List.getElem?_eq_getElem Y);have I:O.add 0=O:=by unfold Addr.add;simp
  rw[I]at J;obtain⟨b,A,N⟩:=O;have L:N=none:=by
   obtain⟨e,n,_,_,L⟩:=World.shape?_of_cell? J;exact L
  subst L;refine⟨b,A,c,rfl,fun j u hu=>?_,World.block_lt_of_cell? _ _ J⟩;have R:=U j u hu;have I:(⟨b,A,none⟩:Addr).add j=⟨b,A+j,none⟩:=by unfold Addr.add;split<;>simp_all
  rw[I]at R;exact R
theorem Rd.head{w:World}{x:Value}{size m:Nat}{xs:List Value}(h:Rd w x size m xs):∃a c,x= .slice a m c:=by
 obtain⟨L,⟨rfl,A⟩|⟨I,c,rfl,J⟩⟩:=h
 ·exact⟨none,0,by rw[A]⟩
 ·exact⟨_,_,rfl⟩
theorem Rd.low{w w':World}{x:Value}{size m:Nat}{xs:List Value}(h:Rd w x size m xs)(hb:Below w.heap.size w w'):Rd w' x size m xs:=h.kept fun b _ A=>hb.block b A
theorem Rd.chg{w w':World}{x:Value}{size m:Nat}{xs:List Value}{F I:List Nat}(h:Rd w x size m xs)(J:Chg F I w w')(L:∀k,x.ownBlock=some k->k∉F):Rd w' x size m xs:=h.kept fun b hb A=>J.block b A (L b hb)
theorem Rd.nil(w:World)(size:Nat):Rd w (.slice none 0 0) size 0 []:=⟨by simp,.inl ⟨rfl,rfl⟩⟩
def RdB(w:World)(x:Value)(l:List UInt8):Prop:=Rd w x 1 l.length (z0b l)
theorem RdB.low{w w':World}{x:Value}{l:List UInt8}(h:RdB w x l)(hb:Below w.heap.size w w'):RdB w' x l:=Rd.low h hb
theorem RdB.chg{w w':World}{x:Value}{l:List UInt8}{F A:List Nat}(h:RdB w x l)(I:Chg F A w w')(J:∀k,x.ownBlock=some k->k∉F):RdB w' x l:=Rd.chg h I J
theorem RdB.nil(w:World):RdB w (.slice none 0 0) []:=Rd.nil w 1
theorem RdB.head{w:World}{x:Value}{l:List UInt8}(h:RdB w x l):∃a c,x= .slice a l.length c:=Rd.head h
theorem RdB.at{w:World}{x:Value}{l:List UInt8}(h:RdB w x l){k:Nat}(J:k<l.length):∃b A c,x= .slice (some ⟨b,A,none⟩) l.length c/\w.cell? ⟨b,A+k,none⟩=some (.int .u8 (l[k].toNat:Nat))/\b<w.heap.size:=by
 obtain⟨b,A,c,rfl,I,hb⟩:=Rd.addr h (by omega) (by omega);exact⟨b,A,c,rfl,I k _ (by simp[z0b,J]),hb⟩
theorem RdB.oneCell{w:World}{x:Value}{l:List UInt8}(h:RdB w x l):x.oneCell'=true:=by obtain⟨a,c,rfl⟩:=h.head;rfl
def y0q(w:World)(x:Value)(ls:List (List UInt8)):Prop:=∃xs:List Value,Rd w x 1 ls.length xs/\xs.length=ls.length/\∀(i:Nat) (v:Value) (l:List UInt8),xs[i]? =some v->ls[i]? =some l->RdB w v l
theorem y0q.low{w w':World}{x:Value}{A:List (List UInt8)}(h:y0q w x A)(hb:Below w.heap.size w w'):y0q w' x A:=by
 obtain⟨xs,I,J,L⟩:=h;exact⟨xs,I.low hb,J,fun i v l O N=>(L i v l O N).low hb⟩
theorem y0q.head{w:World}{x:Value}{A:List (List UInt8)}(h:y0q w x A):∃a c,x= .slice a A.length c:=by
 obtain⟨xs,I,_⟩:=h;exact Rd.head I
theorem y0q.nil(w:World):y0q w (.slice none 0 0) []:=⟨[],Rd.nil w 1,rfl,fun i v l h=>by simp at h⟩
theorem y0q.at{w:World}{x:Value}{I:List (List UInt8)}(h:y0q w x I){k:Nat}(R:k<I.length):∃b A c v,x= .slice (some ⟨b,A,none⟩) I.length c/\w.cell? ⟨b,A+k,none⟩=some v/\RdB w v I[k]/\b<w.heap.size:=by
 obtain⟨xs,L,U,N⟩:=h;obtain⟨b,A,c,rfl,O,hb⟩:=Rd.addr L (by omega) (by omega);have J:xs[k]? =some (xs[k]'(by omega)):=List.getElem?_eq_getElem (by omega);exact⟨b,A,c,_,rfl,O k _ J,N k _ _ J (List.getElem?_eq_getElem R),hb⟩
theorem z9i(l:List UInt8):(⟨l.toArray⟩:ByteArray).toList=l:=by
 have key:∀(n i:Nat) (r:List UInt8),l.length - i=n->ByteArray.toList.loop ⟨l.toArray⟩ i r=r.reverse++l.drop i:=by
  intro n
  induction n with
  | zero=>
   intro i r h;unfold ByteArray.toList.loop;have:¬i<(⟨l.toArray⟩:ByteArray).size:=(by simp[ByteArray.size];omega);rw[if_neg this,List.drop_eq_nil_of_le (by omega),List.append_nil]
  | succ n ih=>
   intro i r h;unfold ByteArray.toList.loop;have A:i<l.length:=(by omega);have:i<(⟨l.toArray⟩:ByteArray).size:=(by simpa[ByteArray.size]using A);rw[if_pos this,ih (i+1) _ (by omega),List.drop_eq_getElem_cons A];have e:(⟨l.toArray⟩:ByteArray).get! i=l[i]:=(by simp[ByteArray.get!,A]);rw[e];simp
 have:=key (l.length - 0) 0 [] rfl;simpa[ByteArray.toList]using this
theorem z6M(b:List UInt8)(x:Value)(w:World)(h:RdB w x b):(convert 47 9 x).run prog w= .ok (.string ⟨b.toArray⟩) w:=by
 obtain⟨L,⟨rfl,J⟩|⟨a,c,rfl,A⟩⟩:=h
 ·have:b= []:=List.eq_nil_of_length_eq_zero J;subst this;exact run_convert_bytes_nil (P:=prog) (w:=w) 47 5 underlying47 underlying5 0 0 9 underlying9
 ·exact run_convert_bytes_back (P:=prog) w 47 9 5 a c b underlying47 underlying5 underlying9 (fun j I=>A j _ (by simp[z0b,List.getElem?_eq_getElem I]))
end
section
open Go.RowKit Go.ChangeShapes Go.WideShapes Go.ChangeAt Go.Deep
theorem j8(w:World)(o:Obj):(w.alloc o).heap[w.heap.size]? =some o:=Array.getElem?_push_size
theorem q5(w:World)(o:Obj):Below w.heap.size w (w.alloc o):=(Below.refl _ _).alloc (Nat.le_refl _) _
theorem z5A{P:Program}{w:World}{a:Act}{o:Oper}{Q:Exit->Act->World->Prop}{ops:Array Oper}{rest:List Oper}(R:o.guard=none)(s x:Operand)(t:TypeId)
  (ho:o.op= .call {callee:= .builtin .append,args:= #[s,x],argTypes:= #[t,t]})
  (base:Nat) (e:TypeId) (ht:P.underlying t=some (.slice e)) (J:(P.info? e).map (fun i=>(i.zero,i.size,i.bytes))=some (some (.int .u8 0),1,1))
  (v:Value) (A:List UInt8) (hs:a.eval s=v) (O:w.ownsRow base e 1 v A.length (z0b A))
  (xv:Value) (l:List UInt8) (hx:a.eval x=xv) (U:RdB w xv l) (hl:A.length+l.length<=70368744177664) (I:base<=w.heap.size)
  (h:∀L N w',w'.ownsRow base e 1 (.slice L (A.length+l.length) N) (A++l).length (z0b (A++l))->w.grownBy w' v.ownBlock->((Value.slice L (A.length+l.length) N).ownBlock=v.ownBlock\/(Value.slice L (A.length+l.length) N).ownBlock=some w.heap.size)->wpList P ops Q rest (a.put o.dst (.slice L (A.length+l.length) N)) w'):wpList P ops Q (o::rest) a w:=by
 obtain⟨i0,hi,Y,a0,a1⟩:=info_parts J;refine z1V R s x t ho base e i0 (.int .u8 0) 1 1 ht hi Y a0 a1 rfl (by decide) v A.length (z0b A) hs O xv l.length (z0b l) hx U (z4C l) (by unfold maxLen;omega) (by omega) I fun v' w' h1 h2 h3 h4=>?_;obtain⟨L,N,rfl⟩:=(z0e h1).head;exact h L N w' (by rw[z3m,List.length_append];exact h1) h2 h4
def z8h(W:World)(B:Nat)(e:TypeId)(v:Value)(l:List UInt8)(w:World):Prop:=w.ownsRow B e 1 v l.length (z0b l)/\Below B W w/\B<=w.heap.size
abbrev z5e (W:World) (B:Nat) (v:Value) (l:List UInt8) (w:World):Prop:=z8h W B 5 v l w
theorem rowIs_made(W:World)(B:Nat)(l:List UInt8)(cs:Array Value)(I:B=W.heap.size)(A:cs=(z0b l).toArray)(J:l.length<=1000000):z5e W B (.slice (some ⟨B,0,none⟩) l.length l.length) l (W.alloc (.cells cs 5)):=by
 subst I;subst A;refine⟨⟨by simp[z0b],.inr ⟨W.heap.size,l.length,(z0b l).toArray,rfl,Nat.le_refl _,j8 _ _,Nat.le_refl _,by unfold maxLen;omega,by simp[z0b],by rw[Nat.mul_one,List.take_of_length_le (by simp[z0b])]⟩⟩,q5 _ _,by simp⟩
theorem z8h.lt{W w:World}{B:Nat}{v:Value}{l:List UInt8}(h:z5e W B v l w):B<=w.heap.size:=h.2.2
theorem z8h.to{W w w':World}{B:Nat}{v:Value}{l:List UInt8}(h:z5e W B v l w)(hb:Below w.heap.size w w'):z5e W B v l w':=
 ⟨ownsRow_below h.1 hb (Nat.le_refl _),h.2.1.trans (hb.mono h.2.2),Nat.le_trans h.2.2 hb.size⟩
theorem z8h.head{W w:World}{B:Nat}{v:Value}{l:List UInt8}(h:z5e W B v l w):∃a c,v= .slice a l.length c:=(z0e h.1).head
theorem wpList_copy_own{P:Program}{w:World}{a:Act}{o:Oper}{Q:Exit->Act->World->Prop}{ops:Array Oper}{rest:List Oper}(O:o.guard=none)(s x:Operand)(t:TypeId)
  (ho:o.op= .call {callee:= .builtin .append,args:= #[s,x],argTypes:= #[t,t]})
  (W:World) (base:Nat) (e:TypeId) (ht:P.underlying t=some (.slice e)) (J:(P.info? e).map (fun i=>(i.zero,i.size,i.bytes))=some (some (.int .u8 0),1,1))
  (v:Value) (I:List UInt8) (hs:a.eval s=v) (A:z8h W base e v I w)
  (U:Value) (l:List UInt8) (hx:a.eval x=U) (R:RdB w U l) (hl:I.length+l.length<=70368744177664)
  (h:∀L N w',z8h W base e (.slice L (I++l).length N) (I++l) w'->Below base w w'->wpList P ops Q rest (a.put o.dst (.slice L (I++l).length N)) w'):wpList P ops Q (o::rest) a w:=by
 refine z5A O s x t ho base e ht J v I hs A.1 U l hx R hl A.2.2 fun L N w' Y h2 h3=>?_;have e0:I.length+l.length=(I++l).length:=by simp
 rw[e0]at Y ⊢;have hb:Below base w w':=(Below.refl base w).grown h2 A.2.2 fun k hk=>(A.1.lt k hk).1;exact h L N w' ⟨Y,A.2.1.trans hb,Nat.le_trans A.2.2 hb.size⟩ hb
theorem y5C{H:Type}{enc:TypeId×Value->H}{W:World}{fuel:Nat}{cs:List Value}{x:DataW H×List MemPlace}(h:DataW.trod enc prog W 0 (fun _=>true) true fuel 47 cs=some x):
  ∃(a:Option Addr) (c:Nat) (b:List UInt8),cs= [.slice a b.length c]/\RdB W (.slice a b.length c) b/\b.length<=c/\c<=9223372036854775807:=by
 obtain⟨v,b,A,J,R⟩:=y6R h;obtain⟨a,c,rfl⟩:=Rd.head J;refine⟨a,c,b,A,J,?_⟩;rcases open_slice underlying47 h with⟨I,_⟩|⟨a',len,cap,m,n,D,N,I,_,O,L,_⟩
 ·rw[A]at I;simp only[List.cons.injEq,Value.slice.injEq,and_true]at I;omega
 ·rw[A]at I;simp only[List.cons.injEq,Value.slice.injEq,and_true]at I;unfold maxLen at L;omega
theorem z1O{w:World}{base e size n c:Nat}{a:Option Addr}{xs:List Value}(h:w.ownsRow base e size (.slice a n c) n xs):n<=c/\c<=9223372036854775807:=by
 rcases h.2 with⟨A,L⟩|⟨g,cap,J,A,L,O,N,I,R,U⟩
 ·simp only[Value.slice.injEq]at A;omega
 ·simp only[Value.slice.injEq]at A;obtain⟨_,_,rfl⟩:=A;unfold maxLen at I;exact⟨N,I⟩
theorem RdB.keep{w w':World}{x:Value}{l:List UInt8}(h:RdB w x l)(A:∀b,x.ownBlock=some b->w'.heap[b]? =w.heap[b]?):RdB w' x l:=Rd.kept h fun b hb _=>A b hb
theorem add_add'(a:Addr)(j k:Nat):(a.add j).add k=a.add (j+k):=by
 unfold Addr.add;by_cases hj:j=0
 ·subst hj;simp
 ·by_cases hk:k=0
  ·subst hk;simp
  ·simp[hj,hk];omega
theorem RdB.from{w:World}{I:Addr}{c n:Nat}{l:List UInt8}(h:RdB w (.slice (some I) n c) l)(O:n=l.length)(k:Nat)(c' m:Nat)(N:m=(l.drop k).length)(Y:k<=l.length):RdB w (.slice (some (I.add k)) m c') (l.drop k):=by
 subst O;obtain⟨U,⟨A,hz⟩|⟨J,c2,A,L⟩⟩:=h
 ·cases A
 ·simp only[Value.slice.injEq,Option.some.injEq,true_and]at A;obtain⟨rfl,rfl⟩:=A;refine⟨by simp[z0b],.inr ⟨I.add k,c',by rw[N],fun j u R=>?_⟩⟩;rw[add_add'];refine L (k+j) u ?_;simpa[z0b]using R
theorem RdB.upto{w:World}{J:Addr}{c n:Nat}{l:List UInt8}(h:RdB w (.slice (some J) n c) l)(R:n=l.length)(k:Nat)(c' m:Nat)(O:m=(l.take k).length):RdB w (.slice (some J) m c') (l.take k):=by
 subst R;obtain⟨U,⟨A,Y⟩|⟨L,c2,A,N⟩⟩:=h
 ·cases A
 ·simp only[Value.slice.injEq,Option.some.injEq,true_and]at A;obtain⟨rfl,rfl⟩:=A;refine⟨by simp[z0b],.inr ⟨J,c',by rw[O],fun j u I=>N j u ?_⟩⟩;simp only[z0b,List.map_take,List.getElem?_take]at I ⊢;split at I
  ·exact I
  ·cases I
theorem RdB.rest{w:World}{I:Addr}{c n:Nat}{l:List UInt8}(h:RdB w (.slice (some I) n c) l)(R:n=l.length)(hc:n<=c)(k:Nat)(c' m:Nat)(N:m=(l.drop k).length):
  RdB w (.slice (if c=k then some I else some ⟨I.block,I.off+k,none⟩) m c') (l.drop k):=by
 by_cases hk:k<l.length
 ·rw[if_neg (by omega)];obtain⟨b,J,c2,L,_⟩:=RdB.at (l:=l) (k:=0) (by rw[R]at h;exact h) (by omega);simp only[Value.slice.injEq,Option.some.injEq]at L;obtain⟨L,_⟩:=L;subst L;have O:=h.from R k c' m N (by omega)
  have e:(⟨b,J,none⟩:Addr).add k=⟨b,J+k,none⟩:=by unfold Addr.add;split<;>simp_all
  rw[e]at O;exact O
 ·have e:l.drop k= []:=List.drop_of_length_le (by omega);rw[e]at N ⊢;subst N;have:∃A,(if c=k then some I else some ⟨I.block,I.off+k,none⟩)=some A:=by split<;>exact⟨_,rfl⟩
  obtain⟨A,U⟩:=this;rw[U];exact⟨rfl,.inr ⟨A,c',rfl,fun j u Y=>by simp[z0b]at Y⟩⟩
theorem z3l(A:Addr)(c k m c':Nat):(Value.slice (if c=k then some A else some ⟨A.block,A.off+k,none⟩) m c').ownBlock=some A.block:=by
 split<;>rfl
theorem z0u{w:World}{b:Nat}{v:Value}{t:TypeId}(h:w.heap[b]? =some (.cells #[v] t)):w.cell? ⟨b,0,none⟩=some v/\w.frozen? ⟨b,0,none⟩=false/\b<w.heap.size:=by
 refine⟨by simp[World.cell?,h],by simp[World.frozen?,h],(Array.getElem?_eq_some_iff.1 h).1⟩
end
section
open Go.RowKit
theorem y7o{a b c:World}{row:Option Nat}(h:a.grownBy b row)(k:Below b.heap.size b c):a.grownBy c row:=
 ⟨k.os.trans h.os,k.tape.trans h.tape,k.output.trans h.output,Nat.le_trans h.size k.size,fun i A I=>(k.block i (Nat.lt_of_lt_of_le A h.size)).trans (h.block i A I)⟩
theorem z2n{w:World}{B t sz n:Nat}{v:Value}{xs:List Value}(h:w.ownsRow B t sz v n xs):∃a c,v= .slice a n c:=by
 rcases h.2 with⟨A,J⟩|⟨g,cap,I,A,_⟩
 ·exact⟨none,0,by rw[A,J]⟩
 ·exact⟨_,_,A⟩
structure z6D (B t sz i j:Nat) (w0:World) (ov:Value) (n:Nat) (xs ys:List Value) (D:Nat->Bool) (v:Nat->Value) (w':World):Prop where
 g:w0.grownBy w' ov.ownBlock
 q:D j=false->w'.ownsRow B t sz ov n xs
 s:D i=true->∃g,v i= .slice (some ⟨g,0,none⟩) 1 1/\Rd w' (v i) sz 1 ys/\w0.heap.size<=g
 a:D j=true->D i=true/\∃a c,v j= .slice a (n+1) c/\w'.ownsRow B t sz (v j) (n+1) (xs++ys)/\((v j).ownBlock=ov.ownBlock\/∃g,(v j).ownBlock=some g/\w0.heap.size<=g)
section
variable {B t sz i j:Nat} {w0 w' w'':World} {ov v':Value} {n:Nat} {xs ys:List Value} {D:Nat->Bool} {v:Nat->Value}
theorem z6D.start(h:w0.ownsRow B t sz ov n xs):z6D B t sz i j w0 ov n xs ys (fun _=>false) (fun _=>undef) w0.drew:=
 ⟨⟨rfl,rfl,rfl,Nat.le_refl _,fun _ _ _=>rfl⟩,fun _=>h,(fun h=>by cases h),(fun h=>by cases h)⟩
theorem z6D.read(h:z6D B t sz i j w0 ov n xs ys D v w')(k:Nat)(J:k≠i)(L:k≠j):z6D B t sz i j w0 ov n xs ys (mark D k) v w':=by
 have A:mark D k i=D i:=q9 J;have I:mark D k j=D j:=q9 L;exact⟨h.g,fun e=>h.q (I▸e),fun e=>h.s (A▸e),fun e=>by rw[A];exact h.a (I▸e)⟩
theorem z6D.made{cs:Array Value}{e:TypeId}(A:i≠j)(h:z6D B t sz i j w0 ov n xs cs.toList D v w')(I:D j=false)(J:cs.size=sz):z6D B t sz i j w0 ov n xs cs.toList (mark D i) (z2O v i (.slice (some ⟨w'.heap.size,0,none⟩) 1 1)) (w'.alloc (.cells cs e)):=by
 have hb:=q5 w' (.cells cs e);refine⟨y7o h.g hb,fun _=>ownsRow_below (h.q I) hb (Nat.le_refl _),fun _=>⟨w'.heap.size,z0p _ _ _,by rw[z0p];exact z3z w' cs e 1 sz (by decide) (by omega),h.g.size⟩,fun e=>?_⟩;rw[q9 A,I]at e;cases e
theorem z6D.appended(I:i≠j)(h:z6D B t sz i j w0 ov n xs ys D v w')(L:D i=true)(hr:w0.ownsRow B t sz ov n xs)
  (A:w''.ownsRow B t sz v' (n+1) (xs++ys)) (O:w'.grownBy w'' ov.ownBlock) (hb:v'.ownBlock=ov.ownBlock\/v'.ownBlock=some w'.heap.size):z6D B t sz i j w0 ov n xs ys (mark D j) (z2O v j v') w'':=by
 obtain⟨U,Y,rfl⟩:=z2n A;refine⟨h.g.trans O,(fun e=>by rw[z1L]at e;cases e),fun e=>?_,fun _=>⟨by rw[q9 (Ne.symm I)];exact L,U,Y,z0p _ _ _,by rw[z0p];exact A,by rw[z0p];exact hb.imp id fun e=>⟨_,e,h.g.size⟩⟩⟩;obtain⟨g,N,h3,h4⟩:=h.s L;rw[z0d (Ne.symm I)];refine⟨g,N,h3.kept fun k R J=>O.block k J fun e=>?_,h4⟩;have h5:=(hr.lt k e.symm).2;rw[N]at R;simp only[Value.ownBlock,Option.some.injEq]at R;omega
end
end
section
open Go.RowKit Go.Maps Go.WideMaps
structure z5d {κ:Type} (P:Program) (kT:TypeId) (kv:κ->Value) (kl:κ->Lit) (ok:κ->Prop):Prop where
 keyed:Keyed P kT
 of:∀k,ok k->keyOf P kT (kv k)=some (kl k)
 inv:∀(v:Value) (l:Lit),keyOf P kT v=some l->∃k,v=kv k/\l=kl k/\ok k
 inj:∀a b,kv a=kv b->a=b
 same:∀a b,(kl a).sameKey (kl b)=true↔a=b
theorem y8H{P:Program}{kT:TypeId}(A:P.underlying kT=some .string):z5d P kT encStr (fun l=> .string l) (fun l:List UInt8=>l.length<=maxLen) where
 keyed:=string_keyed A
 of:=fun k h=>by
  have:=keyOf_string_mk (P:=P) (k:=kT) (s:=⟨k.toArray⟩) A (by simpa[ByteArray.size]using h);simpa[encStr]using this
 inv:=fun v l h=>by obtain⟨x,I,J,L⟩:=Maps.keyOf_str A h;exact⟨x,I,J,L⟩
 inj:=fun a b h=>encStr_inj h
 same:=fun a b=>by simp[Lit.sameKey]
theorem q5G{P:Program}{kT:TypeId}{q:IntKind}(A:P.underlying kT=some (.int q)):z5d P kT (fun n:Int=> .int q n) (fun n=> .int q n) (fun n=>(Lit.int q n).wf=true) where
 keyed:=int_keyed A
 of:=fun k h=>keyOf_int_mk A h
 inv:=fun v l h=>Maps.keyOf_int_inv A h
 inj:=fun a b h=>by simpa using h
 same:=fun a b=>by simp[Lit.sameKey]
section
variable {κ ν:Type} (kl:κ->Lit) (f:ν->Value)
def z4f(sh:Value->Bool)(v:Value):Option (DataW Value×List MemPlace):=if sh v then some (.held v, [])else none
def q3Z:Value->Bool
 | .slice _ _ _=>true
 | _=>false
def MD(E:List (κ×ν)):DataW Value:= .map (E.map fun p=>(kl p.1,.held (f p.2)))
def mins(x:κ×ν):List (κ×ν)->List (κ×ν)
 | []=> [x]
 | y::r=>if(kl x.1).before (kl y.1)then x::y::r else y::mins x r
def z2d [DecidableEq κ](k:κ)(E:List (κ×ν)):List (κ×ν):=E.filter fun p=>decide (p.1≠k)
def z1B [DecidableEq κ](k:κ)(v:ν)(E:List (κ×ν)):List (κ×ν):=mins kl (k,v) (z2d k E)
def z0P [DecidableEq κ](k:κ)(E:List (κ×ν)):Option ν:=(E.find? fun p=>decide (p.1=k)).map (·.2)
theorem y5Y(x:κ×ν):∀E:List (κ×ν),(mins kl x E).map (fun p=>(kl p.1,DataW.held (f p.2)))=DataW.insert (kl x.1,DataW.held (f x.2)) (E.map fun p=>(kl p.1,DataW.held (f p.2)))
 | []=>rfl
 | y::r=>by
  unfold mins;simp only[List.map_cons];unfold DataW.insert;split
  ·rfl
  ·rw[List.map_cons,y5Y x r]
theorem y0Z(x p:κ×ν):∀E:List (κ×ν),p∈mins kl x E↔p=x\/p∈E
 | []=>by simp[mins]
 | y::r=>by
  unfold mins;split
  ·simp
  ·rw[List.mem_cons,y0Z x p r,List.mem_cons];constructor
   ·rintro(h|h|h)<;>simp[h]
   ·rintro(h|h|h)<;>simp[h]
theorem z5T(x:κ×ν):∀E:List (κ×ν),(mins kl x E).length=E.length+1
 | []=>rfl
 | y::r=>by
  unfold mins;split
  ·simp
  ·simp[z5T x r]
theorem z2I [DecidableEq κ](k:κ)(v:ν)(p:κ×ν)(E:List (κ×ν)):p∈z1B kl k v E↔p=(k,v)\/(p∈E/\p.1≠k):=by
 unfold z1B z2d;rw[y0Z,List.mem_filter];simp
theorem z3g [DecidableEq κ](k:κ)(p:κ×ν)(E:List (κ×ν)):p∈z2d k E↔p∈E/\p.1≠k:=by
 unfold z2d;rw[List.mem_filter];simp
variable {kl}
theorem y3y(E:List (κ×ν)):Maps.size (MD kl f E)=E.length:=by unfold MD;rw[Maps.size_eq,List.length_map]
variable [DecidableEq κ]
theorem q5n(A:∀a b,(kl a).sameKey (kl b)=true↔a=b)(k:κ)(v:ν)(E:List (κ×ν)):(MD kl f E).put (kl k) (.held (f v))=MD kl f (z1B kl k v E):=by
 unfold MD z1B DataW.put;simp only;rw[y5Y,List.filter_map]
 congr 3
 unfold z2d;apply List.filter_congr;intro p _;have h:=A p.1 k;by_cases e:p.1=k
 ·simp[e,(A k k).2 rfl]
 ·have I:(kl p.1).sameKey (kl k)=false:=by cases h3:(kl p.1).sameKey (kl k)with
   | false=>rfl
   | true=>exact absurd (h.1 h3) e
  simp[e,I]
theorem q5I(A:∀a b,(kl a).sameKey (kl b)=true↔a=b)(k:κ)(E:List (κ×ν)):(MD kl f E).del (kl k)=MD kl f (z2d k E):=by
 unfold MD z2d DataW.del;simp only;rw[List.filter_map]
 congr 2
 apply List.filter_congr;intro p _;have h:=A p.1 k;by_cases e:p.1=k
 ·simp[e,(A k k).2 rfl]
 ·have I:(kl p.1).sameKey (kl k)=false:=by cases h3:(kl p.1).sameKey (kl k)with
   | false=>rfl
   | true=>exact absurd (h.1 h3) e
  simp[e,I]
theorem q5p(A:∀a b,(kl a).sameKey (kl b)=true↔a=b)(k:κ)(E:List (κ×ν)):Maps.has (MD kl f E) (kl k)=(z0P k E).isSome:=by
 unfold MD z0P;rw[Maps.has_eq,List.any_map];rw[Option.isSome_map];rw[Bool.eq_iff_iff,List.any_eq_true,List.find?_isSome];simp[A]
theorem y5J(A:∀a b,(kl a).sameKey (kl b)=true↔a=b)(k:κ)(z:Value)(E:List (κ×ν)):(MD kl f E).atKey (kl k) (.held z)= .held (((z0P k E).map f).getD z):=by
 unfold MD z0P DataW.atKey;simp only[List.find?_map];have e:((fun p:Lit×DataW Value=>p.1.sameKey (kl k)) ∘ fun p:κ×ν=>(kl p.1,DataW.held (f p.2)))=fun p:κ×ν=>decide (p.1=k):=by
  funext p
  rw[Bool.eq_iff_iff];simp[A]
 rw[e];cases E.find? fun p=>decide (p.1=k)<;>rfl
theorem z1z{k:κ}{v:ν}{E:List (κ×ν)}(h:z0P k E=some v):(k,v)∈E:=by
 unfold z0P at h;obtain⟨p,I,rfl⟩:=Option.map_eq_some_iff.1 h;have A:=List.find?_some I;have J:=List.mem_of_find?_eq_some I;simp only[decide_eq_true_eq]at A;subst A;exact J
theorem z7L{k:κ}{E:List (κ×ν)}(h:z0P k E=none):∀p∈E,p.1≠k:=by
 unfold z0P at h;rw[Option.map_eq_none_iff,List.find?_eq_none]at h;intro p I A;exact h p I (by simpa using A)
def MOk(ok:κ->Prop)(E:List (κ×ν)):Prop:=E.Pairwise (fun p q=>p.1≠q.1)/\∀p∈E,ok p.1
theorem z9Y{ok:κ->Prop}{E:List (κ×ν)}(h:MOk ok E){p:κ×ν}(U:p∈E):z0P p.1 E=some p.2:=by
 cases hg:z0P p.1 E with
 | none=>exact absurd rfl (z7L hg p U)
 | some v=>
  have hm:=z1z hg;by_cases e:(p.1,v)=p
  ·rw[<-e]
  ·exfalso
   have key:∀L:List (κ×ν),L.Pairwise (fun p q=>p.1≠q.1)->∀a b,a∈L->b∈L->a.1=b.1->a=b:=by
    intro L
    induction L with
    | nil=>intro _ a b h;cases h
    | cons y r ih=>
     intro hL a b ha hb A;obtain⟨R,Y⟩:=List.pairwise_cons.1 hL;rcases List.mem_cons.1 ha with O|J
     ·rcases List.mem_cons.1 hb with N|I
      ·rw[O,N]
      ·exact absurd (by rw[<-O];exact A) (R b I)
     ·rcases List.mem_cons.1 hb with N|I
      ·exact absurd (by rw[<-N];exact A.symm) (R a J)
      ·exact ih Y a b J I A
   exact e (key E h.1 _ _ hm U rfl)
end
section
variable {κ ν:Type} {P:Program} {kT:TypeId} {kv:κ->Value} {kl:κ->Lit} {ok:κ->Prop}
def z3J(w:World)(P:Program)(kT:TypeId)(kl:κ->Lit)(sh:Value->Bool)(f:ν->Value)(b:Nat)(E:List (κ×ν)):Prop:=w.ownsMap P kT (z4f sh) b E.length (MD kl f E)
theorem z5w{w:World}{sh:Value->Bool}{f:ν->Value}{b n:Nat}{E:List (κ×ν)}(h:w.ownsMap P kT (z4f sh) b n (MD kl f E)):z3J w P kT kl sh f b E:=by
 obtain⟨es,clock,hb,F,J,A⟩:=h;refine⟨es,clock,hb,F,?_,A⟩;unfold MD at A;have I:=congrArg (fun D:DataW Value=>Maps.size D) A;simp only[Maps.size_eq,List.length_map,length_read]at I;omega
variable {w w':World} {sh:Value->Bool} {f:ν->Value} {b:Nat} {E:List (κ×ν)}
theorem z3J.lt(h:z3J w P kT kl sh f b E):b<w.heap.size:=World.ownsMap.lt h
theorem z3J.same(h:z3J w P kT kl sh f b E)(I:w'.heap[b]? =w.heap[b]?):z3J w' P kT kl sh f b E:=by
 obtain⟨es,clock,hb,F,J,A⟩:=h;exact⟨es,clock,I.trans hb,F,J,A⟩
theorem z3J.chg{F A:List Nat}(h:z3J w P kT kl sh f b E)(I:Chg F A w w')(hb:b∉F):z3J w' P kT kl sh f b E:=h.same (I.block b h.lt hb)
theorem z3J.low(h:z3J w P kT kl sh f b E)(hb:Below w.heap.size w w'):z3J w' P kT kl sh f b E:=h.same (hb.block b h.lt)
theorem y3i(w:World):z3J (w.alloc (.map #[] 0)) P kT kl sh f w.heap.size ([]:List (κ×ν)):=World.ownsMap_made w P kT (z4f sh)
theorem z3J.mok(h:z3J w P kT kl sh f b E)(K:z5d P kT kv kl ok):MOk ok E/\∀p∈E,sh (f p.2)=true:=by
 obtain⟨es,clock,hb,F,hs,O⟩:=h;unfold MD at O;simp only[DataW.map.injEq]at O;have A:((es.toList.map (WideElems.rg P kT (z4f sh))).foldr DataW.insert []).Pairwise (fun p q=>p.1≠q.1):=((WideShapes.sorted_perm _).pairwise_iff (fun {_ _} hne=>Ne.symm hne)).2 (Maps.fit_apart K.keyed F);rw[<-O,List.pairwise_map]at A;have hm:∀p∈E,ok p.1/\sh (f p.2)=true:=fun p A=>by
  have h1:(kl p.1,DataW.held (f p.2))∈(es.toList.map (WideElems.rg P kT (z4f sh))).foldr DataW.insert []:=by
   rw[<-O];exact List.mem_map.2 ⟨p,A,rfl⟩
  obtain⟨x,hx,I⟩:=List.mem_map.1 (mem_sorted.1 h1);obtain⟨y,hy⟩:=F.reads x hx;rw[WideElems.rg_of hy]at I;have h2:=WideElems.rd_key hy;obtain⟨z,L,a0⟩:=WideElems.rd_val hy;obtain⟨k,a1,J,U⟩:=K.inv _ _ h2;have R:=congrArg Prod.fst I;have N:=congrArg Prod.snd I;simp only at R N;rw[J]at R;have e3:p.1=k:=(K.same _ _).1 (by
   have h4:=K.keyed.key h2;rw[<-R,J.symm];exact WideAt.sameKey_self h4)
  refine⟨by rw[e3];exact U,?_⟩;unfold z4f at L;split at L
  ·rename_i Y;simp only[Option.some.injEq]at L;subst L;rw[a0]at N;simp only[DataW.held.injEq]at N;rw[<-N];exact Y
  ·cases L
 exact⟨⟨A.imp fun {a b} hab e=>hab (by rw[e]),fun p A=>(hm p A).1⟩,fun p A=>(hm p A).2⟩
variable {ops:Array Oper} {rest:List Oper} {o:Oper} {a:Act} {Q:Exit->Act->World->Prop}
theorem z8Z{v:Value}(h:sh v=true):z4f sh v=some (.held v, []):=by unfold z4f;rw[if_pos h]
theorem z4B{v:Value}{y:DataW Value×List MemPlace}(h:z4f sh v=some y):y=(.held v, [])/\sh v=true:=by
 unfold z4f at h;split at h
 ·rename_i A;simp only[Option.some.injEq]at h;exact⟨h.symm,A⟩
 ·cases h
theorem z7o(K:z5d P kT kv kl ok)(L:o.guard=none)(m:Operand)(t:TypeId)(I:o.op=Op.call {callee:=Callee.builtin Builtin.len,args:= #[m],argTypes:= #[t]})
  (e:TypeId) (O:P.underlying t=some (.map kT e)) (N:a.eval m= .map (some b)) (A:z3J w P kT kl sh f b E) (J:wpList P ops Q rest (a.put o.dst (.int .i64 E.length)) w):wpList P ops Q (o::rest) a w:=by
 refine wpList_len_own w L m t I kT e O (z4f sh) b E.length (MD kl f E) N A ?_;rw[y3y];exact J
variable [DecidableEq κ]
theorem z6R(K:z5d P kT kv kl ok)(hg:o.guard=none)(m x:Operand)(t:TypeId)(N:o.op=Op.lookup t m x true)
  (e:TypeId) (ht:P.underlying t=some (.map kT e)) {z:Value} (hz:(zeroValue e).run P w= .ok z w) (O:sh z=true)
  (hm:a.eval m= .map (some b)) (I:z3J w P kT kl sh f b E) (k:κ) (hx:a.eval x=kv k) (L:ok k) (g:Option ν) (A:z0P k E=g) (u:Value) (hu:(g.map f).getD z=u) (R:Bool) (J:g.isSome=R)
  (hK:wpList P ops Q rest (a.put o.dst (.tuple #[u,.bool R])) w):wpList P ops Q (o::rest) a w:=by
 refine wpList_lookup_own_ok w hg m x t N kT e K.keyed ht (z4f sh) hz (.held z) [] (z8Z O) b E.length (MD kl f E) hm I (kv k) (kl k) hx (K.of k L) fun v ps Y=>?_;rw[y5J f K.same,A,hu]at Y;rw[q5p f K.same,A,J];obtain⟨U,_⟩:=z4B Y;simp only[Prod.mk.injEq,DataW.held.injEq]at U;rw[<-U.1];exact hK
theorem q1a(K:z5d P kT kv kl ok)(m x:Operand)(t:TypeId)(N:o.op=Op.lookup t m x false){R:Act->World->Prop}
  (e:TypeId) (ht:P.underlying t=some (.map kT e)) {z:Value} (hz:(zeroValue e).run P w= .ok z w) (O:sh z=true)
  (hm:a.eval m= .map (some b)) (I:z3J w P kT kl sh f b E) (k:κ) (hx:a.eval x=kv k) (L:ok k) (g:Option ν) (A:z0P k E=g) (u:Value) (hu:(g.map f).getD z=u)
  (hK:R (a.put o.dst u) w):o.wp P a w R Q:=by
 obtain⟨v,ps,J,Y⟩:=World.ownsMap.lookup I K.keyed ht hz (z8Z O) (K.of k L);rw[y5J f K.same,A,hu]at Y;obtain⟨U,_⟩:=z4B Y;simp only[Prod.mk.injEq,DataW.held.injEq]at U;unfold Oper.wp;simp[execOp,N,hm,hx,J,Result.andThen];rw[<-U.1];exact hK
theorem z9O(K:z5d P kT kv kl ok)(t e:TypeId)(U:P.underlying t=some (.map kT e)){z:Value}(hz:(zeroValue e).run P w= .ok z w)(N:sh z=true)
  (I:z3J w P kT kl sh f b E) (k:κ) (L:ok k) (g:Option ν) (A:z0P k E=g) (u:Value) (Y:(g.map f).getD z=u):(Instr.lookup t (.map (some b)) (kv k) false).run P w= .ok u w:=by
 obtain⟨v,ps,J,R⟩:=World.ownsMap.lookup I K.keyed U hz (z8Z N) (K.of k L);rw[y5J f K.same,A,Y]at R;obtain⟨O,_⟩:=z4B R;simp only[Prod.mk.injEq,DataW.held.injEq]at O;rw[J,<-O.1]
theorem z6O(K:z5d P kT kv kl ok)(U:o.guard=none)(m x:Operand)(t:TypeId)(N:o.op=Op.lookup t m x false)
  (e:TypeId) (ht:P.underlying t=some (.map kT e)) {z:Value} (hz:(zeroValue e).run P w= .ok z w) (O:sh z=true)
  (Y:a.eval m= .map (some b)) (I:z3J w P kT kl sh f b E) (k:κ) (hx:a.eval x=kv k) (L:ok k) (g:Option ν) (A:z0P k E=g) (u:Value) (hu:(g.map f).getD z=u)
  (R:wpList P ops Q rest (a.put o.dst u) w):wpList P ops Q (o::rest) a w:=
 wpList_plain U fun K' J=>q1a K m x t N e ht hz O Y I k hx L g A u hu (J _ _ R)
theorem z3U(K:z5d P kT kv kl ok)(U:o.guard=none)(m x v:Operand)(t:TypeId)(J:o.op=Op.mapUpdate t m x v)
  (e:TypeId) (ht:P.underlying t=some (.map kT e)) (Y:a.eval m= .map (some b)) (A:z3J w P kT kl sh f b E) (hn:E.length<maxLen) (k:κ) (hx:a.eval x=kv k) (I:ok k) (y:ν) (hv:a.eval v=f y) (L:sh (f y)=true)
  (R:∀w',z3J w' P kT kl sh f b (z1B kl k y E)->w.grownBy w' (some b)->w'.heap.size=w.heap.size->wpList P ops Q rest (a.put o.dst undef) w'):wpList P ops Q (o::rest) a w:=by
 refine wpList_mapUpdate_in w U m x v t J kT e K.keyed ht (z4f sh) b E.length (MD kl f E) Y A hn (kv k) (f y) (kl k) hx hv (K.of k I) (.held (f y)) [] (z8Z L) fun w' N O=>?_;rw[q5n f K.same]at N;refine R w' (z5w N) O.grown ?_;obtain⟨_,_,_,_,_,rfl⟩:=O;simp[ChangeMaps.setBlock]
theorem y5E(K:z5d P kT kv kl ok)(R:o.guard=none)(m x:Operand)(t:TypeId)(J:o.op=Op.call {callee:=Callee.builtin Builtin.delete,args:= #[m,x],argTypes:= #[t,kT]})
  (e:TypeId) (Y:P.underlying t=some (.map kT e)) (U:a.eval m= .map (some b)) (A:z3J w P kT kl sh f b E) (k:κ) (hx:a.eval x=kv k) (I:ok k)
  (O:∀w',z3J w' P kT kl sh f b (z2d k E)->w.grownBy w' (some b)->w'.heap.size=w.heap.size->wpList P ops Q rest (a.put o.dst (.tuple #[])) w'):wpList P ops Q (o::rest) a w:=by
 refine wpList_delete_own w R m x t kT J e K.keyed Y (z4f sh) b E.length (MD kl f E) U A (kv k) (kl k) hx (K.of k I) fun w' L N=>?_;rw[q5I f K.same]at L;refine O w' (z5w L) N.grown ?_;obtain⟨_,_,_,_,_,rfl⟩:=N;simp[ChangeMaps.setBlock]
def z2L(w:World)(P:Program)(kT:TypeId)(kl:κ->Lit)(ok:κ->Prop)(sh:Value->Bool)(f:ν->Value)(b r:Nat)(E R:List (κ×ν)):Prop:=
 ∃left cnt,w.ranges P kT (z4f sh) b r E.length (MD kl f E) left cnt/\(∀k,ok k->left (kl k)=R.any fun p=>decide (p.1=k))/\(∀p∈R,p∈E)/\MOk ok R
theorem z2L.kept{r:Nat}{R:List (κ×ν)}(h:z2L w P kT kl ok sh f b r E R){row:Option Nat}(J:w.grownBy w' row)(hb:some b≠row)(L:some r≠row):z2L w' P kT kl ok sh f b r E R:=by
 obtain⟨left,cnt,A,I⟩:=h;exact⟨left,cnt,A.kept J hb L,I⟩
theorem z2L.owns{r:Nat}{R:List (κ×ν)}(h:z2L w P kT kl ok sh f b r E R):z3J w P kT kl sh f b E:=by
 obtain⟨left,cnt,A,I⟩:=h;exact z5w A.owns
theorem y1W(K:z5d P kT kv kl ok)(R:o.guard=none)(m:Operand)(t:TypeId)(I:o.op=Op.range t m)(e:TypeId)(ht:P.underlying t=some (.map kT e))(U:a.eval m= .map (some b))(A:z3J w P kT kl sh f b E)
  (O:∀w',z2L w' P kT kl ok sh f b w.heap.size E E->w.grownBy w' none->w'.heap.size=w.heap.size+1->wpList P ops Q rest (a.put o.dst (.pointer (some ⟨w.heap.size,0,none⟩))) w'):wpList P ops Q (o::rest) a w:=by
 refine wpList_range_own w R m t I kT e K.keyed ht (z4f sh) b E.length (MD kl f E) U A fun w' J L N=>O w' ⟨_,_,J,fun k hk=>?_,fun p Y=>Y,(A.mok K).1⟩ L N;unfold MD;rw[Maps.has_eq,List.any_map,Bool.eq_iff_iff,List.any_eq_true,List.any_eq_true];simp[K.same]
theorem y3M{β:Type}{r:Nat}{R:List (κ×ν)}(K:z5d P kT kv kl ok)(hg:o.guard=none)(it:Operand)(aE:o.op=Op.next it false)(J:β->Value)(a4:∀v,sh v=true->∃c,v=J c)
  (hit:a.eval it= .pointer (some ⟨r,0,none⟩)) (h:z2L w P kT kl ok sh f b r E R)
  (N:R= []->wpList P ops Q rest (a.put o.dst (.tuple #[.bool false])) w)
  (O:∀(p:κ×ν) (c:β) (w':World),p∈R->f p.2=J c->z2L w' P kT kl ok sh f b r E (z2d p.1 R)->w.grownBy w' (some r)->w'.heap.size=w.heap.size->w'.rangeLeft b r<w.rangeLeft b r->
   (Instr.entry (.pointer (some ⟨r,0,none⟩))).run P w'= .ok (.tuple #[kv p.1,J c]) w'->wpList P ops Q rest (a.put o.dst (.tuple #[.bool true,kv p.1,J c])) w'):wpList P ops Q (o::rest) a w:=by
 obtain⟨left,cnt,Y,hl,hm,I⟩:=h;have A:∀k,ok k->left (kl k)=R.any fun p=>decide (p.1=k):=hl;have hE:=(z5w Y.owns).mok K;refine wpList_next_ranges w hg it aE kT K.keyed (z4f sh) kv J (fun key l hk=>by obtain⟨k,h1,_⟩:=K.inv _ _ hk;exact⟨k,h1⟩) (fun v y hv=>a4 v (z4B hv).2) b r E.length (MD kl f E) left cnt hit Y (fun h0 aA=>?_) (fun x c l y w' a0 a1 aB hv a5 L aC a7 aF a6=>?_)
 ·refine N ?_
  match R,I,A with
  | [],_,_=>rfl
  | p::R,I,A=>
   have:=A p.1 (I.2 p (by simp));rw[aA]at this;simp at this
 ·obtain⟨k,a8,rfl,a9⟩:=K.inv _ _ a1;obtain rfl:=K.inj _ _ a8;have h1:=A x a9;rw[aB]at h1;obtain⟨p,hp,a3⟩:=List.any_eq_true.1 h1.symm;simp only[decide_eq_true_eq]at a3;subst a3;have h2:=a5 (.held undef);rw[y5J f K.same,z9Y hE.1 (hm p hp),(z4B hv).1]at h2;simp only[Option.map_some,Option.getD_some,DataW.held.injEq]at h2;refine O p c w' hp h2 ⟨_,a0,L,fun k hk=>?_,fun q U=>hm q ((z3g p.1 q R).1 U).1,⟨I.1.filter _,fun q U=>I.2 q ((z3g p.1 q R).1 U).1⟩⟩ a7 aF (by rw[L.left_eq,Y.left_eq];exact aC) a6;rw[A k hk,Bool.eq_iff_iff];simp only[Bool.and_eq_true,List.any_eq_true,decide_eq_true_eq,Bool.not_eq_true'];constructor
  ·rintro⟨⟨q,U,rfl⟩,a2⟩;refine⟨q,(z3g _ _ _).2 ⟨U,fun e=>?_⟩,rfl⟩;rw[e,(K.same _ _).2 rfl]at a2;cases a2
  ·rintro⟨q,U,rfl⟩;obtain⟨h3,h4⟩:=(z3g _ _ _).1 U;refine⟨⟨q,h3,rfl⟩,?_⟩;cases hs:(kl q.1).sameKey (kl p.1)with
   | false=>rfl
   | true=>exact absurd ((K.same _ _).1 hs) h4
theorem y2L{E:List (κ×ν)}(h:MOk ok E){p:κ×ν}(J:p∈E):(p::z2d p.1 E).Perm E:=by
 obtain⟨O,R⟩:=h;clear R
 induction E with
 | nil=>cases J
 | cons y r ih=>
  obtain⟨I,N⟩:=List.pairwise_cons.1 O;unfold z2d;rw[List.filter_cons];rcases List.mem_cons.1 J with rfl|L
  ·have e:(r.filter fun q=>decide (q.1≠p.1))=r:=List.filter_eq_self.2 fun q U=>by simpa using(I q U).symm
   rw[if_neg (by simp),e]
  ·have A:y.1≠p.1:=I p L;rw[if_pos (by simpa using A)];exact(List.Perm.swap y p _).trans ((ih L N).cons y)
end
end

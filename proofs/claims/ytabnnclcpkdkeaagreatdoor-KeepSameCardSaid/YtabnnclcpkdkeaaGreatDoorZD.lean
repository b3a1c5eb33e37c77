/- From a law's walk to its row. -/
import Derived.Test.YtabnnclcpkdkeaaGreatDoorZBase
import Derived.ProofKit
import Derived.OpenShut
import Derived.Carry
import Derived.ChangeSame
import Derived.Deep.Slices
import Derived.Deep.Fields
import Derived.Test.YtabnnclcpkdkeaaGreatDoorZA
namespace Go.Proofs.YtabnnclcpkdkeaaGreatDoor
open Go.Proofs.Tryz
set_option linter.all false
set_option maxRecDepth 100000
set_option maxHeartbeats 0
section
open Go.RowKit Go.ChangeShapes Go.WideShapes Go.ChangeAt Go.Deep
theorem own:ownKnob prog.godebug=none:=by kernel_rfl
theorem laidOut:laidOutB prog=true:=by kernel_rfl
theorem z9b{H:Type}{enc:TypeId×Value->H}{W U:World}(hb:Below W.heap.size W U):∀(J:List TypeId) (N:List Value) (L:List (DataW H)) (I:List MemPlace),(∀t∈J,prog.readableRec t=true/\t<prog.types.size)->
  DataW.TrodAll enc prog W 0 (fun _=>true) true J N L I->(∀x∈I,x.block<W.heap.size)->∀sp:Nat->Bool,(∀x∈I,sp x.block=true)->DataW.TrodAll enc prog U 0 sp true J N L I
 | [],N,L,I,_,h,_,sp,_=>by
  obtain⟨rfl,rfl,rfl⟩:=trodAll_nil h;exact trodAll_mk0
 | t::J,N,L,I,hr,h,hlt,sp,hsp=>by
  obtain⟨v,R,d,O,p,q,rfl,rfl,rfl,Y,h2⟩:=trodAll_cons h;obtain⟨r1,r2⟩:=hr t wH;exact trodAll_cons_mk (WideElems.Trod_stays laidOut r1 r2 Y (fun x A=>hb.same (hlt x (uQ _ A))) (fun x A=>hsp x (uQ _ A)))
   (z9b hb J R O q (fun t ht=>hr t (by simp[ht])) h2 (fun x A=>hlt x (uT _ A)) sp (fun x A=>hsp x (uT _ A)))
theorem q2q{H:Type}{enc:TypeId×Value->H}{f:Func}{s:ChangeSpec}{W Y:World}{args:Array Value}{L gs:List (DataW H)}{A:List MemPlace}
  (N:DataW.Whole enc prog f.params.toList s.vars false W args.toList L gs A) (hb:Below W.heap.size W Y) (hv:s.vars= []) (hr:f.resultTypes= #[4])
  (U:s.fn H (L++gs)={results:= [.lit (.bool true)],args:=L}) (R:(f.params.toList.all fun t=>prog.readableRec t&&decide (t<prog.types.size))=true):
  s.post enc prog f false true false false W args (.bool true) Y:=by
 have hp:∀t∈f.params.toList,prog.readableRec t=true/\t<prog.types.size:=fun t ht=>by
  have:=gu.1 R t ht;simpa using this
 have J:∀x∈A,x.block<W.heap.size:=fun x I=>N.lt x I;have O:=N;obtain⟨p,q,hA,hV,rfl,a0,_⟩:=N;rw[hv]at hV;obtain⟨rfl,rfl⟩:=trodVars_none hV;refine⟨L, [],_, [],p, [],O,?_,?_,?_,World.keptBut_mono (fun x I=>⟨I,?_⟩) (hb.frame (·∈p++ [])),fun h=>by cases h⟩
 .rw[U,hr];exact trodAll_cons_mk (shut_bool underlying4 true) trodAll_mk0
 .rw[U];exact z9b hb _ _ _ _ hp hA (fun x I=>J x (uQ _ I)) _ (fun x I=>by simpa using J x (uQ _ I))
 .rw[hv,U];rfl
 simpa using I
theorem z8g{α:Type}{R:Nat->α->Prop}:∀n,(∀i,i<n->∃y,R i y)->∃l:List α,l.length=n/\∀i (I:i<l.length),R i l[i]
 | 0,_=>⟨[],rfl,fun i I=>by simp at I⟩
 | n+1,key=>by
  obtain⟨b,A,hb⟩:=z8g n fun i I=>key i wF;obtain⟨y,J⟩:=key n wF;refine⟨b++ [y],by simp[A],fun i I=>?_⟩;by_cases e:i<b.length
  .rw[List.getElem_append_left e];exact hb i e
  have:i=n:=(by simp at I;omega);subst this;rw[qT wF];simpa[A]using J
theorem wf_u32{n:Int}(h:(Lit.int .u32 n).wf=true):0<=n/\n<=4294967295:=by simpa[Lit.wf,IntKind.min,IntKind.max,IntKind.signed,IntKind.bits]using h
theorem wf_u64{n:Int}(h:(Lit.int .u64 n).wf=true):0<=n/\n<=18446744073709551615:=by simpa[Lit.wf,IntKind.min,IntKind.max,IntKind.signed,IntKind.bits]using h
theorem wf_i64{n:Int}(h:(Lit.int .i64 n).wf=true): -9223372036854775808<=n/\n<=9223372036854775807:=by simpa[Lit.wf,IntKind.min,IntKind.max,IntKind.signed,IntKind.bits]using h
theorem j8(w:World)(o:Obj):(w.alloc o).heap[w.heap.size]? =some o:=qZ
theorem q5(w:World)(o:Obj):Below w.heap.size w (w.alloc o):=wD.alloc wE _
theorem z6o{P:Program}{w:World}{a:Act}{o:Oper}{Q:Exit->Act->World->Prop}{ops:Array Oper}{rest:List Oper}(R:o.guard=none)(s x:Operand)(t:TypeId)
  (ho:o.op= .call {callee:= .builtin .append,args:= #[s,x],argTypes:= #[t,t]})
  (base:Nat) (e:TypeId) (ht:P.underlying t=some (.slice e)) (J:(P.info? e).map (fun i=>(i.zero,i.size,i.bytes))=some (some (.int .u8 0),1,1))
  (v:Value) (A:List UInt8) (hs:a.eval s=v) (O:w.ownsRow base e 1 v A.length (z0c A))
  (xv:Value) (l:List UInt8) (hx:a.eval x=xv) (U:RdB w xv l) (hl:A.length+l.length<=70368744177664) (I:base<=w.heap.size)
  (h:∀L N w',w'.ownsRow base e 1 (.slice L (A.length+l.length) N) (A++l).length (z0c (A++l))->w.grownBy w' v.ownBlock->((Value.slice L (A.length+l.length) N).ownBlock=v.ownBlock\/(Value.slice L (A.length+l.length) N).ownBlock=some w.heap.size)->wpList P ops Q rest (a.put o.dst (.slice L (A.length+l.length) N)) w'):wpList P ops Q (o::rest) a w:=by
 obtain⟨i0,hi,Y,a0,a1⟩:=oq J;refine z2r R s x t ho base e i0 (.int .u8 0) 1 1 ht hi Y a0 a1 rfl wG v A.length (z0c A) hs O xv l.length (z0c l) hx U (z4X l) (by unfold maxLen;omega) wF I fun v' w' h1 h2 h3 h4=>?_;obtain⟨L,N,rfl⟩:=(z0d h1).head;exact h L N w' (by rw[z3B,wP];exact h1) h2 h4
def z9d(W:World)(B:Nat)(e:TypeId)(v:Value)(l:List UInt8)(w:World):Prop:=w.ownsRow B e 1 v l.length (z0c l)/\Below B W w/\B<=w.heap.size
abbrev z4P (W:World) (B:Nat) (v:Value) (l:List UInt8) (w:World):Prop:=z9d W B 5 v l w
theorem rowIs_made(W:World)(B:Nat)(l:List UInt8)(cs:Array Value)(I:B=W.heap.size)(A:cs=(z0c l).toArray)(J:l.length<=1000000):z4P W B (.slice (some ⟨B,0,none⟩) l.length l.length) l (W.alloc (.cells cs 5)):=by
 subst I;subst A;refine⟨⟨by simp[z0c],.inr ⟨W.heap.size,l.length,(z0c l).toArray,rfl,wJ _,j8 _ _,wJ _,by unfold maxLen;omega,by simp[z0c],by rw[tP,wt (by simp[z0c])]⟩⟩,q5 _ _,wH⟩
theorem z9d.lt{W w:World}{B:Nat}{v:Value}{l:List UInt8}(h:z4P W B v l w):B<=w.heap.size:=h.2.2
theorem z9d.to{W w w':World}{B:Nat}{v:Value}{l:List UInt8}(h:z4P W B v l w)(hb:Below w.heap.size w w'):z4P W B v l w':=
 ⟨ownsRow_below h.1 hb wE,h.2.1.trans (hb.mono h.2.2),wV h.2.2 hb.size⟩
theorem z9d.head{W w:World}{B:Nat}{v:Value}{l:List UInt8}(h:z4P W B v l w):∃a c,v= .slice a l.length c:=(z0d h.1).head
theorem wpList_copy_own{P:Program}{w:World}{a:Act}{o:Oper}{Q:Exit->Act->World->Prop}{ops:Array Oper}{rest:List Oper}(O:o.guard=none)(s x:Operand)(t:TypeId)
  (ho:o.op= .call {callee:= .builtin .append,args:= #[s,x],argTypes:= #[t,t]})
  (W:World) (base:Nat) (e:TypeId) (ht:P.underlying t=some (.slice e)) (J:(P.info? e).map (fun i=>(i.zero,i.size,i.bytes))=some (some (.int .u8 0),1,1))
  (v:Value) (I:List UInt8) (hs:a.eval s=v) (A:z9d W base e v I w)
  (U:Value) (l:List UInt8) (hx:a.eval x=U) (R:RdB w U l) (hl:I.length+l.length<=70368744177664)
  (h:∀L N w',z9d W base e (.slice L (I++l).length N) (I++l) w'->Below base w w'->wpList P ops Q rest (a.put o.dst (.slice L (I++l).length N)) w'):wpList P ops Q (o::rest) a w:=by
 refine z6o O s x t ho base e ht J v I hs A.1 U l hx R hl A.2.2 fun L N w' Y h2 h3=>?_;have e0:I.length+l.length=(I++l).length:=wH
 rw[e0]at Y ⊢;have hb:Below base w w':=(wN base w).grown h2 A.2.2 fun k hk=>(A.1.lt k hk).1;exact h L N w' ⟨Y,A.2.1.trans hb,wV A.2.2 hb.size⟩ hb
theorem z0Q{w:World}{base e A n c:Nat}{a:Option Addr}{xs:List Value}(h:w.ownsRow base e A (.slice a n c) n xs):n<=c/\c<=9223372036854775807:=by
 rcases h.2 with⟨I,O⟩|⟨g,L,N,I,O,U,R,J,Y,h7⟩
 .simp only[wO]at I;omega
 simp only[wO]at I;obtain⟨_,_,rfl⟩:=I;unfold maxLen at J;exact⟨R,J⟩
theorem RdB.keep{w w':World}{x:Value}{l:List UInt8}(h:RdB w x l)(A:∀b,x.ownBlock=some b->w'.heap[b]? =w.heap[b]?):RdB w' x l:=Rd.kept h fun b hb _=>A b hb
theorem add_add'(a:Addr)(j k:Nat):(a.add j).add k=a.add (j+k):=by
 unfold Addr.add;by_cases A:j=0
 .subst A;simp
 by_cases I:k=0
 .subst I;simp
 simp[A,I];omega
theorem RdB.from{w:World}{I:Addr}{c n:Nat}{l:List UInt8}(h:RdB w (.slice (some I) n c) l)(O:n=l.length)(k:Nat)(c' m:Nat)(N:m=(l.drop k).length)(Y:k<=l.length):RdB w (.slice (some (I.add k)) m c') (l.drop k):=by
 subst O;obtain⟨U,⟨A,hz⟩|⟨J,c2,A,L⟩⟩:=h
 .cases A
 simp only[wO,wK,oP]at A;obtain⟨rfl,rfl⟩:=A;refine⟨by simp[z0c],.inr ⟨I.add k,c',by rw[N],fun j u R=>?_⟩⟩;rw[add_add'];refine L (k+j) u ?_;simpa[z0c]using R
theorem RdB.upto{w:World}{J:Addr}{c n:Nat}{l:List UInt8}(h:RdB w (.slice (some J) n c) l)(R:n=l.length)(k:Nat)(c' m:Nat)(O:m=(l.take k).length):RdB w (.slice (some J) m c') (l.take k):=by
 subst R;obtain⟨U,⟨A,Y⟩|⟨L,c2,A,N⟩⟩:=h
 .cases A
 simp only[wO,wK,oP]at A;obtain⟨rfl,rfl⟩:=A;refine⟨by simp[z0c],.inr ⟨J,c',by rw[O],fun j u I=>N j u ?_⟩⟩;simp only[z0c,rX,ik]at I ⊢;split at I
 .exact I
 cases I
theorem RdB.rest{w:World}{I:Addr}{c n:Nat}{l:List UInt8}(h:RdB w (.slice (some I) n c) l)(R:n=l.length)(hc:n<=c)(k:Nat)(c' m:Nat)(N:m=(l.drop k).length):
  RdB w (.slice (if c=k then some I else some ⟨I.block,I.off+k,none⟩) m c') (l.drop k):=by
 by_cases hk:k<l.length
 .rw[wR wF];obtain⟨b,J,c2,L,_⟩:=RdB.at (l:=l) (k:=0) (by rw[R]at h;exact h) wF;simp only[wO,wK]at L;obtain⟨L,_⟩:=L;subst L;have O:=h.from R k c' m N wF
  have e:(⟨b,J,none⟩:Addr).add k=⟨b,J+k,none⟩:=by unfold Addr.add;split<;>simp_all
  rw[e]at O;exact O
 have e:l.drop k= []:=dK wF;rw[e]at N ⊢;subst N;have:∃A,(if c=k then some I else some ⟨I.block,I.off+k,none⟩)=some A:=by split<;>exact⟨_,rfl⟩
 obtain⟨A,U⟩:=this;rw[U];exact⟨rfl,.inr ⟨A,c',rfl,fun j u Y=>by simp[z0c]at Y⟩⟩
theorem z3A(A:Addr)(c k m c':Nat):(Value.slice (if c=k then some A else some ⟨A.block,A.off+k,none⟩) m c').ownBlock=some A.block:=by
 split<;>rfl
theorem z0v{w:World}{b:Nat}{v:Value}{t:TypeId}(h:w.heap[b]? =some (.cells #[v] t)):w.cell? ⟨b,0,none⟩=some v/\w.frozen? ⟨b,0,none⟩=false/\b<w.heap.size:=by
 refine⟨by simp[World.cell?,h],by simp[World.frozen?,h],(wI.1 h).1⟩
end
section
open Go.RowKit
theorem y8t{a b c:World}{row:Option Nat}(h:a.grownBy b row)(k:Below b.heap.size b c):a.grownBy c row:=
 ⟨k.os.trans h.os,k.tape.trans h.tape,k.output.trans h.output,wV h.size k.size,fun i A I=>(k.block i (wS A h.size)).trans (h.block i A I)⟩
theorem z1X{w:World}{B t sz n:Nat}{v:Value}{xs:List Value}(h:w.ownsRow B t sz v n xs):∃a c,v= .slice a n c:=by
 rcases h.2 with⟨A,L⟩|⟨g,I,J,A,_⟩
 .exact⟨none,0,by rw[A,L]⟩
 exact⟨_,_,A⟩
structure z7u (B t sz i j:Nat) (w0:World) (ov:Value) (n:Nat) (xs ys:List Value) (D:Nat->Bool) (v:Nat->Value) (w':World):Prop where
 g:w0.grownBy w' ov.ownBlock
 q:D j=false->w'.ownsRow B t sz ov n xs
 s:D i=true->∃g,v i= .slice (some ⟨g,0,none⟩) 1 1/\Rd w' (v i) sz 1 ys/\w0.heap.size<=g
 a:D j=true->D i=true/\∃a c,v j= .slice a (n+1) c/\w'.ownsRow B t sz (v j) (n+1) (xs++ys)/\((v j).ownBlock=ov.ownBlock\/∃g,(v j).ownBlock=some g/\w0.heap.size<=g)
section
variable {B t sz i j:Nat} {w0 w' w'':World} {ov v':Value} {n:Nat} {xs ys:List Value} {D:Nat->Bool} {v:Nat->Value}
theorem z7u.start(h:w0.ownsRow B t sz ov n xs):z7u B t sz i j w0 ov n xs ys (fun _=>false) (fun _=>undef) w0.drew:=
 ⟨⟨rfl,rfl,rfl,wJ _,fun _ _ _=>rfl⟩,fun _=>h,(fun h=>by cases h),(fun h=>by cases h)⟩
theorem z7u.read(h:z7u B t sz i j w0 ov n xs ys D v w')(k:Nat)(J:k≠i)(L:k≠j):z7u B t sz i j w0 ov n xs ys (mark D k) v w':=by
 have A:mark D k i=D i:=q9 J;have I:mark D k j=D j:=q9 L;exact⟨h.g,fun e=>h.q (I▸e),fun e=>h.s (A▸e),fun e=>by rw[A];exact h.a (I▸e)⟩
theorem z7u.made{cs:Array Value}{e:TypeId}(A:i≠j)(h:z7u B t sz i j w0 ov n xs cs.toList D v w')(I:D j=false)(J:cs.size=sz):z7u B t sz i j w0 ov n xs cs.toList (mark D i) (z3d v i (.slice (some ⟨w'.heap.size,0,none⟩) 1 1)) (w'.alloc (.cells cs e)):=by
 have hb:=q5 w' (.cells cs e);refine⟨y8t h.g hb,fun _=>ownsRow_below (h.q I) hb wE,fun _=>⟨w'.heap.size,z0q _ _ _,by rw[z0q];exact z3t w' cs e 1 sz wG wF,h.g.size⟩,fun e=>?_⟩;rw[q9 A,I]at e;cases e
theorem z7u.appended(I:i≠j)(h:z7u B t sz i j w0 ov n xs ys D v w')(L:D i=true)(hr:w0.ownsRow B t sz ov n xs)
  (A:w''.ownsRow B t sz v' (n+1) (xs++ys)) (O:w'.grownBy w'' ov.ownBlock) (hb:v'.ownBlock=ov.ownBlock\/v'.ownBlock=some w'.heap.size):z7u B t sz i j w0 ov n xs ys (mark D j) (z3d v j v') w'':=by
 obtain⟨U,Y,rfl⟩:=z1X A;refine⟨h.g.trans O,(fun e=>by rw[z1T]at e;cases e),fun e=>?_,fun _=>⟨by rw[q9 (pz I)];exact L,U,Y,z0q _ _ _,by rw[z0q];exact A,by rw[z0q];exact hb.imp id fun e=>⟨_,e,h.g.size⟩⟩⟩;obtain⟨g,N,h3,h4⟩:=h.s L;rw[z0g (pz I)];refine⟨g,N,h3.kept fun k R J=>O.block k J fun e=>?_,h4⟩;have h5:=(hr.lt k e.symm).2;rw[N]at R;simp only[Value.ownBlock,wK]at R;omega
end
end

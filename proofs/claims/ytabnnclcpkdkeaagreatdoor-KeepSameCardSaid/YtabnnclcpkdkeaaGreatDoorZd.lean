/- bytes. -/
import Derived.Test.YtabnnclcpkdkeaaGreatDoorZc
namespace Go.Proofs.YtabnnclcpkdkeaaGreatDoor
open Go.Proofs.Tryz
set_option linter.all false
set_option maxRecDepth 100000
set_option maxHeartbeats 0
open Go.RowKit Go.Maps
theorem y2c:(prog.info? 5).map (fun i=>(i.zero,i.size,i.bytes))=some (some (.int .u8 0),1,1):=by kernel_rfl
theorem q1q:(prog.info? 132).map (fun i=>(i.zero,i.size,i.bytes))=some (some (.agg #[.string ⟨#[]⟩,.slice none 0 0]),2,40):=by kernel_rfl
def z6l(w w':World)(a:Option Addr)(n c:Nat)(b:Bs):Prop:=w'.ownsRow w.heap.size 5 1 (.slice a n c) n (z0c b)/\n=b.length/\Below w.heap.size w w'
theorem z6l.rd{w w':World}{a:Option Addr}{n c:Nat}{b:Bs}(h:z6l w w' a n c b):RdB w' (.slice a n c) b:=by
 have:=z0d h.1;unfold RdB;rw[<-h.2.1];exact this
theorem z6l.ge{w w':World}{a:Option Addr}{n c:Nat}{b:Bs}(h:z6l w w' a n c b):∀k,(Value.slice a n c).ownBlock=some k->w.heap.size<=k/\k<w'.heap.size:=fun k A=>h.1.lt k A
theorem z6l.cap{w w':World}{a:Option Addr}{n c:Nat}{b:Bs}(h:z6l w w' a n c b):n<=c/\c<=9223372036854775807:=z0Q h.1
theorem z6l.ent{w w':World}{a:Option Addr}{n c:Nat}{b:Bs}(h:z6l w w' a n c b){M:List Nat}(I:∀k∈M,k<w.heap.size):z3M w' M ⟨b,a,n,c⟩:=
 ⟨h.rd,h.2.1,h.cap.1,h.cap.2,fun k A=>⟨fun J=>by have:=I k J;have:=(h.ge k A).1;omega,(h.ge k A).2⟩⟩
theorem y5F(a:Option Addr)(n c:Nat)(b:Bs)(w:World)(Y:RdB w (.slice a n c) b)(U:n=b.length)(hl:n<=1099511627776):
  Calls prog 107 #[.slice a n c] w fun e w'=>∃a' c',e= .returned (.slice a' n c')/\z6l w w' a' n c' b:=by
 rcases Y.2 with⟨J,R⟩|⟨ad,cc,J,R⟩
 .simp only[wO]at J;obtain⟨rfl,rfl,rfl⟩:=J;have hb:b= []:=wT R;subst hb;have hq:=fun(w:World)=>iq (P:=prog) w 47 5 none 0 0 0 0 underlying47;clear Y R U hl;go_enter func107,ntmps107;go_wp2;go_ret;exact⟨_,_,rfl,uN _ _ _ _,rfl,wN _ _⟩
 simp only[wO]at J;obtain⟨rfl, -,rfl⟩:=J;have hq:=fun(w:World)=>iq (P:=prog) w 47 5 (some ad) n c 0 0 underlying47;obtain⟨i0,hi,a1,a2,a3⟩:=oq y2c;have O:=z7 (Y.low (q5 w (.cells #[] 5)));have a0:=z7 (show Rd (w.alloc (.cells #[] 5)) (.slice (some ad) n c) 1 n (z0c b) by have:=O.o;unfold RdB at this;rw[<-U]at this;exact this);have HN:=z7 U;clear Y R O U;go_enter func107,ntmps107;go_wp2_with (at_builtin;refine z2r rfl _ _ 47 rfl w.heap.size 5 i0 (.int .u8 0) 1 1 underlying47 hi a1 a2 a3 rfl wG _ _ _ rfl (rk w #[] 0 wE wG rfl) _ n (z0c b) rfl a0.o (z4X b) (by unfold maxLen;omega) wF wH ?_;intro v' w1 I A N L;obtain⟨a',c',rfl⟩:=(z0d I).head;have HO:=z7 I;have HG:=z7 (show Below w.heap.size w w1 from(wD.alloc wE _).grown A wH (by intro k hk;simp[Act.eval,Value.ownBlock]at hk;omega));clear I A N L);go_ret;have J:=HO.o;simp only[uZ,uW]at J ⊢;exact⟨a',c',rfl,J,HN.o,HG.o⟩
structure ApS (w1:World) (wv:Value) (k b:Bs) (n:Nat) (L:List (Bs×Ent)) (D:Nat->Bool) (v:Nat->Value) (w':World):Prop where
 g:w1.grownBy w' wv.ownBlock
 q:D 10=false->w'.ownsRow 0 132 2 wv L.length (z1F L)
 c:D 7=true->∃a c,v 7= .slice a n c/\w'.ownsRow w1.heap.size 5 1 (.slice a n c) n (z0c b)
 m:D 8=true->D 7=true/\v 8= .agg #[.string ⟨k.toArray⟩,v 7]
 s:D 9=true->D 8=true/\∃g,v 9= .slice (some ⟨g,0,none⟩) 1 1/\Rd w' (.slice (some ⟨g,0,none⟩) 1 1) 2 1 [.string ⟨k.toArray⟩,v 7]/\w1.heap.size<=g
 a:D 10=true->D 9=true/\∃aa ac,v 10= .slice aa (L.length+1) ac/\w'.ownsRow 0 132 2 (.slice aa (L.length+1) ac) (L.length+1) (z1F L++ [.string ⟨k.toArray⟩,v 7])/\((Value.slice aa (L.length+1) ac).ownBlock=wv.ownBlock\/∃g,(Value.slice aa (L.length+1) ac).ownBlock=some g/\w1.heap.size<=g)
theorem z2j.rowTo{w2 w':World}{N R:Nat}{s s':FsS}{wv wv':Value}{lp:Option Nat}{E L L':List (Bs×Ent)}(h:z2j w2 N s R wv lp E L)(hg:w2.grownBy w' wv.ownBlock)
  (a3:w'.ownsRow 0 132 2 wv' L'.length (z1F L')) (O:∀k,wv'.ownBlock=some k->wv.ownBlock=some k\/w2.heap.size<=k)
  (hr:s'.room=s.room) (hh:s'.halted=s.halted) (hl:s'.left=s.left) (hf:s'.files=s.files) (hw:s'.waits=L'.map ct)
  (he:∀p∈L',p∈L\/(z3M w' (z0P N R wv lp) p.2/\∀k,p.2.v.ownBlock=some k->w2.heap.size<=k/\wv'.ownBlock≠some k)):
  z2e w2 N (z4c (z0P N R wv lp) (E++L)) s' (w'.setCell ⟨N,2,none⟩ wv'):=by
 obtain⟨n1,n2,n3⟩:=h.ne;have Y:=h.mut_lt;have a7:N<w2.heap.size:=Y N (by simp[z0P]);have a4:R<w2.heap.size:=Y R (by simp[z0P]);have hb:∀k,k<w2.heap.size->k≠N->wv.ownBlock≠some k->(w'.setCell ⟨N,2,none⟩ wv').heap[k]? =w2.heap[k]? :=fun k I hn a5=>by
  rw[q7 hn];exact hg.block k I fun e=>a5 e.symm
 have a2:w2.heap.size<=(w'.setCell ⟨N,2,none⟩ wv').heap.size:=by
  have:=hg.size;simp[World.setCell];exact this
 have a1:∀k,wv'.ownBlock=some k->k≠N:=fun k I e=>by
  rcases O k I with A|A
  .exact(n2 k A).1 e
  omega
 have a0:∀k,k∈z0P N R wv' lp->k∈z0P N R wv lp\/w2.heap.size<=k:=fun k I=>by
  simp only[z0P,wy,uB,pR]at I ⊢;rcases I with A|A|A|A
  .exact .inl (.inl A)
  .exact .inl (.inr (.inl A))
  .rcases O k A with J|J
   .exact .inl (.inr (.inr (.inl J)))
   exact .inr J
  exact .inl (.inr (.inr (.inr A)))
 refine h.to (mb':=R) (wv':=wv') (lp':=lp) (E':=E) (L':=L') ⟨?_,?_,?_,?_,hf.trans h.files,hw,fun p hp=>?_,?_⟩ hg.os hg.tape hg.output a2 (fun k I hn=>hb k I (fun e=>hn (by simp[z0P,e])) fun e=>hn (by simp[z0P,e])) a0 fun p hp k I=>?_
 .have A:w'.heap[N]? =_:=(hg.block N a7 fun e=>(n2 N e.symm).1 rfl).trans h.blk;have J:=z0a A 2 wv';rw[hr,hh];simpa using J
 .exact h.map.same (hb R a4 n1 fun e=>(n2 R e).2 rfl)
 .exact j7 a3 fun b U=>q7 (a1 b U)
 .rw[hl];exact h.left.same fun b U=>hb b (Y b (by simp[z0P,U])) (n3 b U).1 (n3 b U).2.2
 .rcases uB.1 hp with hp|hp
  .have A:=h.ent p (uQ _ hp);have J:=A.same (w':=w'.setCell ⟨N,2,none⟩ wv') (fun k I=>hb k (A.far k I).2 (fun e=>(A.far k I).1 (by simp[z0P,e])) fun e=>(A.far k I).1 (by simp[z0P,e])) a2;exact⟨J.rd,J.n,J.le,J.cap,fun k I=>⟨fun hm=>(a0 k hm).elim (A.far k I).1 fun h3=>by have:=(A.far k I).2;omega,(J.far k I).2⟩⟩
  rcases he p hp with a6|⟨A,J⟩
  .have A:=h.ent p (uT _ a6);have J:=A.same (w':=w'.setCell ⟨N,2,none⟩ wv') (fun k I=>hb k (A.far k I).2 (fun e=>(A.far k I).1 (by simp[z0P,e])) fun e=>(A.far k I).1 (by simp[z0P,e])) a2;exact⟨J.rd,J.n,J.le,J.cap,fun k I=>⟨fun hm=>(a0 k hm).elim (A.far k I).1 fun h3=>by have:=(A.far k I).2;omega,(J.far k I).2⟩⟩
  have h3:=A.same (w':=w'.setCell ⟨N,2,none⟩ wv') (fun k I=>q7 fun e=>by have:=(J k I).1;omega) (by simp[World.setCell]);refine⟨h3.rd,h3.n,h3.le,h3.cap,fun k I=>⟨fun hm=>?_,(h3.far k I).2⟩⟩;have h4:=(J k I).1;simp only[z0P,wy,uB,pR]at hm;rcases hm with h5|h5|h5|h5
  .omega
  .omega
  .exact(J k I).2 h5
  have:=Y k (by simp[z0P,h5]);omega
 .unfold z0P;simp only[ew,wy,uB,pR,not_or,iz];refine⟨⟨pz n1,fun e=>a1 N e rfl,fun e=>(n3 N e).1 rfl⟩,⟨fun e=>?_,fun e=>(n3 R e).2.1 rfl⟩,?_,?_,?_⟩
  .rcases O R e with A|A
   .exact(n2 R A).2 rfl
   omega
  .cases wv'.ownBlock<;>simp
  .cases lp<;>simp
  intro x hx y hy e;subst e;rcases O x hx with A|A
  .exact(n3 x hy).2.2 A
  have:=Y x (by simp[z0P,hy]);omega
 rcases uB.1 hp with hp|hp
 .exact .inl ⟨p,uQ _ hp,I⟩
 rcases he p hp with A|⟨_,A⟩
 .exact .inl ⟨p,uT _ A,I⟩
 exact .inr (A k I).1
theorem y8Y{w:World}{base A e Y N L n n' k:Nat}{v v':Value}{xs R:List Value}(h:w.ownsRow base e N v n xs)(h':w.ownsRow A Y L v' n' R)(he:e≠Y)(O:v.ownBlock=some k):v'.ownBlock≠some k:=by
 intro J;rcases h.2 with⟨rfl,_⟩|⟨g,c,a0,rfl,_,h1,_⟩
 .cases O
 rcases h'.2 with⟨rfl,_⟩|⟨g',c',U,rfl,_,I,_⟩
 .cases J
 simp only[Value.ownBlock,wK]at O J;subst O;subst J;rw[h1]at I;simp only[wK,rA]at I;exact he I.2.1
theorem q4M{R w':World}{sb mb:Nat}{s s':FsS}{wv:Value}{lp:Option Nat}{E L:List (Bs×Ent)}{k b:Bs}{U a':Option Addr}{Y n c':Nat}(h:z2j R sb s mb wv lp E L)(hg:R.grownBy w' wv.ownBlock)
  (J:w'.ownsRow 0 132 2 (.slice U (L.length+1) Y) (L.length+1) (z1F L++ [.string ⟨k.toArray⟩,.slice a' n c'])) (O:(Value.slice U (L.length+1) Y).ownBlock=wv.ownBlock\/∃g,(Value.slice U (L.length+1) Y).ownBlock=some g/\R.heap.size<=g)
  (A:w'.ownsRow R.heap.size 5 1 (.slice a' n c') n (z0c b)) (hn:n=b.length)
  (hr:s'.room=s.room) (hh:s'.halted=s.halted) (hl:s'.left=s.left) (hf:s'.files=s.files) (hw:s'.waits=s.waits++ [(k,b)]):z2e R sb (z4c (z0P sb mb wv lp) (E++L)) s' (w'.setCell ⟨sb,2,none⟩ (.slice U (L.length+1) Y)):=by
 have e1:(L++ [(k,(⟨b,a',n,c'⟩:Ent))]).length=L.length+1:=wH
 have e2:z1F (L++ [(k,(⟨b,a',n,c'⟩:Ent))])=z1F L++ [.string ⟨k.toArray⟩,.slice a' n c']:=by rw[y5m];rfl
 refine h.rowTo (L':=L++ [(k,⟨b,a',n,c'⟩)]) hg (by rw[e1,e2];exact J) (fun k I=>?_) hr hh hl hf (by rw[hw,h.waits];simp[ct]) fun p N=>?_
 .rcases O with h1|⟨g,h1,h2⟩
  .exact .inl (by rw[<-h1];exact I)
  rw[h1]at I;simp only[wK]at I;subst I;exact .inr h2
 rcases uB.1 N with N|N
 .exact .inl N
 simp only[uD]at N;subst N;refine .inr ⟨⟨?_,hn,(z0Q A).1,(z0Q A).2,fun k I=>⟨fun hm=>?_,(A.lt k I).2⟩⟩,fun k I=>⟨(A.lt k I).1,y8Y A J wG I⟩⟩
 .have:=z0d A;unfold RdB;rw[<-hn];exact this
 have h1:=h.mut_lt k hm;have h2:=(A.lt k I).1;omega
theorem z7a{a b c:World}{row:Option Nat}(h:a.grownBy b row)(k:Below b.heap.size b c):a.grownBy c row:=
 ⟨k.os.trans h.os,k.tape.trans h.tape,k.output.trans h.output,wV h.size k.size,fun i A I=>(k.block i (wS A h.size)).trans (h.block i A I)⟩
theorem ApS.start{A:World}{I:Value}{k b:Bs}{n:Nat}{L:List (Bs×Ent)}(h:A.ownsRow 0 132 2 I L.length (z1F L)):ApS A I k b n L (fun _=>false) (fun _=>undef) A.drew:=
 ⟨⟨rfl,rfl,rfl,wJ _,fun _ _ _=>rfl⟩,fun _=>h,(fun h=>by cases h),(fun h=>by cases h),(fun h=>by cases h),(fun h=>by cases h)⟩
theorem ApS.clone{R w' I:World}{U:Value}{k b:Bs}{n c':Nat}{a':Option Addr}{L:List (Bs×Ent)}{D:Nat->Bool}{v:Nat->Value}(h:ApS R U k b n L D v w')(N:D 8=false)(J:z6l w' I a' n c' b):ApS R U k b n L (mark D 7) (z3d v 7 (.slice a' n c')) I:=by
 have O:D 9=false:=by cases e:D 9 with
  | false=>rfl
  | true=>have:=(h.s e).1;rw[N]at this;cases this
 have A:D 10=false:=by cases e:D 10 with
  | false=>rfl
  | true=>have:=(h.a e).1;rw[O]at this;cases this
 refine⟨z7a h.g J.2.2,fun _=>ownsRow_below (h.q A) J.2.2 wE,fun _=>⟨a',c',rfl,z0f J.1 h.g.size⟩,fun e=>?_,fun e=>?_,fun e=>?_⟩
 .have:D 8=true:=e;rw[N]at this;cases this
 .have:D 9=true:=e;rw[O]at this;cases this
 have:D 10=true:=e;rw[A]at this;cases this
theorem ApS.built{N w':World}{O:Value}{k b:Bs}{n c':Nat}{a':Option Addr}{L:List (Bs×Ent)}{D:Nat->Bool}{v:Nat->Value}(h:ApS N O k b n L D v w')(I:D 7=true)(J:D 9=false)(R:v 7= .slice a' n c'):ApS N O k b n L (mark D 8) (z3d v 8 (.agg #[.string ⟨k.toArray⟩,.slice a' n c'])) w':=by
 have A:D 10=false:=by cases e:D 10 with
  | false=>rfl
  | true=>have:=(h.a e).1;rw[J]at this;cases this
 refine⟨h.g,fun _=>h.q A,fun _=>h.c I,fun _=>⟨I,?_⟩,fun e=>?_,fun e=>?_⟩
 .show Value.agg #[.string ⟨k.toArray⟩,.slice a' n c']= .agg #[.string ⟨k.toArray⟩,v 7];rw[R]
 .have:D 9=true:=e;rw[J]at this;cases this
 have:D 10=true:=e;rw[A]at this;cases this
theorem ApS.made{I w':World}{J:Value}{k b:Bs}{n c':Nat}{a':Option Addr}{L:List (Bs×Ent)}{D:Nat->Bool}{v:Nat->Value}(h:ApS I J k b n L D v w')(N:D 8=true)(A:D 10=false)(U:v 7= .slice a' n c'):
  ApS I J k b n L (mark D 9) (z3d v 9 (.slice (some ⟨w'.heap.size,0,none⟩) 1 1)) (w'.alloc (.cells #[.string ⟨k.toArray⟩,.slice a' n c'] 132)):=by
 have hb:=q5 w' (.cells #[.string ⟨k.toArray⟩,.slice a' n c'] 132);refine⟨z7a h.g hb,fun _=>ownsRow_below (h.q A) hb wE,fun e=>?_,fun e=>h.m e,fun _=>⟨N,w'.heap.size,rfl,?_,h.g.size⟩,fun e=>?_⟩
 .obtain⟨a,c,O,R⟩:=h.c e;exact⟨a,c,O,ownsRow_below R hb wE⟩
 .show Rd _ _ 2 1 [.string ⟨k.toArray⟩,v 7];rw[U];exact z3t w' #[.string ⟨k.toArray⟩,.slice a' n c'] 132 1 2 wG rfl
 have:D 10=true:=e;rw[A]at this;cases this
theorem ApS.appended{w2 w' J:World}{O U:Value}{k b:Bs}{n:Nat}{L:List (Bs×Ent)}{D:Nat->Bool}{v:Nat->Value}(h:ApS w2 O k b n L D v w')(d9:D 9=true)(A:w2.ownsRow 0 132 2 O L.length (z1F L))
  (I:J.ownsRow 0 132 2 U (L.length+1) (z1F L++ [.string ⟨k.toArray⟩,v 7])) (hg:w'.grownBy J O.ownBlock) (hb:U.ownBlock=O.ownBlock\/U.ownBlock=some w'.heap.size):ApS w2 O k b n L (mark D 10) (z3d v 10 U) J:=by
 obtain⟨aa,ac,rfl⟩:=(z0d I).head;refine⟨h.g.trans hg,(fun e=>by cases e),fun e=>?_,fun e=>h.m e,fun e=>?_,fun _=>⟨d9,aa,ac,rfl,I,hb.imp id fun e=>⟨_,e,h.g.size⟩⟩⟩
 .obtain⟨a,c,Y,N⟩:=h.c e;refine⟨a,c,Y,j7 N fun j R=>hg.block j (N.lt j R).2 fun e=>?_⟩;have h3:=(N.lt j R).1;have h4:=(A.lt j e.symm).2;omega
 obtain⟨Y,g,N,h3,h4⟩:=h.s e;refine⟨Y,g,N,h3.kept fun j R a0=>hg.block j a0 fun e=>?_,h4⟩;have h5:=(A.lt j e.symm).2;simp only[Value.ownBlock,wK]at R;omega
theorem y3I(J:Nat)(s:FsS)(F:List Nat)(k:Bs)(hk:k.length<=maxLen)(a:Option Addr)(n c:Nat)(b:Bs)(w:World)(h:z1L w J s F)(ok:s.Ok)(hx:RdB w (.slice a n c) b)(hn:n=b.length)(hl:n<=1099511627776)(hd:0<n->∀k,(Value.slice a n c).ownBlock=some k->k∉F):
  Calls prog 125 #[.pointer (some ⟨J,0,none⟩),.string ⟨k.toArray⟩,.slice a n c] w fun e w'=>e= .returned (.int .u16 (z0V s k b).1)/\z2e w J F (z0V s k b).2 w':=by
 have H:=z7 h;have OK:=z7 ok;have HX:=z7 hx;have HN:=z7 hn;have HD:=z7 hd;clear h ok hx hn hd;cases hh:s.has k with
 | false=>
  have e:z0V s k b=(80,s):=by simp[z0V,hh]
  rw[e];clear e;go_enter func125,ntmps125;go_wp2_with (refine(z2a J s _ k hk _ H.o).mono ?_;rintro e w' ⟨rfl,rfl⟩;rw[hh]);go_ret;exact⟨rfl,z2e.refl H.o⟩
 | true=>
  by_cases h0:n=0
  .have e:z0V s k b=(0,s):=(by have h1:=HN.o;rw[h0]at h1;have U:b= []:=wT h1.symm;simp[z0V,hh,U]);rw[e];have i0:((n:Int)==0)=true:=(by simpa using h0);clear e h0;go_enter func125,ntmps125;go_wp2_with (refine(z2a J s _ k hk _ H.o).mono ?_;rintro e w' ⟨rfl,rfl⟩;rw[hh]);go_ret;exact⟨rfl,z2e.refl H.o⟩
  have i0:((n:Int)==0)=false:=(by simpa using h0);have H':=H.o;obtain⟨mb,wv,lp,E,L,h,rfl⟩:=H';obtain⟨c0,c1,c2,c3,c4,fz⟩:=z1N h.blk;have aB:=(wI.1 h.blk).1;have a6:=z7 c0;have hu:=OK.o.used_le;have b6:=OK.o.room0;have b7:=OK.o.room1;have b8:IntKind.i64.wrap (s.room - (s.used:Int))=s.room - (s.used:Int):=wrap64 wF wF;clear h c0 c1 c2 c3 c4 fz;by_cases b2:s.room - (s.used:Int)<n
  .have e:z0V s k b=(82,s):=(by have h1:=HN.o;unfold z0V;rw[wR (by simp[hh]),wR wF,wZ wF]);rw[e];clear e;go_enter func125,ntmps125;go_wp2_with (refine(z2a J s _ k hk _ H.o).mono ?_;rintro e w' ⟨rfl,rfl⟩;rw[hh]);refine q6 10 42 (fun D v w'=>Below w.heap.size w w') wD.drew ?_;simp only[z0C];iterate 5 (refine q8.rd ?_ (fun D v w' I A=>?_) ?_;rotate_left;(clear A I;go_simp;try rfl);go_simp)
   (refine q8.rd ?_ (fun D v w' I A=>?_) ?_;rotate_left;(have c0:w'.cell? ⟨J,0,none⟩=some (.int .i64 s.room):=(A.cell (p:=⟨J,0,none⟩) aB).trans a6.o;clear A I;go_simp;try rfl);go_simp)
   (refine q8.rd ?_ (fun D v w' I A=>?_) ?_;rotate_left;(clear A I;go_simp;try rfl);go_simp)
   refine q8.ca (.int .i64 s.used) (fun D v w' I A=>?_) ?_
   .have N:=z7 A;clear A I;go_simp;go_at_call 15;refine(y1A J s _ w' (H.o.low N.o) OK.o).mono ?_;rintro e a2 ⟨rfl,hb⟩;exact⟨rfl,N.o.trans (hb.mono N.o.size)⟩
   go_simp;iterate 2 (refine q8.rd ?_ (fun D v w' I A=>?_) ?_;rotate_left;(clear A I;go_simp;try rfl);go_simp)
   refine q8.fin (fun v w1 A=>?_);have N:=z7 A;have H1:=z7 (H.o.low A);clear A;go_wp2;go_ret;exact⟨rfl,⟨_,H1.o,Chg.of_below N.o⟩⟩
  have ea:z0V s k b=(0,if s.go then {s.went with waits:=s.waits++ [(k,b)]}else s.went):=(by have h1:=HN.o;unfold z0V;rw[wR (by simp[hh]),wR wF,wR wF]);cases hg:s.go with
  | false=>
   have e:z0V s k b=(0,s.went):=(by rw[ea,hg];rfl);rw[e];clear e ea;go_enter func125,ntmps125;go_wp2_with (refine(z2a J s _ k hk _ H.o).mono ?_;rintro e w' ⟨rfl,rfl⟩;rw[hh]);refine q6 10 42 (fun D v w'=>Below w.heap.size w w') wD.drew ?_;simp only[z0C];iterate 5 (refine q8.rd ?_ (fun D v w' I A=>?_) ?_;rotate_left;(clear A I;go_simp;try rfl);go_simp)
   (refine q8.rd ?_ (fun D v w' I A=>?_) ?_;rotate_left;(have c0:w'.cell? ⟨J,0,none⟩=some (.int .i64 s.room):=(A.cell (p:=⟨J,0,none⟩) aB).trans a6.o;clear A I;go_simp;try rfl);go_simp)
   (refine q8.rd ?_ (fun D v w' I A=>?_) ?_;rotate_left;(clear A I;go_simp;try rfl);go_simp)
   refine q8.ca (.int .i64 s.used) (fun D v w' I A=>?_) ?_
   .have N:=z7 A;clear A I;go_simp;go_at_call 15;refine(y1A J s _ w' (H.o.low N.o) OK.o).mono ?_;rintro e a2 ⟨rfl,hb⟩;exact⟨rfl,N.o.trans (hb.mono N.o.size)⟩
   go_simp;iterate 2 (refine q8.rd ?_ (fun D v w' I A=>?_) ?_;rotate_left;(clear A I;go_simp;try rfl);go_simp)
   refine q8.fin (fun v w1 A=>?_);have N:=z7 A;have H1:=z7 (H.o.low A);clear A;go_wp2_with fail;refine(z4f J s _ _ H1.o OK.o.left0).mono ?_;rintro e w2 ⟨rfl,ht⟩;rw[hg];have HT:=z7 ht;clear ht hg;go_wp2;go_ret;obtain⟨F2,aV,a0⟩:=HT.o;exact⟨rfl,F2,aV,(Chg.of_below N.o).trans a0⟩
  | true=>
   have e:z0V s k b=(0,{s.went with waits:=s.waits++ [(k,b)]}):=(by rw[ea,hg];rfl);rw[e];obtain⟨s',aA⟩:=zN (({s.went with waits:=s.waits++ [(k,b)]}:FsS));rw[<-aA];have Y:=z7 aA;clear e ea aA;go_enter func125,ntmps125;go_wp2_with (refine(z2a J s _ k hk _ H.o).mono ?_;rintro e w' ⟨rfl,rfl⟩;rw[hh]);refine q6 10 42 (fun D v w'=>Below w.heap.size w w') wD.drew ?_;simp only[z0C];iterate 5 (refine q8.rd ?_ (fun D v w' I A=>?_) ?_;rotate_left;(clear A I;go_simp;try rfl);go_simp)
   (refine q8.rd ?_ (fun D v w' I A=>?_) ?_;rotate_left;(have c0:w'.cell? ⟨J,0,none⟩=some (.int .i64 s.room):=(A.cell (p:=⟨J,0,none⟩) aB).trans a6.o;clear A I;go_simp;try rfl);go_simp)
   (refine q8.rd ?_ (fun D v w' I A=>?_) ?_;rotate_left;(clear A I;go_simp;try rfl);go_simp)
   refine q8.ca (.int .i64 s.used) (fun D v w' I A=>?_) ?_
   .have N:=z7 A;clear A I;go_simp;go_at_call 15;refine(y1A J s _ w' (H.o.low N.o) OK.o).mono ?_;rintro e a2 ⟨rfl,hb⟩;exact⟨rfl,N.o.trans (hb.mono N.o.size)⟩
   go_simp;iterate 2 (refine q8.rd ?_ (fun D v w' I A=>?_) ?_;rotate_left;(clear A I;go_simp;try rfl);go_simp)
   refine q8.fin (fun v w1 A=>?_);have N:=z7 A;have H1:=z7 (H.o.low A);clear A;go_wp2_with fail;refine(z4f J s _ _ H1.o OK.o.left0).mono ?_;rintro e w2 ⟨rfl,ht⟩;rw[hg];obtain⟨F2,aZ,a0⟩:=ht;have aG:=z7 a0;have aS:=z7 ((HX.o.low N.o).chg a0 (HD.o wF));obtain⟨bA,b1,b9,E2,L2,U,rfl⟩:=aZ;obtain⟨c0,c1,c2,c3,c4,fz⟩:=z1N U.blk;have f2:=fz 2;have aN:=(wI.1 U.blk).1;obtain⟨n1,n2,n3⟩:=U.ne;have aC:b1.ownBlock≠some J:=fun e=>(n2 J e).1 rfl;have b3:=z7 aC;have a3:=z7 U.row;have H2:=z7 U;have b4:L2.length<=1048576:=by
    have h3:=OK.o.waits_le;have h4:=uS List.length ((z2T s).2.2.symm.trans U.waits);rw[we]at h4;omega
   obtain⟨wa,wc,rfl⟩:=(z0d U.row).head;have aF:=z7 c2;have aI:Hid (∀W:World,w2.grownBy W (Value.slice wa L2.length wc).ownBlock->W.cell? ⟨J,2,none⟩=some (.slice wa L2.length wc)/\W.frozen? ⟨J,2,none⟩=false):=z7 fun W hW=>
    let h:=hW.block J aN fun e=>aC e.symm
    ⟨(ud (w:=w2) (a:=⟨J,2,none⟩) h).trans aF.o,by rw[mf (w:=w2) (a:=⟨J,2,none⟩) h];exact f2⟩
   have hj:∀j,(Value.slice a n c).ownBlock=some j->(Value.slice wa L2.length wc).ownBlock≠some j:=fun j hj e=>by
    obtain⟨b',o',c',h5,_,h6⟩:=RdB.at (k:=0) (l:=b) (by have:=HX.o;rw[HN.o]at this;exact this) (by have:=HN.o;omega);simp only[wO]at h5;obtain⟨rfl, -⟩:=h5;simp only[Value.ownBlock,wK]at hj;subst hj;rcases aG.o.fresh b' (z0F.2 (.inl (by simp[z0P,e])))with O|O
    .exact HD.o wF b' rfl O
    have:=N.o.size;omega
   have HJ:=z7 hj;clear hj;clear a0 c0 c1 c2 c3 c4 fz U n1 n2 n3 hg aC;go_wp2_with fail;refine q6 13 42 (fun D v w'=>ApS w2 (.slice wa L2.length wc) k b n L2 D v w') (ApS.start a3.o) ?_;simp only[z0C];iterate 4 (refine q8.rl ?_ (fun D v w h=>⟨h.g,h.q,h.c,h.m,h.s,h.a⟩) (fun D v w' I A=>?_) ?_;rotate_left;(clear A I;go_simp;try rfl);go_simp)
   (refine q8.rl ?_ (fun D v w h=>⟨h.g,h.q,h.c,h.m,h.s,h.a⟩) (fun D v w' I A=>?_) ?_;rotate_left;(have aJ:=(aI.o w' A.g).1;clear A I;go_simp;try rfl);go_simp)
   iterate 2 (refine q8.rl ?_ (fun D v w h=>⟨h.g,h.q,h.c,h.m,h.s,h.a⟩) (fun D v w' I A=>?_) ?_;rotate_left;(clear A I;go_simp;try rfl);go_simp)
   refine q8.re (fun D v w' I A=>?_) ?_
   .have d8:D 8=false:=I.post 8 _ rfl (by kernel_rfl);have R:=z7 A;have aT:=z7 (show RdB w' (.slice a n c) b from Rd.kept aS.o fun j hj aY=>A.g.block j aY fun e=>HJ.o j hj e.symm);clear A I;go_simp;go_at_call 107;refine(y5F a n c b w' aT.o HN.o hl).mono ?_;rintro e a2 ⟨a',c',rfl,hf⟩;exact R.o.clone d8 hf
   go_simp;refine q8.re (fun D v w' I A=>?_) ?_
   .have d7:D 7=true:=I.pre 7 (by kernel_rfl);have d9:D 9=false:=I.post 9 _ rfl (by kernel_rfl);obtain⟨a7,c7,O,_⟩:=A.c d7;have R:=z7 (A.built d7 d9 O);clear A I;rw[O];clear O;go_simp;exact R.o
   go_simp;refine q8.re (fun D v w' I A=>?_) ?_
   .have d8:D 8=true:=I.pre 8 (by kernel_rfl);have a9:D 10=false:=I.post 10 _ rfl (by kernel_rfl);obtain⟨d7,h8⟩:=A.m d8;obtain⟨a7,c7,O,_⟩:=A.c d7;have R:=z7 (A.made d8 a9 O);clear A I;rw[h8,O];clear O h8;go_simp;exact R.o
   go_simp;refine q8.re (fun D v w' I A=>?_) ?_
   .have d9:D 9=true:=I.pre 9 (by kernel_rfl);have a9:D 10=false:=I.self;obtain⟨d8,g,h9,aM,b5⟩:=A.s d9;obtain⟨d7,h8⟩:=A.m d8;obtain⟨a7,c7,O,_⟩:=A.c d7;have hq:=z7 (A.q a9);have R:=z7 A;have aR:=z7 aM;have H7:=z7 O;rw[h9];obtain⟨i0,hi,aD,aW,b0⟩:=oq q1q;clear A I aM O h8 h9;refine z3V _ _ 83 rfl 0 132 i0 (.agg #[.string ⟨#[]⟩,.slice none 0 0]) 2 40 underlying83 hi aD aW b0 rfl wG _ L2.length (z1F L2) rfl hq.o _ 1 [.string ⟨k.toArray⟩,v 7] rfl aR.o ?_ (by unfold maxLen;omega) wF (uA _) ?_
    .intro u hu;rw[H7.o]at hu;simp only[wy,ou,kg]at hu;rcases hu with rfl|rfl<;>rfl
    intro v' a2 h1 U h3 h4;exact⟨v',rfl,R.o.appended d9 a3.o h1 U h4,trivial⟩
   go_simp;iterate 2 (refine q8.rl ?_ (fun D v w h=>⟨h.g,h.q,h.c,h.m,h.s,h.a⟩) (fun D v w' I A=>?_) ?_;rotate_left;(clear A I;go_simp;try rfl);go_simp)
   refine q8.fin (fun v w' A=>?_);obtain⟨aa,ac,aH,a5,a4⟩:=(A.a rfl).2;obtain⟨a7,c7,O,aL⟩:=A.c rfl;have HG:=z7 A.g;have aJ:=aI.o w' A.g;rw[aH];have a8:=z7 a5;have aE:=z7 a4;have aO:=z7 aL;have H7:=z7 O;obtain⟨d1,d2⟩:=aJ;clear A a5 a4 aL O aH;go_wp2;go_ret;refine⟨rfl,?_⟩;have a1:=a8.o;rw[H7.o]at a1;obtain⟨e1,e2,e3⟩:=z2T s;obtain⟨F3,aX,aU⟩:=q4M (s':=s') H2.o HG.o a1 aE.o aO.o HN.o (by rw[Y.o]) (by rw[Y.o]) (by rw[Y.o]) (by rw[Y.o]) (by rw[Y.o,e3]);exact⟨F3,aX,(Chg.of_below N.o).trans (aG.o.trans aU)⟩
theorem y6Y(k:Bs)(L:List (Bs×Bs))(p:Bs×Bs):pieces k (L++ [p])=pieces k L++(if p.1=k then p.2 else []):=by
 unfold pieces;rw[rh,uk]
 congr 1
 by_cases e:p.1=k<;>simp[e]
theorem y3g(k:Bs)(L R:List (Bs×Bs)):pieces k (L++R)=pieces k L++pieces k R:=by simp[pieces]
theorem q6k{L:List (Bs×Ent)}{i:Nat}(h:i<L.length):(L.take (i+1)).map ct=(L.take i).map ct++ [ct L[i]]:=by
 rw[uG,wL h,uV];rfl
theorem y1Y(L:List (Bs×Bs))(i:Nat):total (L.take i)<=total L:=by
 have:=z5P (L.take i) (L.drop i);rw[pZ]at this;omega
def z2E(s:FsS)(k:Bs)(w:World)(e:Ending)(w':World):Prop:=
 if s.has k then ∃a n c,e= .returned (.tuple #[.slice a n c,.int .u16 0])/\z6l w w' a n c (s.get k)
 else e= .returned (.tuple #[.slice none 0 0,.int .u16 80])/\w=w'
theorem z5d(sb:Nat)(s:FsS)(F:List Nat)(k:Bs)(hk:k.length<=maxLen)(w:World)(h:z1L w sb s F)(ok:s.Ok):
  Calls prog 58 #[.pointer (some ⟨sb,0,none⟩),.string ⟨k.toArray⟩] w (z2E s k w):=by
 have H:=z7 h;have OK:=z7 ok;clear h ok;cases hh:s.has k with
 | false=>
  have e:∀e' w',(e'= .returned (.tuple #[.slice none 0 0,.int .u16 80])/\w=w')->z2E s k w e' w':=fun e' w' h=>by unfold z2E;rw[hh,wR wH];exact h
  have HE:=z7 e;clear e;go_enter func58,ntmps58;go_wp2_with (refine(z2a sb s _ k hk _ H.o).mono ?_;rintro e w' ⟨rfl,rfl⟩;rw[hh]);go_ret2;exact HE.o _ _ ⟨rfl,rfl⟩
 | true=>
  have e:∀e' w',(∃a n c,e'= .returned (.tuple #[.slice a n c,.int .u16 0])/\z6l w w' a n c (s.get k))->z2E s k w e' w':=fun e' w' h=>by unfold z2E;rw[hh,wZ rfl];exact h
  have HE:=z7 e;have H':=H.o;obtain⟨mb,wv,lp,E,L,h,rfl⟩:=H';obtain⟨c0,c1,c2,c3,c4,fz⟩:=z1N h.blk;have aZ:=(wI.1 h.blk).1;obtain⟨wa,wc,rfl⟩:=(z0d h.row).head;have hm:=z7 h.map;have aM:=z7 c2;have aX:Hid (L.length<=1048576):=z7 (by have:=OK.o.waits_le;rw[h.waits,we]at this;exact this);obtain⟨J,a3⟩:∃J,z0J k E=some J:=by
   have R:s.has k=(z0J k E).isSome:=(by unfold FsS.has;rw[z7r h,gg]);rw[hh]at R;exact pM.1 R.symm
  have a5:Hid (s.get k=J.b++pieces k (L.map ct)):=z7 (by unfold FsS.get;rw[z7r h,a3,h.waits];rfl);have a7:z3M w _ J:=h.ent (k,J) (uQ _ (z1q a3));have Y:=z7 a7;have aG:Hid ((J.b++pieces k (L.map ct)).length<=1048576):=z7 (by
   rw[<-a5.o];have R:=z7k s k;have h2:=OK.o.used_le;omega)
  have aU:Hid (J.n<=1048576):=z7 (by have:=aG.o;rw[wP]at this;have:=a7.n;omega);have HG:=z7 a3;have H2:=z7 h;clear h c0 c2 c3 c4 fz e a3 a7;obtain⟨eb,ea,J,ec⟩:=J;dsimp only[Ent.v]at*;go_enter func58,ntmps58;go_wp2_with (first|(refine(z2a sb s _ k hk _ H.o).mono ?_;rintro e w' ⟨rfl,rfl⟩;rw[hh])|(at_lookup;refine z5O z2O rfl _ _ 82 rfl 47 underlying82 (z6f _) rfl rfl hm.o k rfl hk (some ⟨eb,ea,J,ec⟩) HG.o (.slice ea J ec) rfl ?_));refine(y5F ea J ec eb w Y.o.rd Y.o.n (by have:=aU.o;omega)).mono ?_;rintro e w1 ⟨a1,c1,rfl,hf⟩;have HF:=z7 hf;have a6:=z7 hf.2.2;have aL:=hf.2.2.size;have aT:w1.cell? ⟨sb,2,none⟩=some (.slice wa L.length wc):=(hf.2.2.cell (p:=⟨sb,2,none⟩) aZ).trans aM.o;clear hf;go_wp2;go_loopw[6,8,25] (fun ov pv iv wr=>∃(O:Bs) (i nO cO:Nat) (aO:Option Addr),ov= .slice aO nO cO/\iv= .int .i64 i/\i<=L.length/\Hid (nO=O.length)/\Hid (O=eb++pieces k ((L.take i).map ct))/\Hid (z4P w w.heap.size (.slice aO nO cO) O wr)) (fun _ _ iv _=>match iv with | .int _ j=>L.length - j.toNat|_=>0)
  case atStart=>
   refine⟨eb,0,J,c1,a1,rfl,rfl,uA _,z7 Y.o.n,z7 (by simp[pieces]),z7 ⟨?_,a6.o,aL⟩⟩;have R:=HF.o.1;have h2:J=eb.length:=Y.o.n;rw[h2]at R ⊢;exact R
  case round=>
   obtain⟨O,i,nO,cO,aO,rfl,rfl,hi,aB,a0,hO⟩:=hrel;clear aT a6 HF aL;have a9:=hO.o.2.1;by_cases U:i<L.length
   .have i0:(i:Int)<L.length:=wF;obtain⟨g,pk,pb,pa,pn,pc,rfl,aC,aD,a2,hg,aW⟩:=(H2.o.low a9).at U;have aI:z3M w (z0P sb mb (.slice (some ⟨g,0,none⟩) L.length wc) lp) (⟨pb,pa,pn,pc⟩:Ent):=by
     have:=H2.o.ent L[i] (uT _ (ug U));rw[aC]at this;exact this
    have A:Hid (pieces k ((L.take (i+1)).map ct)=pieces k ((L.take i).map ct)++(if pk=k then pb else [])):=z7 (by
     rw[q6k U,y6Y,aC];rfl)
    have aH:Hid ((eb++pieces k ((L.take (i+1)).map ct)).length<=1048576):=z7 (by
     have R:=aG.o;have h2:pieces k (L.map ct)=pieces k ((L.take (i+1)).map ct)++pieces k ((L.drop (i+1)).map ct):=by
      rw[<-y3g,<-uV,pZ]
     rw[h2]at R;simp only[wP]at R ⊢;omega)
    have b1:IntKind.i64.wrap ((i:Int)+1)=(i:Int)+1:=wrap64 wF (by have:=aX.o;omega);have aR:=z7 aI;clear aC aI;by_cases aE:pk=k
    .subst aE;have N:Hid (eb++pieces pk ((L.take (i+1)).map ct)=O++pb):=z7 (by rw[A.o,wZ rfl,a0.o,wj]);have aV:Hid (O.length+pb.length<=1048576):=z7 (by have:=aH.o;rw[N.o,wP]at this;exact this);have aY:=z7 ((aR.o.rd.low a9).low (q5 wr (.cells #[.string ⟨pk.toArray⟩,.slice pa pn pc] 132)));have a8:=z7 (hO.o.to (q5 wr (.cells #[.string ⟨pk.toArray⟩,.slice pa pn pc] 132)));have aJ:Hid (RdB (wr.alloc (.cells #[.string ⟨pk.toArray⟩,.slice pa pn pc] 132)) (.slice pa pn pc) pb):=aY;clear A;go_wp2_with (at_builtin;refine wpList_copy_own rfl _ _ 47 rfl w w.heap.size 5 underlying47 (by kernel_rfl) _ O rfl (by exact a8.o) _ pb rfl (by exact aJ.o) (by have:=aV.o;omega) ?_;intro a1 aS w1 I aF;obtain⟨n1,aA⟩:=zN ((O++pb).length);rw[<-aA]at I ⊢;have N1:=z7 aA;have aN:=z7 I;have a6:=z7 aF;skip;clear aA I aF);refine⟨⟨O++pb,i+1,n1,aS,a1,rfl,rfl,U,N1,z7 N.o.symm,aN⟩,?_⟩;show L.length - ((i:Int)+1).toNat<L.length - ((i:Nat):Int).toNat;omega
    have N:Hid (eb++pieces k ((L.take (i+1)).map ct)=O):=z7 (by rw[A.o,wR aE,ue,a0.o]);have a8:=z7 (hO.o.to (q5 wr (.cells #[.string ⟨pk.toArray⟩,.slice pa pn pc] 132)));have b0:(pk==k)=false:=(by simpa using aE);clear A;go_wp2;refine⟨⟨O,i+1,nO,cO,aO,rfl,rfl,U,aB,z7 N.o.symm,a8⟩,?_⟩;show L.length - ((i:Int)+1).toNat<L.length - ((i:Nat):Int).toNat;omega
   obtain rfl:i=L.length:=wF
   have a4:Hid (O=s.get k):=z7 (by rw[a0.o,a5.o,ui]);clear a0;go_wp2;go_ret2;refine HE.o _ _ ⟨aO,nO,cO,rfl,?_,?_,a9⟩
   .have R:=hO.o.1;rw[<-aB.o,a4.o]at R;exact R
   rw[<-a4.o];exact aB.o
theorem y2W(A k:Bs)(x:Value)(N:x.oneCell'=true)(a:Option Addr)(n c:Nat)(U:x= .slice a n c)(I:Nat)(w:World)(O:w.cell? ⟨I,0,none⟩=some (.string ⟨k.toArray⟩))(L:I<w.heap.size):
  Calls prog 142 #[.agg #[.string ⟨A.toArray⟩,x],.pointer (some ⟨I,0,none⟩)] w fun e w'=>e= .returned (.bool (decide (A=k)))/\Below w.heap.size w w':=by
 subst U;have R:(w.alloc (.cells #[.string ⟨A.toArray⟩,.slice a n c] 132)).cell? ⟨I,0,none⟩=some (.string ⟨k.toArray⟩):=((q5 w _).cell (p:=⟨I,0,none⟩) L).trans O;clear O N;by_cases e:A=k
 .have J:decide (A=k)=true:=wQ e;rw[J];subst e;go_enter func142,ntmps142;go_wp2;go_ret;exact⟨rfl,q5 w _⟩
 have J:decide (A=k)=false:=wM e;have Y:(A==k)=false:=by simpa using e
 rw[J];clear J;go_enter func142,ntmps142;go_wp2;go_ret;exact⟨rfl,q5 w _⟩
theorem y9o{w:World}{g n c:Nat}{L:List (Bs×Ent)}(h:w.ownsRow 0 132 2 (.slice (some ⟨g,0,none⟩) n c) n (z1F L))(hn:n=L.length){i:Nat}(J:i<n):
  ∃R pb N U O,L[i]? =some (R,⟨pb,N,U,O⟩)/\w.cell? ⟨g,i*2,none⟩=some (.string ⟨R.toArray⟩)/\w.cell? ⟨g,i*2+1,none⟩=some (.slice N U O)/\g<w.heap.size/\∀j,w.frozen? ⟨g,j,none⟩=false:=by
 subst hn;obtain⟨Y,g2⟩:=y0E J;have A:=h.cellAt (i*2) wF;have I:=h.cellAt (i*2+1) wF;rw[dP,Y]at A;rw[dP,g2]at I;refine⟨L[i].1,L[i].2.b,L[i].2.a,L[i].2.n,L[i].2.c,wL J,by rw[dP];exact A,by rw[dP];exact I,(h.lt g rfl).2,fun j=>h.frozenAt j⟩
theorem y5b(a:Option Addr)(n c:Nat)(k:Bs)(R:Nat)(L:List (Bs×Ent))(w:World)(h:w.ownsRow 0 132 2 (.slice a n c) n (z1F L))(hn:n=L.length)(hl:n<=1048576)
  (hc:w.cell? ⟨R,0,none⟩=some (.string ⟨k.toArray⟩)) (a8:R<w.heap.size):
  Calls prog 171 #[.slice a n c,.func (.func 142) #[] #[.pointer (some ⟨R,0,none⟩)]] w fun e w'=>(∃r:Int,e= .returned (.int .i64 r)/\((r= -1/\∀p∈L,p.1≠k)\/∃i:Nat,r=i/\i<n/\(∀p∈L.take i,p.1≠k)/\∃p,L[i]? =some p/\p.1=k))/\Below w.heap.size w w':=by
 have H:=z7 h;have HN:=z7 hn;have HC:=z7 hc;clear h hn hc;go_enter func171,ntmps171;go_wp2;go_loopw[5,8] (fun jv iv wr=>∃i:Nat,iv= .int .i64 i/\i<=n/\Hid (∀p∈L.take i,p.1≠k)/\Hid (Below w.heap.size w wr)) (fun _ iv _=>match iv with | .int _ j=>n - j.toNat|_=>0)
 case atStart=>exact⟨0,rfl,uA _,z7 (by intro p O;cases O),z7 wD⟩
 case round=>
  obtain⟨i,rfl,hi,N,hb⟩:=hrel;by_cases J:i<n
  .have i0:(i:Int)<n:=wF;have A:wr.ownsRow 0 132 2 (.slice a n c) n (z1F L):=ownsRow_below H.o hb.o wE;obtain⟨g,rfl⟩:∃g,a=some ⟨g,0,none⟩:=by
    rcases A.2 with⟨I,h2⟩|⟨g,a9,aA,I,_⟩
    .omega
    simp only[wO]at I;exact⟨g,I.1⟩
   obtain⟨pk,pb,pa,pn,pc,O,a1,a2,hg,a7⟩:=y9o A HN.o J;have a6:Hid (wr.cell? ⟨R,0,none⟩=some (.string ⟨k.toArray⟩)):=z7 ((hb.o.cell (p:=⟨R,0,none⟩) a8).trans HC.o);have HP:=z7 O;clear A O;go_wp2_with fail;refine(y2W pk k _ rfl pa pn pc rfl R wr a6.o (by have:=hb.o.size;omega)).mono ?_;rintro e w1 ⟨rfl,a3⟩;have U:=z7 (hb.o.trans (a3.mono hb.o.size));have aB:IntKind.i64.wrap ((i:Int)+1)=(i:Int)+1:=wrap64 wF wF;clear a3 a1 a2 a7;by_cases e:pk=k
   .have Y:decide (pk=k)=true:=wQ e;rw[Y];have a4:Hid (∃p,L[i]? =some p/\p.1=k):=z7 ⟨_,HP.o,e⟩;clear Y e;go_wp2;go_ret;exact⟨⟨i,rfl,.inr ⟨i,rfl,J,N.o,a4.o⟩⟩,U.o⟩
   have Y:decide (pk=k)=false:=wM e;rw[Y];have a5:Hid (∀p∈L.take (i+1),p.1≠k):=z7 fun p O=>by
    rw[uG,HP.o]at O;rcases uB.1 O with I|I
    .exact N.o p I
    simp only[og,uD]at I;subst I;exact e
   clear Y e;go_wp2;refine⟨⟨i+1,rfl,J,a5,U⟩,?_⟩;show n - ((i:Int)+1).toNat<n - ((i:Nat):Int).toNat;omega
  obtain rfl:i=n:=wF
  have a0:Hid (∀p∈L,p.1≠k):=z7 (by have:=N.o;rw[HN.o,ui]at this;exact this);go_wp2;go_ret;exact⟨⟨-1,rfl,.inl ⟨rfl,a0.o⟩⟩,hb.o⟩
theorem q0V(w:World):(zeroValue 132).run prog w= .ok (.agg #[.string ⟨#[]⟩,.slice none 0 0]) w:=by kernel_rfl
theorem y3q{P:Program}(w:World)(t e ty:TypeId)(z:Value)(ht:P.underlying t=some (.slice e))(hv:∀w,(zeroValue e).run P w= .ok z w)(U:∀u∈z.cells.toList,u.oneCell'=true)(hz:0<z.cells.size)(b o m c:Nat)(A:Array Value)(L:w.heap[b]? =some (.cells A e (0,0)))
  (hm:0<m) (a0:o+m*z.cells.size<=A.size):
  (Builtin.clear_ #[t] ty #[.slice (some ⟨b,o,none⟩) m c]).run P w= .ok (.tuple #[]) (w.setCells b o (Builtin.zeroCells z.cells m).toList):=by
 have hl:(Builtin.zeroCells z.cells m).toList.length=m*z.cells.size:=by simp[Builtin.zeroCells]
 have I:∀u∈(Builtin.zeroCells z.cells m).toList,u.oneCell'=true:=by
  intro u O;simp only[Builtin.zeroCells,Array.toList_map,uC]at O;obtain⟨i,_,rfl⟩:=O;have Y:i%z.cells.size<z.cells.size:=gk _ hz;rw[getElem!_pos z.cells _ Y];exact U _ wH
 have J:=rP (P:=P) b o (Builtin.zeroCells z.cells m).toList 0 w (fun j N=>by simp[World.cell?,L];rw[hl]at N;omega) (fun j N=>by simp[World.frozen?,L]) I;simp only[dp]at J;obtain⟨R,rfl⟩:∃R,m=R+1:=⟨m - 1,wF⟩;simp[Builtin.clear_,rQ ht,hv,J]
theorem y3v{w:World}{base e A g n c:Nat}{xs:List Value}(h:w.ownsRow base e A (.slice (some ⟨g,0,none⟩) n c) n xs)(i:Nat)(hi:i<=n)(U:List Value)(hv:i*A+U.length<=n*A):
  (w.setCells g (i*A) U).ownsRow base e A (.slice (some ⟨g,0,none⟩) i c) i (xs.take (i*A)):=by
 rcases h.2 with⟨R,_⟩|⟨g',a3,I,R,hb,hg,a2,a0,J,L⟩
 .simp at R
 simp only[wO,wK,oh,dc,oP]at R;obtain⟨rfl,rfl⟩:=R;have N:i*A<=n*A:=pF _ hi;have a4:n*A<=c*A:=pF _ a2;have O:=z0Y U (i*A) w I hg (by rw[J];omega);refine⟨by rw[uR,h.1];omega,.inr ⟨g,c,_,rfl,hb,O,wF,a0,by rw[oz,y6h _ _ _ (by simp[J];omega)];simpa using J,?_⟩⟩;have Y:i*A<=I.toList.length:=by rw[du,J];omega
 have a1:(I.toList.take (i*A)).length=i*A:=List.length_take_of_le Y;rw[<-L];show List.take (i*A) (laid I.toList (i*A) U)=_;unfold laid;rw[wj,pE (by rw[a1];exact wJ _),rJ,rJ,Nat.min_self,ku N]
theorem y3M(L:List (Bs×Ent))(i:Nat)(A:i<L.length)(p:Bs×Ent):z1F (L.set i p)=((z1F L).set (i*2) (.string ⟨p.1.toArray⟩)).set (i*2+1) p.2.v:=by
 induction L generalizing i with
 | nil=>simp at A
 | cons q L ih=>
  have e:∀(r:Bs×Ent) (M:List (Bs×Ent)),z1F (r::M)= .string ⟨r.1.toArray⟩::r.2.v::z1F M:=fun r M=>by simp[z1F]
  cases i with
  | zero=>simp[e]
  | succ i=>
   rw[qP,e,e,ih i (by simpa using A),show(i+1)*2=i*2+1+1 by omega];simp
theorem y8s(L:List (Bs×Ent))(i:Nat):(z1F L).take (i*2)=z1F (L.take i):=by
 induction L generalizing i with
 | nil=>simp[z1F]
 | cons q L ih=>
  have e:∀(r:Bs×Ent) (M:List (Bs×Ent)),z1F (r::M)= .string ⟨r.1.toArray⟩::r.2.v::z1F M:=fun r M=>by simp[z1F]
  cases i with
  | zero=>simp[z1F]
  | succ i=>rw[e,show(i+1)*2=i*2+1+1 by omega,dw,dw,ih,dw,e]
def z6a(k:Bs)(L:List (Bs×Ent)):List (Bs×Ent):=L.filter fun p=>decide (p.1≠k)
theorem y3V{k:Bs}{L:List (Bs×Ent)}(h:∀p∈L,p.1≠k):z6a k L=L:=dv.2 fun p A=>by simpa using h p A
theorem z9o(k:Bs)(L:List (Bs×Ent))(p:Bs×Ent):z6a k (L++ [p])=z6a k L++(if p.1=k then []else [p]):=by
 unfold z6a;rw[rh]
 congr 1
 by_cases e:p.1=k<;>simp[e]
def q7D(k:Bs)(L:List (Bs×Ent))(g n c:Nat)(nb:Nat)(w:World)(iv jv:Value)(wr:World):Prop:=
 ∃(i j:Nat) (A:List (Bs×Ent)),iv= .int .i64 i/\jv= .int .i64 j/\i<j/\j<=n/\Hid (wr.ownsRow 0 132 2 (.slice (some ⟨g,0,none⟩) n c) n (z1F A))/\Hid (A.length=n)/\Hid (A.drop j=L.drop j)/\Hid (A.take i=z6a k (L.take j))/\
  Hid (w.grownBy wr (some g))
theorem y3w(a:Option Addr)(n c:Nat)(k:Bs)(nb:Nat)(L:List (Bs×Ent))(w:World)(h:w.ownsRow 0 132 2 (.slice a n c) n (z1F L))(hn:n=L.length)(hl:n<=1048576)
  (hc:w.cell? ⟨nb,0,none⟩=some (.string ⟨k.toArray⟩)) (aM:nb<w.heap.size) (aY:(Value.slice a n c).ownBlock≠some nb):
  Calls prog 141 #[.slice a n c,.func (.func 142) #[] #[.pointer (some ⟨nb,0,none⟩)]] w fun e w'=>
   ∃m,e= .returned (.slice a m c)/\m=(z6a k L).length/\w'.ownsRow 0 132 2 (.slice a m c) m (z1F (z6a k L))/\w.grownBy w' (Value.slice a n c).ownBlock:=by
 have H:=z7 h;have HN:=z7 hn;have HC:=z7 hc;have aW:=z7 aY;have bF:=z0Q h;clear h hn hc aY;go_enter func141,ntmps141;go_wp2_with fail;refine(y5b a n c k nb L w H.o HN.o hl HC.o aM).mono ?_;rintro e w1 ⟨⟨r,rfl,hr⟩,aH⟩;have H1:=z7 (ownsRow_below H.o aH wE);have aG:=z7 aH;clear aH;rcases hr with⟨rfl,aB⟩|⟨i,rfl,b7,aF,p,hp,J⟩
 .have hk:=z7 (y3V aB);clear aB;go_wp2;go_ret;refine⟨n,rfl,by rw[hk.o];exact HN.o,by rw[hk.o];exact H1.o,z7a ⟨rfl,rfl,rfl,wJ _,fun _ _ _=>rfl⟩ aG.o⟩
 obtain⟨g,rfl⟩:∃g,a=some ⟨g,0,none⟩:=by
  rcases H1.o.2 with⟨h1,h2⟩|⟨g,bG,O,h1,_⟩
  .omega
  simp only[wO]at h1;exact⟨g,h1.1⟩
 have i0:((i:Int)== -1)=false:=wH
 have aU:=z7 (z7a (⟨rfl,rfl,rfl,wJ _,fun _ _ _=>rfl⟩:w.grownBy w (some g)) aG.o);have aZ:Hid (L.take i=z6a k (L.take (i+1))):=z7 (by
  rw[uG,hp,og,z9o,wZ J,ue,y3V aF])
 have bC:IntKind.i64.wrap ((i:Int)+1)=(i:Int)+1:=wrap64 wF wF;clear aF hp J;go_wp2;go_loopw[5,6,7] (fun iv jv pv wr=>q7D k L g n c nb w iv jv wr) (fun _ jv _ _=>match jv with | .int _ j=>n - j.toNat|_=>0)
 case atStart=>exact⟨i,i+1,L,rfl,wH,wF,b7,H1,z7 HN.o.symm,z7 rfl,aZ,aU⟩
 case round=>
  clear aG aU aZ H1;obtain⟨i,j,A,rfl,rfl,bI,bJ,R,Y,a0,a3,I⟩:=hrel;by_cases hj:j<n
  .have j0:(j:Int)<n:=wF;obtain⟨U,pb,pa,pn,pc,hp,a1,a2,hg,a7⟩:=y9o R.o Y.o.symm hj;have aT:wr.cell? ⟨nb,0,none⟩=some (.string ⟨k.toArray⟩):=by
    have:=I.o.block nb aM fun e=>aW.o e.symm;exact(ud (w:=w) (a:=⟨nb,0,none⟩) this).trans HC.o
   have b9:=I.o.size;have a8:=z7 (q5 wr (.cells #[.string ⟨U.toArray⟩,.slice pa pn pc] 132));have aC:Hid ((wr.alloc (.cells #[.string ⟨U.toArray⟩,.slice pa pn pc] 132)).cell? ⟨nb,0,none⟩=some (.string ⟨k.toArray⟩)):=z7 ((a8.o.cell (p:=⟨nb,0,none⟩) (wS aM b9)).trans aT);have bA:Hid (L[j]? =some (U,⟨pb,pa,pn,pc⟩)):=z7 (by
    have h1:=uS (fun X=>X[0]?) a0.o;simp only[ri,dp]at h1;rw[<-h1];exact hp)
   clear hp aT;go_wp2_with fail;refine(y2W U k _ rfl pa pn pc rfl nb _ aC.o (by simp;omega)).mono ?_;rintro e w3 ⟨rfl,a9⟩;have N:=z7 (ownsRow_below (ownsRow_below R.o a8.o wE) a9 wE);have aV:=z7 (z7a I.o (a8.o.trans (a9.mono wH)));have aE:(wr.alloc (.cells #[.string ⟨U.toArray⟩,.slice pa pn pc] 132)).heap[wr.heap.size]? =some (.cells #[.string ⟨U.toArray⟩,.slice pa pn pc] 132):=j8 _ _;have aL:w3.heap[wr.heap.size]? =some (.cells #[.string ⟨U.toArray⟩,.slice pa pn pc] 132):=(a9.block _ wH).trans aE;have b1:w3.cell? ⟨wr.heap.size,0,none⟩=some (.string ⟨U.toArray⟩):=(by simp[World.cell?,aL]);have b2:w3.cell? ⟨wr.heap.size,1,none⟩=some (.slice pa pn pc):=(by simp[World.cell?,aL]);have bL:IntKind.i64.wrap ((j:Int)+1)=(j:Int)+1:=wrap64 wF wF;have bM:IntKind.i64.wrap ((i:Int)+1)=(i:Int)+1:=wrap64 wF wF;have aA:Hid (L.take (j+1)=L.take j++ [(U,⟨pb,pa,pn,pc⟩)]):=z7 (by rw[uG,bA.o];rfl);clear R I a8 aC a9 aE aL bC a1 a2 a7 hg;by_cases J:U=k
   .have e2:decide (U=k)=true:=wQ J;rw[e2];have aJ:Hid (A.drop (j+1)=L.drop (j+1)):=z7 (by rw[<-oe,<-oe,a0.o]);have aN:Hid (A.take i=z6a k (L.take (j+1))):=z7 (by rw[aA.o,z9o,wZ J,ue];exact a3.o);clear e2 J b1 b2 aA a3 a0;go_wp2;refine⟨⟨i,j+1,A,rfl,wH,wF,hj,N,Y,aJ,aN,aV⟩,?_⟩;show n - ((j:Int)+1).toNat<n - ((j:Nat):Int).toNat;omega
   have e2:decide (U=k)=false:=wM J;rw[e2];obtain⟨_,_,_,_,_,_,a1,a2,hg,a7⟩:=y9o N.o Y.o.symm (show i<n by omega);have f1:=a7 (i*2);have f2:=a7 (i*2+1);have i1:(i:Int)<n:=wF;obtain⟨A',a4⟩:=zN (A.set i (U,⟨pb,pa,pn,pc⟩));have aJ:Hid (A'.drop (j+1)=L.drop (j+1)):=z7 (by rw[a4,qC wF,<-oe,<-oe,a0.o]);have aN:Hid (A'.take (i+1)=z6a k (L.take (j+1))):=z7 (by
    rw[aA.o,z9o,wR J,<-a3.o,a4,uG,uo (by rw[Y.o];omega),qE wE];rfl)
   have aO:Hid (A'.length=n):=z7 (by rw[a4,pj];exact Y.o);have aD:Hid ((((w3.setCell ⟨g,i*2,none⟩ (.string ⟨U.toArray⟩)).setCell ⟨g,i*2+1,none⟩ (.slice pa pn pc))).ownsRow 0 132 2 (.slice (some ⟨g,0,none⟩) n c) n (z1F A')):=z7 (by
    have h1:=(N.o.stored (i*2) (.string ⟨U.toArray⟩)).1;have h2:=(h1.stored (i*2+1) (.slice pa pn pc)).1;rw[a4,y3M A i (by rw[Y.o];omega)];exact h2)
   have b6:Hid (w.grownBy ((w3.setCell ⟨g,i*2,none⟩ (.string ⟨U.toArray⟩)).setCell ⟨g,i*2+1,none⟩ (.slice pa pn pc)) (some g)):=z7 (by
    have h1:=N.o.stored (i*2) (.string ⟨U.toArray⟩);have h2:=h1.1.stored (i*2+1) (.slice pa pn pc);exact(aV.o.trans h1.2).trans h2.2)
   clear e2 J aA a3 a0 a4 a7;go_wp2;refine⟨⟨i+1,j+1,A',wH,wH,wF,hj,aD,aO,aJ,aN,b6⟩,?_⟩;show n - ((j:Int)+1).toNat<n - ((j:Nat):Int).toNat;omega
  obtain rfl:j=n:=wF
  have aX:Hid (A.take i=z6a k L):=z7 (by rw[a3.o,HN.o,ui]);have aS:∃O:Array Value,wr.heap[g]? =some (.cells O 132 (0,0))/\j*2<=O.size:=by
   rcases R.o.2 with⟨h',_⟩|⟨g',bE,O,h',hb,hg,b8,bH,b4,bB⟩
   .simp at h'
   simp only[wO,wK,oh,dc,oP]at h';obtain⟨rfl,rfl⟩:=h';exact⟨O,hg,by rw[b4];exact pF _ b8⟩
  obtain⟨O,a6,aI⟩:=aS;have b3:=fun ty=>y3q (P:=prog) wr 83 132 ty (.agg #[.string ⟨#[]⟩,.slice none 0 0]) underlying83 q0V wG wG g (i*2) (j - i) (c - i) O a6 wF (by show i*2+(j - i)*2<=O.size;omega);obtain⟨Z,hZ⟩:=zN ((Builtin.zeroCells (Value.agg #[.string ⟨#[]⟩,.slice none 0 0]).cells (j - i)).toList);rw[<-hZ]at b3;have aR:Z.length=(j - i)*2:=by rw[hZ];simp[Builtin.zeroCells,Value.cells]
  have b5:=z7 (y3v R.o i wF Z (by rw[aR];omega));have a5:=z7 (Chg.setCells (b:=g) Z (i*2) wr);have i1:(i:Int)<=j:=wF;have i2:(i:Int)<=c:=wF;have i3:c≠i:=wF;have b0:Hid ((z6a k L).length=i):=z7 (by rw[<-aX.o,uR,Y.o];omega);clear a6 aI hZ aR a3 a0;go_wp2;go_ret;refine⟨i,rfl,b0.o.symm,?_,?_⟩
  .have h1:=b5.o;rw[y8s,aX.o]at h1;exact h1
  refine⟨a5.o.os.trans I.o.os,a5.o.tape.trans I.o.tape,a5.o.output.trans I.o.output,wV I.o.size a5.o.size,fun q hq hn=>?_⟩;rw[a5.o.block q (wS hq I.o.size) (by simp only[uD];exact fun e=>hn (by rw[e];rfl)),I.o.block q hq hn]
theorem z6W(A:Nat)(s:FsS)(F:List Nat)(k:Bs)(w:World)(h:z1L w A s F)(O:s.waits.length<=1048576):
  Calls prog 109 #[.pointer (some ⟨A,0,none⟩),.string ⟨k.toArray⟩] w fun e w'=>e= .returned (.tuple #[])/\z2e w A F {s with waits:=z0O k s.waits} w':=by
 obtain⟨mb,wv,lp,E,L,h,rfl⟩:=h;obtain⟨c0,c1,c2,c3,c4,fz⟩:=z1N h.blk;have f2:=fz 2;have Y:=(wI.1 h.blk).1;obtain⟨n1,n2,n3⟩:=h.ne;obtain⟨R,wc,rfl⟩:=(z0d h.row).head;have a2:L.length<=1048576:=by rw[h.waits,we]at O;exact O
 have J:=q5 w (.cells #[.string ⟨k.toArray⟩] 9);have H:=z7 h;have d2:Hid ((w.alloc (.cells #[.string ⟨k.toArray⟩] 9)).cell? ⟨A,2,none⟩=some (.slice R L.length wc)):=z7 ((J.cell (p:=⟨A,2,none⟩) Y).trans c2);have U:=z7 (ownsRow_below h.row J wE);have a3:Hid ((w.alloc (.cells #[.string ⟨k.toArray⟩] 9)).cell? ⟨w.heap.size,0,none⟩=some (.string ⟨k.toArray⟩)):=z7 (z0v (j8 _ _)).1;have a5:Hid ((Value.slice R L.length wc).ownBlock≠some w.heap.size):=z7 fun e=>by have:=(h.row.lt _ e).2;omega
 have a4:Hid ((Value.slice R L.length wc).ownBlock≠some A):=z7 fun e=>(n2 A e).1 rfl;have F2:=z7 f2;clear h c0 c1 c2 c3 c4 fz f2 n1 n2 n3 J O;go_enter func109,ntmps109;have a1:=d2.o;go_wp2_with fail;clear a1;refine(y3w R L.length wc k w.heap.size L _ U.o rfl a2 a3.o wH a5.o).mono ?_;rintro e w' ⟨m,rfl,hm,I,hg⟩;have N:w.grownBy w' (Value.slice R L.length wc).ownBlock:=((World.grownBy_alloc w _ none).but _).trans hg;have a0:=z7 (N.block A Y fun e=>a4.o e.symm);have d3:w'.cell? ⟨A,2,none⟩=some (.slice R L.length wc):=(ud (w:=w) (a:=⟨A,2,none⟩) a0.o).trans (z1N H.o.blk).2.2.1;have d4:w'.frozen? ⟨A,2,none⟩=false:=(mf (w:=w) (a:=⟨A,2,none⟩) a0.o).trans F2.o;have HM:=z7 hm;have HR:=z7 I;have HG:=z7 N;clear hm I hg N;go_wp2
 go_end0
 refine⟨rfl,H.o.rowTo (L':=z6a k L) HG.o ?_ ?_ rfl rfl rfl rfl ?_ fun p hp=> .inl ?_⟩
 .rw[<-HM.o];exact HR.o
 .intro j hj
  left
  revert hj
  cases R<;>simp[Value.ownBlock]
 .show z0O k s.waits=_;rw[H.o.waits];unfold z0O z6a;rw[ko];rfl
 unfold z6a at hp;exact(ev.1 hp).1
theorem z2j.mapChg{w0 w w':World}{U J:Nat}{s s':FsS}{Y:Value}{R:Option Nat}{E E' L:List (Bs×Ent)}{F0:List Nat}(h:z2j w U s J Y R E L)(I:Chg F0 (z4c (z0P U J Y R) (E++L)) w0 w)(hm:y1k w' J E')(O:w.grownBy w' (some J))
  (hr:s'.room=s.room) (hh:s'.halted=s.halted) (hl:s'.left=s.left) (hf:s'.files=E'.map ct) (hw:s'.waits=s.waits) (he:∀p∈E',p∈E\/(z3M w (z0P U J Y R) p.2/\∀k,p.2.v.ownBlock=some k->k∈F0\/w0.heap.size<=k)):
  z2e w0 U F0 s' w':=by
 have h':=h.mapTo hm O hr hh hl hf hw fun p N=>(he p N).imp id (·.1);have a0:J∈z4c (z0P U J Y R) (E++L):=z0F.2 (.inl (by simp[z0P]));refine⟨_,⟨J,Y,R,E',L,h',rfl⟩,O.os.trans I.os,O.tape.trans I.tape,O.output.trans I.output,wV I.size O.size,fun k A hn=>?_,fun k A=>?_⟩
 .rw[O.block k (wS A I.size) fun e=>?_,I.block k A hn];simp only[wK]at e;have e2:k=J:=by first|exact e|exact e.symm
  rw[e2]at hn A;rcases I.fresh J a0 with h1|h1
  .exact hn h1
  omega
 rcases z0F.1 A with A|⟨p,N,A⟩
 .exact I.fresh k (z0F.2 (.inl A))
 rcases uB.1 N with N|N
 .rcases he p N with h2|h2
  .exact I.fresh k (z0F.2 (.inr ⟨p,uQ _ h2,A⟩))
  exact h2.2 k A
 exact I.fresh k (z0F.2 (.inr ⟨p,uT _ N,A⟩))
theorem z6l.stays{w L N:World}{F O:List Nat}{a:Option Addr}{n c:Nat}{b:Bs}(h:z6l w L a n c b)(U:∀k∈F,k<w.heap.size)(I:Chg F O L N){M:List Nat}(Y:∀k∈M,k∈O):
  z3M N M ⟨b,a,n,c⟩/\∀k,(Value.slice a n c).ownBlock=some k->w.heap.size<=k:=by
 have hb:∀k,(Value.slice a n c).ownBlock=some k->N.heap[k]? =L.heap[k]? :=fun k A=>I.block k (h.ge k A).2 fun J=>by have:=U k J;have:=(h.ge k A).1;omega
 refine⟨⟨h.rd.keep hb,h.2.1,h.cap.1,h.cap.2,fun k A=>⟨fun J=>?_,wS (h.ge k A).2 I.size⟩⟩,fun k A=>(h.ge k A).1⟩;have h1:=h.ge k A;rcases I.fresh k (Y k J)with R|R
 .have:=U k R;omega
 omega
theorem q0A(N:Nat)(s:FsS)(F:List Nat)(k:Bs)(Y:k.length<=maxLen)(w:World)(h:z1L w N s F)(ok:s.Ok):
  Calls prog 127 #[.pointer (some ⟨N,0,none⟩),.string ⟨k.toArray⟩] w fun e w'=>e= .returned (.int .u16 (z2G s k).1)/\z2e w N F (z2G s k).2 w':=by
 have H:=z7 h;have OK:=z7 ok;clear h ok;cases hh:s.has k with
 | false=>
  have e:z2G s k=(80,s):=by simp[z2G,hh]
  rw[e];clear e;go_enter func127,ntmps127;go_wp2_with fail;refine(z5d N s F k Y w H.o OK.o).mono ?_;rintro e w1 J;unfold z2E at J;rw[hh,wR wH]at J;obtain⟨rfl,rfl⟩:=J;go_wp2;go_ret;exact⟨rfl,z2e.refl H.o⟩
 | true=>
  cases hg:s.go with
  | false=>
   have e:z2G s k=(0,s.went):=(by simp[z2G,hh,hg]);rw[e];clear e;go_enter func127,ntmps127;go_wp2_with fail;refine(z5d N s F k Y w H.o OK.o).mono ?_;rintro e w1 J;unfold z2E at J;rw[hh,wZ rfl]at J;obtain⟨a,n,c,rfl,hf⟩:=J;have HF:=z7 hf;clear hf;go_wp2_with fail;refine(z4f N s F w1 (H.o.low HF.o.2.2) OK.o.left0).mono ?_;rintro e w2 ⟨rfl,ht⟩;rw[hg];have HT:=z7 ht;clear ht hg;go_wp2;go_ret;obtain⟨F2,aE,I⟩:=HT.o;exact⟨rfl,F2,aE,(Chg.of_below HF.o.2.2).trans I⟩
  | true=>
   have e:z2G s k=(0,{s.went with files:=z1d z1O k (s.get k) s.files,waits:=z0O k s.waits}):=(by simp[z2G,hh,hg]);rw[e];obtain⟨s3,a0⟩:=zN (({s.went with files:=z1d z1O k (s.get k) s.files}:FsS));obtain⟨e1,e2,e3⟩:=z2T s;have O:({s.went with files:=z1d z1O k (s.get k) s.files,waits:=z0O k s.waits}:FsS)={s3 with waits:=z0O k s3.waits}:=(by rw[a0,e3]);rw[O];have A:=z7 a0;have E2:=z7 e2;have E3:=z7 e3;clear e O a0 e1 e2 e3;go_enter func127,ntmps127;go_wp2_with fail;refine(z5d N s F k Y w H.o OK.o).mono ?_;rintro e w1 J;unfold z2E at J;rw[hh,wZ rfl]at J;obtain⟨a,n,c,rfl,hf⟩:=J;have HF:=z7 hf;clear hf;go_wp2_with fail;refine(z4f N s F w1 (H.o.low HF.o.2.2) OK.o.left0).mono ?_;rintro e w2 ⟨rfl,ht⟩;rw[hg];obtain⟨F2,aH,I⟩:=ht;have a6:=z7 I;obtain⟨mb,wv,lp,E,L,h2,rfl⟩:=aH;obtain⟨c0,c1,c2,c3,c4,fz⟩:=z1N h2.blk;have U:=HF.o.stays H.o.lt I (M:=z0P N mb wv lp) fun k Y=>z0F.2 (.inl Y);have aC:E.length<maxLen:=by
    have h3:=z6U h2;rw[E2.o]at h3;have:=OK.o.few;unfold maxLen;omega
   have H2:=z7 h2;have aG:=z7 h2.map;have R:=z7 U;clear I h2 c0 c2 c3 c4 fz U hg;go_wp2_with (at_mapUpdate;refine z2I z2O rfl _ _ _ 82 rfl 47 underlying82 rfl aG.o aC k rfl Y ⟨s.get k,a,n,c⟩ rfl rfl ?_;intro w3 a4 a3 O;have a9:=z7 a4;have a8:=z7 a3;clear a4 a3 O c1);have h3:=H2.o.mapChg (s':=s3) ((Chg.of_below HF.o.2.2).trans a6.o) a9.o a8.o (by rw[A.o]) (by rw[A.o]) (by rw[A.o]) (by rw[A.o,<-E2.o];exact z6i H2.o k ⟨s.get k,a,n,c⟩) (by rw[A.o]) (fun p hp=>by
    rcases(z2d _ _ _ _ _).1 hp with rfl|hp
    .exact .inr ⟨R.o.1,fun k Y=> .inr (R.o.2 k Y)⟩
    exact .inl hp.1)
   obtain⟨F3,a2,a1⟩:=h3;have a7:=z7 a1;refine(z6W N s3 F3 k w3 a2 (by rw[A.o];show s.went.waits.length<=1048576;rw[E3.o];exact OK.o.waits_le)).mono ?_;rintro e w4 ⟨rfl,a5⟩;have aA:=z7 a5;clear a5 a2 a1;go_wp2;go_ret;obtain⟨F4,aF,aB⟩:=aA.o;exact⟨rfl,F4,aF,a7.o.trans aB⟩
theorem q0W(J:Nat)(s:FsS)(F:List Nat)(k:Bs)(hk:k.length<=maxLen)(w:World)(h:z1L w J s F)(ok:s.Ok):
  Calls prog 103 #[.pointer (some ⟨J,0,none⟩),.string ⟨k.toArray⟩] w fun e w'=>e= .returned (.int .u16 (z3v s k).1)/\z2e w J F (z3v s k).2 w':=by
 have H:=z7 h;have OK:=z7 ok;clear h ok;cases hh:s.has k with
 | false=>
  have e:z3v s k=(80,s):=by simp[z3v,hh]
  rw[e];clear e;go_enter func103,ntmps103;go_wp2_with (refine(z2a J s F k hk _ H.o).mono ?_;rintro e w' ⟨rfl,rfl⟩;rw[hh]);go_ret;exact⟨rfl,z2e.refl H.o⟩
 | true=>
  cases hg:s.go with
  | false=>
   have e:z3v s k=(0,s.went):=(by simp[z3v,hh,hg]);rw[e];clear e;go_enter func103,ntmps103;go_wp2_with (refine(z2a J s F k hk _ H.o).mono ?_;rintro e w' ⟨rfl,rfl⟩;rw[hh]);refine(z4f J s F w H.o OK.o.left0).mono ?_;rintro e w2 ⟨rfl,ht⟩;rw[hg];have HT:=z7 ht;clear ht hg;go_wp2;go_ret;exact⟨rfl,HT.o⟩
  | true=>
   have e:z3v s k=(0,{s.went with files:=z2x k s.files,waits:=z0O k s.waits}):=(by simp[z3v,hh,hg]);rw[e];obtain⟨s3,N⟩:=zN ({s.went with files:=z2x k s.files}:FsS);obtain⟨e1,e2,e3⟩:=z2T s;have I:({s.went with files:=z2x k s.files,waits:=z0O k s.waits}:FsS)={s3 with waits:=z0O k s3.waits}:=(by rw[N,e3]);rw[I];have A:=z7 N;have E2:=z7 e2;have E3:=z7 e3;clear e I N e1 e2 e3;go_enter func103,ntmps103;go_wp2_with (refine(z2a J s F k hk _ H.o).mono ?_;rintro e w' ⟨rfl,rfl⟩;rw[hh]);refine(z4f J s F w H.o OK.o.left0).mono ?_;rintro e w2 ⟨rfl,ht⟩;rw[hg];obtain⟨F2,aA,O⟩:=ht;have a2:=z7 O;obtain⟨mb,wv,lp,E,L,h2,rfl⟩:=aA;obtain⟨c0,c1,c2,c3,c4,fz⟩:=z1N h2.blk;have H2:=z7 h2;have a9:=z7 h2.map;clear O h2 c0 c2 c3 c4 fz hg;go_wp2_with (at_delete;refine y1i z2O rfl _ _ 82 rfl 47 underlying82 rfl a9.o k rfl hk ?_;intro w3 a0 Y I;have a5:=z7 a0;have a4:=z7 Y;clear a0 Y I c1);have h3:=H2.o.mapChg (s':=s3) a2.o a5.o a4.o (by rw[A.o]) (by rw[A.o]) (by rw[A.o]) (by rw[A.o,<-E2.o];exact y2t H2.o k) (by rw[A.o]) (fun p hp=> .inl ((z2L _ _ _).1 hp).1);obtain⟨F3,U,R⟩:=h3;have a3:=z7 R;refine(z6W J s3 F3 k w3 U (by rw[A.o];show s.went.waits.length<=1048576;rw[E3.o];exact OK.o.waits_le)).mono ?_;rintro e w4 ⟨rfl,a1⟩;have a6:=z7 a1;clear a1 U R;go_wp2;go_ret;obtain⟨F4,a8,a7⟩:=a6.o;exact⟨rfl,F4,a8,a3.o.trans a7⟩

/- Plain. -/
import Derived.Test.YtabnnclcpkdkeaaGreatDoorZN
import Derived.Laws.StructEq
import Derived.Test.YtabnnclcpkdkeaaGreatDoorZU
namespace Go.Proofs.YtabnnclcpkdkeaaGreatDoor
open Go.Proofs.Tryz
set_option linter.all false
set_option maxRecDepth 100000
set_option maxHeartbeats 0
open Go.RowKit
theorem z6R{w n:Nat}{l r:List Bool}(h:rdN w l=some (n,r)):l.length=w+r.length:=by
 unfold rdN at h;split at h
 .simp only[wK,wk]at h;rw[<-h.2,uE];omega
 cases h
theorem q1R{v:Int}{l r:List Bool}(h:z9A l=some (v,r)):l.length<=69+r.length:=by
 obtain⟨I,A,J,L⟩:=y2y h;have O:=y6R v;rw[A,wP];omega
theorem y8P{e:z2g}{t d:Int}{l r:List Bool}(h:z6x e l=some (t,d,r)):l.length<=69+r.length:=by
 unfold z6x at h;split at h
 .simp only[uM,wk]at h;obtain⟨⟨p1,p2⟩,I,U,Y,J⟩:=h;have A:=z6R I;rw[<-J];show l.length<=69+p2.length;omega
 split at h
 .cases h
 rename_i O r' L;have A:=q1R L;split at h
 .simp only[wK,wk]at h;rw[<-h.2.2];exact A
 cases h
theorem q1Q{s s':z4N}{v:Nat}{l r:List Bool}(hw:s.width<=64)(h:z3K s l=some (v,s',r)):l.length<=77+r.length:=by
 unfold z3K at h;split at h
 .simp only[uM,wk]at h;obtain⟨⟨p1,p2⟩,O,h2,h3,U⟩:=h;have L:=z6R O;rw[<-U];show l.length<=77+p2.length;omega
 split at h
 .simp only[wK,wk]at h;rw[<-h.2.2,wW];omega
 .split at h
  .cases h
  rename_i d r' hr;have L:=z6R hr;split at h
  .cases h
  simp only[wK,wk]at h;rw[<-h.2.2];simp only[wW];omega
 .split at h
  .cases h
  rename_i ld r1 A;have L:=z6R A;split at h
  .cases h
  rename_i z r2 I;have h6:=z6R I;split at h
  .cases h
  rename_i Y;split at h
  .cases h
  rename_i d r3 J;have h7:=z6R J;split at h
  .cases h
  simp only[wK,wk]at h;rw[<-h.2.2];simp only[wW];omega
 cases h
theorem y4E{s:z4N}(h:z1x s=true):s.width<=64:=by
 unfold z1x at h;split at h
 .have:=ua h;omega
 have:=ua h;rw[this];simp[zeroV]
theorem y5P{e A:z2g}{s:z1m}{l r:List Bool}(I:e.Ok)(h:z1D e l=some (s,A,r)):l.length<=146+r.length:=by
 unfold z1D at h;split at h
 .cases h
 rename_i t d Y J;have O:=y8P J;split at h
 .cases h
 rename_i v k r2 L;have U:=q1Q (y4E I.val) L;simp only[wK,wk]at h;rw[<-h.2.2];omega
theorem y3y:∀{f:Nat} {e:z2g} {k:Nat} {l:List Bool} {A:List z1t},e.Ok->z3x f e k l=some A->l.length<=146*A.length
 | f,e,k, [],A,he,h=>wH
 | 0,e,k,b::l,A,he,h=>by cases h
 | f+1,e,k,b::l,A,he,h=>by
  unfold z3x at h;cases hc:z1D e (b::l)with
  | none=>rw[hc]at h;cases h
  | some p=>
   obtain⟨s,U,r⟩:=p;rw[hc]at h;simp only[uM]at h;obtain⟨O,I,J⟩:=h;have Y:=y3y (z2h he hc).2.2.1 I;have L:=y5P he hc;rw[<-J];simp only[wW]at L ⊢;omega
theorem y4x{l:List Bool}{A:List z1t}(h:z5t l=some A):l.length<=146*A.length:=y3y z5p h
structure z0R where
 l:List Bool
 st:List z1t
structure z0R.Ok (p:z0R):Prop where
 rd:z5t p.l=some p.st
 len:p.st.length<=24
theorem z0R.Ok.bits{p:z0R}(h:p.Ok):p.l.length<=3504:=by have:=y4x h.rd;have:=h.len;omega
abbrev z1Y:z0R:=⟨[], []⟩
theorem y4C:z1Y.Ok:=⟨rfl,wH⟩
structure z0T where
 done:List z0R
 cur:z0R
structure z0T.Ok (s:z0T):Prop where
 done:∀p∈s.done,p.Ok/\0<p.st.length
 cur:s.cur.Ok
abbrev z4T:z0T:=⟨[],z1Y⟩
theorem q1s:z4T.Ok:=⟨(fun p A=>by cases A),y4C⟩
def y2Y(p:z0R):Int:=(z0o z0i p.st).last
def z4h(s:List z0R):Int:=match s.getLast? with|none=>0|some p=>y2Y p
def z5Y(s:List z0R):Bool:=!s.isEmpty
def z6X(s:z0T):Int×Bool:=if 0<s.cur.st.length then(y2Y s.cur,true)else(z4h s.done,z5Y s.done)
def z4F(s:z0T)(p:z0R)(closed:Bool):z0T:=if closed then⟨s.done++ [p],z1Y⟩else⟨s.done,p⟩
def z3r(p:z0R)(s:z1m):z0R:=⟨p.l++(z3p (z0o z0i p.st) s).1,p.st++ [⟨s,(z3p (z0o z0i p.st) s).2,p.l.length+(z3p (z0o z0i p.st) s).1.length⟩]⟩
theorem q6E{p:z0R}{s:z1m}(h:p.Ok)(J:p.st.length<24)(A:s.Ok)(I:0<p.st.length->y2Y p<s.t):(z3r p s).Ok:=
 ⟨q3v h.rd A I,by unfold z3r;simp only[wP,wW,ob];omega⟩
theorem y0N{fn:Func}{t0:Tmp}(h:fn.results= #[.cell t0 45])(tmps:Array Value)(w:World)(r0:Nat)(A I J:Value)(h0:tmps.getD t0 undef= .pointer (some ⟨r0,0,none⟩))(L:w.heap[r0]? =some (.cells #[A,I,J] 45 (0,0)))(a0:([A,I,J].all Value.oneCell')=true):
  (results fn tmps).run prog w= .ok (.agg #[A,I,J]) w:=by
 simp only[pU,pd,ow,uh]at a0;have O:w.cell? ⟨r0,0,none⟩=some A:=by simp[World.cell?,L]
 have U:w.cell? ⟨r0,1,none⟩=some I:=by simp[World.cell?,L]
 have Y:w.cell? ⟨r0,2,none⟩=some J:=by simp[World.cell?,L]
 simp only[uP]at h0;simp[results,h,go_sem,O,U,Y,h0]
abbrev z4k (p:Nat×Nat×Nat):Value:= .agg #[.int .u32 (p.1:Nat),.int .u32 (p.2.1:Nat),.int .u32 (p.2.2:Nat)]
structure z0n (S:Nat->Prop) (w w':World):Prop where
 os:w'.os=w.os
 tape:w'.tape=w.tape
 output:w'.output=w.output
 size:w.heap.size<=w'.heap.size
 block:∀k,k<w.heap.size->¬S k->w'.heap[k]? =w.heap[k]?
theorem z0n.of_below{S:Nat->Prop}{w w':World}(h:Below w.heap.size w w'):z0n S w w':=⟨h.os,h.tape,h.output,h.size,fun k A _=>h.block k A⟩
theorem z0n.refl(S:Nat->Prop)(w:World):z0n S w w:=z0n.of_below wD
theorem z0n.trans{S S':Nat->Prop}{a b c:World}(h:z0n S a b)(k:z0n S' b c)(L:∀i,S' i->S i\/a.heap.size<=i):z0n S a c:=
 ⟨k.os.trans h.os,k.tape.trans h.tape,k.output.trans h.output,wV h.size k.size,fun i I J=>(k.block i (wS I h.size) fun e=>by
  rcases L i e with A|A
  .exact J A
  omega).trans (h.block i I J)⟩
theorem z0n.mono{S S':Nat->Prop}{w w':World}(h:z0n S w w')(A:∀i,S i->S' i\/w.heap.size<=i):z0n S' w w':=(z0n.refl S' w).trans h A
theorem z0n.below{S:Nat->Prop}{w w':World}(h:z0n S w w'){B:Nat}(I:B<=w.heap.size)(A:∀k,S k->B<=k):Below B w w':=⟨h.os,h.tape,h.output,h.size,fun k J=>h.block k wF fun e=>by have:=A k e;omega⟩
theorem z0n.grown{S:Nat->Prop}{w w':World}{row:Option Nat}(h:w.grownBy w' row)(J:∀k,row=some k->S k):z0n S w w':=⟨h.os,h.tape,h.output,h.size,fun k A I=>h.block k A fun e=>I (J k e.symm)⟩
theorem z0n.setCell{S:Nat->Prop}(w:World){a:Addr}(v:Value)(A:S a.block):z0n S w (w.setCell a v):=⟨rfl,rfl,rfl,by simp[World.setCell],fun k J I=>rZ _ _ _ _ (fun e=>I (by rw[e];exact A))⟩
def Kept(T:Nat->Prop)(w:World)(P:World->Prop):Prop:=∀w':World,(∀k,T k->w'.heap[k]? =w.heap[k]?)->P w'
theorem Kept.now{T:Nat->Prop}{w:World}{P:World->Prop}(h:Kept T w P):P w:=h w fun _ _=>rfl
theorem Kept.next{T:Nat->Prop}{w w':World}{P:World->Prop}(h:Kept T w P)(J:∀k,T k->w'.heap[k]? =w.heap[k]?):Kept T w' P:=fun L I=>h L fun k A=>(I k A).trans (J k A)
theorem Kept.mono{T A:Nat->Prop}{w:World}{P:World->Prop}(h:Kept T w P)(J:∀k,T k->A k):Kept A w P:=fun w' L=>h w' fun k I=>L k (J k I)
structure z0U (S:Nat->Prop) (w0:World) (K:List (Nat×Obj)) (w:World):Prop where
 low:z0n S w0 w
 blk:∀p∈K,w.heap[p.1]? =some p.2/\w0.heap.size<=p.1
 nodup:(K.map Prod.fst).Nodup
section
variable {S:Nat->Prop} {w0 w w':World} {K:List (Nat×Obj)}
theorem z0U.start(S:Nat->Prop)(w:World):z0U S w [] w:=⟨z0n.refl _ _,(fun p A=>by cases A),List.nodup_nil⟩
theorem z0U.of(h:Loc w0 K w):z0U S w0 K w:=⟨z0n.of_below h.low,h.blk,h.nodup⟩
theorem z0U.lts(h:z0U S w0 K w){p:Nat×Obj}(A:p∈K):p.1<w.heap.size:=(wI.1 (h.blk p A).1).1
theorem z0U.cons(h:z0U S w0 K w){g:Nat}{o:Obj}(L:w.heap[g]? =some o)(I:w0.heap.size<=g)(U:∀p∈K,p.1≠g):z0U S w0 ((g,o)::K) w:=by
 refine⟨h.low,fun p A=>?_,?_⟩
 .rcases wy.1 A with rfl|A
  .exact⟨L,I⟩
  exact h.blk p A
 rw[uI,ew];refine⟨fun O=>?_,h.nodup⟩;obtain⟨p,A,J⟩:=uC.1 O;exact U p A J
theorem z0U.go(h:z0U S w0 K w){S':Nat->Prop}(I:z0n S' w w')(J:∀k,S' k->S k\/w0.heap.size<=k)(L:∀p∈K,¬S' p.1):z0U S w0 K w':=
 ⟨h.low.trans I J,fun p A=>⟨(I.block p.1 (h.lts A) (L p A)).trans (h.blk p A).1,(h.blk p A).2⟩,h.nodup⟩
theorem z0U.call(h:z0U S w0 K w)(hb:Below w.heap.size w w'):z0U S w0 K w':=
 h.go (S':=fun _=>False) (z0n.of_below hb) (fun k A=>A.elim) (fun p I A=>A)
theorem z0U.turn(h:z0U S w0 K w)(J:z0n S w w')(I:∀k,S k->k<w0.heap.size):z0U S w0 K w':=
 h.go J (fun k A=> .inl A) (fun p L A=>by have:=I _ A;have:=(h.blk p L).2;omega)
theorem z0U.new(h:z0U S w0 K w)(o:Obj):z0U S w0 ((w.heap.size,o)::K) (w.alloc o):=
 (h.call (q5 w o)).cons (j8 _ _) h.low.size (fun p A=>by have:=h.lts A;omega)
theorem z0U.new'(h:z0U S w0 K w)(o:Obj){n:Nat}(A:n=w.heap.size):z0U S w0 ((n,o)::K) (w.alloc o):=by
 subst A;exact h.new o
theorem z0U.add(h:z0U S w0 K w)(hb:Below w.heap.size w w'){g:Nat}{o:Obj}(I:w'.heap[g]? =some o)(A:w.heap.size<=g):z0U S w0 ((g,o)::K) w':=
 (h.call hb).cons I (wV h.low.size A) (fun p J=>by have:=h.lts J;omega)
theorem z0U.named(h:z0U S w0 K w):∃W,W=w/\z0U S w0 K W:=⟨w,rfl,h⟩
theorem z0U.drew(h:z0U S w0 K w):z0U S w0 K w.drew:=⟨⟨h.low.os,h.low.tape,h.low.output,h.low.size,h.low.block⟩,h.blk,h.nodup⟩
theorem z0U.get(h:z0U S w0 K w)(i:Nat){b:Nat}{o:Obj}(A:K[i]? =some (b,o)):w.heap[b]? =some o:=(h.blk _ (wX A)).1
theorem z0U.lt(h:z0U S w0 K w)(i:Nat){b:Nat}{o:Obj}(A:K[i]? =some (b,o)):b<w.heap.size:=h.lts (wX A)
theorem z0U.ge(h:z0U S w0 K w)(i:Nat){b:Nat}{o:Obj}(A:K[i]? =some (b,o)):w0.heap.size<=b:=(h.blk _ (wX A)).2
theorem z0U.set(h:z0U S w0 K w)(i:Nat){b:Nat}{cs:Array Value}{t:TypeId}{fr:Nat×Nat}(Y:K[i]? =some (b,.cells cs t fr))(j:Nat)(v:Value):
  z0U S w0 (K.set i (b,.cells (cs.setIfInBounds j v) t fr)) (w.setCell ⟨b,j,none⟩ v):=by
 have hm:=wX Y;have I:i<K.length:=(wY.1 Y).1;have O:K[i]=(b,Obj.cells cs t fr):=(wY.1 Y).2;have J:(K.set i (b,Obj.cells (cs.setIfInBounds j v) t fr)).map Prod.fst=K.map Prod.fst:=by
  rw[qs];have:(K.map Prod.fst)[i]'(by simpa using I)=b:=by rw[gy,O]
  simp only[<-this,iu]
 have U:=(h.blk _ hm).2;refine⟨h.low.trans (z0n.setCell (S:=fun k=>k=b) w v rfl) (fun k O=> .inr (by subst O;exact U)),fun p hp=>?_,by rw[J];exact h.nodup⟩;obtain⟨n,hn,A⟩:=pO hp;rw[pj]at hn;rw[ql]at A;split at A
 .subst A;exact⟨z0a (h.blk _ hm).1 j v,(h.blk _ hm).2⟩
 rename_i a0;subst A;have L:K[n]∈K:=ug hn;have hb:K[n].1≠b:=fun e=>by
  have h1:=(List.getElem_inj (i:=n) (j:=i) (h₀:=by simpa using hn) (h₁:=by simpa using I) h.nodup).1 (by rw[gy,gy,O];exact e);omega
 exact⟨(q7 hb).trans (h.blk _ L).1,(h.blk _ L).2⟩
theorem z0U.put(h:z0U S w0 K w){b:Nat}(j:Nat)(v:Value)(I:S b)(J:b<w0.heap.size):z0U S w0 K (w.setCell ⟨b,j,none⟩ v):=
 h.go (S':=fun k=>k=b) (z0n.setCell w v rfl) (fun k A=>by subst A;exact .inl I) (fun p L A=>by have:=(h.blk p L).2;omega)
theorem z0U.old(h:z0U S w0 K w){b:Nat}(hb:b<w0.heap.size)(A:¬S b):w.heap[b]? =w0.heap[b]? :=h.low.block b hb A
end
def z6D(cs:Array Value):Nat->List Value->Array Value
 | _, []=>cs
 | j,v::vs=>z6D (cs.setIfInBounds j v) (j+1) vs
theorem z0U.puts0{S:Nat->Prop}{w0:World}(i:Nat){b:Nat}{t:TypeId}{fr:Nat×Nat}:∀(I:List Value) (j:Nat) (cs:Array Value) (K:List (Nat×Obj)) (w:World),z0U S w0 K w->K[i]? =some (b,.cells cs t fr)->z0U S w0 (K.set i (b,.cells (z6D cs j I) t fr)) (w.setCells b j I)
 | [],j,cs,K,w,h,hi=>by
  have:K.set i (b,Obj.cells (z6D cs j []) t fr)=K:=by
   obtain⟨J,A⟩:=wY.1 hi;rw[show z6D cs j []=cs from rfl,<-A,iu]
  rw[this];exact h
 | v::I,j,cs,K,w,h,hi=>by
  have A:=z0U.puts0 i I (j+1) _ _ _ (h.set i hi j v) (z4R hi);rw[z1B]at A;exact A
theorem z0U.puts{S:Nat->Prop}{w0 w:World}{K:List (Nat×Obj)}(h:z0U S w0 K w)(i:Nat){b:Nat}{t:TypeId}{fr:Nat×Nat}(A:List Value)(j:Nat)(cs:Array Value)(I:K[i]? =some (b,.cells cs t fr)):z0U S w0 (K.set i (b,.cells (z6D cs j A) t fr)) (w.setCells b j A):=z0U.puts0 i A j cs K w h I
theorem z0n.setCells{S:Nat->Prop}{b:Nat}(I:S b):∀(A:List Value) (j:Nat) (w:World),z0n S w (w.setCells b j A)
 | [],j,w=>z0n.refl _ _
 | v::A,j,w=>(z0n.setCell (a:=⟨b,j,none⟩) w v I).trans (z0n.setCells I A (j+1) _) fun _ h=> .inl h
def setAll(xs:List Value):Nat->List Value->List Value
 | _, []=>xs
 | j,v::vs=>setAll (xs.set j v) (j+1) vs
theorem z9x:∀(I A C:List Value),C.length=I.length->setAll (A++C) A.length I=A++I
 | [],A,C,h=>by rw[wT h];rfl
 | v::I,A,c::C,h=>by
  show setAll ((A++c::C).set A.length v) (A.length+1) I=A++v::I;have L:(A++c::C).set A.length v=(A++ [v])++C:=by rw[mn _ _ wE,pI,kx,wj];rfl
  have J:=z9x I (A++ [v]) C (by simpa using h);rw[wP,pP]at J;rw[L,J,wj];rfl
theorem z7y{base e A g I n:Nat}:∀(J:List Value) (j:Nat) (L:List Value) (w:World),w.ownsRow base e A (.slice (some ⟨g,0,none⟩) n I) n L->(w.setCells g j J).ownsRow base e A (.slice (some ⟨g,0,none⟩) n I) n (setAll L j J)
 | [],j,L,w,h=>h
 | v::J,j,L,w,h=>z7y J (j+1) _ _ (h.stored j v).1
theorem z0p{b k:Nat}(h:k≠b):∀(A:List Value) (j:Nat) (w:World),(w.setCells b j A).heap[k]? =w.heap[k]?
 | [],j,w=>rfl
 | v::A,j,w=>(z0p h A (j+1) _).trans (q7 h)
theorem size_setCells{b:Nat}:∀(A:List Value) (j:Nat) (w:World),(w.setCells b j A).heap.size=w.heap.size
 | [],j,w=>rfl
 | v::A,j,w=>(size_setCells A (j+1) _).trans (by simp[World.setCell])
section
variable {P:Program} {w:World} {a:Act} {op:Oper} {K:Act->World->Prop} {Q:Exit->Act->World->Prop}
theorem y1H(g o j:Nat):(⟨g,o,none⟩:Addr).add j=⟨g,o+j,none⟩:=by unfold Addr.add;split<;>simp_all
def z6N:TypeDesc->Bool
 | .struct _ | .array _ _=>true
 | _=>false
theorem z8d(w:World)(g o:Nat)(ty:TypeId)(A:Array Value)(O:∀j v,A[j]? =some v->w.cell? ⟨g,o+j,none⟩=some v)
  (hu:(P.underlying ty).map z6N=some true) (J:(P.info? ty).map (·.size)=some A.size):(loadVar ty ⟨g,o,none⟩).run P w= .ok (.agg A) w:=by
 have L:(loadCells ⟨g,o,none⟩ A.toList.length).run P w= .ok A.toList.toArray w:=
  run_loadCells_list (P:=P) w ⟨g,o,none⟩ A.toList (fun j v hv=>by rw[y1H];exact O j v (by simpa using hv))
 obtain⟨d,hd,U⟩:=uM.1 hu;cases hq:P.info? ty with
 | none=>simp[hq]at J
 | some i=>
  have Y:i.size=A.size:=by simpa[hq]using J
  have I:(isAgg ty).run P w= .ok true w:=by
   unfold isAgg;rw[gh,rQ hd w];cases d<;>simp_all [z6N]
  simp only[du,Array.toArray_toList]at L;simp[loadVar,gh,I,sizeOf,typeInfo,hq,Y,L]
theorem y1o(w:World)(g o:Nat)(ty:TypeId)(A:Array Value)(L:∀j,j<A.size->(w.cell? ⟨g,o+j,none⟩).isSome=true)(O:∀j,w.frozen? ⟨g,j,none⟩=false)
  (I:(P.info? ty).map (·.size)=some A.size) (J:A.all (·.oneCell')=true):(storeVar ty ⟨g,o,none⟩ (.agg A)).run P w= .ok () (w.setCells g o A.toList):=by
 have:=rP (P:=P) g o A.toList 0 w (fun j U=>by simpa using L j (by simpa using U)) (fun j _=>O _) (fun v hv=>(Array.all_eq_true_iff_forall_mem.1 J) v (by simpa using hv));simp only[dp]at this;cases hq:P.info? ty with
 | none=>simp[hq]at I
 | some i=>
  have Y:A.size=i.size:=by simp[hq]at I;omega
  simp[storeVar,sizeOf,typeInfo,hq,Value.cells,Y,this]
theorem z1E{ρ:Operand->Value}(ty:TypeId)(x:Operand)(L:op.op= .load ty x)(g o:Nat)(U:ρ x= .pointer (some ⟨g,o,none⟩))(A:Array Value)(I:∀j v,A[j]? =some v->w.cell? ⟨g,o+j,none⟩=some v)
  (O:(P.underlying ty).map z6N=some true) (J:(P.info? ty).map (·.size)=some A.size):(execOp ρ op).run P w= .ok (.value (.agg A)) w:=by
 unfold execOp;simp only[L,U,Instr.loadAt,Instr.sureAddr,gh,gi,me,z8d w g o ty A I O J]
theorem y8r(ty:TypeId)(x:Operand)(L:op.op= .load ty x)(g o:Nat)(U:a.eval x= .pointer (some ⟨g,o,none⟩))(A:Array Value)(I:∀j v,A[j]? =some v->w.cell? ⟨g,o+j,none⟩=some v)
  (O:(P.underlying ty).map z6N=some true) (J:(P.info? ty).map (·.size)=some A.size) (h:K (a.put op.dst (.agg A)) w):op.wp P a w K Q:=by
 unfold Oper.wp;rw[z1E ty x L g o U A I O J];exact h
theorem z2y(ty:TypeId)(x y:Operand)(U:op.op= .store ty x y)(g o:Nat)(Y:a.eval x= .pointer (some ⟨g,o,none⟩))(A:Array Value)(hy:a.eval y= .agg A)
  (J:∀j,j<A.size->(w.cell? ⟨g,o+j,none⟩).isSome=true) (L:∀j,w.frozen? ⟨g,j,none⟩=false) (O:(P.info? ty).map (·.size)=some A.size) (I:A.all (·.oneCell')=true)
  (h:K (a.put op.dst undef) (w.setCells g o A.toList)):op.wp P a w K Q:=by
 unfold Oper.wp execOp;simp only[U,Y,hy,Instr.storeAt,Instr.sureAddr,gh,gi,me,y1o w g o ty A J L O I];exact h
theorem z0u{ops:Array Oper}{rest:List Oper}(I:op.guard=none)(ty:TypeId)(x:Operand)(U:op.op= .load ty x)(g o:Nat)(hx:a.eval x= .pointer (some ⟨g,o,none⟩))(A:Array Value)(L:∀j v,A[j]? =some v->w.cell? ⟨g,o+j,none⟩=some v)
  (Y:(P.underlying ty).map z6N=some true) (O:(P.info? ty).map (·.size)=some A.size) (h:wpList P ops Q rest (a.put op.dst (.agg A)) w):wpList P ops Q (op::rest) a w:=
 qw I fun _ J=>y8r ty x U g o hx A L Y O (J _ _ h)
theorem z0e{ops:Array Oper}{rest:List Oper}(I:op.guard=none)(ty:TypeId)(x y:Operand)(ho:op.op= .store ty x y)(g o:Nat)(hx:a.eval x= .pointer (some ⟨g,o,none⟩))(A:Array Value)(hy:a.eval y= .agg A)
  (O:∀j,j<A.size->(w.cell? ⟨g,o+j,none⟩).isSome=true) (U:∀j,w.frozen? ⟨g,j,none⟩=false) (Y:(P.info? ty).map (·.size)=some A.size) (J:A.all (·.oneCell')=true)
  (h:wpList P ops Q rest (a.put op.dst undef) (w.setCells g o A.toList)):wpList P ops Q (op::rest) a w:=
 qw I fun _ L=>z2y ty x y ho g o hx A hy O U Y J (L _ _ h)
theorem z1o{g:Nat}{cs:Array Value}{t:TypeId}{fr:Nat×Nat}(h:w.heap[g]? =some (.cells cs t fr)):∀j v,cs[j]? =some v->w.cell? ⟨g,0+j,none⟩=some v:=fun j v A=>by
 rw[uZ,pT w g j cs t fr h];exact A
end
section
variable {P:Program} {w:World} {a:Act} {o:Oper} {Q:Exit->Act->World->Prop}
theorem z1I{ops:Array Oper}{rest:List Oper}(a3:o.guard=none)(s x:Operand)(t:TypeId)
  (ho:o.op= .call {callee:= .builtin .append,args:= #[s,x],argTypes:= #[t,t]})
  (base:Nat) (e:TypeId) (i:TypeInfo) (z:Value) (A I:Nat) (ht:P.underlying t=some (.slice e)) (hi:P.info? e=some i) (hz:i.zero=some z)
  (Y:i.size=A) (a2:i.bytes=I) (a6:z.cells.size=A) (a5:0<A)
  (ad:Option Addr) (n L:Nat) (xs:List Value) (hs:a.eval s= .slice ad n L) (a0:w.ownsRow base e A (.slice ad n L) n xs)
  (xv:Value) (m:Nat) (J:List Value) (hx:a.eval x=xv) (a4:Rd w xv A m J) (hm:0<m) (h1:∀u∈J,u.oneCell'=true)
  (a1:n+m<=maxLen) (O:(n+m)*I<=140737488355328) (U:base<=w.heap.size)
  (h:∀g' c' w',w'.ownsRow base e A (.slice (some ⟨g',0,none⟩) (n+m) c') (n+m) (xs++J)->w.grownBy w' (Value.slice ad n L).ownBlock->((Value.slice ad n L).ownBlock=some g'\/g'=w.heap.size)->wpList P ops Q rest (a.put o.dst (.slice (some ⟨g',0,none⟩) (n+m) c')) w'):wpList P ops Q (o::rest) a w:=by
 refine z2r a3 s x t ho base e i z A I ht hi hz Y a2 a6 a5 (.slice ad n L) n xs hs a0 xv m J hx a4 h1 a1 O U fun v' w' h2 h3 h4 h5=>?_;obtain⟨g',c',rfl, -⟩:=z2b h2 (fun e=>by have:=(h4.1 e).2;omega);refine h g' c' w' h2 h3 ?_;rcases h5 with h5|h5
 .exact .inl h5.symm
 simp only[Value.ownBlock,wK]at h5;exact .inr h5
end
theorem z0s{P:Program}{c:Code}{Q:Exit->Act->World->Prop}{a:Act}{w w':World}(e:w'=w)(h:c.wp P Q a w'):c.wp P Q a w:=e▸h
theorem z5J{P:Program}{ops:Array Oper}{l:List Oper}{Q:Exit->Act->World->Prop}{a:Act}{w w':World}(e:w'=w)(h:wpList P ops Q l a w'):wpList P ops Q l a w:=e▸h
theorem y1M:∀(A:List Value) (j:Nat) (cs:List Value),j+A.length<=cs.length->z6D cs.toArray j A=(cs.take j++A++cs.drop (j+A.length)).toArray
 | [],j,cs,h=>by simp[z6D]
 | v::A,j,cs,h=>by
  simp only[wW]at h ⊢;show z6D (cs.toArray.setIfInBounds j v) (j+1) A=_;rw[List.setIfInBounds_toArray,y1M A (j+1) (cs.set j v) (by rw[pj];omega)]
  congr 1
  rw[qC wF,uG,qE wF,uo wF];rw[show j+1+A.length=j+(A.length+1) by omega];simp
theorem z0U.lay{S:Nat->Prop}{w0 w:World}{K K':List (Nat×Obj)}(i:Nat){b:Nat}{t:TypeId}{fr:Nat×Nat}{cs I:List Value}(h:z0U S w0 K w)(j:Nat)(A:List Value)(O:K[i]? =some (b,.cells cs.toArray t fr))(U:Nat.ble (j+A.length) cs.length=true)
  (J:I=cs.take j++A++cs.drop (j+A.length)) (L:K'=K.set i (b,.cells I.toArray t fr)):z0U S w0 K' (w.setCells b j A):=by
 have:=z0U.puts0 i A j _ K w h O;rw[y1M A j cs (Nat.le_of_ble_eq_true U),<-J,<-L]at this;exact this
theorem z3g{P:Program}{ops:Array Oper}{rest:List Oper}{o:Oper}{a:Act}{w:World}{Q:Exit->Act->World->Prop}(I:Region.wanted o (yielded ops a.tmps)=true)(e:Value)(J:(execOp a.eval o).run P w= .ok (.value e) w)
  (h:wpList P ops Q rest (a.put o.dst e) w):wpList P ops Q (o::rest) a w:=
 wpList_step fun K A=>by
  rw[wZ I];unfold Oper.wp;rw[J];exact A _ _ h
theorem z5e{o:Oper}{w:World}{ρ:Operand->Value}(x y:Operand)(ty:TypeId)(ho:o.op= .binOp .eql 45 x y ty)(p q:Nat×Nat×Nat)(hx:ρ x=z4k p)(hy:ρ y=z4k q)(r:Bool)(hr:decide (p=q)=r):
  (execOp ρ o).run prog w= .ok (.value (.bool r)) w:=by
 unfold execOp;simp only[ho,hx,hy];subst hr;obtain⟨L,p2,p3⟩:=p;obtain⟨O,U,Y⟩:=q;by_cases A:L=O
 .by_cases I:p2=U
  .by_cases J:p3=Y
   .subst A I J;simp[go_sem]
   have:¬(p3:Int)=Y:=wF;simp[go_sem,A,I,J,this]
  have:¬(p2:Int)=U:=wF;simp[go_sem,A,I,this]
 have:¬(L:Int)=O:=wF
 simp[go_sem,A,this]
theorem z4d{o:Oper}{w:World}{ρ:Operand->Value}(x y:Operand)(ty:TypeId)(ho:o.op= .binOp .neq 45 x y ty)(p q:Nat×Nat×Nat)(hx:ρ x=z4k p)(hy:ρ y=z4k q)(r:Bool)(hr:decide (p≠q)=r):
  (execOp ρ o).run prog w= .ok (.value (.bool r)) w:=by
 unfold execOp;simp only[ho,hx,hy];subst hr;obtain⟨L,p2,p3⟩:=p;obtain⟨O,U,Y⟩:=q;by_cases A:L=O
 .by_cases I:p2=U
  .by_cases J:p3=Y
   .subst A I J;simp[go_sem]
   have:¬(p3:Int)=Y:=wF;simp[go_sem,A,I,J,this]
  have:¬(p2:Int)=U:=wF;simp[go_sem,A,I,this]
 have:¬(L:Int)=O:=wF
 simp[go_sem,A,this]
section
variable {P:Program} {fn:Func} {tmps:Array Value} {w:World}
theorem z8L{g:Nat}{A:Array Value}{t ty:TypeId}{fr:Nat×Nat}(I:w.heap[g]? =some (.cells A t fr))(L:(P.underlying ty).map z6N=some true)(J:(P.info? ty).map (·.size)=some A.size):(loadVar ty ⟨g,0,none⟩).run P w= .ok (.agg A) w:=z8d w g 0 ty A (z1o I) L J
theorem q2R{p:Tmp}{ty:TypeId}(h:fn.results= #[.cell p ty]){g:Nat}{I:Array Value}{t:TypeId}{fr:Nat×Nat}(O:tmps.getD p undef= .pointer (some ⟨g,0,none⟩))(J:w.heap[g]? =some (.cells I t fr))(U:(P.underlying ty).map z6N=some true)(L:(P.info? ty).map (·.size)=some I.size):
  (results fn tmps).run P w= .ok (.agg I) w:=by
 have A:tmps[p]?.getD undef= .pointer (some ⟨g,0,none⟩):=by simpa using O
 simp[results,h,A,asAddr,z8L J U L]
theorem y2e{p q:Tmp}{ty:TypeId}(h:fn.results= #[.cell p ty,.tmp q]){g:Nat}{I:Array Value}{t:TypeId}{fr:Nat×Nat}(O:tmps.getD p undef= .pointer (some ⟨g,0,none⟩))(J:w.heap[g]? =some (.cells I t fr))(U:(P.underlying ty).map z6N=some true)(L:(P.info? ty).map (·.size)=some I.size):
  (results fn tmps).run P w= .ok (.tuple #[.agg I,tmps.getD q undef]) w:=by
 have A:tmps[p]?.getD undef= .pointer (some ⟨g,0,none⟩):=by simpa using O
 simp[results,h,A,asAddr,z8L J U L]
theorem z6e{p q r s:Tmp}{ty:TypeId}(h:fn.results= #[.cell p ty,.tmp q,.tmp r,.tmp s]){g:Nat}{I:Array Value}{t:TypeId}{fr:Nat×Nat}(O:tmps.getD p undef= .pointer (some ⟨g,0,none⟩))(J:w.heap[g]? =some (.cells I t fr))(U:(P.underlying ty).map z6N=some true)(L:(P.info? ty).map (·.size)=some I.size):
  (results fn tmps).run P w= .ok (.tuple #[.agg I,tmps.getD q undef,tmps.getD r undef,tmps.getD s undef]) w:=by
 have A:tmps[p]?.getD undef= .pointer (some ⟨g,0,none⟩):=by simpa using O
 simp[results,h,A,asAddr,z8L J U L]
theorem y1C{p q r:Tmp}{ty A:TypeId}(h:fn.results= #[.cell p ty,.cell q A,.tmp r]){g g':Nat}{vs I:Array Value}{t t':TypeId}{fr L:Nat×Nat}(hp:tmps.getD p undef= .pointer (some ⟨g,0,none⟩))(hg:w.heap[g]? =some (.cells vs t fr))(hu:(P.underlying ty).map z6N=some true)(hi:(P.info? ty).map (·.size)=some vs.size)
  (a0:tmps.getD q undef= .pointer (some ⟨g',0,none⟩)) (O:w.heap[g']? =some (.cells I t' L)) (a1:(P.underlying A).map z6N=some true) (U:(P.info? A).map (·.size)=some I.size):
  (results fn tmps).run P w= .ok (.tuple #[.agg vs,.agg I,tmps.getD r undef]) w:=by
 have Y:tmps[p]?.getD undef= .pointer (some ⟨g,0,none⟩):=by simpa using hp
 have J:tmps[q]?.getD undef= .pointer (some ⟨g',0,none⟩):=by simpa using a0
 simp[results,h,Y,J,asAddr,z8L hg hu hi,z8L O a1 U]
end
theorem z0B{w:World}{g:Nat}{cs:Array Value}{t:TypeId}{fr:Nat×Nat}(h:w.heap[g]? =some (.cells cs t fr)){n:Nat}(I:n=cs.size):∀j,j<n->(w.cell? ⟨g,0+j,none⟩).isSome=true:=fun j A=>by
 subst I;rw[z1o h j cs[j] (by simp[A])];rfl
theorem z0y{w:World}{g:Nat}{cs:Array Value}{t:TypeId}(h:w.heap[g]? =some (.cells cs t (0,0))):∀j,w.frozen? ⟨g,j,none⟩=false:=fun j=>by simp[World.frozen?,h]
theorem z0U.toLoc{w0 w:World}{K:List (Nat×Obj)}(h:z0U (fun _=>False) w0 K w):Loc w0 K w:=⟨⟨h.low.os,h.low.tape,h.low.output,h.low.size,fun k A=>h.low.block k A fun e=>e⟩,h.blk,h.nodup⟩
theorem z4D{cs A:List Value}(h:cs.length=A.length):(laid cs 0 A).toArray=A.toArray:=by
 unfold laid;rw[iK,uW,uZ,ig wF,ue]
theorem q3J{w:World}{g:Nat}{cs A:Array Value}{t:TypeId}{fr:Nat×Nat}(h:w.heap[g]? =some (.cells cs t fr))(e:cs=A):w.heap[g]? =some (.cells A t fr):=e▸h
theorem setCells_eq(b:Nat):∀(A:List Value) (o:Nat) (w:World),w.setCells b o A={w with heap:=(w.setCells b o A).heap}
 | [],_,_=>rfl
 | v::A,o,w=>by
  rw[World.setCells,setCells_eq b A (o+1) (w.setCell ⟨b,o,none⟩ v)];rfl
theorem z3m(w:World)(cs:Array Value)(t:TypeId)(A:List Value)(h:cs.size=A.length):(w.alloc (.cells cs t)).setCells w.heap.size 0 A=w.alloc (.cells A.toArray t):=by
 rw[setCells_eq];have I:((w.alloc (.cells cs t)).setCells w.heap.size 0 A).heap=(w.alloc (.cells A.toArray t)).heap:=by
  apply rY;intro j;by_cases e:j=w.heap.size
  .subst e;rw[z0Y A 0 _ cs (j8 w _) wF,j8,z4D (by simpa using h)]
  rw[z1n e];show(w.heap.push _)[j]? =(w.heap.push _)[j]?;rw[pW,pW,wR e,wR e]
 rw[I];rfl
theorem q5s{P:Program}{c:Code}{Q:Exit->Act->World->Prop}{a:Act}{w0 w:World}(hb:Below w0.heap.size w0 w)(h:∀w',Below w0.heap.size w0 w'->c.wp P Q a w'):c.wp P Q a w:=h w hb
structure AlS (W:World) (i:Nat) (ty:TypeId) (Z:Array Value) (D:Nat->Bool) (v:Nat->Value) (w':World):Prop where
 low:Below W.heap.size W w'
 made:D i=true->∃g,v i= .pointer (some ⟨g,0,none⟩)/\W.heap.size<=g/\w'.heap[g]? =some (.cells Z ty (0,0))
section
variable {W w' w'':World} {i:Nat} {ty:TypeId} {Z:Array Value} {D:Nat->Bool} {v:Nat->Value}
theorem AlS.start(W:World)(i:Nat)(ty:TypeId)(Z:Array Value):AlS W i ty Z (fun _=>false) (fun _=>undef) W.drew:=⟨wD.drew,fun h=>by cases h⟩
theorem AlS.call(h:AlS W i ty Z D v w')(k:Nat)(L:k≠i)(hb:Below w'.heap.size w' w''):AlS W i ty Z (mark D k) v w'':=
 ⟨h.low.trans (hb.mono h.low.size),fun e=>by
  rw[q9 L]at e;obtain⟨g,I,J,A⟩:=h.made e;exact⟨g,I,J,(hb.block g (wI.1 A).1).trans A⟩⟩
theorem AlS.make(h:AlS W i ty Z D v w'):AlS W i ty Z (mark D i) (z3d v i (.pointer (some ⟨w'.heap.size,0,none⟩))) (w'.alloc (.cells Z ty)):=
 ⟨h.low.trans ((q5 w' _).mono h.low.size),fun _=>⟨w'.heap.size,z0q _ _ _,h.low.size,j8 _ _⟩⟩
end
structure CsS (W:World) (n sz:Nat) (ty:TypeId) (y:Value) (R:Array Value->World->Prop) (D:Nat->Bool) (v:Nat->Value) (w':World):Prop where
 low:Below W.heap.size W w'
 c:D n=true->∃(p:Array Value) (F:Nat->Prop),v n= .tuple #[.agg p,y]/\p.size=sz/\p.all (·.oneCell')=true/\Kept F w' (R p)/\∀k,F k->W.heap.size<=k/\k<w'.heap.size/\(D (n+4)=true->v (n+4)≠ .pointer (some ⟨k,0,none⟩))
 m:D (n+1)=true->D n=true/\v (n+1)=v n
 e:D (n+2)=true->D n=true/\∀p,v n= .tuple #[.agg p,y]->v (n+2)= .agg p
 al:D (n+4)=true->∃g cs,v (n+4)= .pointer (some ⟨g,0,none⟩)/\W.heap.size<=g/\w'.heap[g]? =some (.cells cs ty (0,0))/\cs.size=sz/\(D (n+5)=true->v (n+2)= .agg cs)
section
variable {W w' w'':World} {n sz:Nat} {ty:TypeId} {y:Value} {R:Array Value->World->Prop} {D:Nat->Bool} {v:Nat->Value}
theorem CsS.start(W:World)(n sz:Nat)(ty:TypeId)(y:Value)(R:Array Value->World->Prop):CsS W n sz ty y R (fun _=>false) (fun _=>undef) W.drew:=
 ⟨wD.drew,(fun h=>by cases h),(fun h=>by cases h),(fun h=>by cases h),fun h=>by cases h⟩
theorem CsS.other(h:CsS W n sz ty y R D v w')(k:Nat)(O:k≠n)(Y:k≠n+1)(h2:k≠n+2)(U:k≠n+4)(h5:k≠n+5)(hb:Below w'.heap.size w' w''):CsS W n sz ty y R (mark D k) v w'':=by
 refine⟨h.low.trans (hb.mono h.low.size),fun e=>?_,fun e=>?_,fun e=>?_,fun e=>?_⟩
 .rw[q9 O]at e;rw[q9 U];obtain⟨p,F,g1,g2,I,L,J⟩:=h.c e;exact⟨p,F,g1,g2,I,L.next fun k A=>hb.block k (J k A).2.1,fun k A=>⟨(J k A).1,wS (J k A).2.1 hb.size,(J k A).2.2⟩⟩
 .rw[q9 Y]at e;rw[q9 O];exact h.m e
 .rw[q9 h2]at e;rw[q9 O];exact h.e e
 rw[q9 U]at e;rw[q9 h5];obtain⟨g,cs,g1,g2,I,L⟩:=h.al e;exact⟨g,cs,g1,g2,(hb.block g (wI.1 I).1).trans I,L⟩
theorem CsS.call(h:CsS W n sz ty y R D v w')(d:D n=false)(hb:Below w'.heap.size w' w'')(p:Array Value)(F:Nat->Prop)(hp:p.size=sz)(Y:p.all (·.oneCell')=true)(U:Kept F w'' (R p))(I:∀k,F k->w'.heap.size<=k/\k<w''.heap.size):
  CsS W n sz ty y R (mark D n) (z3d v n (.tuple #[.agg p,y])) w'':=by
 refine⟨h.low.trans (hb.mono h.low.size),fun _=>⟨p,F,z0q _ _ _,hp,Y,U,fun k J=>⟨wV h.low.size (I k J).1,(I k J).2,fun e=>?_⟩⟩,fun e=>?_,fun e=>?_,fun e=>?_⟩
 .rw[q9 wF]at e;rw[z0g wF];obtain⟨g,cs,g1,g2,A,L⟩:=h.al e;rw[g1];intro O;simp only[dx,wK,oh,dc]at O;have:=(wI.1 A).1;have:=(I k J).1;omega
 .rw[q9 wF]at e;have:=(h.m e).1;rw[d]at this;cases this
 .rw[q9 wF]at e;have:=(h.e e).1;rw[d]at this;cases this
 rw[q9 wF]at e;rw[q9 wF,z0g wF,z0g wF];obtain⟨g,cs,g1,g2,A,L⟩:=h.al e;exact⟨g,cs,g1,g2,(hb.block g (wI.1 A).1).trans A,L⟩
theorem CsS.move(h:CsS W n sz ty y R D v w')(d:D n=true):CsS W n sz ty y R (mark D (n+1)) (z3d v (n+1) (v n)) w':=by
 refine⟨h.low,fun e=>?_,fun _=>⟨by rw[q9 wF];exact d,by rw[z0q,z0g wF]⟩,fun e=>?_,fun e=>?_⟩
 .rw[q9 wF,z0g wF,z0g wF];exact h.c d
 .rw[q9 wF]at e;rw[q9 wF,z0g wF,z0g wF];exact h.e e
 rw[q9 wF]at e;rw[q9 wF,z0g wF,z0g wF];exact h.al e
theorem CsS.ext(h:CsS W n sz ty y R D v w')(d:D n=true){p:Array Value}(Y:v n= .tuple #[.agg p,y])(J:D (n+5)=false):CsS W n sz ty y R (mark D (n+2)) (z3d v (n+2) (.agg p)) w':=by
 refine⟨h.low,fun e=>?_,fun e=>?_,fun _=>⟨by rw[q9 wF];exact d,fun q A=>?_⟩,fun e=>?_⟩
 .rw[q9 wF,z0g wF,z0g wF];exact h.c d
 .rw[q9 wF]at e;rw[q9 wF,z0g wF,z0g wF];exact h.m e
 .rw[z0g wF,Y]at A;rw[z0q];simp only[tI]at A;have U:=uS (fun a:Array Value=>a[0]?) A;simpa using U
 rw[q9 wF]at e;obtain⟨g,cs,g1,g2,L,O,g5⟩:=h.al e;refine⟨g,cs,by rw[z0g wF];exact g1,g2,L,O,fun I=>?_⟩;rw[q9 wF,J]at I;cases I
theorem CsS.make(h:CsS W n sz ty y R D v w')(L:D (n+5)=false){Z:Array Value}(hZ:Z.size=sz):CsS W n sz ty y R (mark D (n+4)) (z3d v (n+4) (.pointer (some ⟨w'.heap.size,0,none⟩))) (w'.alloc (.cells Z ty)):=by
 have hb:=q5 w' (.cells Z ty);refine⟨h.low.trans (hb.mono h.low.size),fun e=>?_,fun e=>?_,fun e=>?_,fun _=>⟨w'.heap.size,Z,z0q _ _ _,h.low.size,j8 _ _,hZ,fun J=>?_⟩⟩
 .rw[q9 wF]at e;obtain⟨p,F,g1,g2,U,Y,I⟩:=h.c e;refine⟨p,F,by rw[z0g wF];exact g1,g2,U,Y.next fun k A=>hb.block k (I k A).2.1,fun k A=>⟨(I k A).1,wS (I k A).2.1 hb.size,fun _=>?_⟩⟩;rw[z0q];intro O;simp only[dx,wK,oh,dc]at O;have:=(I k A).2.1;omega
 .rw[q9 wF]at e;rw[q9 wF,z0g wF,z0g wF];exact h.m e
 .rw[q9 wF]at e;rw[q9 wF,z0g wF,z0g wF];exact h.e e
 rw[q9 wF,L]at J;cases J
theorem CsS.store(h:CsS W n sz ty y R D v w')(d2:D (n+2)=true)(J:D (n+4)=true){g:Nat}(L:v (n+4)= .pointer (some ⟨g,0,none⟩)){p:Array Value}(hp:v (n+2)= .agg p)(O:p.size=sz):CsS W n sz ty y R (mark D (n+5)) v (w'.setCells g 0 p.toList):=by
 obtain⟨g',cs,g1,g2,Y,g4,g5⟩:=h.al J;rw[L]at g1;simp only[dx,wK,oh,dc]at g1;subst g1;have hb:∀k,k≠g->(w'.setCells g 0 p.toList).heap[k]? =w'.heap[k]? :=fun k A=>z1n A _ _ _;have U:(w'.setCells g 0 p.toList).heap.size=w'.heap.size:=size_setCells _ _ _;have ho:=z0n.setCells (S:=fun k=>k=g) (b:=g) rfl p.toList 0 w';refine⟨h.low.trans (z0n.below ho h.low.size (fun k A=>wF)),fun e=>?_,fun e=>?_,fun e=>?_,fun e=>?_⟩
 .rw[q9 wF]at e;obtain⟨p',F,k1,k2,k3,k4,I⟩:=h.c e;refine⟨p',F,k1,k2,k3,k4.next fun k A=>hb k fun e=>?_,fun k A=>⟨(I k A).1,by rw[U];exact(I k A).2.1,fun _=>(I k A).2.2 J⟩⟩;subst e;exact(I _ A).2.2 J L
 .rw[q9 wF]at e;rw[q9 wF];exact h.m e
 .rw[q9 wF]at e;rw[q9 wF];exact h.e e
 refine⟨g,p,L,g2,?_,O,fun _=>hp⟩;rw[z0Y p.toList 0 _ _ Y (by simp;omega),z4D (by simp;omega)]
theorem CsS.value(h:CsS W n sz ty y R D v w')(k:Nat)(u:Value)(A:k≠n)(L:k≠n+1)(I:k≠n+2)(J:k≠n+4):CsS W n sz ty y R D (z3d v k u) w':=by
 refine⟨h.low,?_,?_,?_,?_⟩
 .rw[z0g A,z0g J];exact h.c
 .rw[z0g A,z0g L];exact h.m
 .rw[z0g A,z0g I];exact h.e
 rw[z0g I,z0g J];exact h.al
end
structure CfS (W:World) (n sz:Nat) (y:Value) (R:Array Value->World->Prop) (g:Nat) (ty:TypeId) (C:List Value) (o:Nat) (D:Nat->Bool) (v:Nat->Value) (w':World):Prop where
 low:z0n (fun k=>k=g) W w'
 c:D n=true->∃(p:Array Value) (F:Nat->Prop),v n= .tuple #[.agg p,y]/\p.size=sz/\p.all (·.oneCell')=true/\Kept F w' (R p)/\∀k,F k->W.heap.size<=k/\k<w'.heap.size
 m:D (n+1)=true->D n=true/\v (n+1)=v n
 e:D (n+2)=true->D n=true/\∀p,v n= .tuple #[.agg p,y]->v (n+2)= .agg p
 b0:D (n+5)=false->w'.heap[g]? =some (.cells C.toArray ty (0,0))
 b1:D (n+5)=true->∃p:Array Value,v (n+2)= .agg p/\w'.heap[g]? =some (.cells (laid C o p.toList).toArray ty (0,0))
section
variable {W w' w'':World} {n sz g o:Nat} {ty:TypeId} {y:Value} {R:Array Value->World->Prop} {C:List Value} {D:Nat->Bool} {v:Nat->Value}
theorem CfS.start(h:W.heap[g]? =some (.cells C.toArray ty (0,0))):CfS W n sz y R g ty C o (fun _=>false) (fun _=>undef) W.drew:=
 ⟨⟨rfl,rfl,rfl,wJ _,fun _ _ _=>rfl⟩,(fun h=>by cases h),(fun h=>by cases h),(fun h=>by cases h),(fun _=>h),fun h=>by cases h⟩
theorem CfS.glt(h:CfS W n sz y R g ty C o D v w'):g<w'.heap.size:=by
 cases hd:D (n+5)with
 | false=>exact(wI.1 (h.b0 hd)).1
 | true=>obtain⟨p, -,A⟩:=h.b1 hd;exact(wI.1 A).1
theorem CfS.other(h:CfS W n sz y R g ty C o D v w')(k:Nat)(J:k≠n)(Y:k≠n+1)(h2:k≠n+2)(L:k≠n+5)(hb:Below w'.heap.size w' w''):CfS W n sz y R g ty C o (mark D k) v w'':=by
 refine⟨h.low.trans (S':=fun _=>False) (z0n.of_below hb) (fun _ A=>A.elim),fun e=>?_,fun e=>?_,fun e=>?_,fun e=>?_,fun e=>?_⟩
 .rw[q9 J]at e;obtain⟨p,F,g1,g2,O,U,I⟩:=h.c e;exact⟨p,F,g1,g2,O,U.next fun k A=>hb.block k (I k A).2,fun k A=>⟨(I k A).1,wS (I k A).2 hb.size⟩⟩
 .rw[q9 Y]at e;rw[q9 J];exact h.m e
 .rw[q9 h2]at e;rw[q9 J];exact h.e e
 .rw[q9 L]at e;exact(hb.block g h.glt).trans (h.b0 e)
 rw[q9 L]at e;obtain⟨p,k1,k2⟩:=h.b1 e;exact⟨p,k1,(hb.block g h.glt).trans k2⟩
theorem CfS.call(h:CfS W n sz y R g ty C o D v w')(d:D n=false)(hb:Below w'.heap.size w' w'')(p:Array Value)(F:Nat->Prop)(O:p.size=sz)(L:p.all (·.oneCell')=true)(J:Kept F w'' (R p))(I:∀k,F k->w'.heap.size<=k/\k<w''.heap.size):
  CfS W n sz y R g ty C o (mark D n) (z3d v n (.tuple #[.agg p,y])) w'':=by
 refine⟨h.low.trans (S':=fun _=>False) (z0n.of_below hb) (fun _ A=>A.elim),fun _=>⟨p,F,z0q _ _ _,O,L,J,fun k A=>⟨wV h.low.size (I k A).1,(I k A).2⟩⟩,fun e=>?_,fun e=>?_,fun e=>?_,fun e=>?_⟩
 .rw[q9 wF]at e;have:=(h.m e).1;rw[d]at this;cases this
 .rw[q9 wF]at e;have:=(h.e e).1;rw[d]at this;cases this
 .rw[q9 wF]at e;exact(hb.block g h.glt).trans (h.b0 e)
 rw[q9 wF]at e;obtain⟨p,U,Y⟩:=h.b1 e;exact⟨p,by rw[z0g wF];exact U,(hb.block g h.glt).trans Y⟩
theorem CfS.move(h:CfS W n sz y R g ty C o D v w')(d:D n=true):CfS W n sz y R g ty C o (mark D (n+1)) (z3d v (n+1) (v n)) w':=by
 refine⟨h.low,fun e=>?_,fun _=>⟨by rw[q9 wF];exact d,by rw[z0q,z0g wF]⟩,fun e=>?_,fun e=>?_,fun e=>?_⟩
 .rw[z0g wF];exact h.c d
 .rw[q9 wF]at e;rw[q9 wF,z0g wF,z0g wF];exact h.e e
 .rw[q9 wF]at e;exact h.b0 e
 rw[q9 wF]at e;rw[z0g wF];exact h.b1 e
theorem CfS.ext(h:CfS W n sz y R g ty C o D v w')(d:D n=true){p:Array Value}(L:v n= .tuple #[.agg p,y])(I:D (n+5)=false):CfS W n sz y R g ty C o (mark D (n+2)) (z3d v (n+2) (.agg p)) w':=by
 refine⟨h.low,fun e=>?_,fun e=>?_,fun _=>⟨by rw[q9 wF];exact d,fun q A=>?_⟩,fun e=>?_,fun e=>?_⟩
 .rw[z0g wF];exact h.c d
 .rw[q9 wF]at e;rw[q9 wF,z0g wF,z0g wF];exact h.m e
 .rw[z0g wF,L]at A;rw[z0q];simp only[tI]at A;have J:=uS (fun a:Array Value=>a[0]?) A;simpa using J
 .rw[q9 wF]at e;exact h.b0 e
 rw[q9 wF,I]at e;cases e
theorem CfS.store(h:CfS W n sz y R g ty C o D v w')(hg:g<W.heap.size)(d:D n=true)(O:D (n+5)=false){p:Array Value}(U:v (n+2)= .agg p)(I:o+p.size<=C.length):CfS W n sz y R g ty C o (mark D (n+5)) v (w'.setCells g o p.toList):=by
 have hb:∀k,k≠g->(w'.setCells g o p.toList).heap[k]? =w'.heap[k]? :=fun k A=>z1n A _ _ _;have J:(w'.setCells g o p.toList).heap.size=w'.heap.size:=size_setCells _ _ _;refine⟨h.low.trans (z0n.setCells (S:=fun k=>k=g) rfl _ _ _) (fun _ A=> .inl A),fun e=>?_,fun e=>?_,fun e=>?_,fun e=>?_,fun _=>⟨p,U,?_⟩⟩
 .obtain⟨p',F,Y,k2,k3,k4,L⟩:=h.c d;refine⟨p',F,Y,k2,k3,k4.next fun k A=>hb k fun e=>?_,fun k A=>⟨(L k A).1,by rw[J];exact(L k A).2⟩⟩;have:=(L k A).1;omega
 .rw[q9 wF]at e;rw[q9 wF];exact h.m e
 .rw[q9 wF]at e;rw[q9 wF];exact h.e e
 .rw[z1T]at e;cases e
 rw[z0Y p.toList o _ _ (h.b0 O) (by simpa using I)]
end
structure z6M (W:World) (g1 g2:Nat) (t1 t2:TypeId) (C1 N1 C2 N2:Array Value) (a b:Nat) (D:Nat->Bool) (w':World):Prop where
 low:z0n (fun k=>k=g1\/k=g2) W w'
 b1:w'.heap[g1]? =some (.cells (if D a then N1 else C1) t1 (0,0))
 b2:w'.heap[g2]? =some (.cells (if D b then N2 else C2) t2 (0,0))
section
variable {W w' w'':World} {g1 g2:Nat} {t1 t2:TypeId} {C1 N1 C2 N2:Array Value} {a b:Nat} {D:Nat->Bool}
theorem z6M.start(A:W.heap[g1]? =some (.cells C1 t1 (0,0)))(I:W.heap[g2]? =some (.cells C2 t2 (0,0))):z6M W g1 g2 t1 t2 C1 N1 C2 N2 a b (fun _=>false) W.drew:=
 ⟨⟨rfl,rfl,rfl,wJ _,fun _ _ _=>rfl⟩,A,I⟩
theorem z6M.other(h:z6M W g1 g2 t1 t2 C1 N1 C2 N2 a b D w')(k:Nat)(I:k≠a)(hb:k≠b)(A:Below w'.heap.size w' w''):z6M W g1 g2 t1 t2 C1 N1 C2 N2 a b (mark D k) w'':=
 ⟨h.low.trans (S':=fun _=>False) (z0n.of_below A) (fun _ J=>J.elim),by rw[q9 I];exact(A.block g1 (wI.1 h.b1).1).trans h.b1,by rw[q9 hb];exact(A.block g2 (wI.1 h.b2).1).trans h.b2⟩
theorem z6M.st1(h:z6M W g1 g2 t1 t2 C1 N1 C2 N2 a b D w')(L:g1≠g2)(I:a≠b)(O:C1.size=N1.size):z6M W g1 g2 t1 t2 C1 N1 C2 N2 a b (mark D a) (w'.setCells g1 0 N1.toList):=by
 have A:(if D a then N1 else C1).size=N1.size:=by split<;>simp[O]
 refine⟨h.low.trans (z0n.setCells (S:=fun k=>k=g1\/k=g2) (.inl rfl) _ _ _) (fun _ J=> .inl J),?_,?_⟩
 .rw[z1T,z0Y N1.toList 0 _ _ h.b1 (by simp[A]),z4D (by simp[A])];simp
 rw[q9 I,z1n (pz L)];exact h.b2
theorem z6M.st2(h:z6M W g1 g2 t1 t2 C1 N1 C2 N2 a b D w')(L:g1≠g2)(I:a≠b)(O:C2.size=N2.size):z6M W g1 g2 t1 t2 C1 N1 C2 N2 a b (mark D b) (w'.setCells g2 0 N2.toList):=by
 have A:(if D b then N2 else C2).size=N2.size:=by split<;>simp[O]
 refine⟨h.low.trans (z0n.setCells (S:=fun k=>k=g1\/k=g2) (.inr rfl) _ _ _) (fun _ J=> .inl J),?_,?_⟩
 .rw[q9 (pz I),z1n L];exact h.b1
 rw[z1T,z0Y N2.toList 0 _ _ h.b2 (by simp[A]),z4D (by simp[A])];simp
theorem z6M.size1(h:z6M W g1 g2 t1 t2 C1 N1 C2 N2 a b D w')(A:C1.size=N1.size):∀j,j<N1.size->(w'.cell? ⟨g1,0+j,none⟩).isSome=true:=z0B h.b1 (by split<;>simp[A])
theorem z6M.size2(h:z6M W g1 g2 t1 t2 C1 N1 C2 N2 a b D w')(A:C2.size=N2.size):∀j,j<N2.size->(w'.cell? ⟨g2,0+j,none⟩).isSome=true:=z0B h.b2 (by split<;>simp[A])
end
structure z6Q (W:World) (g:Nat) (ty:TypeId) (C N:Array Value) (k:Nat) (D:Nat->Bool) (w':World):Prop where
 low:z0n (fun x=>x=g) W w'
 b:w'.heap[g]? =some (.cells (if D k then N else C) ty (0,0))
section
variable {W w' w'':World} {g:Nat} {ty:TypeId} {C N:Array Value} {k:Nat} {D:Nat->Bool}
theorem z6Q.start(h:W.heap[g]? =some (.cells C ty (0,0))):z6Q W g ty C N k (fun _=>false) W.drew:=⟨⟨rfl,rfl,rfl,wJ _,fun _ _ _=>rfl⟩,h⟩
theorem z6Q.other(h:z6Q W g ty C N k D w')(j:Nat)(I:j≠k)(A:Below w'.heap.size w' w''):z6Q W g ty C N k (mark D j) w'':=
 ⟨h.low.trans (S':=fun _=>False) (z0n.of_below A) (fun _ J=>J.elim),by rw[q9 I];exact(A.block g (wI.1 h.b).1).trans h.b⟩
theorem z6Q.set(h:z6Q W g ty C N k D w')(d:D k=false)(o:Nat)(v:Value)(A:C.setIfInBounds o v=N):z6Q W g ty C N k (mark D k) (w'.setCell ⟨g,o,none⟩ v):=by
 refine⟨h.low.trans (z0n.setCell (S:=fun x=>x=g) (a:=⟨g,o,none⟩) w' v rfl) (fun _ I=> .inl I),?_⟩;have hb:=h.b;rw[d]at hb;rw[z1T,z0a hb o v];simp[A]
theorem z6Q.setAll(h:z6Q W g ty C N k D w')(d:D k=false)(A:C.size=N.size):z6Q W g ty C N k (mark D k) (w'.setCells g 0 N.toList):=by
 have hb:=h.b;rw[d]at hb;refine⟨h.low.trans (z0n.setCells (S:=fun x=>x=g) rfl _ _ _) (fun _ I=> .inl I),?_⟩;rw[z1T,z0Y N.toList 0 _ _ hb (by simp[A]),z4D (by simp[A])];simp
theorem z6Q.lt(h:z6Q W g ty C N k D w'):g<w'.heap.size:=(wI.1 h.b).1
theorem z6Q.cell(h:z6Q W g ty C N k D w')(j:Nat){u:Value}(A:C[j]? =some u)(I:N[j]? =some u):w'.cell? ⟨g,j,none⟩=some u:=by
 have hb:=h.b;have e:(if D k then N else C)[j]? =Option.some u:=by split<;>assumption
 simpa[World.cell?,hb]using e
theorem z6Q.frz(h:z6Q W g ty C N k D w')(j:Nat):w'.frozen? ⟨g,j,none⟩=false:=z0y h.b j
theorem z6Q.some(h:z6Q W g ty C N k D w')(J:C.size=N.size){j:Nat}(I:j<N.size):(w'.cell? ⟨g,j,none⟩).isSome=true:=by
 have A:=z0B h.b (n:=N.size) (by split<;>simp[J]) j I
 rwa [uZ]at A
end
theorem y8N(series ck pb L cnt:Nat)(closed:Bool)(a:Option Addr)(n c:Nat)(l:List Bool)(b:List UInt8)(w:World)(h:z0r w a n c l b)(hl:l.length<=549755813888):
  Calls prog 63 #[.agg #[.int .u8 4,.int .u32 0,.int .u32 series,.int .i64 0,.int .u64 0,.int .u32 ck,.int .u32 pb,.int .u32 L,.int .u32 cnt,.bool closed,.slice a n c,.int .i64 l.length]] w fun e w'=>e= .returned (.bool (decide (L<cnt/\0<l.length/\n<=500)))/\Below w.heap.size w w':=by
 obtain⟨N,hN⟩:=zN l.length;rw[<-hN];have a2:=z7 (z2V h.bits);have I:=z7 h.len;have a4:n<=70368744177665:=by have:=h.bits.len;have:=h.len;omega
 have a3:N<=549755813888:=wF
 have H:=z7 h;have HN:=z7 hN;clear h hN hl;have A:=z7 (((Loc.start w).new (.cells #[.int .u8 4,.int .u32 0,.int .u32 series,.int .i64 0,.int .u64 0,.int .u32 ck,.int .u32 pb,.int .u32 L,.int .u32 cnt,.bool closed,.slice a n c,.int .i64 (N:Nat)] 92)).new' (.cells #[.int .i64 0,.int .u64 0] 79) (n:=w.heap.size+1) wH);by_cases O:L<cnt
 .have n1:decide (L<cnt)=true:=wQ O;by_cases Y:0<N
  .have n2:decide (0<N)=true:=wQ Y;by_cases h3:n<=500
   .have d3:decide ((n:Int)<=500)=true:=hQ;have J:decide (L<cnt/\0<N/\n<=500)=true:=wQ ⟨O,Y,h3⟩;rw[J];clear J O Y h3;go_enter func63,ntmps63;go_wp2_with fail;have U:=z2X a c b N _ (by have:=(H.o.low A.o.low).rd;rw[I.o]at this;exact this) (by have:=I.o;omega) wF wF;rw[<-I.o,HN.o,a2.o,<-HN.o]at U;refine U.mono ?_;rintro e w2 ⟨rfl,a0⟩;have a1:=z7 (A.o.call a0);clear a0 U;go_wp2;go_ret;exact⟨rfl,a1.o.low⟩
   have d3:decide ((n:Int)<=500)=false:=wC;have J:decide (L<cnt/\0<N/\n<=500)=false:=wC;rw[J];clear J O Y h3;go_enter func63,ntmps63;go_wp2;go_ret;exact⟨rfl,A.o.low⟩
  have n2:decide (0<N)=false:=wM Y;have J:decide (L<cnt/\0<N/\n<=500)=false:=wC;rw[J];clear J O Y;go_enter func63,ntmps63;go_wp2;go_ret;exact⟨rfl,A.o.low⟩
 have n1:decide (L<cnt)=false:=wM O;have J:decide (L<cnt/\0<N/\n<=500)=false:=wC;rw[J];clear J O;go_enter func63,ntmps63;go_wp2;go_ret;exact⟨rfl,A.o.low⟩
def beN(n width:Nat):List UInt8:=(List.range width).map fun j=>UInt8.ofNat (n/2^(8*(width - 1 - j)))
theorem z2q(n width:Nat):(beN n width).length=width:=by simp[beN]
theorem q3R{n W k:Nat}(A:k<W):(beN n W).take (W - k)=(beN n W).take (W - (k+1))++ [UInt8.ofNat (n/2^(8*k))]:=by
 rw[show W - k=W - (k+1)+1 by omega,uG]
 congr 1
 unfold beN;rw[uF,List.getElem?_range wF];simp only[pK,og];rw[show W - 1 - (W - (k+1))=k by omega]
structure q8B (w0:World) (K:List (Nat×Obj)) (w:World) (q:Nat) (bs:List UInt8) (a:Option Addr) (m c:Nat):Prop where
 blk:w.heap[q]? =some (.cells #[.slice a m c] 191 (0,0))
 row:w.ownsRow w0.heap.size 5 1 (.slice a m c) m (z0c bs)
 len:m=bs.length
 far:(Value.slice a m c).ownBlock≠some q
 up:w0.heap.size<=q
 low:Below w0.heap.size w0 w
 kept:∀p∈K,w.heap[p.1]? =some p.2/\p.1≠q/\(Value.slice a m c).ownBlock≠some p.1
def y3k(w0:World)(K:List (Nat×Obj))(w:World)(q:Nat)(bs:List UInt8):Prop:=∃a m c,q8B w0 K w q bs a m c
theorem z6Y(q n W:Nat)(bs:List UInt8)(w0:World)(K:List (Nat×Obj))(w:World)(h:y3k w0 K w q bs)(hn:n<18446744073709551616)(hW:W<=8)(hl:bs.length<=1000000):
  Calls prog 89 #[.pointer (some ⟨q,0,none⟩),.int .u64 n,.int .i64 W] w fun e w'=>e= .returned (.tuple #[])/\y3k w0 K w' q (bs++beN n W):=by
 obtain⟨i0,aF,aM,aN,aO⟩:=oq y4Y;have H:=z7 h;clear h;go_enter func89,ntmps89;go_wp2_with fail;go_loopw[2] (fun kv wr=>∃k:Nat,kv= .int .i64 k/\k<=W/\Hid (y3k w0 K wr q (bs++(beN n W).take (W - k)))) (fun kv _=>match kv with | .int _ x=>x.toNat|_=>0)
 case atStart=>exact⟨W,rfl,wJ _,by simpa using H⟩
 case round=>
  obtain⟨k,rfl,hk,a0⟩:=hrel;clear H;by_cases h0:k=0
  .subst h0;have HF:Hid (y3k w0 K wr q (bs++beN n W)):=z7 (by
    have:=a0.o
    rwa [qt,wt (by rw[z2q];exact wJ _)]at this)
   go_wp2
   go_end0
   exact⟨rfl,HF.o⟩
  have n0:decide (0<k)=true:=hQ;obtain⟨Y,a6⟩:∃Y,k=Y+1:=⟨k - 1,wF⟩;have aY:IntKind.i64.wrap ((k:Int) - 1)=(Y:Int):=(by rw[z0l wF wF];omega);obtain⟨S,I⟩:=zN (8*Y);have aX:IntKind.i64.wrap (8*(Y:Int))=(S:Int):=(by rw[z0l wF wF];omega);have aR:S<=64:=wF;obtain⟨V,hV⟩:=zN (n/2^S);have aS:(n:Int)/2^S=(V:Int):=(by rw[hV];simp);obtain⟨y,hy⟩:=zN (V%256);have aL:y<256:=wF;have aJ:(V:Int)%256=(y:Int):=wF;have aZ:IntKind.u8.wrap (V:Int)=(y:Int):=(by rw[IntKind.wrap_u8];exact aJ);have aC:Hid ((beN n W).take (W - Y)=(beN n W).take (W - k)++ [UInt8.ofNat y]):=z7 (by
   have h1:=q3R (n:=n) (W:=W) (k:=Y) wF;have aH:UInt8.ofNat V=UInt8.ofNat (V%256):=(by apply UInt8.toNat_inj.1;simp);rw[h1,a6,<-I,<-hV,aH,hy])
  obtain⟨cs,a1⟩:=zN (bs++(beN n W).take (W - k));have aT:cs.length<=1000008:=(by rw[a1];simp[z2q];omega);rw[<-a1]at a0;have a4:=z7 a1;obtain⟨a,m,c,U⟩:=a0.o;have A:=z7 U;have aV:m<=1000008:=(by have:=U.len;omega);have aA:=(wI.1 U.blk).1;have aI:=U.low.size;have L:Hid (∀w',wr.grownBy w' (Value.slice a m c).ownBlock->w'.heap[q]? =some (.cells #[.slice a m c] 191 (0,0))):=z7 fun w' hg=>(hg.block q aA (fun e=>A.o.far e.symm)).trans A.o.blk;have aG:Y<k/\Y<=W:=wF
  obtain⟨x0,xf,xl⟩:=z0v U.blk;clear U a1 I hV hy a0 a6;go_wp2_with fail;clear x0 xf;refine q6 14 24 (fun D v w'=>z7u w0.heap.size 5 1 10 11 wr (.slice a m c) m (z0c cs) [.int .u8 (y:Int)] D v w') (z7u.start A.o.row) ?_;simp only[z0C];iterate 10 (refine q8.rl ?_ (fun D v w h=>h.read _ wF wF) (fun D v w' hD I=>?_) ?_;rotate_left;(obtain⟨x0,xf,xl⟩:=z0v (L.o w' I.g);clear I hD;go_simp;try rfl);go_simp)
  refine q8.re (fun D v w' hD I=>?_) ?_
  .have dj:D 11=false:=hD.post 11 _ rfl (by kernel_rfl);have a2:=z7 (z7u.made (cs:= #[.int .u8 (y:Int)]) (e:=5) wG I dj rfl);clear I hD;go_simp;exact a2.o
  go_simp;refine q8.re (fun D v w' hD I=>?_) ?_
  .have di:D 10=true:=hD.pre 10 (by kernel_rfl);obtain⟨g',h9,aB,aU⟩:=I.s di;have hq:=z7 (I.q hD.self);have aI:=I.g.size;have a2:=z7 I;rw[h9]at aB;have aE:=z7 aB;rw[h9];clear I hD h9;refine z3V _ _ 47 rfl w0.heap.size 5 i0 (.int .u8 0) 1 1 underlying47 aF aM aN aO rfl wG _ m (z0c cs) rfl hq.o _ 1 [.int .u8 (y:Int)] rfl aE.o (by simp[Value.oneCell']) (by unfold maxLen;omega) wF wF ?_;intro v' w'' h1 h2 h3 h4;exact⟨v',rfl,z7u.appended wG a2.o di A.o.row h1 h2 h4,trivial⟩
  go_simp;iterate 2 (refine q8.rl ?_ (fun D v w h=>h.read _ wF wF) (fun D v w' hD I=>?_) ?_;rotate_left;(obtain⟨x0,xf,xl⟩:=z0v (L.o w' I.g);clear I hD;go_simp;try rfl);go_simp)
  refine q8.fin (fun v w7 I=>?_);obtain⟨-,a7,c7,h7,O,J⟩:=I.a rfl;rw[h7]at O J ⊢;have a3:=L.o w7 I.g;have a5:Hid (y3k w0 K (w7.setCell ⟨q,0,none⟩ (.slice a7 (m+1) c7)) q (bs++(beN n W).take (W - Y))):=z7 (by
   have a8:∀j,(Value.slice a7 (m+1) c7).ownBlock=some j->(some j=(Value.slice a m c).ownBlock\/wr.heap.size<=j):=fun j hj=>by
    rcases J with e|⟨g,e,hg⟩
    .exact .inl (by rw[<-e];exact hj.symm)
    rw[hj]at e;simp only[wK]at e;exact .inr wF
   have a9:∀j,(Value.slice a7 (m+1) c7).ownBlock=some j->j≠q:=fun j hj e=>by
    rcases a8 j hj with e1|e1
    .exact A.o.far (by rw[<-e1,e])
    omega
   refine⟨a7,m+1,c7,?_,?_,?_,fun e=>a9 q e rfl,A.o.up,?_,fun p hp=>?_⟩
   .have:=z0a a3 0 (.slice a7 (m+1) c7);simpa using this
   .rw[aC.o,<-wj,<-a4.o];have e:z0c (cs++ [UInt8.ofNat y])=z0c cs++ [.int .u8 (y:Int)]:=(by rw[z3B,y8R y aL]);rw[e];exact j7 O fun j hj=>q7 (a9 j hj)
   .rw[aC.o,<-wj,<-a4.o,wP,A.o.len];rfl
   .exact((A.o.low).grown I.g A.o.low.size (fun j hj=>(A.o.row.lt j hj).1)).setCell A.o.up _
   obtain⟨k1,k2,k3⟩:=A.o.kept p hp;have k4:=(wI.1 k1).1;refine⟨(q7 k2).trans ((I.g.block p.1 k4 (fun e=>k3 e.symm)).trans k1),k2,fun e=>?_⟩;rcases a8 _ e with e1|e1
   .exact k3 e1.symm
   omega)
  obtain⟨x0,xf,xl⟩:=z0v a3;clear I h7 O J a3;go_wp2;exact⟨⟨Y,rfl,aG.2,a5⟩,by show(Y:Int).toNat<(k:Int).toNat;omega⟩
def q4Z(xs:List Nat):Array Value:=(xs.map fun x=>Value.int .u32 (x:Nat)).toArray
def z8O(xs:List Nat):List UInt8:=xs.flatMap fun x=>beN x 4
theorem q1J{A:List Nat}{k x:Nat}(h:A[k]? =some x):z8O (A.take (k+1))=z8O (A.take k)++beN x 4:=by
 unfold z8O;rw[uG,h];simp
theorem z3k(A:List Nat):(z8O A).length=4*A.length:=by
 induction A with
 | nil=>rfl
 | cons x A ih=>
  unfold z8O at ih ⊢;rw[uH,wP,ih,z2q,wW];omega
theorem y9a(q g:Nat)(A:List Nat)(L:List UInt8)(w0:World)(K:List (Nat×Obj))(w:World)(h:y3k w0 K w q L)(hg:(g,.cells (q4Z A) 40 (0,0))∈K)(hx:∀x∈A,x<4294967296)(hn:A.length<=100)(hl:L.length<=10000):
  Calls prog 88 #[.pointer (some ⟨q,0,none⟩),.slice (some ⟨g,0,none⟩) A.length A.length] w fun e w'=>e= .returned (.tuple #[])/\y3k w0 K w' q (L++z8O A):=by
 obtain⟨n,Y⟩:=zN A.length;rw[<-Y];have H:=z7 h;have HX:=z7 hx;have HG:=z7 hg;have a1:=z7 Y;have a7:n<=100:=wF
 clear h hx hg Y hn;go_enter func88,ntmps88;go_wp2_with fail;go_loopw[8] (fun kv wr=>∃k:Nat,kv= .int .i64 k/\k<=n/\Hid (y3k w0 K wr q (L++z8O (A.take k)))) (fun kv _=>match kv with | .int _ x=>n - x.toNat|_=>0)
 case atStart=>exact⟨0,rfl,uA _,by simpa[z8O]using H⟩
 case round=>
  obtain⟨k,rfl,hk,O⟩:=hrel;clear H;by_cases aB:k<n
  .have a2:k<A.length:=(by have:=a1.o;omega);obtain⟨x,J⟩:∃x,A[k]? =some x:=⟨_,wL a2⟩;have aA:x<4294967296:=HX.o x (wX J);have a4:wr.cell? ⟨g,k,none⟩=some (.int .u32 (x:Nat)):=by
    obtain⟨a,m,c,a5⟩:=O.o;have hb:=(a5.kept _ HG.o).1;rw[pT wr g k _ _ (0,0) hb];simp[q4Z,J]
   have aC:IntKind.u64.wrap (x:Int)=(x:Int):=(by rw[wq];omega);have a9:IntKind.i64.wrap ((k:Int)+1)=((k+1:Nat):Int):=z0l wF wF;obtain⟨k',U⟩:=zN (k+1);rw[<-U]at a9;have a8:Hid (L++z8O (A.take k')=(L++z8O (A.take k))++beN x 4):=z7 (by rw[U,q1J J,wj]);have a3:=z7 (z6Y q x 4 (L++z8O (A.take k)) w0 K wr O.o wF wG (by rw[wP,z3k,uR];omega));have a6:k'<=n/\k<k':=wF;clear U J a2;go_wp2_with fail;refine a3.o.mono ?_;rintro e w2 ⟨rfl,I⟩;rw[<-a8.o]at I;have a0:=z7 I;clear I a4;go_wp2;exact⟨⟨k',rfl,a6.1,a0⟩,by show n - (k':Int).toNat<n - (k:Int).toNat;omega⟩
  have HF:Hid (y3k w0 K wr q (L++z8O A)):=z7 (by
   have:=O.o
   rwa [wt (by have:=a1.o;omega)]at this)
  go_wp2
  go_end0
  exact⟨rfl,HF.o⟩
structure ApN (B:Nat) (w0:World) (ov:Value) (n m:Nat) (xs ys:List Value) (j:Nat) (D:Nat->Bool) (v:Nat->Value) (w':World):Prop where
 g:w0.grownBy w' ov.ownBlock
 q:D j=false->w'.ownsRow B 5 1 ov n xs
 a:D j=true->∃a c,v j= .slice a (n+m) c/\w'.ownsRow B 5 1 (v j) (n+m) (xs++ys)/\((v j).ownBlock=ov.ownBlock\/∃g,(v j).ownBlock=some g/\w0.heap.size<=g)
theorem ApN.start{B n m j:Nat}{w0:World}{A:Value}{I J:List Value}(h:w0.ownsRow B 5 1 A n I):ApN B w0 A n m I J j (fun _=>false) (fun _=>undef) w0.drew:=
 ⟨⟨rfl,rfl,rfl,wJ _,fun _ _ _=>rfl⟩,fun _=>h,fun h=>by cases h⟩
def z5a(series ck pb pc cnt:Nat)(closed:Bool)(N:Nat)(b:List UInt8):List UInt8:=
 [4]++z8O [series,ck,pb,pc,cnt]++beN (if closed then 1 else 0) 1++beN N 2++b
theorem y4s(series ck pb pc cnt:Nat)(closed:Bool)(a:Option Addr)(n c:Nat)(l:List Bool)(b:List UInt8)(hs:series<4294967296)(bN:ck<4294967296)(bO:pb<4294967296)(bR:pc<4294967296)(bL:cnt<4294967296)(hm:pc<cnt/\0<l.length/\n<=500)(w:World)(h:z0r w a n c l b):
  Calls prog 42 #[.agg #[.int .u8 4,.int .u32 0,.int .u32 series,.int .i64 0,.int .u64 0,.int .u32 ck,.int .u32 pb,.int .u32 pc,.int .u32 cnt,.bool closed,.slice a n c,.int .i64 l.length]] w fun e w'=>
   ∃a' m' c',e= .returned (.tuple #[.slice a' m' c',.int .u16 0])/\w'.ownsRow w.heap.size 5 1 (.slice a' m' c') m' (z0c (z5a series ck pb pc cnt closed l.length b))/\m'=(z5a series ck pb pc cnt closed l.length b).length/\Below w.heap.size w w':=by
 obtain⟨i0,b3,b6,b7,b8⟩:=oq y4Y;have aT:l.length<=4000:=by have:=h.bits.len;have:=h.len;omega
 have aM:=z7 (fun w' (h':z0r w' a n c l b)=>y8N series ck pb pc cnt closed a n c l b w' h' wF);rw[wQ hm]at aM;obtain⟨N,hN⟩:=zN l.length;rw[<-hN]at aM aT ⊢;have bH:n<=500:=hm.2.2;have H:=z7 h;have aD:=z7 ((Loc.start w).new (.cells #[.int .u8 4,.int .u32 0,.int .u32 series,.int .i64 0,.int .u64 0,.int .u32 ck,.int .u32 pb,.int .u32 pc,.int .u32 cnt,.bool closed,.slice a n c,.int .i64 (N:Nat)] 92));clear h hN hm;go_enter func42,ntmps42;go_wp2_with fail;refine(aM.o _ (H.o.low aD.o.low)).mono ?_;rintro e w2 ⟨rfl,b2⟩;have U:=z7 (aD.o.call b2);clear b2;have a8:Hid (∀w':World,w'.heap[w.heap.size]? =w2.heap[w.heap.size]? ->w'.cell? ⟨w.heap.size,0,none⟩=some (.int .u8 4)/\w'.cell? ⟨w.heap.size,1,none⟩=some (.int .u32 0)/\w'.cell? ⟨w.heap.size,2,none⟩=some (.int .u32 series)/\w'.cell? ⟨w.heap.size,3,none⟩=some (.int .i64 0)/\w'.cell? ⟨w.heap.size,4,none⟩=some (.int .u64 0)/\w'.cell? ⟨w.heap.size,5,none⟩=some (.int .u32 ck)/\w'.cell? ⟨w.heap.size,6,none⟩=some (.int .u32 pb)/\w'.cell? ⟨w.heap.size,7,none⟩=some (.int .u32 pc)/\w'.cell? ⟨w.heap.size,8,none⟩=some (.int .u32 cnt)/\w'.cell? ⟨w.heap.size,9,none⟩=some (.bool closed)/\w'.cell? ⟨w.heap.size,10,none⟩=some (.slice a n c)/\w'.cell? ⟨w.heap.size,11,none⟩=some (.int .i64 (N:Nat))):=z7 fun w' e=>by
  have hg:=e.trans (U.o.get 0 rfl);refine⟨?_,?_,?_,?_,?_,?_,?_,?_,?_,?_,?_,?_⟩<;>simp[World.cell?,hg]
 obtain⟨c0,c1,c2,c3,c4,c5,c6,c7,c8,c9,J,L⟩:=a8.o w2 rfl;have l0:=U.o.lt 0 rfl;go_upto_region 5 with fail
 obtain⟨W3,b1,b0⟩:=(((U.o.new (.cells #[.int .u8 4] 5)).new' (.cells #[.slice (some ⟨w2.heap.size,0,none⟩) 1 1] 191) (n:=w2.heap.size+1) wH).new' (.cells #[.int .u32 ck,.int .u32 pb,.int .u32 pc] 45) (n:=w2.heap.size+1+1) wH).named;rw[<-b1];have aC:=z7 b0;clear b0 b1 c0 c1 c2 c3 c4 c5 c6 c7 c8 c9 J L;obtain⟨q,hq⟩:=zN (w2.heap.size+1);have aU:Hid (∀w':World,w'.heap[w.heap.size]? =W3.heap[w.heap.size]? ->w'.heap[w.heap.size]? =w2.heap[w.heap.size]?):=z7 fun w' e=>e.trans ((aC.o.get 3 rfl).trans (U.o.get 0 rfl).symm);obtain⟨c0,c1,c2,c3,c4,c5,c6,c7,c8,c9,J,L⟩:=a8.o W3 (aU.o W3 rfl);obtain⟨p0,p1,p2,pf⟩:=cells3 (aC.o.get 0 rfl);have l2:=aC.o.lt 0 rfl;have bB:Hid (y3k w [(w.heap.size,.cells #[.int .u8 4,.int .u32 0,.int .u32 series,.int .i64 0,.int .u64 0,.int .u32 ck,.int .u32 pb,.int .u32 pc,.int .u32 cnt,.bool closed,.slice a n c,.int .i64 (N:Nat)] 92 (0,0)),(W3.heap.size,.cells (q4Z [series,ck,pb,pc,cnt]) 40 (0,0))] (W3.alloc (.cells (q4Z [series,ck,pb,pc,cnt]) 40)) (w2.heap.size+1) [4]):=z7 (by
  have aF:=aC.o.new (.cells (q4Z [series,ck,pb,pc,cnt]) 40);have bE:=aC.o.ge 2 rfl;refine⟨some ⟨w2.heap.size,0,none⟩,1,1,aF.get 2 rfl,⟨rfl,.inr ⟨w2.heap.size,1,#[.int .u8 4],rfl,bE,aF.get 3 rfl,wJ _,wG,rfl,rfl⟩⟩,rfl,fun e=>?_,wF,aF.low,fun p hp=>?_⟩
  .simp only[Value.ownBlock,wK]at e;omega
  simp only[wy,ou,kg]at hp;rcases hp with rfl|rfl
  .exact⟨aF.get 4 rfl,by simp only;omega,fun e=>by simp only[Value.ownBlock,wK]at e;omega⟩
  exact⟨aF.get 0 rfl,by simp only;omega,fun e=>by simp only[Value.ownBlock,wK]at e;omega⟩)
 have b5:∀x∈ [series,ck,pb,pc,cnt],x<4294967296:=fun x hx=>by
  simp only[wy,ou,kg]at hx;rcases hx with rfl|rfl|rfl|rfl|rfl<;>assumption
 have b9:=z7 (y9a (w2.heap.size+1) W3.heap.size [series,ck,pb,pc,cnt] [4] w _ _ bB.o wH b5 wH wH);clear hq b5;go_wp2_with fail;refine b9.o.mono ?_;rintro e w5 ⟨rfl,h5⟩;have H5:=z7 h5;obtain⟨a5,m5,bM,aL⟩:=h5;have b4:=(aL.kept _ uK).1;clear c0 c1 c2 c3 c4 c5 c6 c7 c8 c9 J L p0 p1 p2 pf;obtain⟨c0,c1,c2,c3,c4,c5,c6,c7,c8,c9,J,L⟩:=a8.o w5 (b4.trans (U.o.get 0 rfl).symm);clear b4 aL;have bT:IntKind.u64.wrap (N:Int)=(N:Int):=by rw[wq];omega
 have bS:IntKind.u64.wrap 1=1:=by rw[wq];rfl
 cases closed with
 | true=>
  have aN:=z7 (z6Y (w2.heap.size+1) 1 1 _ w _ w5 H5.o wG wG (by simp[z3k]));go_wp2_with fail;refine aN.o.mono ?_;rintro e w6 ⟨rfl,h6⟩;have H6:=z7 h6;obtain⟨a6,m6,bA,aA⟩:=h6;have aG:=(aA.kept _ uK).1;clear c0 c1 c2 c3 c4 c5 c6 c7 c8 c9 J L aA;obtain⟨c0,c1,c2,c3,c4,c5,c6,c7,c8,c9,J,L⟩:=a8.o w6 (aG.trans (U.o.get 0 rfl).symm);have aO:=z7 (z6Y (w2.heap.size+1) N 2 _ w _ w6 H6.o wF wG (by simp[z3k,z2q]));clear aG;go_wp2_with fail;refine aO.o.mono ?_;rintro e w7 ⟨rfl,h7⟩;obtain⟨a7,m7,Y,a1⟩:=h7;have a4:=(a1.kept _ uK).1;have a9:=z7 a1;clear c0 c1 c2 c3 c4 c5 c6 c7 c8 c9 J L;obtain⟨c0,c1,c2,c3,c4,c5,c6,c7,c8,c9,J,L⟩:=a8.o w7 (a4.trans (U.o.get 0 rfl).symm);go_wp2_with fail;obtain⟨B7,a3⟩:=zN ( [4]++z8O [series,ck,pb,pc,cnt]++beN 1 1++beN N 2);have A:=a9;rw[<-a3]at A;have aH:Hid (z5a series ck pb pc cnt true N b=B7++b):=z7 (by unfold z5a;rw[a3];rfl);have aW:B7.length<=100:=by rw[a3];simp[z3k,z2q]
  have bG:m7<=100:=by have:=A.o.len;omega
  have aY:=(wI.1 A.o.blk).1;have aZ:=(wI.1 a4).1;have bC:b.length<=500:=by have:=H.o.len;omega
  have O:Hid (∀w',w7.grownBy w' (Value.slice a7 m7 Y).ownBlock->w'.heap[w2.heap.size+1]? =some (.cells #[.slice a7 m7 Y] 191 (0,0))):=z7 fun w' hg=>(hg.block _ aY (fun e=>A.o.far e.symm)).trans A.o.blk;have aX:Hid (∀w',w7.grownBy w' (Value.slice a7 m7 Y).ownBlock->w'.heap[w.heap.size]? =w2.heap[w.heap.size]?):=z7 fun w' hg=>(hg.block _ aZ (fun e=>(A.o.kept _ uK).2.2 e.symm)).trans (a4.trans (U.o.get 0 rfl).symm);have aJ:Hid (∀w',w7.grownBy w' (Value.slice a7 m7 Y).ownBlock->Rd w' (.slice a n c) 1 b.length (z0c b)):=z7 fun w' hg=>by
   have h1:=(H.o.low A.o.low).rd;by_cases h0:0<b.length
   .obtain⟨g,bJ,aS,_,bF⟩:=H.o.cell (j:=0) (by rw[H.o.len];exact h0);refine h1.keep fun k hk=>?_;rw[aS]at hk;simp only[Value.ownBlock,wK]at hk;subst hk;exact hg.block _ wF (fun e=>by have:=(A.o.row.lt _ e.symm).1;omega)
   have:b= []:=wT wF;subst this;refine⟨h1.1,h1.2.imp id ?_⟩;rintro⟨ad,c',e1,e2⟩;exact⟨ad,c',e1,fun j u hu=>by simp[z0c]at hu⟩
  clear a1 a9 a3 c0 c1 c2 c3 c4 c5 c6 c7 c8 c9 J L a4;refine q6 11 100 (fun D v w'=>ApN w.heap.size w7 (.slice a7 m7 Y) m7 b.length (z0c B7) (z0c b) 8 D v w') (ApN.start A.o.row) ?_;simp only[z0C];iterate 8 (refine q8.rl ?_ (fun D v w h=>⟨h.g,h.q,h.a⟩) (fun D v w' hD I=>?_) ?_;rotate_left;(obtain⟨x0,xf,xl⟩:=z0v (O.o w' I.g);obtain⟨c0,c1,c2,c3,c4,c5,c6,c7,c8,c9,J,L⟩:=a8.o w' (aX.o w' I.g);clear I hD;go_simp;try rfl);go_simp)
  refine q8.re (fun D v w' hD I=>?_) ?_
  .have hq:=z7 (I.q hD.self);have hg:=z7 I.g;have bI:=I.g.size;have aR:=z7 (aJ.o w' I.g);clear I hD;refine z3V _ _ 47 rfl w.heap.size 5 i0 (.int .u8 0) 1 1 underlying47 b3 b6 b7 b8 rfl wG _ m7 (z0c B7) rfl hq.o _ b.length (z0c b) rfl aR.o (z4X b) (by unfold maxLen;omega) wF wF ?_;intro v' w'' h1 h2 h3 h4;obtain⟨aa,ac,rfl⟩:=z1X h1;refine⟨_,rfl,⟨hg.o.trans h2,(fun e=>by rw[z1T]at e;cases e),fun _=>⟨aa,ac,z0q _ _ _,by rw[z0q];exact h1,by rw[z0q];exact h4.imp id fun e=>⟨_,e,hg.o.size⟩⟩⟩,trivial⟩
  go_simp;iterate 2 (refine q8.rl ?_ (fun D v w h=>⟨h.g,h.q,h.a⟩) (fun D v w' hD I=>?_) ?_;rotate_left;(obtain⟨x0,xf,xl⟩:=z0v (O.o w' I.g);clear I hD;go_simp;try rfl);go_simp)
  refine q8.fin (fun v w8 I=>?_);obtain⟨aa,ac,hv,a2,a0⟩:=I.a rfl;rw[hv]at a2 a0 ⊢;have aI:=O.o w8 I.g;obtain⟨x0,xf,xl⟩:=z0v aI;have aV:Hid (∀j,(Value.slice aa (m7+b.length) ac).ownBlock=some j->j≠w2.heap.size+1):=z7 fun j hj e=>by
   rcases a0 with e1|⟨g,e1,hg⟩
   .exact A.o.far (by rw[<-e1,hj,e])
   rw[hj]at e1;simp only[wK]at e1;omega
  have aE:=z7 a2;have aB:Hid (Below w.heap.size w w8):=z7 (A.o.low.grown I.g A.o.low.size (fun j hj=>(A.o.row.lt j hj).1));clear I hv a2 a0 aI;go_wp2;go_ret2;refine⟨aa,m7+b.length,ac,rfl,?_,?_,aB.o.setCell A.o.up _⟩
  .rw[aH.o,z3B];exact j7 aE.o fun j hj=>q7 (aV.o j hj)
  rw[aH.o,wP,A.o.len]
 | false=>
  have aN:=z7 (z6Y (w2.heap.size+1) 0 1 _ w _ w5 H5.o wG wG (by simp[z3k]));go_wp2_with fail;refine aN.o.mono ?_;rintro e w6 ⟨rfl,h6⟩;have H6:=z7 h6;obtain⟨a6,m6,bA,aA⟩:=h6;have aG:=(aA.kept _ uK).1;clear c0 c1 c2 c3 c4 c5 c6 c7 c8 c9 J L aA;obtain⟨c0,c1,c2,c3,c4,c5,c6,c7,c8,c9,J,L⟩:=a8.o w6 (aG.trans (U.o.get 0 rfl).symm);have aO:=z7 (z6Y (w2.heap.size+1) N 2 _ w _ w6 H6.o wF wG (by simp[z3k,z2q]));clear aG;go_wp2_with fail;refine aO.o.mono ?_;rintro e w7 ⟨rfl,h7⟩;obtain⟨a7,m7,Y,a1⟩:=h7;have a4:=(a1.kept _ uK).1;have a9:=z7 a1;clear c0 c1 c2 c3 c4 c5 c6 c7 c8 c9 J L;obtain⟨c0,c1,c2,c3,c4,c5,c6,c7,c8,c9,J,L⟩:=a8.o w7 (a4.trans (U.o.get 0 rfl).symm);go_wp2_with fail;obtain⟨B7,a3⟩:=zN ( [4]++z8O [series,ck,pb,pc,cnt]++beN 0 1++beN N 2);have A:=a9;rw[<-a3]at A;have aH:Hid (z5a series ck pb pc cnt false N b=B7++b):=z7 (by unfold z5a;rw[a3];rfl);have aW:B7.length<=100:=by rw[a3];simp[z3k,z2q]
  have bG:m7<=100:=by have:=A.o.len;omega
  have aY:=(wI.1 A.o.blk).1;have aZ:=(wI.1 a4).1;have bC:b.length<=500:=by have:=H.o.len;omega
  have O:Hid (∀w',w7.grownBy w' (Value.slice a7 m7 Y).ownBlock->w'.heap[w2.heap.size+1]? =some (.cells #[.slice a7 m7 Y] 191 (0,0))):=z7 fun w' hg=>(hg.block _ aY (fun e=>A.o.far e.symm)).trans A.o.blk;have aX:Hid (∀w',w7.grownBy w' (Value.slice a7 m7 Y).ownBlock->w'.heap[w.heap.size]? =w2.heap[w.heap.size]?):=z7 fun w' hg=>(hg.block _ aZ (fun e=>(A.o.kept _ uK).2.2 e.symm)).trans (a4.trans (U.o.get 0 rfl).symm);have aJ:Hid (∀w',w7.grownBy w' (Value.slice a7 m7 Y).ownBlock->Rd w' (.slice a n c) 1 b.length (z0c b)):=z7 fun w' hg=>by
   have h1:=(H.o.low A.o.low).rd;by_cases h0:0<b.length
   .obtain⟨g,bJ,aS,_,bF⟩:=H.o.cell (j:=0) (by rw[H.o.len];exact h0);refine h1.keep fun k hk=>?_;rw[aS]at hk;simp only[Value.ownBlock,wK]at hk;subst hk;exact hg.block _ wF (fun e=>by have:=(A.o.row.lt _ e.symm).1;omega)
   have:b= []:=wT wF;subst this;refine⟨h1.1,h1.2.imp id ?_⟩;rintro⟨ad,c',e1,e2⟩;exact⟨ad,c',e1,fun j u hu=>by simp[z0c]at hu⟩
  clear a1 a9 a3 c0 c1 c2 c3 c4 c5 c6 c7 c8 c9 J L a4;refine q6 11 100 (fun D v w'=>ApN w.heap.size w7 (.slice a7 m7 Y) m7 b.length (z0c B7) (z0c b) 8 D v w') (ApN.start A.o.row) ?_;simp only[z0C];iterate 8 (refine q8.rl ?_ (fun D v w h=>⟨h.g,h.q,h.a⟩) (fun D v w' hD I=>?_) ?_;rotate_left;(obtain⟨x0,xf,xl⟩:=z0v (O.o w' I.g);obtain⟨c0,c1,c2,c3,c4,c5,c6,c7,c8,c9,J,L⟩:=a8.o w' (aX.o w' I.g);clear I hD;go_simp;try rfl);go_simp)
  refine q8.re (fun D v w' hD I=>?_) ?_
  .have hq:=z7 (I.q hD.self);have hg:=z7 I.g;have bI:=I.g.size;have aR:=z7 (aJ.o w' I.g);clear I hD;refine z3V _ _ 47 rfl w.heap.size 5 i0 (.int .u8 0) 1 1 underlying47 b3 b6 b7 b8 rfl wG _ m7 (z0c B7) rfl hq.o _ b.length (z0c b) rfl aR.o (z4X b) (by unfold maxLen;omega) wF wF ?_;intro v' w'' h1 h2 h3 h4;obtain⟨aa,ac,rfl⟩:=z1X h1;refine⟨_,rfl,⟨hg.o.trans h2,(fun e=>by rw[z1T]at e;cases e),fun _=>⟨aa,ac,z0q _ _ _,by rw[z0q];exact h1,by rw[z0q];exact h4.imp id fun e=>⟨_,e,hg.o.size⟩⟩⟩,trivial⟩
  go_simp;iterate 2 (refine q8.rl ?_ (fun D v w h=>⟨h.g,h.q,h.a⟩) (fun D v w' hD I=>?_) ?_;rotate_left;(obtain⟨x0,xf,xl⟩:=z0v (O.o w' I.g);clear I hD;go_simp;try rfl);go_simp)
  refine q8.fin (fun v w8 I=>?_);obtain⟨aa,ac,hv,a2,a0⟩:=I.a rfl;rw[hv]at a2 a0 ⊢;have aI:=O.o w8 I.g;obtain⟨x0,xf,xl⟩:=z0v aI;have aV:Hid (∀j,(Value.slice aa (m7+b.length) ac).ownBlock=some j->j≠w2.heap.size+1):=z7 fun j hj e=>by
   rcases a0 with e1|⟨g,e1,hg⟩
   .exact A.o.far (by rw[<-e1,hj,e])
   rw[hj]at e1;simp only[wK]at e1;omega
  have aE:=z7 a2;have aB:Hid (Below w.heap.size w w8):=z7 (A.o.low.grown I.g A.o.low.size (fun j hj=>(A.o.row.lt j hj).1));clear I hv a2 a0 aI;go_wp2;go_ret2;refine⟨aa,m7+b.length,ac,rfl,?_,?_,aB.o.setCell A.o.up _⟩
  .rw[aH.o,z3B];exact j7 aE.o fun j hj=>q7 (aV.o j hj)
  rw[aH.o,wP,A.o.len]

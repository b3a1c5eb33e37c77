/-
  What a call may turn (Only), what stays as long as some blocks stay (Kept), and the blocks of a call's own where some old ones may be other (LocS).
-/
import Derived.Test.YtpocjegemokjgaaGreatDoorZHqSeANoCNoD
import Derived.Laws.StructEq
namespace Go.Proofs.YtpocjegemokjgaaGreatDoor
set_option linter.all false
set_option maxRecDepth 100000
set_option maxHeartbeats 12800000
open Go.RowKit
theorem y2Q{fn:Func}{t0:Tmp}(h:fn.results= #[.cell t0 45])(tmps:Array Value)(w:World)(Y:Nat)(A B I:Value)(h0:tmps.getD t0 undef= .pointer (some ⟨Y,0,none⟩))(J:w.heap[Y]? =some (.cells #[A,B,I] 45 (0,0)))(a0:([A,B,I].all Value.oneCell')=true):
  (results fn tmps).run Tryz.prog w= .ok (.agg #[A,B,I]) w:=by
 simp only[List.all_cons,List.all_nil,Bool.and_true,Bool.and_eq_true]at a0;have L:w.cell? ⟨Y,0,none⟩=some A:=by simp[World.cell?,J]
 have O:w.cell? ⟨Y,1,none⟩=some B:=by simp[World.cell?,J]
 have U:w.cell? ⟨Y,2,none⟩=some I:=by simp[World.cell?,J]
 simp only[Array.getD_eq_getD_getElem?]at h0;simp[results,h,go_sem,L,O,U,h0]
abbrev z4z (p:Nat×Nat×Nat):Value:= .agg #[.int .u32 (p.1:Nat),.int .u32 (p.2.1:Nat),.int .u32 (p.2.2:Nat)]
structure z0t (S:Nat->Prop) (w w':World):Prop where
 os:w'.os=w.os
 tape:w'.tape=w.tape
 output:w'.output=w.output
 size:w.heap.size<=w'.heap.size
 block:∀k,k<w.heap.size->¬S k->w'.heap[k]? =w.heap[k]?
theorem z0t.of_below{S:Nat->Prop}{w w':World}(h:Below w.heap.size w w'):z0t S w w':=⟨h.os,h.tape,h.output,h.size,fun k A _=>h.block k A⟩
theorem z0t.refl(S:Nat->Prop)(w:World):z0t S w w:=z0t.of_below (Below.refl _ _)
theorem z0t.trans{S S':Nat->Prop}{a b c:World}(h:z0t S a b)(k:z0t S' b c)(J:∀i,S' i->S i\/a.heap.size<=i):z0t S a c:=
 ⟨k.os.trans h.os,k.tape.trans h.tape,k.output.trans h.output,Nat.le_trans h.size k.size,fun i B I=>(k.block i (Nat.lt_of_lt_of_le B h.size) fun e=>by
  rcases J i e with A|A
  ·exact I A
  ·omega).trans (h.block i B I)⟩
theorem z0t.mono{S S':Nat->Prop}{w w':World}(h:z0t S w w')(A:∀i,S i->S' i\/w.heap.size<=i):z0t S' w w':=(z0t.refl S' w).trans h A
theorem z0t.below{S:Nat->Prop}{w w':World}(h:z0t S w w'){B:Nat}(I:B<=w.heap.size)(A:∀k,S k->B<=k):Below B w w':=⟨h.os,h.tape,h.output,h.size,fun k J=>h.block k (by omega) fun e=>by have:=A k e;omega⟩
theorem z0t.grown{S:Nat->Prop}{w w':World}{row:Option Nat}(h:w.grownBy w' row)(I:∀k,row=some k->S k):z0t S w w':=⟨h.os,h.tape,h.output,h.size,fun k A B=>h.block k A fun e=>B (I k e.symm)⟩
theorem z0t.setCell{S:Nat->Prop}(w:World){a:Addr}(v:Value)(A:S a.block):z0t S w (w.setCell a v):=⟨rfl,rfl,rfl,by simp[World.setCell],fun k I B=>Below.heap_setCell _ _ _ _ (fun e=>B (by rw[e];exact A))⟩
def Kept(T:Nat->Prop)(w:World)(P:World->Prop):Prop:=∀w':World,(∀k,T k->w'.heap[k]? =w.heap[k]?)->P w'
theorem Kept.now{T:Nat->Prop}{w:World}{P:World->Prop}(h:Kept T w P):P w:=h w fun _ _=>rfl
theorem Kept.next{T:Nat->Prop}{w w':World}{P:World->Prop}(h:Kept T w P)(I:∀k,T k->w'.heap[k]? =w.heap[k]?):Kept T w' P:=fun J B=>h J fun k A=>(B k A).trans (I k A)
theorem Kept.mono{T A:Nat->Prop}{w:World}{P:World->Prop}(h:Kept T w P)(I:∀k,T k->A k):Kept A w P:=fun w' J=>h w' fun k B=>J k (I k B)
structure z0K (S:Nat->Prop) (w0:World) (K:List (Nat×Obj)) (w:World):Prop where
 low:z0t S w0 w
 blk:∀p∈K,w.heap[p.1]? =some p.2/\w0.heap.size<=p.1
 nodup:(K.map Prod.fst).Nodup
section
variable {S:Nat->Prop} {w0 w w':World} {K:List (Nat×Obj)}
theorem z0K.start(S:Nat->Prop)(w:World):z0K S w [] w:=⟨z0t.refl _ _,(fun p A=>by cases A),List.nodup_nil⟩
theorem z0K.of(h:Loc w0 K w):z0K S w0 K w:=⟨z0t.of_below h.low,h.blk,h.nodup⟩
theorem z0K.lts(h:z0K S w0 K w){p:Nat×Obj}(A:p∈K):p.1<w.heap.size:=(Array.getElem?_eq_some_iff.1 (h.blk p A).1).1
theorem z0K.cons(h:z0K S w0 K w){g:Nat}{o:Obj}(J:w.heap[g]? =some o)(B:w0.heap.size<=g)(O:∀p∈K,p.1≠g):z0K S w0 ((g,o)::K) w:=by
 refine⟨h.low,fun p A=>?_,?_⟩
 ·rcases List.mem_cons.1 A with rfl|A
  ·exact⟨J,B⟩
  ·exact h.blk p A
 ·rw[List.map_cons,List.nodup_cons];refine⟨fun L=>?_,h.nodup⟩;obtain⟨p,A,I⟩:=List.mem_map.1 L;exact O p A I
theorem z0K.go(h:z0K S w0 K w){S':Nat->Prop}(B:z0t S' w w')(I:∀k,S' k->S k\/w0.heap.size<=k)(J:∀p∈K,¬S' p.1):z0K S w0 K w':=
 ⟨h.low.trans B I,fun p A=>⟨(B.block p.1 (h.lts A) (J p A)).trans (h.blk p A).1,(h.blk p A).2⟩,h.nodup⟩
theorem z0K.call(h:z0K S w0 K w)(hb:Below w.heap.size w w'):z0K S w0 K w':=
 h.go (S':=fun _=>False) (z0t.of_below hb) (fun k A=>A.elim) (fun p B A=>A)
theorem z0K.turn(h:z0K S w0 K w)(I:z0t S w w')(B:∀k,S k->k<w0.heap.size):z0K S w0 K w':=
 h.go I (fun k A=> .inl A) (fun p J A=>by have:=B _ A;have:=(h.blk p J).2;omega)
theorem z0K.new(h:z0K S w0 K w)(o:Obj):z0K S w0 ((w.heap.size,o)::K) (w.alloc o):=
 (h.call (q5 w o)).cons (j8 _ _) h.low.size (fun p A=>by have:=h.lts A;omega)
theorem z0K.new'(h:z0K S w0 K w)(o:Obj){n:Nat}(A:n=w.heap.size):z0K S w0 ((n,o)::K) (w.alloc o):=by
 subst A;exact h.new o
theorem z0K.add(h:z0K S w0 K w)(hb:Below w.heap.size w w'){g:Nat}{o:Obj}(B:w'.heap[g]? =some o)(A:w.heap.size<=g):z0K S w0 ((g,o)::K) w':=
 (h.call hb).cons B (Nat.le_trans h.low.size A) (fun p I=>by have:=h.lts I;omega)
theorem z0K.named(h:z0K S w0 K w):∃W,W=w/\z0K S w0 K W:=⟨w,rfl,h⟩
theorem z0K.drew(h:z0K S w0 K w):z0K S w0 K w.drew:=⟨⟨h.low.os,h.low.tape,h.low.output,h.low.size,h.low.block⟩,h.blk,h.nodup⟩
theorem z0K.get(h:z0K S w0 K w)(i:Nat){b:Nat}{o:Obj}(A:K[i]? =some (b,o)):w.heap[b]? =some o:=(h.blk _ (List.mem_of_getElem? A)).1
theorem z0K.lt(h:z0K S w0 K w)(i:Nat){b:Nat}{o:Obj}(A:K[i]? =some (b,o)):b<w.heap.size:=h.lts (List.mem_of_getElem? A)
theorem z0K.ge(h:z0K S w0 K w)(i:Nat){b:Nat}{o:Obj}(A:K[i]? =some (b,o)):w0.heap.size<=b:=(h.blk _ (List.mem_of_getElem? A)).2
theorem z0K.set(h:z0K S w0 K w)(i:Nat){b:Nat}{cs:Array Value}{t:TypeId}{fr:Nat×Nat}(U:K[i]? =some (b,.cells cs t fr))(j:Nat)(v:Value):
  z0K S w0 (K.set i (b,.cells (cs.setIfInBounds j v) t fr)) (w.setCell ⟨b,j,none⟩ v):=by
 have Y:=List.mem_of_getElem? U;have B:i<K.length:=(List.getElem?_eq_some_iff.1 U).1;have L:K[i]=(b,Obj.cells cs t fr):=(List.getElem?_eq_some_iff.1 U).2;have I:(K.set i (b,Obj.cells (cs.setIfInBounds j v) t fr)).map Prod.fst=K.map Prod.fst:=by
  rw[List.map_set];have:(K.map Prod.fst)[i]'(by simpa using B)=b:=by rw[List.getElem_map,L]
  simp only[<-this,List.set_getElem_self]
 have O:=(h.blk _ Y).2;refine⟨h.low.trans (z0t.setCell (S:=fun k=>k=b) w v rfl) (fun k L=> .inr (by subst L;exact O)),fun p hp=>?_,by rw[I];exact h.nodup⟩;obtain⟨n,hn,A⟩:=List.getElem_of_mem hp;rw[List.length_set]at hn;rw[List.getElem_set]at A;split at A
 ·subst A;exact⟨z0a (h.blk _ Y).1 j v,(h.blk _ Y).2⟩
 ·rename_i a0;subst A;have J:K[n]∈K:=List.getElem_mem hn;have hb:K[n].1≠b:=fun e=>by
   have h1:=(List.getElem_inj (i:=n) (j:=i) (h₀:=by simpa using hn) (h₁:=by simpa using B) h.nodup).1 (by rw[List.getElem_map,List.getElem_map,L];exact e);omega
  exact⟨(q7 hb).trans (h.blk _ J).1,(h.blk _ J).2⟩
theorem z0K.put(h:z0K S w0 K w){b:Nat}(j:Nat)(v:Value)(B:S b)(I:b<w0.heap.size):z0K S w0 K (w.setCell ⟨b,j,none⟩ v):=
 h.go (S':=fun k=>k=b) (z0t.setCell w v rfl) (fun k A=>by subst A;exact .inl B) (fun p J A=>by have:=(h.blk p J).2;omega)
theorem z0K.old(h:z0K S w0 K w){b:Nat}(hb:b<w0.heap.size)(A:¬S b):w.heap[b]? =w0.heap[b]? :=h.low.block b hb A
end
def z5J(cs:Array Value):Nat->List Value->Array Value
 | _, []=>cs
 | j,v::vs=>z5J (cs.setIfInBounds j v) (j+1) vs
theorem z0K.puts0{S:Nat->Prop}{w0:World}(i:Nat){b:Nat}{t:TypeId}{fr:Nat×Nat}:∀(B:List Value) (j:Nat) (cs:Array Value) (K:List (Nat×Obj)) (w:World),z0K S w0 K w->K[i]? =some (b,.cells cs t fr)->z0K S w0 (K.set i (b,.cells (z5J cs j B) t fr)) (w.setCells b j B)
 | [],j,cs,K,w,h,hi=>by
  have:K.set i (b,Obj.cells (z5J cs j []) t fr)=K:=by
   obtain⟨I,A⟩:=List.getElem?_eq_some_iff.1 hi;rw[show z5J cs j []=cs from rfl,<-A,List.set_getElem_self]
  rw[this];exact h
 | v::B,j,cs,K,w,h,hi=>by
  have A:=z0K.puts0 i B (j+1) _ _ _ (h.set i hi j v) (z4E hi);rw[z1m]at A;exact A
theorem z0K.puts{S:Nat->Prop}{w0 w:World}{K:List (Nat×Obj)}(h:z0K S w0 K w)(i:Nat){b:Nat}{t:TypeId}{fr:Nat×Nat}(A:List Value)(j:Nat)(cs:Array Value)(B:K[i]? =some (b,.cells cs t fr)):z0K S w0 (K.set i (b,.cells (z5J cs j A) t fr)) (w.setCells b j A):=z0K.puts0 i A j cs K w h B
theorem z0t.setCells{S:Nat->Prop}{b:Nat}(B:S b):∀(A:List Value) (j:Nat) (w:World),z0t S w (w.setCells b j A)
 | [],j,w=>z0t.refl _ _
 | v::A,j,w=>(z0t.setCell (a:=⟨b,j,none⟩) w v B).trans (z0t.setCells B A (j+1) _) fun _ h=> .inl h
def setAll(xs:List Value):Nat->List Value->List Value
 | _, []=>xs
 | j,v::vs=>setAll (xs.set j v) (j+1) vs
theorem z8H:∀(B A C:List Value),C.length=B.length->setAll (A++C) A.length B=A++B
 | [],A,C,h=>by rw[List.eq_nil_of_length_eq_zero h];rfl
 | v::B,A,c::C,h=>by
  show setAll ((A++c::C).set A.length v) (A.length+1) B=A++v::B;have J:(A++c::C).set A.length v=(A++ [v])++C:=by rw[List.set_append_right _ _ (Nat.le_refl _),Nat.sub_self,List.set_cons_zero,List.append_assoc];rfl
  have I:=z8H B (A++ [v]) C (by simpa using h);rw[List.length_append,List.length_singleton]at I;rw[J,I,List.append_assoc];rfl
theorem z6E{base e size g cap n:Nat}:∀(A:List Value) (j:Nat) (B:List Value) (w:World),w.ownsRow base e size (.slice (some ⟨g,0,none⟩) n cap) n B->(w.setCells g j A).ownsRow base e size (.slice (some ⟨g,0,none⟩) n cap) n (setAll B j A)
 | [],j,B,w,h=>h
 | v::A,j,B,w,h=>z6E A (j+1) _ _ (h.stored j v).1
theorem z1w{b k:Nat}(h:k≠b):∀(A:List Value) (j:Nat) (w:World),(w.setCells b j A).heap[k]? =w.heap[k]?
 | [],j,w=>rfl
 | v::A,j,w=>(z1w h A (j+1) _).trans (q7 h)
theorem size_setCells{b:Nat}:∀(A:List Value) (j:Nat) (w:World),(w.setCells b j A).heap.size=w.heap.size
 | [],j,w=>rfl
 | v::A,j,w=>(size_setCells A (j+1) _).trans (by simp[World.setCell])
section
variable {P:Program} {w:World} {a:Act} {op:Oper} {K:Act->World->Prop} {Q:Exit->Act->World->Prop}
theorem y0y(g o j:Nat):(⟨g,o,none⟩:Addr).add j=⟨g,o+j,none⟩:=by unfold Addr.add;split<;>simp_all
def z7t:TypeDesc->Bool
 | .struct _ | .array _ _=>true
 | _=>false
theorem z7j(w:World)(g o:Nat)(ty:TypeId)(A:Array Value)(L:∀j v,A[j]? =some v->w.cell? ⟨g,o+j,none⟩=some v)
  (Y:(P.underlying ty).map z7t=some true) (I:(P.info? ty).map (·.size)=some A.size):(loadVar ty ⟨g,o,none⟩).run P w= .ok (.agg A) w:=by
 have J:(loadCells ⟨g,o,none⟩ A.toList.length).run P w= .ok A.toList.toArray w:=
  run_loadCells_list (P:=P) w ⟨g,o,none⟩ A.toList (fun j v hv=>by rw[y0y];exact L j v (by simpa using hv))
 obtain⟨d,hd,O⟩:=Option.map_eq_some_iff.1 Y;cases hq:P.info? ty with
 | none=>simp[hq]at I
 | some i=>
  have U:i.size=A.size:=by simpa[hq]using I
  have B:(isAgg ty).run P w= .ok true w:=by
   unfold isAgg;rw[Sem.run_bind,run_underlying hd w];cases d<;>simp_all [z7t]
  simp only[Array.length_toList,Array.toArray_toList]at J;simp[loadVar,Sem.run_bind,B,sizeOf,typeInfo,hq,U,J]
theorem y0j(w:World)(g o:Nat)(ty:TypeId)(A:Array Value)(J:∀j,j<A.size->(w.cell? ⟨g,o+j,none⟩).isSome=true)(L:∀j,w.frozen? ⟨g,j,none⟩=false)
  (B:(P.info? ty).map (·.size)=some A.size) (I:A.all (·.oneCell')=true):(storeVar ty ⟨g,o,none⟩ (.agg A)).run P w= .ok () (w.setCells g o A.toList):=by
 have:=run_storeCells_cells (P:=P) g o A.toList 0 w (fun j O=>by simpa using J j (by simpa using O)) (fun j _=>L _) (fun v Y=>(Array.all_eq_true_iff_forall_mem.1 I) v (by simpa using Y));simp only[Nat.add_zero]at this;cases hq:P.info? ty with
 | none=>simp[hq]at B
 | some i=>
  have U:A.size=i.size:=by simp[hq]at B;omega
  simp[storeVar,sizeOf,typeInfo,hq,Value.cells,U,this]
theorem z1o{ρ:Operand->Value}(ty:TypeId)(x:Operand)(J:op.op= .load ty x)(g o:Nat)(O:ρ x= .pointer (some ⟨g,o,none⟩))(A:Array Value)(B:∀j v,A[j]? =some v->w.cell? ⟨g,o+j,none⟩=some v)
  (L:(P.underlying ty).map z7t=some true) (I:(P.info? ty).map (·.size)=some A.size):(execOp ρ op).run P w= .ok (.value (.agg A)) w:=by
 unfold execOp;simp only[J,O,Instr.loadAt,Instr.sureAddr,Sem.run_bind,Sem.run_pure,Result.andThen_ok,z7j w g o ty A B L I]
theorem y6z(ty:TypeId)(x:Operand)(J:op.op= .load ty x)(g o:Nat)(O:a.eval x= .pointer (some ⟨g,o,none⟩))(A:Array Value)(B:∀j v,A[j]? =some v->w.cell? ⟨g,o+j,none⟩=some v)
  (L:(P.underlying ty).map z7t=some true) (I:(P.info? ty).map (·.size)=some A.size) (h:K (a.put op.dst (.agg A)) w):op.wp P a w K Q:=by
 unfold Oper.wp;rw[z1o ty x J g o O A B L I];exact h
theorem z1P(ty:TypeId)(x y:Operand)(O:op.op= .store ty x y)(g o:Nat)(U:a.eval x= .pointer (some ⟨g,o,none⟩))(A:Array Value)(Y:a.eval y= .agg A)
  (I:∀j,j<A.size->(w.cell? ⟨g,o+j,none⟩).isSome=true) (J:∀j,w.frozen? ⟨g,j,none⟩=false) (L:(P.info? ty).map (·.size)=some A.size) (B:A.all (·.oneCell')=true)
  (h:K (a.put op.dst undef) (w.setCells g o A.toList)):op.wp P a w K Q:=by
 unfold Oper.wp execOp;simp only[O,U,Y,Instr.storeAt,Instr.sureAddr,Sem.run_bind,Sem.run_pure,Result.andThen_ok,y0j w g o ty A I J L B];exact h
theorem z0J{ops:Array Oper}{rest:List Oper}(B:op.guard=none)(ty:TypeId)(x:Operand)(O:op.op= .load ty x)(g o:Nat)(Y:a.eval x= .pointer (some ⟨g,o,none⟩))(A:Array Value)(J:∀j v,A[j]? =some v->w.cell? ⟨g,o+j,none⟩=some v)
  (U:(P.underlying ty).map z7t=some true) (L:(P.info? ty).map (·.size)=some A.size) (h:wpList P ops Q rest (a.put op.dst (.agg A)) w):wpList P ops Q (op::rest) a w:=
 wpList_plain B fun _ I=>y6z ty x O g o Y A J U L (I _ _ h)
theorem z0f{ops:Array Oper}{rest:List Oper}(B:op.guard=none)(ty:TypeId)(x y:Operand)(Y:op.op= .store ty x y)(g o:Nat)(hx:a.eval x= .pointer (some ⟨g,o,none⟩))(A:Array Value)(hy:a.eval y= .agg A)
  (L:∀j,j<A.size->(w.cell? ⟨g,o+j,none⟩).isSome=true) (O:∀j,w.frozen? ⟨g,j,none⟩=false) (U:(P.info? ty).map (·.size)=some A.size) (I:A.all (·.oneCell')=true)
  (h:wpList P ops Q rest (a.put op.dst undef) (w.setCells g o A.toList)):wpList P ops Q (op::rest) a w:=
 wpList_plain B fun _ J=>z1P ty x y Y g o hx A hy L O U I (J _ _ h)
theorem z1X{g:Nat}{cs:Array Value}{t:TypeId}{fr:Nat×Nat}(h:w.heap[g]? =some (.cells cs t fr)):∀j v,cs[j]? =some v->w.cell? ⟨g,0+j,none⟩=some v:=fun j v A=>by
 rw[Nat.zero_add,cell_of_row w g j cs t fr h];exact A
end
section
variable {P:Program} {w:World} {a:Act} {o:Oper} {Q:Exit->Act->World->Prop}
theorem z1H{ops:Array Oper}{rest:List Oper}(a0:o.guard=none)(s x:Operand)(t:TypeId)
  (ho:o.op= .call {callee:= .builtin .append,args:= #[s,x],argTypes:= #[t,t]})
  (base:Nat) (e:TypeId) (i:TypeInfo) (z:Value) (size bytes:Nat) (ht:P.underlying t=some (.slice e)) (hi:P.info? e=some i) (hz:i.zero=some z)
  (I:i.size=size) (Y:i.bytes=bytes) (a3:z.cells.size=size) (a2:0<size)
  (L:Option Addr) (n cap:Nat) (xs:List Value) (hs:a.eval s= .slice L n cap) (O:w.ownsRow base e size (.slice L n cap) n xs)
  (xv:Value) (m:Nat) (news:List Value) (hx:a.eval x=xv) (a1:Rd w xv size m news) (hm:0<m) (h1:∀u∈news,u.oneCell'=true)
  (U:n+m<=maxLen) (A:(n+m)*bytes<=140737488355328) (B:base<=w.heap.size)
  (h:∀g' c' w',w'.ownsRow base e size (.slice (some ⟨g',0,none⟩) (n+m) c') (n+m) (xs++news)->w.grownBy w' (Value.slice L n cap).ownBlock->((Value.slice L n cap).ownBlock=some g'\/g'=w.heap.size)->wpList P ops Q rest (a.put o.dst (.slice (some ⟨g',0,none⟩) (n+m) c')) w'):wpList P ops Q (o::rest) a w:=by
 refine z1V a0 s x t ho base e i z size bytes ht hi hz I Y a3 a2 (.slice L n cap) n xs hs O xv m news hx a1 h1 U A B fun v' w' h2 h3 h4 J=>?_;obtain⟨g',c',rfl, -⟩:=z2z h2 (fun e=>by have:=(h4.1 e).2;omega);refine h g' c' w' h2 h3 ?_;rcases J with J|J
 ·exact .inl J.symm
 ·simp only[Value.ownBlock,Option.some.injEq]at J;exact .inr J
end
theorem z0G{P:Program}{c:Code}{Q:Exit->Act->World->Prop}{a:Act}{w w':World}(e:w'=w)(h:c.wp P Q a w'):c.wp P Q a w:=e▸h
theorem z8L{P:Program}{ops:Array Oper}{l:List Oper}{Q:Exit->Act->World->Prop}{a:Act}{w w':World}(e:w'=w)(h:wpList P ops Q l a w'):wpList P ops Q l a w:=e▸h
theorem y0L:∀(A:List Value) (j:Nat) (cs:List Value),j+A.length<=cs.length->z5J cs.toArray j A=(cs.take j++A++cs.drop (j+A.length)).toArray
 | [],j,cs,h=>by simp[z5J]
 | v::A,j,cs,h=>by
  simp only[List.length_cons]at h ⊢;show z5J (cs.toArray.setIfInBounds j v) (j+1) A=_;rw[List.setIfInBounds_toArray,y0L A (j+1) (cs.set j v) (by rw[List.length_set];omega)]
  congr 1
  rw[List.drop_set_of_lt (by omega),List.take_add_one,List.take_set_of_le (by omega),List.getElem?_set_self (by omega)];rw[show j+1+A.length=j+(A.length+1) by omega];simp
theorem z0K.lay{S:Nat->Prop}{w0 w:World}{K K':List (Nat×Obj)}(i:Nat){b:Nat}{t:TypeId}{fr:Nat×Nat}{cs B:List Value}(h:z0K S w0 K w)(j:Nat)(A:List Value)(L:K[i]? =some (b,.cells cs.toArray t fr))(O:Nat.ble (j+A.length) cs.length=true)
  (I:B=cs.take j++A++cs.drop (j+A.length)) (J:K'=K.set i (b,.cells B.toArray t fr)):z0K S w0 K' (w.setCells b j A):=by
 have:=z0K.puts0 i A j _ K w h L;rw[y0L A j cs (Nat.le_of_ble_eq_true O),<-I,<-J]at this;exact this
theorem z2P{P:Program}{ops:Array Oper}{rest:List Oper}{o:Oper}{a:Act}{w:World}{Q:Exit->Act->World->Prop}(B:Region.wanted o (yielded ops a.tmps)=true)(e:Value)(I:(execOp a.eval o).run P w= .ok (.value e) w)
  (h:wpList P ops Q rest (a.put o.dst e) w):wpList P ops Q (o::rest) a w:=
 wpList_step fun K A=>by
  rw[if_pos B];unfold Oper.wp;rw[I];exact A _ _ h
theorem z4G{o:Oper}{w:World}{ρ:Operand->Value}(x y:Operand)(ty:TypeId)(L:o.op= .binOp .eql 45 x y ty)(p q:Nat×Nat×Nat)(U:ρ x=z4z p)(Y:ρ y=z4z q)(r:Bool)(O:decide (p=q)=r):
  (execOp ρ o).run Tryz.prog w= .ok (.value (.bool r)) w:=by
 unfold execOp;simp only[L,U,Y];subst O;obtain⟨A,p2,p3⟩:=p;obtain⟨B,I,J⟩:=q;by_cases h1:A=B
 ·by_cases h2:p2=I
  ·by_cases h3:p3=J
   ·subst h1 h2 h3;simp[go_sem]
   ·have:¬(p3:Int)=J:=(by omega);simp[go_sem,h1,h2,h3,this]
  ·have:¬(p2:Int)=I:=(by omega);simp[go_sem,h1,h2,this]
 ·have:¬(A:Int)=B:=by omega
  simp[go_sem,h1,this]
theorem z3K{o:Oper}{w:World}{ρ:Operand->Value}(x y:Operand)(ty:TypeId)(L:o.op= .binOp .neq 45 x y ty)(p q:Nat×Nat×Nat)(U:ρ x=z4z p)(Y:ρ y=z4z q)(r:Bool)(O:decide (p≠q)=r):
  (execOp ρ o).run Tryz.prog w= .ok (.value (.bool r)) w:=by
 unfold execOp;simp only[L,U,Y];subst O;obtain⟨A,p2,p3⟩:=p;obtain⟨B,I,J⟩:=q;by_cases h1:A=B
 ·by_cases h2:p2=I
  ·by_cases h3:p3=J
   ·subst h1 h2 h3;simp[go_sem]
   ·have:¬(p3:Int)=J:=(by omega);simp[go_sem,h1,h2,h3,this]
  ·have:¬(p2:Int)=I:=(by omega);simp[go_sem,h1,h2,this]
 ·have:¬(A:Int)=B:=by omega
  simp[go_sem,h1,this]
section
variable {P:Program} {fn:Func} {tmps:Array Value} {w:World}
theorem z8X{g:Nat}{A:Array Value}{t ty:TypeId}{fr:Nat×Nat}(B:w.heap[g]? =some (.cells A t fr))(J:(P.underlying ty).map z7t=some true)(I:(P.info? ty).map (·.size)=some A.size):(loadVar ty ⟨g,0,none⟩).run P w= .ok (.agg A) w:=z7j w g 0 ty A (z1X B) J I
theorem q4G{p:Tmp}{ty:TypeId}(h:fn.results= #[.cell p ty]){g:Nat}{B:Array Value}{t:TypeId}{fr:Nat×Nat}(L:tmps.getD p undef= .pointer (some ⟨g,0,none⟩))(I:w.heap[g]? =some (.cells B t fr))(O:(P.underlying ty).map z7t=some true)(J:(P.info? ty).map (·.size)=some B.size):
  (results fn tmps).run P w= .ok (.agg B) w:=by
 have A:tmps[p]?.getD undef= .pointer (some ⟨g,0,none⟩):=by simpa using L
 simp[results,h,A,asAddr,z8X I O J]
theorem y1n{p q:Tmp}{ty:TypeId}(h:fn.results= #[.cell p ty,.tmp q]){g:Nat}{B:Array Value}{t:TypeId}{fr:Nat×Nat}(L:tmps.getD p undef= .pointer (some ⟨g,0,none⟩))(I:w.heap[g]? =some (.cells B t fr))(O:(P.underlying ty).map z7t=some true)(J:(P.info? ty).map (·.size)=some B.size):
  (results fn tmps).run P w= .ok (.tuple #[.agg B,tmps.getD q undef]) w:=by
 have A:tmps[p]?.getD undef= .pointer (some ⟨g,0,none⟩):=by simpa using L
 simp[results,h,A,asAddr,z8X I O J]
theorem z4k{p q r s:Tmp}{ty:TypeId}(h:fn.results= #[.cell p ty,.tmp q,.tmp r,.tmp s]){g:Nat}{B:Array Value}{t:TypeId}{fr:Nat×Nat}(L:tmps.getD p undef= .pointer (some ⟨g,0,none⟩))(I:w.heap[g]? =some (.cells B t fr))(O:(P.underlying ty).map z7t=some true)(J:(P.info? ty).map (·.size)=some B.size):
  (results fn tmps).run P w= .ok (.tuple #[.agg B,tmps.getD q undef,tmps.getD r undef,tmps.getD s undef]) w:=by
 have A:tmps[p]?.getD undef= .pointer (some ⟨g,0,none⟩):=by simpa using L
 simp[results,h,A,asAddr,z8X I O J]
theorem y0z{p q r:Tmp}{ty A:TypeId}(h:fn.results= #[.cell p ty,.cell q A,.tmp r]){g g':Nat}{vs B:Array Value}{t t':TypeId}{fr J:Nat×Nat}(hp:tmps.getD p undef= .pointer (some ⟨g,0,none⟩))(hg:w.heap[g]? =some (.cells vs t fr))(hu:(P.underlying ty).map z7t=some true)(hi:(P.info? ty).map (·.size)=some vs.size)
  (Y:tmps.getD q undef= .pointer (some ⟨g',0,none⟩)) (L:w.heap[g']? =some (.cells B t' J)) (a0:(P.underlying A).map z7t=some true) (O:(P.info? A).map (·.size)=some B.size):
  (results fn tmps).run P w= .ok (.tuple #[.agg vs,.agg B,tmps.getD r undef]) w:=by
 have U:tmps[p]?.getD undef= .pointer (some ⟨g,0,none⟩):=by simpa using hp
 have I:tmps[q]?.getD undef= .pointer (some ⟨g',0,none⟩):=by simpa using Y
 simp[results,h,U,I,asAddr,z8X hg hu hi,z8X L a0 O]
end
theorem z0w{w:World}{g:Nat}{cs:Array Value}{t:TypeId}{fr:Nat×Nat}(h:w.heap[g]? =some (.cells cs t fr)){n:Nat}(B:n=cs.size):∀j,j<n->(w.cell? ⟨g,0+j,none⟩).isSome=true:=fun j A=>by
 subst B;rw[z1X h j cs[j] (by simp[A])];rfl
theorem z0y{w:World}{g:Nat}{cs:Array Value}{t:TypeId}(h:w.heap[g]? =some (.cells cs t (0,0))):∀j,w.frozen? ⟨g,j,none⟩=false:=fun j=>by simp[World.frozen?,h]
theorem z0K.toLoc{w0 w:World}{K:List (Nat×Obj)}(h:z0K (fun _=>False) w0 K w):Loc w0 K w:=⟨⟨h.low.os,h.low.tape,h.low.output,h.low.size,fun k A=>h.low.block k A fun e=>e⟩,h.blk,h.nodup⟩
theorem z4l{cs A:List Value}(h:cs.length=A.length):(laid cs 0 A).toArray=A.toArray:=by
 unfold laid;rw[List.take_zero,List.nil_append,Nat.zero_add,List.drop_eq_nil_of_le (by omega),List.append_nil]
theorem q1c{w:World}{g:Nat}{cs A:Array Value}{t:TypeId}{fr:Nat×Nat}(h:w.heap[g]? =some (.cells cs t fr))(e:cs=A):w.heap[g]? =some (.cells A t fr):=e▸h
theorem setCells_eq(b:Nat):∀(A:List Value) (o:Nat) (w:World),w.setCells b o A={w with heap:=(w.setCells b o A).heap}
 | [],_,_=>rfl
 | v::A,o,w=>by
  rw[World.setCells,setCells_eq b A (o+1) (w.setCell ⟨b,o,none⟩ v)];rfl
theorem z3x(w:World)(cs:Array Value)(t:TypeId)(A:List Value)(h:cs.size=A.length):(w.alloc (.cells cs t)).setCells w.heap.size 0 A=w.alloc (.cells A.toArray t):=by
 rw[setCells_eq];have B:((w.alloc (.cells cs t)).setCells w.heap.size 0 A).heap=(w.alloc (.cells A.toArray t)).heap:=by
  apply Array.ext_getElem?;intro j;by_cases e:j=w.heap.size
  ·subst e;rw[z0Q A 0 _ cs (j8 w _) (by omega),j8,z4l (by simpa using h)]
  ·rw[z0Z e];show(w.heap.push _)[j]? =(w.heap.push _)[j]?;rw[Array.getElem?_push,Array.getElem?_push,if_neg e,if_neg e]
 rw[B];rfl
theorem q4u{P:Program}{c:Code}{Q:Exit->Act->World->Prop}{a:Act}{w0 w:World}(hb:Below w0.heap.size w0 w)(h:∀w',Below w0.heap.size w0 w'->c.wp P Q a w'):c.wp P Q a w:=h w hb
structure AlS (W:World) (i:Nat) (ty:TypeId) (Z:Array Value) (D:Nat->Bool) (v:Nat->Value) (w':World):Prop where
 low:Below W.heap.size W w'
 made:D i=true->∃g,v i= .pointer (some ⟨g,0,none⟩)/\W.heap.size<=g/\w'.heap[g]? =some (.cells Z ty (0,0))
section
variable {W w' w'':World} {i:Nat} {ty:TypeId} {Z:Array Value} {D:Nat->Bool} {v:Nat->Value}
theorem AlS.start(W:World)(i:Nat)(ty:TypeId)(Z:Array Value):AlS W i ty Z (fun _=>false) (fun _=>undef) W.drew:=⟨(Below.refl _ _).drew,fun h=>by cases h⟩
theorem AlS.call(h:AlS W i ty Z D v w')(k:Nat)(J:k≠i)(hb:Below w'.heap.size w' w''):AlS W i ty Z (mark D k) v w'':=
 ⟨h.low.trans (hb.mono h.low.size),fun e=>by
  rw[q9 J]at e;obtain⟨g,B,I,A⟩:=h.made e;exact⟨g,B,I,(hb.block g (Array.getElem?_eq_some_iff.1 A).1).trans A⟩⟩
theorem AlS.make(h:AlS W i ty Z D v w'):AlS W i ty Z (mark D i) (z2O v i (.pointer (some ⟨w'.heap.size,0,none⟩))) (w'.alloc (.cells Z ty)):=
 ⟨h.low.trans ((q5 w' _).mono h.low.size),fun _=>⟨w'.heap.size,z0p _ _ _,h.low.size,j8 _ _⟩⟩
end
structure CsS (W:World) (n sz:Nat) (ty:TypeId) (y:Value) (R:Array Value->World->Prop) (D:Nat->Bool) (v:Nat->Value) (w':World):Prop where
 low:Below W.heap.size W w'
 c:D n=true->∃(p:Array Value) (F:Nat->Prop),v n= .tuple #[.agg p,y]/\p.size=sz/\p.all (·.oneCell')=true/\Kept F w' (R p)/\∀k,F k->W.heap.size<=k/\k<w'.heap.size/\(D (n+4)=true->v (n+4)≠ .pointer (some ⟨k,0,none⟩))
 m:D (n+1)=true->D n=true/\v (n+1)=v n
 e:D (n+2)=true->D n=true/\∀p,v n= .tuple #[.agg p,y]->v (n+2)= .agg p
 al:D (n+4)=true->∃g cs,v (n+4)= .pointer (some ⟨g,0,none⟩)/\W.heap.size<=g/\w'.heap[g]? =some (.cells cs ty (0,0))/\cs.size=sz/\(D (n+5)=true->v (n+2)= .agg cs)
section
variable {W w' w'':World} {n sz:Nat} {ty:TypeId} {y:Value} {R:Array Value->World->Prop} {D:Nat->Bool} {v:Nat->Value}
theorem CsS.start(W:World)(n sz:Nat)(ty:TypeId)(y:Value)(R:Array Value->World->Prop):CsS W n sz ty y R (fun _=>false) (fun _=>undef) W.drew:=
 ⟨(Below.refl _ _).drew,(fun h=>by cases h),(fun h=>by cases h),(fun h=>by cases h),fun h=>by cases h⟩
theorem CsS.other(h:CsS W n sz ty y R D v w')(k:Nat)(L:k≠n)(U:k≠n+1)(Y:k≠n+2)(O:k≠n+4)(h5:k≠n+5)(hb:Below w'.heap.size w' w''):CsS W n sz ty y R (mark D k) v w'':=by
 refine⟨h.low.trans (hb.mono h.low.size),fun e=>?_,fun e=>?_,fun e=>?_,fun e=>?_⟩
 ·rw[q9 L]at e;rw[q9 O];obtain⟨p,F,g1,g2,B,J,I⟩:=h.c e;exact⟨p,F,g1,g2,B,J.next fun k A=>hb.block k (I k A).2.1,fun k A=>⟨(I k A).1,Nat.lt_of_lt_of_le (I k A).2.1 hb.size,(I k A).2.2⟩⟩
 ·rw[q9 U]at e;rw[q9 L];exact h.m e
 ·rw[q9 Y]at e;rw[q9 L];exact h.e e
 ·rw[q9 O]at e;rw[q9 h5];obtain⟨g,cs,g1,g2,B,J⟩:=h.al e;exact⟨g,cs,g1,g2,(hb.block g (Array.getElem?_eq_some_iff.1 B).1).trans B,J⟩
theorem CsS.call(h:CsS W n sz ty y R D v w')(d:D n=false)(hb:Below w'.heap.size w' w'')(p:Array Value)(F:Nat->Prop)(Y:p.size=sz)(U:p.all (·.oneCell')=true)(O:Kept F w'' (R p))(B:∀k,F k->w'.heap.size<=k/\k<w''.heap.size):
  CsS W n sz ty y R (mark D n) (z2O v n (.tuple #[.agg p,y])) w'':=by
 refine⟨h.low.trans (hb.mono h.low.size),fun _=>⟨p,F,z0p _ _ _,Y,U,O,fun k I=>⟨Nat.le_trans h.low.size (B k I).1,(B k I).2,fun e=>?_⟩⟩,fun e=>?_,fun e=>?_,fun e=>?_⟩
 ·rw[q9 (by omega)]at e;rw[z0d (by omega)];obtain⟨g,cs,g1,g2,A,J⟩:=h.al e;rw[g1];intro L;simp only[Value.pointer.injEq,Option.some.injEq,Addr.mk.injEq,and_true]at L;have:=(Array.getElem?_eq_some_iff.1 A).1;have:=(B k I).1;omega
 ·rw[q9 (by omega)]at e;have:=(h.m e).1;rw[d]at this;cases this
 ·rw[q9 (by omega)]at e;have:=(h.e e).1;rw[d]at this;cases this
 ·rw[q9 (by omega)]at e;rw[q9 (by omega),z0d (by omega),z0d (by omega)];obtain⟨g,cs,g1,g2,A,J⟩:=h.al e;exact⟨g,cs,g1,g2,(hb.block g (Array.getElem?_eq_some_iff.1 A).1).trans A,J⟩
theorem CsS.move(h:CsS W n sz ty y R D v w')(d:D n=true):CsS W n sz ty y R (mark D (n+1)) (z2O v (n+1) (v n)) w':=by
 refine⟨h.low,fun e=>?_,fun _=>⟨by rw[q9 (by omega)];exact d,by rw[z0p,z0d (by omega)]⟩,fun e=>?_,fun e=>?_⟩
 ·rw[q9 (by omega),z0d (by omega),z0d (by omega)];exact h.c d
 ·rw[q9 (by omega)]at e;rw[q9 (by omega),z0d (by omega),z0d (by omega)];exact h.e e
 ·rw[q9 (by omega)]at e;rw[q9 (by omega),z0d (by omega),z0d (by omega)];exact h.al e
theorem CsS.ext(h:CsS W n sz ty y R D v w')(d:D n=true){p:Array Value}(U:v n= .tuple #[.agg p,y])(I:D (n+5)=false):CsS W n sz ty y R (mark D (n+2)) (z2O v (n+2) (.agg p)) w':=by
 refine⟨h.low,fun e=>?_,fun e=>?_,fun _=>⟨by rw[q9 (by omega)];exact d,fun q A=>?_⟩,fun e=>?_⟩
 ·rw[q9 (by omega),z0d (by omega),z0d (by omega)];exact h.c d
 ·rw[q9 (by omega)]at e;rw[q9 (by omega),z0d (by omega),z0d (by omega)];exact h.m e
 ·rw[z0d (by omega),U]at A;rw[z0p];simp only[Value.tuple.injEq]at A;have O:=congrArg (fun a:Array Value=>a[0]?) A;simpa using O
 ·rw[q9 (by omega)]at e;obtain⟨g,cs,g1,g2,J,L,Y⟩:=h.al e;refine⟨g,cs,by rw[z0d (by omega)];exact g1,g2,J,L,fun B=>?_⟩;rw[q9 (by omega),I]at B;cases B
theorem CsS.make(h:CsS W n sz ty y R D v w')(J:D (n+5)=false){Z:Array Value}(Y:Z.size=sz):CsS W n sz ty y R (mark D (n+4)) (z2O v (n+4) (.pointer (some ⟨w'.heap.size,0,none⟩))) (w'.alloc (.cells Z ty)):=by
 have hb:=q5 w' (.cells Z ty);refine⟨h.low.trans (hb.mono h.low.size),fun e=>?_,fun e=>?_,fun e=>?_,fun _=>⟨w'.heap.size,Z,z0p _ _ _,h.low.size,j8 _ _,Y,fun I=>?_⟩⟩
 ·rw[q9 (by omega)]at e;obtain⟨p,F,g1,g2,O,U,B⟩:=h.c e;refine⟨p,F,by rw[z0d (by omega)];exact g1,g2,O,U.next fun k A=>hb.block k (B k A).2.1,fun k A=>⟨(B k A).1,Nat.lt_of_lt_of_le (B k A).2.1 hb.size,fun _=>?_⟩⟩;rw[z0p];intro L;simp only[Value.pointer.injEq,Option.some.injEq,Addr.mk.injEq,and_true]at L;have:=(B k A).2.1;omega
 ·rw[q9 (by omega)]at e;rw[q9 (by omega),z0d (by omega),z0d (by omega)];exact h.m e
 ·rw[q9 (by omega)]at e;rw[q9 (by omega),z0d (by omega),z0d (by omega)];exact h.e e
 ·rw[q9 (by omega),J]at I;cases I
theorem CsS.store(h:CsS W n sz ty y R D v w')(d2:D (n+2)=true)(I:D (n+4)=true){g:Nat}(J:v (n+4)= .pointer (some ⟨g,0,none⟩)){p:Array Value}(hp:v (n+2)= .agg p)(L:p.size=sz):CsS W n sz ty y R (mark D (n+5)) v (w'.setCells g 0 p.toList):=by
 obtain⟨g',cs,g1,g2,U,g4,g5⟩:=h.al I;rw[J]at g1;simp only[Value.pointer.injEq,Option.some.injEq,Addr.mk.injEq,and_true]at g1;subst g1;have hb:∀k,k≠g->(w'.setCells g 0 p.toList).heap[k]? =w'.heap[k]? :=fun k A=>z0Z A _ _ _;have O:(w'.setCells g 0 p.toList).heap.size=w'.heap.size:=size_setCells _ _ _;have Y:=z0t.setCells (S:=fun k=>k=g) (b:=g) rfl p.toList 0 w';refine⟨h.low.trans (z0t.below Y h.low.size (fun k A=>by omega)),fun e=>?_,fun e=>?_,fun e=>?_,fun e=>?_⟩
 ·rw[q9 (by omega)]at e;obtain⟨p',F,k1,k2,k3,k4,B⟩:=h.c e;refine⟨p',F,k1,k2,k3,k4.next fun k A=>hb k fun e=>?_,fun k A=>⟨(B k A).1,by rw[O];exact(B k A).2.1,fun _=>(B k A).2.2 I⟩⟩;subst e;exact(B _ A).2.2 I J
 ·rw[q9 (by omega)]at e;rw[q9 (by omega)];exact h.m e
 ·rw[q9 (by omega)]at e;rw[q9 (by omega)];exact h.e e
 ·refine⟨g,p,J,g2,?_,L,fun _=>hp⟩;rw[z0Q p.toList 0 _ _ U (by simp;omega),z4l (by simp;omega)]
theorem CsS.value(h:CsS W n sz ty y R D v w')(k:Nat)(u:Value)(A:k≠n)(J:k≠n+1)(B:k≠n+2)(I:k≠n+4):CsS W n sz ty y R D (z2O v k u) w':=by
 refine⟨h.low,?_,?_,?_,?_⟩
 ·rw[z0d A,z0d I];exact h.c
 ·rw[z0d A,z0d J];exact h.m
 ·rw[z0d A,z0d B];exact h.e
 ·rw[z0d B,z0d I];exact h.al
end
structure CfS (W:World) (n sz:Nat) (y:Value) (R:Array Value->World->Prop) (g:Nat) (ty:TypeId) (C:List Value) (o:Nat) (D:Nat->Bool) (v:Nat->Value) (w':World):Prop where
 low:z0t (fun k=>k=g) W w'
 c:D n=true->∃(p:Array Value) (F:Nat->Prop),v n= .tuple #[.agg p,y]/\p.size=sz/\p.all (·.oneCell')=true/\Kept F w' (R p)/\∀k,F k->W.heap.size<=k/\k<w'.heap.size
 m:D (n+1)=true->D n=true/\v (n+1)=v n
 e:D (n+2)=true->D n=true/\∀p,v n= .tuple #[.agg p,y]->v (n+2)= .agg p
 b0:D (n+5)=false->w'.heap[g]? =some (.cells C.toArray ty (0,0))
 b1:D (n+5)=true->∃p:Array Value,v (n+2)= .agg p/\w'.heap[g]? =some (.cells (laid C o p.toList).toArray ty (0,0))
section
variable {W w' w'':World} {n sz g o:Nat} {ty:TypeId} {y:Value} {R:Array Value->World->Prop} {C:List Value} {D:Nat->Bool} {v:Nat->Value}
theorem CfS.start(h:W.heap[g]? =some (.cells C.toArray ty (0,0))):CfS W n sz y R g ty C o (fun _=>false) (fun _=>undef) W.drew:=
 ⟨⟨rfl,rfl,rfl,Nat.le_refl _,fun _ _ _=>rfl⟩,(fun h=>by cases h),(fun h=>by cases h),(fun h=>by cases h),(fun _=>h),fun h=>by cases h⟩
theorem CfS.glt(h:CfS W n sz y R g ty C o D v w'):g<w'.heap.size:=by
 cases hd:D (n+5)with
 | false=>exact(Array.getElem?_eq_some_iff.1 (h.b0 hd)).1
 | true=>obtain⟨p, -,A⟩:=h.b1 hd;exact(Array.getElem?_eq_some_iff.1 A).1
theorem CfS.other(h:CfS W n sz y R g ty C o D v w')(k:Nat)(I:k≠n)(U:k≠n+1)(Y:k≠n+2)(J:k≠n+5)(hb:Below w'.heap.size w' w''):CfS W n sz y R g ty C o (mark D k) v w'':=by
 refine⟨h.low.trans (S':=fun _=>False) (z0t.of_below hb) (fun _ A=>A.elim),fun e=>?_,fun e=>?_,fun e=>?_,fun e=>?_,fun e=>?_⟩
 ·rw[q9 I]at e;obtain⟨p,F,g1,g2,L,O,B⟩:=h.c e;exact⟨p,F,g1,g2,L,O.next fun k A=>hb.block k (B k A).2,fun k A=>⟨(B k A).1,Nat.lt_of_lt_of_le (B k A).2 hb.size⟩⟩
 ·rw[q9 U]at e;rw[q9 I];exact h.m e
 ·rw[q9 Y]at e;rw[q9 I];exact h.e e
 ·rw[q9 J]at e;exact(hb.block g h.glt).trans (h.b0 e)
 ·rw[q9 J]at e;obtain⟨p,k1,k2⟩:=h.b1 e;exact⟨p,k1,(hb.block g h.glt).trans k2⟩
theorem CfS.call(h:CfS W n sz y R g ty C o D v w')(d:D n=false)(hb:Below w'.heap.size w' w'')(p:Array Value)(F:Nat->Prop)(L:p.size=sz)(J:p.all (·.oneCell')=true)(I:Kept F w'' (R p))(B:∀k,F k->w'.heap.size<=k/\k<w''.heap.size):
  CfS W n sz y R g ty C o (mark D n) (z2O v n (.tuple #[.agg p,y])) w'':=by
 refine⟨h.low.trans (S':=fun _=>False) (z0t.of_below hb) (fun _ A=>A.elim),fun _=>⟨p,F,z0p _ _ _,L,J,I,fun k A=>⟨Nat.le_trans h.low.size (B k A).1,(B k A).2⟩⟩,fun e=>?_,fun e=>?_,fun e=>?_,fun e=>?_⟩
 ·rw[q9 (by omega)]at e;have:=(h.m e).1;rw[d]at this;cases this
 ·rw[q9 (by omega)]at e;have:=(h.e e).1;rw[d]at this;cases this
 ·rw[q9 (by omega)]at e;exact(hb.block g h.glt).trans (h.b0 e)
 ·rw[q9 (by omega)]at e;obtain⟨p,O,U⟩:=h.b1 e;exact⟨p,by rw[z0d (by omega)];exact O,(hb.block g h.glt).trans U⟩
theorem CfS.move(h:CfS W n sz y R g ty C o D v w')(d:D n=true):CfS W n sz y R g ty C o (mark D (n+1)) (z2O v (n+1) (v n)) w':=by
 refine⟨h.low,fun e=>?_,fun _=>⟨by rw[q9 (by omega)];exact d,by rw[z0p,z0d (by omega)]⟩,fun e=>?_,fun e=>?_,fun e=>?_⟩
 ·rw[z0d (by omega)];exact h.c d
 ·rw[q9 (by omega)]at e;rw[q9 (by omega),z0d (by omega),z0d (by omega)];exact h.e e
 ·rw[q9 (by omega)]at e;exact h.b0 e
 ·rw[q9 (by omega)]at e;rw[z0d (by omega)];exact h.b1 e
theorem CfS.ext(h:CfS W n sz y R g ty C o D v w')(d:D n=true){p:Array Value}(J:v n= .tuple #[.agg p,y])(B:D (n+5)=false):CfS W n sz y R g ty C o (mark D (n+2)) (z2O v (n+2) (.agg p)) w':=by
 refine⟨h.low,fun e=>?_,fun e=>?_,fun _=>⟨by rw[q9 (by omega)];exact d,fun q A=>?_⟩,fun e=>?_,fun e=>?_⟩
 ·rw[z0d (by omega)];exact h.c d
 ·rw[q9 (by omega)]at e;rw[q9 (by omega),z0d (by omega),z0d (by omega)];exact h.m e
 ·rw[z0d (by omega),J]at A;rw[z0p];simp only[Value.tuple.injEq]at A;have I:=congrArg (fun a:Array Value=>a[0]?) A;simpa using I
 ·rw[q9 (by omega)]at e;exact h.b0 e
 ·rw[q9 (by omega),B]at e;cases e
theorem CfS.store(h:CfS W n sz y R g ty C o D v w')(hg:g<W.heap.size)(d:D n=true)(L:D (n+5)=false){p:Array Value}(O:v (n+2)= .agg p)(B:o+p.size<=C.length):CfS W n sz y R g ty C o (mark D (n+5)) v (w'.setCells g o p.toList):=by
 have hb:∀k,k≠g->(w'.setCells g o p.toList).heap[k]? =w'.heap[k]? :=fun k A=>z0Z A _ _ _;have I:(w'.setCells g o p.toList).heap.size=w'.heap.size:=size_setCells _ _ _;refine⟨h.low.trans (z0t.setCells (S:=fun k=>k=g) rfl _ _ _) (fun _ A=> .inl A),fun e=>?_,fun e=>?_,fun e=>?_,fun e=>?_,fun _=>⟨p,O,?_⟩⟩
 ·obtain⟨p',F,U,Y,k3,k4,J⟩:=h.c d;refine⟨p',F,U,Y,k3,k4.next fun k A=>hb k fun e=>?_,fun k A=>⟨(J k A).1,by rw[I];exact(J k A).2⟩⟩;have:=(J k A).1;omega
 ·rw[q9 (by omega)]at e;rw[q9 (by omega)];exact h.m e
 ·rw[q9 (by omega)]at e;rw[q9 (by omega)];exact h.e e
 ·rw[z1L]at e;cases e
 ·rw[z0Q p.toList o _ _ (h.b0 L) (by simpa using B)]
end
structure z6a (W:World) (g1 g2:Nat) (t1 t2:TypeId) (C1 N1 C2 N2:Array Value) (a b:Nat) (D:Nat->Bool) (w':World):Prop where
 low:z0t (fun k=>k=g1\/k=g2) W w'
 b1:w'.heap[g1]? =some (.cells (if D a then N1 else C1) t1 (0,0))
 b2:w'.heap[g2]? =some (.cells (if D b then N2 else C2) t2 (0,0))
section
variable {W w' w'':World} {g1 g2:Nat} {t1 t2:TypeId} {C1 N1 C2 N2:Array Value} {a b:Nat} {D:Nat->Bool}
theorem z6a.start(A:W.heap[g1]? =some (.cells C1 t1 (0,0)))(B:W.heap[g2]? =some (.cells C2 t2 (0,0))):z6a W g1 g2 t1 t2 C1 N1 C2 N2 a b (fun _=>false) W.drew:=
 ⟨⟨rfl,rfl,rfl,Nat.le_refl _,fun _ _ _=>rfl⟩,A,B⟩
theorem z6a.other(h:z6a W g1 g2 t1 t2 C1 N1 C2 N2 a b D w')(k:Nat)(B:k≠a)(hb:k≠b)(A:Below w'.heap.size w' w''):z6a W g1 g2 t1 t2 C1 N1 C2 N2 a b (mark D k) w'':=
 ⟨h.low.trans (S':=fun _=>False) (z0t.of_below A) (fun _ I=>I.elim),by rw[q9 B];exact(A.block g1 (Array.getElem?_eq_some_iff.1 h.b1).1).trans h.b1,by rw[q9 hb];exact(A.block g2 (Array.getElem?_eq_some_iff.1 h.b2).1).trans h.b2⟩
theorem z6a.st1(h:z6a W g1 g2 t1 t2 C1 N1 C2 N2 a b D w')(J:g1≠g2)(B:a≠b)(L:C1.size=N1.size):z6a W g1 g2 t1 t2 C1 N1 C2 N2 a b (mark D a) (w'.setCells g1 0 N1.toList):=by
 have A:(if D a then N1 else C1).size=N1.size:=by split<;>simp[L]
 refine⟨h.low.trans (z0t.setCells (S:=fun k=>k=g1\/k=g2) (.inl rfl) _ _ _) (fun _ I=> .inl I),?_,?_⟩
 ·rw[z1L,z0Q N1.toList 0 _ _ h.b1 (by simp[A]),z4l (by simp[A])];simp
 ·rw[q9 B,z0Z (Ne.symm J)];exact h.b2
theorem z6a.st2(h:z6a W g1 g2 t1 t2 C1 N1 C2 N2 a b D w')(J:g1≠g2)(B:a≠b)(L:C2.size=N2.size):z6a W g1 g2 t1 t2 C1 N1 C2 N2 a b (mark D b) (w'.setCells g2 0 N2.toList):=by
 have A:(if D b then N2 else C2).size=N2.size:=by split<;>simp[L]
 refine⟨h.low.trans (z0t.setCells (S:=fun k=>k=g1\/k=g2) (.inr rfl) _ _ _) (fun _ I=> .inl I),?_,?_⟩
 ·rw[q9 (Ne.symm B),z0Z J];exact h.b1
 ·rw[z1L,z0Q N2.toList 0 _ _ h.b2 (by simp[A]),z4l (by simp[A])];simp
theorem z6a.size1(h:z6a W g1 g2 t1 t2 C1 N1 C2 N2 a b D w')(A:C1.size=N1.size):∀j,j<N1.size->(w'.cell? ⟨g1,0+j,none⟩).isSome=true:=z0w h.b1 (by split<;>simp[A])
theorem z6a.size2(h:z6a W g1 g2 t1 t2 C1 N1 C2 N2 a b D w')(A:C2.size=N2.size):∀j,j<N2.size->(w'.cell? ⟨g2,0+j,none⟩).isSome=true:=z0w h.b2 (by split<;>simp[A])
end
structure z6f (W:World) (g:Nat) (ty:TypeId) (C N:Array Value) (k:Nat) (D:Nat->Bool) (w':World):Prop where
 low:z0t (fun x=>x=g) W w'
 b:w'.heap[g]? =some (.cells (if D k then N else C) ty (0,0))
section
variable {W w' w'':World} {g:Nat} {ty:TypeId} {C N:Array Value} {k:Nat} {D:Nat->Bool}
theorem z6f.start(h:W.heap[g]? =some (.cells C ty (0,0))):z6f W g ty C N k (fun _=>false) W.drew:=⟨⟨rfl,rfl,rfl,Nat.le_refl _,fun _ _ _=>rfl⟩,h⟩
theorem z6f.other(h:z6f W g ty C N k D w')(j:Nat)(B:j≠k)(A:Below w'.heap.size w' w''):z6f W g ty C N k (mark D j) w'':=
 ⟨h.low.trans (S':=fun _=>False) (z0t.of_below A) (fun _ I=>I.elim),by rw[q9 B];exact(A.block g (Array.getElem?_eq_some_iff.1 h.b).1).trans h.b⟩
theorem z6f.set(h:z6f W g ty C N k D w')(d:D k=false)(o:Nat)(v:Value)(A:C.setIfInBounds o v=N):z6f W g ty C N k (mark D k) (w'.setCell ⟨g,o,none⟩ v):=by
 refine⟨h.low.trans (z0t.setCell (S:=fun x=>x=g) (a:=⟨g,o,none⟩) w' v rfl) (fun _ B=> .inl B),?_⟩;have hb:=h.b;rw[d]at hb;rw[z1L,z0a hb o v];simp[A]
theorem z6f.setAll(h:z6f W g ty C N k D w')(d:D k=false)(A:C.size=N.size):z6f W g ty C N k (mark D k) (w'.setCells g 0 N.toList):=by
 have hb:=h.b;rw[d]at hb;refine⟨h.low.trans (z0t.setCells (S:=fun x=>x=g) rfl _ _ _) (fun _ B=> .inl B),?_⟩;rw[z1L,z0Q N.toList 0 _ _ hb (by simp[A]),z4l (by simp[A])];simp
theorem z6f.lt(h:z6f W g ty C N k D w'):g<w'.heap.size:=(Array.getElem?_eq_some_iff.1 h.b).1
theorem z6f.cell(h:z6f W g ty C N k D w')(j:Nat){u:Value}(A:C[j]? =some u)(B:N[j]? =some u):w'.cell? ⟨g,j,none⟩=some u:=by
 have hb:=h.b;have e:(if D k then N else C)[j]? =Option.some u:=by split<;>assumption
 simpa[World.cell?,hb]using e
theorem z6f.frz(h:z6f W g ty C N k D w')(j:Nat):w'.frozen? ⟨g,j,none⟩=false:=z0y h.b j
theorem z6f.some(h:z6f W g ty C N k D w')(I:C.size=N.size){j:Nat}(B:j<N.size):(w'.cell? ⟨g,j,none⟩).isSome=true:=by
 have A:=z0w h.b (n:=N.size) (by split<;>simp[I]) j B
 rwa [Nat.zero_add]at A
end

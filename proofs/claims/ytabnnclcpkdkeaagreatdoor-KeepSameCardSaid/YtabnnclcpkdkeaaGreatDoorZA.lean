/- A region that draws its order. -/
import Derived.Test.YtabnnclcpkdkeaaGreatDoorRows
import Derived.WalkKit
import Derived.Orders
namespace Go.Proofs.YtabnnclcpkdkeaaGreatDoor
set_option linter.all false
set_option maxRecDepth 100000
set_option maxHeartbeats 0
open Go.RowKit
section
variable (P:Program) (ops:Array Oper) (S:World->Prop) (Ext:World->World->Prop)
def z1r(o:Oper)(j:Nat):Bool:=o.after.any fun e=>Region.binds .any e&&e.on==j
def z9a(a:Act)(o:Oper)(R:Value->World->Prop)(w:World):Prop:=
 Region.wanted o (yielded ops a.tmps)=true/\o.wp P a w (fun a' w'=>∃u,a'=a.put o.dst u/\R u w'/\Ext w w') (fun _ _ _=>False)
def q4D(a:Act)(o:Oper)(e:Value)(w:World):Prop:=
 (Region.wanted o (yielded ops a.tmps)=true/\(execOp a.eval o).run P w= .ok (.value e) w)\/(Region.wanted o (yielded ops a.tmps)=false/\e=undef)\/z9a P ops Ext a o (fun u _=>u=e) w
def Hav(Fin:Act->World->Prop):((Nat->Value)->Act)->List (Nat×(Value->World->Prop))->Nat->List Oper->Prop
 | fr,rels,_, []=>∀v w,S w->(∀p∈rels,p.2 (v p.1) w)->Fin (fr v) w
 | fr,rels,k,o::rest=>
  (∃e,(∀v w,S w->(∀p∈rels,z1r o p.1=true->p.2 (v p.1) w)->q4D P ops Ext (fr v) o e w)/\Hav Fin (fun v=>(fr v).put o.dst e) rels (k+1) rest)\/
  (∃R:Value->World->Prop,(∀u w w',Ext w w'->R u w->R u w')/\(∀v w,S w->(∀p∈rels,z1r o p.1=true->p.2 (v p.1) w)->z9a P ops Ext (fr v) o R w)/\
   Hav Fin (fun v=>(fr v).put o.dst (v k)) (rels++ [(k,R)]) (k+1) rest)
inductive Spec where
 | det (e:Value)
 | rel (R:Value->World->Prop)
def Spec.val:Spec->Value->Value
 | .det e,_=>e
 | .rel _,u=>u
def Spec.ok:Spec->Value->World->Prop
 | .det _,_,_=>True
 | .rel R,u,w=>R u w
def z1s(a0:Act)(sp:Nat->Spec):Nat->(Nat->Value)->Act
 | 0,_=>a0
 | i+1,v=>(z1s a0 sp i v).put ((ops[i]?).bind (·.dst)) ((sp i).val (v i))
theorem z1M{a0:Act}{sp sp':Nat->Spec}:∀(i:Nat) (v:Nat->Value),(∀j,j<i->sp j=sp' j)->z1s ops a0 sp i v=z1s ops a0 sp' i v
 | 0,_,_=>rfl
 | i+1,v,h=>by rw[z1s,z1s,z1M i v fun j A=>h j (by omega),h i (by omega)]
def q7i(a0:Act)(sp:Nat->Spec)(i:Nat):Prop:=
 ∀o,ops[i]? =some o->∀v w,S w->(∀j,j<i->z1r o j=true->(sp j).ok (v j) w)->
  (match sp i with
   | .det e=>q4D P ops Ext (z1s ops a0 sp i v) o e w
   | .rel R=>z9a P ops Ext (z1s ops a0 sp i v) o R w)
def q7p(sp:Nat->Spec)(i:Nat):Prop:=∀R,sp i= .rel R->∀u w w',Ext w w'->R u w->R u w'
theorem Hav.extract{Fin:Act->World->Prop}{a0:Act}(N:Nat):∀(rest:List Oper) (k:Nat) (fr:(Nat->Value)->Act) (rels:List (Nat×(Value->World->Prop))) (sp:Nat->Spec),
  (∀j,rest[j]? =if k+j<N then ops[k+j]? else none)->k+rest.length=N->(∀v,fr v=z1s ops a0 sp k v)->(∀p,p∈rels↔p.1<k/\sp p.1= .rel p.2)->Hav P ops S Ext Fin fr rels k rest->
  ∃sp':Nat->Spec,(∀j,j<k->sp' j=sp j)/\(∀i,k<=i->i<N->q7i P ops S Ext a0 sp' i/\q7p Ext sp' i)/\
   (∀v w,S w->(∀j,j<N->(sp' j).ok (v j) w)->Fin (z1s ops a0 sp' N v) w)
 | [],k,fr,rels,sp,hr,hk,hf,hrel,h=>by
  simp only[List.length_nil,Nat.add_zero]at hk;subst hk;refine⟨sp,fun _ _=>rfl,fun i h1 h2=>by omega,fun v w hS a3=>?_⟩;rw[<-hf];refine h v w hS fun p I=>?_;obtain⟨h1,h2⟩:=(hrel p).1 I;have:=a3 p.1 h1;rw[h2]at this;exact this
 | o::rest,k,fr,rels,sp,hr,hk,hf,hrel,h=>by
  simp only[List.length_cons]at hk;have ho:ops[k]? =some o:=by
   have:=hr 0;simp only[List.getElem?_cons_zero,Nat.add_zero]at this;rw[if_pos (by omega)]at this;exact this.symm
  have a1:∀j,rest[j]? =if k+1+j<N then ops[k+1+j]? else none:=fun j=>by
   have:=hr (j+1);simp only[List.getElem?_cons_succ]at this;rw[this,show k+(j+1)=k+1+j from by omega]
  rcases h with⟨e,h1,h2⟩|⟨R,hm,h1,h2⟩
  .obtain⟨sp',L,g2,g3⟩:=Hav.extract N rest (k+1) _ rels (fun j=>if j=k then .det e else sp j) a1 (by omega)
    (fun v=>by
     rw[z1s,hf,ho];simp only[if_true,Spec.val,Option.bind_some];rw[z1M ops k v (sp':=fun j=>if j=k then .det e else sp j) fun j hj=>by rw[if_neg (by omega)]])
    (fun p=>by
     rw[hrel];constructor
     .rintro⟨a,b⟩;exact⟨by omega,by rw[if_neg (by omega)];exact b⟩
     rintro⟨a,b⟩;by_cases I:p.1=k
     .rw[if_pos I]at b;cases b
     rw[if_neg I]at b;exact⟨by omega,b⟩) h2
   refine⟨sp',fun j hj=>by rw[L j (by omega),if_neg (by omega)],fun i a2 U=>?_,g3⟩;by_cases Y:i=k
   .subst Y;have A:sp' i= .det e:=(by rw[L i (by omega),if_pos rfl]);refine⟨?_,fun R O=>by rw[A]at O;cases O⟩;intro o' J v w hS hF;obtain rfl:o=o':=by rw[ho]at J;exact Option.some.inj J
    rw[A];simp only;have:=h1 v w hS fun p I ha=>by
     obtain⟨q1,q2⟩:=(hrel p).1 I;have:=hF p.1 q1 ha;rw[L p.1 (by omega),if_neg (by omega),q2]at this;exact this
    rw[hf,z1M ops i v (sp':=sp') fun j hj=>by rw[L j (by omega),if_neg (by omega)]]at this;exact this
   exact g2 i (by omega) U
  obtain⟨sp',L,g2,g3⟩:=Hav.extract N rest (k+1) _ _ (fun j=>if j=k then .rel R else sp j) a1 (by omega)
   (fun v=>by
    rw[z1s,hf,ho];simp only[if_true,Spec.val,Option.bind_some];rw[z1M ops k v (sp':=fun j=>if j=k then .rel R else sp j) fun j hj=>by rw[if_neg (by omega)]])
   (fun p=>by
    rw[List.mem_append,hrel];constructor
    .rintro(⟨a,b⟩|I)
     .exact⟨by omega,by rw[if_neg (by omega)];exact b⟩
     simp only[List.mem_singleton]at I;subst I;exact⟨by simp,by simp⟩
    rintro⟨a,b⟩;by_cases I:p.1=k
    .rw[if_pos I]at b
     injection b with b
     exact .inr (by obtain⟨p1,p2⟩:=p;simp only at I b;subst I;subst b;simp)
    rw[if_neg I]at b;exact .inl ⟨by omega,b⟩) h2
  refine⟨sp',fun j hj=>by rw[L j (by omega),if_neg (by omega)],fun i a2 U=>?_,g3⟩;by_cases Y:i=k
  .subst Y;have A:sp' i= .rel R:=(by rw[L i (by omega),if_pos rfl]);refine⟨?_,fun R' O=>by rw[A]at O;injection O with O;subst O;exact hm⟩;intro o' J v w hS hF;obtain rfl:o=o':=by rw[ho]at J;exact Option.some.inj J
   rw[A];simp only;have:=h1 v w hS fun p I ha=>by
    obtain⟨q1,q2⟩:=(hrel p).1 I;have:=hF p.1 q1 ha;rw[L p.1 (by omega),if_neg (by omega),q2]at this;exact this
   rw[hf,z1M ops i v (sp':=sp') fun j hj=>by rw[L j (by omega),if_neg (by omega)]]at this;exact this
  exact g2 i (by omega) U
inductive Reach:Nat->Nat->Prop where
 | base {k j:Nat} {o:Oper} (ho:ops[k]? =some o) (h:z1r o j=true):Reach k j
 | step {k m j:Nat} {o:Oper} (hr:Reach k m) (ho:ops[m]? =some o) (h:z1r o j=true):Reach k j
structure y2Q (n0:Nat):Prop where
 le:n0<=ops.size
 ahead:∀i o j,ops[i]? =some o->z1r o j=true->j<i
 uniq:∀i j d,i<n0->j<n0->(ops[i]?).bind (·.dst)=some d->(ops[j]?).bind (·.dst)=some d->i=j
 looks:∀i o,i<n0->ops[i]? =some o->∀t∈o.looksAt ops,∀j oj,j<n0->ops[j]? =some oj->oj.dst=some t->(j<i/\z1r o j=true)\/(i<j/\z1r oj i=true)
 nosel:Region.noSelect ops=true
 tail:∀k o,n0<=k->ops[k]? =some o->∀j,j<k->Reach ops k j
variable {P ops S Ext}
theorem z5g(a:Act)(d:Nat)(u:Value)(h:d<a.tmps.size):(a.put (some d) u).tmps.getD d undef=u:=by
 simp[Act.put,h]
theorem z6w(a:Act)(x:Option Tmp)(t:Nat)(u:Value)(h:x≠some t):(a.put x u).tmps.getD t undef=a.tmps.getD t undef:=by
 cases x with
 | none=>rfl
 | some d=>
  have A:d≠t:=fun e=>h (by rw[e]);simp[Act.put,Array.getElem?_setIfInBounds_ne A]
theorem y7R(a:Act)(x:Option Tmp)(u:Value):(a.put x u).tmps.size=a.tmps.size:=by cases x<;>simp[Act.put]
theorem z6J(a:Act)(x:Option Tmp)(u:Value):(a.put x u).defers=a.defers:=by cases x<;>rfl
structure Agree (a0:Act) (sp:Nat->Spec) (n0:Nat) (D:Nat->Prop) (v:Nat->Value) (a:Act):Prop where
 defers:a.defers=a0.defers
 size:a.tmps.size=a0.tmps.size
 done:∀j d,j<n0->D j->(ops[j]?).bind (·.dst)=some d->a.tmps.getD d undef=(sp j).val (v j)
 rest:∀t,(∀j,j<n0->D j->(ops[j]?).bind (·.dst)≠some t)->a.tmps.getD t undef=a0.tmps.getD t undef
theorem Agree.frame{a0:Act}{sp:Nat->Spec}{L:Nat}(O:y2Q ops L)(hd:∀j d,j<L->(ops[j]?).bind (·.dst)=some d->d<a0.tmps.size)(v:Nat->Value):
  ∀i,i<=L->Agree (ops:=ops) a0 sp L (·<i) v (z1s ops a0 sp i v)
 | 0,_=>⟨rfl,rfl,fun j d _ h _=>absurd h (Nat.not_lt_zero j),fun _ _=>rfl⟩
 | i+1,h=>by
  have J:=Agree.frame (sp:=sp) O hd v i (by omega);refine⟨by rw[z1s,z6J,J.defers],by rw[z1s,y7R,J.size],fun j d I N A=>?_,fun t R=>?_⟩
  .rw[z1s];by_cases e:j=i
   .subst e;rw[A,z5g _ _ _ (by rw[J.size];exact hd j d I A)]
   rw[z6w _ _ _ _ fun U=>e (O.uniq j i d I (by omega) A U)];exact J.done j d I (by omega) A
  rw[z1s,z6w _ _ _ _ (R i (by omega) (by omega))];exact J.rest t fun j I N=>R j I (by omega)
theorem Agree.eq{a0:Act}{sp:Nat->Spec}{L:Nat}{D:Nat->Prop}{v:Nat->Value}{a b:Act}(I:Agree (ops:=ops) a0 sp L D v a)(hb:Agree (ops:=ops) a0 sp L D v b):a=b:=by
 obtain⟨U,da⟩:=a;obtain⟨Y,db⟩:=b;have N:da=db:=I.defers.trans hb.defers.symm;have O:U=Y:=by
  apply Array.ext (I.size.trans hb.size.symm);intro t N O;have key:U.getD t undef=Y.getD t undef:=by
   by_cases h:∃j,j<L/\D j/\(ops[j]?).bind (·.dst)=some t
   .obtain⟨j,J,A,hd⟩:=h;exact(I.done j t J A hd).trans (hb.done j t J A hd).symm
   have R:∀j,j<L->D j->(ops[j]?).bind (·.dst)≠some t:=fun j J A hd=>h ⟨j,J,A,hd⟩;exact(I.rest t R).trans (hb.rest t R).symm
  simpa[N,O]using key
 subst N;subst O;rfl
theorem Agree.sees{a0:Act}{sp:Nat->Spec}{U:Nat}{D:Nat->Prop}{v:Nat->Value}{a:Act}(hc:y2Q ops U)(hd:∀j d,j<U->(ops[j]?).bind (·.dst)=some d->d<a0.tmps.size)
  (ha:Agree (ops:=ops) a0 sp U D v a) {i:Nat} {o:Oper} (hi:i<U) (ho:ops[i]? =some o) (a2:∀j,z1r o j=true->D j) (R:∀j N,ops[j]? =some N->z1r N i=true->¬D j)
  (t:Nat) (ht:t∈o.looksAt ops):a.tmps.getD t undef=(z1s ops a0 sp i v).tmps.getD t undef:=by
 have hf:=Agree.frame (sp:=sp) hc hd v i (by omega);by_cases h:∃j N,j<U/\ops[j]? =some N/\N.dst=some t
 .obtain⟨j,N,hj,O,Y⟩:=h;have I:(ops[j]?).bind (·.dst)=some t:=by rw[O];exact Y
  rcases hc.looks i o hi ho t ht j N hj O Y with⟨h1,h2⟩|⟨h1,h2⟩
  .rw[ha.done j t hj (a2 j h2) I,hf.done j t hj h1 I]
  have a3:=R j N O h2;have L:∀k,k<U->(ops[k]?).bind (·.dst)=some t->k=j:=fun k J A=>hc.uniq k j t J hj A I;rw[ha.rest t fun k J hD A=>a3 (L k J A▸hD),hf.rest t fun k J a4 A=>by have:=L k J A;omega]
 have a1:∀k,k<U->(ops[k]?).bind (·.dst)≠some t:=fun k J A=>by
  cases hok:ops[k]? with
  | none=>rw[hok]at A;cases A
  | some ok=>rw[hok]at A;exact h ⟨k,ok,J,hok,A⟩
 rw[ha.rest t fun k J _=>a1 k J,hf.rest t fun k J _=>a1 k J]
theorem y4X{a b:Act}{o:Oper}(h:∀t∈o.looksAt ops,a.tmps.getD t undef=b.tmps.getD t undef):∀x∈o.op.operands,a.eval x=b.eval x:=by
 intro x A;cases x with
 | tmp t=>exact h t (List.mem_append_left _ (List.mem_filterMap.2 ⟨.tmp t,by simpa using A,rfl⟩))
 | const v=>rfl
 | global g=>rfl
 | func f=>rfl
theorem y2p{a b:Act}{o:Oper}(h:∀t∈o.looksAt ops,a.tmps.getD t undef=b.tmps.getD t undef):Region.wanted o (yielded ops a.tmps)=Region.wanted o (yielded ops b.tmps):=by
 unfold Region.wanted;cases hg:o.guard with
 | none=>rfl
 | some gw=>
  obtain⟨g,A⟩:=gw;have I:yielded ops a.tmps g=yielded ops b.tmps g:=by
   unfold yielded;cases ht:(ops[g]?).bind (·.dst)with
   | none=>rfl
   | some t=>
    have:=h t (List.mem_append_right _ (by simp[hg,ht]));simp only[Array.getD_eq_getD_getElem?]at this;simp only[Option.bind_some];cases ha:a.tmps[t]? with
    | none=>
     cases hb:b.tmps[t]? with
     | none=>rfl
     | some y=>rw[ha,hb]at this;simp only[Option.getD_none,Option.getD_some]at this;subst this;rfl
    | some x=>
     cases hb:b.tmps[t]? with
     | none=>rw[ha,hb]at this;simp only[Option.getD_none,Option.getD_some]at this;subst this;rfl
     | some y=>rw[ha,hb]at this;simp only[Option.getD_some]at this;subst this;rfl
  simp only[I]
theorem y5E{a:Act}{x:Option Tmp}{u A:Value}(J:∀d,x=some d->d<a.tmps.size)(h:a.put x u=a.put x A):x=none\/u=A:=by
 cases x with
 | none=>exact .inl rfl
 | some d=>
  right
  have I:=z5g a d u (J d rfl);rw[h,z5g a d A (J d rfl)]at I;exact I.symm
theorem z9a.carry{a b:Act}{o:Oper}{R:Value->World->Prop}{w:World}{Q:Exit->Act->World->Prop}{K:Act->World->Prop}(Y:∀cs b,o.op≠ .select cs b)
  (I:∀x∈o.op.operands,a.eval x=b.eval x) (hw:Region.wanted o (yielded ops a.tmps)=Region.wanted o (yielded ops b.tmps)) (L:∀d,o.dst=some d->d<b.tmps.size)
  (h:z9a P ops Ext b o R w) (N:∀u w',R u w'->Ext w w'->K (a.put o.dst u) w'):Region.wanted o (yielded ops a.tmps)=true/\o.wp P a w K Q:=by
 obtain⟨O,A⟩:=h;refine⟨hw.trans O,?_⟩;unfold Oper.wp at*;rw[execOp_congr o Y I];have conv:∀v w',(∃u,b.put o.dst v=b.put o.dst u/\R u w'/\Ext w w')->K (a.put o.dst v) w':=fun v w' ⟨u,e,hR,hE⟩=>by
  rcases y5E L e with e|e
  .have:=N u w' hR hE;rw[e]at this ⊢;exact this
  subst e;exact N v w' hR hE
 generalize (execOp b.eval o).run P w=r at A
 cases r with
 | ok n w'=>
  cases n<;>simp only[Oper.upon]at A ⊢
  case value v=>exact conv v w' A
  case skip=>exact conv undef w' A
  case defer d=>
   obtain⟨u,e,_⟩:=A;have:=congrArg (fun x:Act=>x.defers.length) e;simp only[z6J]at this;simp at this
  case enter f args=>
   refine Calls.mono A fun e J I=>?_;cases e with
   | returned v=>exact conv v J I
   | panicked c=>exact I.elim
   | outgrown=>obtain⟨_,_,U⟩:=I;exact U.elim
  case row row args=>exact Rows.mono A fun v J I=>conv v J I
 | halt x w'=>
  cases x<;>simp only[Oper.upon]at A
theorem z3i{l:Array Bool}{i j:Nat}(b:Bool)(A:i<l.size):(l.setIfInBounds i true).getD j b=if i=j then true else l.getD j b:=by
 by_cases h:i=j
 .subst h;simp[A]
 rw[if_neg h];simp[Array.getElem?_setIfInBounds_ne h]
theorem y7W{n0:Nat}{Q:Exit->Act->World->Prop}(hc:y2Q ops n0):∀(I m:Nat) (A:Array Bool) (a:Act) (w:World),n0<=m->m+I=ops.size->A.size=ops.size->
  (∀j,j<ops.size->A.getD j true=decide (j<m))->wpOps P ops Q (List.range' m I) a w->wpAny P .any ops Q I A a w
 | 0,m,A,a,w,hm,hs,hls,hl,h=>by
  refine⟨?_,by simpa[wpOps]using h⟩;refine List.eq_nil_iff_forall_not_mem.2 fun j hj=>?_;obtain⟨h1,o,ho,_⟩:=mem_ready.1 hj;have N:=(Array.getElem?_eq_some_iff.1 ho).1;rw[hl j N,decide_eq_false_iff_not]at h1;omega
 | I+1,m,A,a,w,hm,hs,hls,hl,h=>by
  have O:m<ops.size:=by omega
  have a1:m∈Region.ready .any ops A:=by
   refine mem_ready.2 ⟨by rw[hl m O];simp,ops[m],by simp[O],fun e he hb=>?_⟩;have N:=hc.ahead m ops[m] e.on (by simp[O]) (by
    unfold z1r;rw[Array.any_eq_true'];exact⟨e,he,by simp[hb]⟩)
   have:=hl e.on (by omega);rw[decide_eq_true N]at this;simp only[Array.getD_eq_getD_getElem?]at this ⊢;have U:e.on<A.size:=(by omega);simp only[Array.getElem?_eq_getElem U,Option.getD_some]at this ⊢;exact this
  refine⟨fun h0=>(by rw[h0]at a1;cases a1),fun j hj=>?_⟩;have a5:j=m:=by
   obtain⟨h1,o,ho,a0⟩:=mem_ready.1 hj;have N:=(Array.getElem?_eq_some_iff.1 ho).1;rw[hl j N,decide_eq_false_iff_not]at h1;refine Nat.le_antisymm (Nat.le_of_not_lt fun a4=>?_) (by omega);have J:∀q,z1r o q=true->A.getD q false=true:=fun q R=>by
    unfold z1r at R;rw[Array.any_eq_true']at R;obtain⟨e,he,hb⟩:=R;simp only[Bool.and_eq_true,beq_iff_eq]at hb;rw[<-hb.2];exact a0 e he hb.1
   have L:∀q,m<=q->A.getD q false=true->False:=fun q R h2=>by
    by_cases a6:q<ops.size
    .have Y:=hl q a6;rw[decide_eq_false (by omega)]at Y;simp only[Array.getD_eq_getD_getElem?]at h2 Y;have U:q<A.size:=(by omega);simp only[Array.getElem?_eq_getElem U,Option.getD_some]at h2 Y;rw[h2]at Y;cases Y
    simp[Array.getElem?_eq_none (show A.size<=q by omega)]at h2
   have a2:∀q,Reach ops j q->q<m:=fun q R=>by
    generalize hjj:j=jj at R
    induction R with
    | base ho' h=>
     subst hjj;rw[ho]at ho';obtain rfl:=Option.some.inj ho';exact Nat.lt_of_not_le fun a3=>L _ a3 (J _ h)
    | step hr hoq h ih=>
     have:=hc.ahead _ _ _ hoq h;omega
   exact Nat.lt_irrefl _ (a2 m (hc.tail j o (by omega) ho m a4))
  subst a5;rw[List.range'_succ,wpOps_cons]at h;refine wpOp_mono (fun a w hh=>?_) h;refine y7W hc I (j+1) _ a w (by omega) (by omega) (by simpa using hls) (fun q R=>?_) hh;rw[z3i _ (by omega)];by_cases e:j=q
  .subst e;simp
  rw[if_neg e,hl q R];simp only[decide_eq_decide];omega
theorem z5Q{l:Array Bool}{i:Nat}(h:i<l.size):l.getD i true=l.getD i false:=by simp[h]
end
def y6U(acc:Array Bool)(o:Oper):Array Bool:=o.after.toList.foldl (fun acc e=>if Region.binds .any e then acc.setIfInBounds e.on true else acc) acc
def y9x(ops:Array Oper)(k:Nat):Array Bool:=
 (List.range k).reverse.foldl (fun acc i=>if acc.getD i false then(match ops[i]? with|some o=>y6U acc o|none=>acc)else acc) (match ops[k]? with|some o=>y6U (Array.replicate k false) o|none=>Array.replicate k false)
theorem y0X{R:Nat->Prop}{A:Array Bool}{o:Oper}(h:∀j,A.getD j false=true->R j)(ho:∀j,z1r o j=true->R j):∀j,(y6U A o).getD j false=true->R j:=by
 unfold y6U;have:∀(l:List Edge) (A:Array Bool),(∀e∈l,e∈o.after.toList)->(∀j,A.getD j false=true->R j)->∀j,(l.foldl (fun A e=>if Region.binds .any e then A.setIfInBounds e.on true else A) A).getD j false=true->R j:=by
  intro l
  induction l with
  | nil=>intro A _ h j L;exact h j L
  | cons e l ih=>
   intro A O h j L;refine ih _ (fun U J=>O U (by simp[J])) (fun q I=>?_) j L;simp only at I;by_cases hb:Region.binds .any e=true
   .rw[if_pos hb]at I;by_cases N:e.on=q
    .refine ho q ?_;unfold z1r;rw[Array.any_eq_true'];exact⟨e,by simpa using O e (by simp),by simp[hb,N]⟩
    rw[show(A.setIfInBounds e.on true).getD q false=A.getD q false from by simp[Array.getElem?_setIfInBounds_ne N]]at I;exact h q I
   rw[if_neg hb]at I;exact h q I
 exact this _ A (fun e Y=>Y) h
theorem y5t{ops:Array Oper}{k:Nat}:∀j,(y9x ops k).getD j false=true->Reach ops k j:=by
 unfold y9x;have:∀(l:List Nat) (A:Array Bool),(∀j,A.getD j false=true->Reach ops k j)->
   ∀j,(l.foldl (fun A i=>if A.getD i false then(match ops[i]? with|some o=>y6U A o|none=>A)else A) A).getD j false=true->Reach ops k j:=by
  intro l
  induction l with
  | nil=>intro A h j I;exact h j I
  | cons i l ih=>
   intro A h j I;refine ih _ (fun q J=>?_) j I;simp only at J;by_cases L:A.getD i false=true
   .rw[if_pos L]at J;cases ho:ops[i]? with
    | none=>rw[ho]at J;exact h q J
    | some o=>rw[ho]at J;exact y0X h (fun j I=> .step (h i L) ho I) q J
   rw[if_neg L]at J;exact h q J
 refine this _ _ fun j I=>?_;have N:∀j,(Array.replicate k false).getD j false=true->Reach ops k j:=fun j I=>by
  by_cases h:j<k<;>simp[h]at I
 cases ho:ops[k]? with
 | none=>rw[ho]at I;exact N j I
 | some o=>rw[ho]at I;exact y0X N (fun j I=> .base ho I) j I
def y1z(ops:Array Oper)(n0:Nat):Bool:=
 decide (n0<=ops.size)&&
 ((List.range ops.size).all fun i=>match ops[i]? with|some o=>o.after.all fun e=>!Region.binds .any e || decide (e.on<i)|none=>true)&&
 ((List.range n0).all fun i=>(List.range n0).all fun j=>match(ops[i]?).bind (·.dst),(ops[j]?).bind (·.dst)with|some d,some d'=>d !=d' || i==j|_,_=>true)&&
 ((List.range n0).all fun i=>match ops[i]? with
  | some o=>(o.looksAt ops).all fun t=>(List.range n0).all fun j=>match ops[j]? with
   | some oj=>oj.dst !=some t || (decide (j<i)&&z1r o j) || (decide (i<j)&&z1r oj i)
   | none=>true
  | none=>true)&&
 Region.noSelect ops&&
 ((List.range ops.size).all fun k=>decide (k<n0) || (List.range k).all fun j=>(y9x ops k).getD j false)
theorem q0I{ops:Array Oper}{Y:Nat}(h:y1z ops Y=true):y2Q ops Y:=by
 simp only[y1z,Bool.and_eq_true,decide_eq_true_eq,List.all_eq_true,List.mem_range]at h;obtain⟨⟨⟨⟨⟨h1,h2⟩,h3⟩,h4⟩,h5⟩,h6⟩:=h;refine⟨h1,fun i o j I L=>?_,fun i j d R J N O=>?_,fun i o R I t ht j oj J U hd=>?_,h5,fun k o hk I j J=>?_⟩
 .have:=h2 i (Array.getElem?_eq_some_iff.1 I).1;rw[I]at this;simp only[Array.all_eq_true_iff_forall_mem]at this;unfold z1r at L;rw[Array.any_eq_true']at L;obtain⟨e,he,hb⟩:=L;simp only[Bool.and_eq_true,beq_iff_eq]at hb;have A:=this e he;rw[hb.1]at A;simp only[Bool.not_true,Bool.false_or,decide_eq_true_eq]at A;omega
 .have:=h3 i R j J;rw[N,O]at this;simpa using this
 .have:=h4 i R;rw[I]at this;simp only[List.all_eq_true,List.mem_range]at this;have A:=this t ht j J;rw[U]at A;simp only[hd,bne_self_eq_false,Bool.false_or,Bool.or_eq_true,Bool.and_eq_true,decide_eq_true_eq]at A;exact A
 have A:=h6 k (Array.getElem?_eq_some_iff.1 I).1;simp only[Bool.or_eq_true,decide_eq_true_eq]at A;rcases A with A|A
 .omega
 rw[List.all_eq_true]at A;exact y5t j (A j (by simpa using J))
def y1I(ops:Array Oper)(n0 N:Nat):Bool:=(List.range n0).all fun j=>match(ops[j]?).bind (·.dst)with|some d=>decide (d<N)|none=>true
theorem q0E{ops:Array Oper}{A N:Nat}(h:y1I ops A N=true):∀j d,j<A->(ops[j]?).bind (·.dst)=some d->d<N:=by
 intro j d I hd;simp only[y1I,List.all_eq_true,List.mem_range]at h;have:=h j I;rw[hd]at this;simpa using this
section
variable {P:Program} {ops:Array Oper} {S:World->Prop} {Ext:World->World->Prop} {Fin:Act->World->Prop} {fr:(Nat->Value)->Act} {rels:List (Nat×(Value->World->Prop))} {k:Nat} {o:Oper} {rest:List Oper}
theorem Hav.det(e:Value)(A:∀v w,S w->(∀p∈rels,z1r o p.1=true->p.2 (v p.1) w)->q4D P ops Ext (fr v) o e w)(I:Hav P ops S Ext Fin (fun v=>(fr v).put o.dst e) rels (k+1) rest):Hav P ops S Ext Fin fr rels k (o::rest):=
 .inl ⟨e,A,I⟩
theorem Hav.read(e:Value)(N:∀v,Region.wanted o (yielded ops (fr v).tmps)=true)(A:∀v w,S w->(∀p∈rels,z1r o p.1=true->p.2 (v p.1) w)->(execOp (fr v).eval o).run P w= .ok (.value e) w)
  (I:Hav P ops S Ext Fin (fun v=>(fr v).put o.dst e) rels (k+1) rest):Hav P ops S Ext Fin fr rels k (o::rest):=
 .det e (fun v w L J=> .inl ⟨N v,A v w L J⟩) I
theorem Hav.skip(I:∀v,Region.wanted o (yielded ops (fr v).tmps)=false)(A:Hav P ops S Ext Fin (fun v=>(fr v).put o.dst undef) rels (k+1) rest):Hav P ops S Ext Fin fr rels k (o::rest):=
 .det undef (fun v w L J=> .inr (.inl ⟨I v,rfl⟩)) A
theorem Hav.call(e:Value)(N:∀v,Region.wanted o (yielded ops (fr v).tmps)=true)
  (A:∀v w,S w->(∀p∈rels,z1r o p.1=true->p.2 (v p.1) w)->o.wp P (fr v) w (fun a' w'=>∃u,a'=(fr v).put o.dst u/\u=e/\Ext w w') (fun _ _ _=>False))
  (I:Hav P ops S Ext Fin (fun v=>(fr v).put o.dst e) rels (k+1) rest):Hav P ops S Ext Fin fr rels k (o::rest):=
 .det e (fun v w L J=> .inr (.inr ⟨N v,A v w L J⟩)) I
theorem Hav.rel(R:Value->World->Prop)(J:∀u w w',Ext w w'->R u w->R u w')(A:∀v w,S w->(∀p∈rels,z1r o p.1=true->p.2 (v p.1) w)->z9a P ops Ext (fr v) o R w)
  (I:Hav P ops S Ext Fin (fun v=>(fr v).put o.dst (v k)) (rels++ [(k,R)]) (k+1) rest):Hav P ops S Ext Fin fr rels k (o::rest):=
 .inr ⟨R,J,A,I⟩
theorem Hav.fin(h:∀v w,S w->(∀p∈rels,p.2 (v p.1) w)->Fin (fr v) w):Hav P ops S Ext Fin fr rels k []:=h
end
section
variable (P:Program) (ops:Array Oper) (S:(Nat->Bool)->World->Prop)
def mark(D:Nat->Bool)(i:Nat):Nat->Bool:=fun j=>if i=j then true else D j
def q6O(D:Nat->Bool)(i:Nat)(a:Act)(o:Oper)(e:Value)(w:World):Prop:=
 (Region.wanted o (yielded ops a.tmps)=true/\(execOp a.eval o).run P w= .ok (.value e) w/\S (mark D i) w)\/(Region.wanted o (yielded ops a.tmps)=false/\e=undef/\S (mark D i) w)\/z9a P ops (fun _ w'=>S (mark D i) w') a o (fun u _=>u=e) w
structure Open (D:Nat->Bool) (i:Nat) (o:Oper):Prop where
 self:D i=false
 pre:∀j,z1r o j=true->D j=true
 post:∀j oj,ops[j]? =some oj->z1r oj i=true->D j=false
def y3f(Fin:Act->World->Prop):Act->Nat->List Oper->Prop
 | fr,k, []=>∀w,S (fun j=>decide (j<k)) w->Fin fr w
 | fr,k,o::rest=>∃e,(∀D w,Open ops D k o->S D w->q6O P ops S D k fr o e w)/\y3f Fin (fr.put o.dst e) (k+1) rest
def q7l(a0:Act)(sp:Nat->Spec)(i:Nat):Prop:=
 ∀o,ops[i]? =some o->∀D w,Open ops D i o->S D w->∃e,sp i= .det e/\q6O P ops S D i (z1s ops a0 sp i fun _=>undef) o e w
theorem y3f.extract{Fin:Act->World->Prop}{a0:Act}(I:Nat):∀(rest:List Oper) (k:Nat) (fr:Act) (sp:Nat->Spec),
  (∀j,rest[j]? =if k+j<I then ops[k+j]? else none)->k+rest.length=I->fr=z1s ops a0 sp k (fun _=>undef)->y3f P ops S Fin fr k rest->
  ∃sp':Nat->Spec,(∀j,j<k->sp' j=sp j)/\(∀i,k<=i->i<I->q7l P ops S a0 sp' i)/\(∀i,k<=i->i<I->∃e,sp' i= .det e)/\
   (∀w,S (fun j=>decide (j<I)) w->Fin (z1s ops a0 sp' I fun _=>undef) w)
 | [],k,fr,sp,hr,hk,hf,h=>by
  simp only[List.length_nil,Nat.add_zero]at hk;subst hk;exact⟨sp,fun _ _=>rfl,fun i R U=>by omega,fun i R U=>by omega,fun w Y=>hf▸h w Y⟩
 | o::rest,k,fr,sp,hr,hk,hf,h=>by
  simp only[List.length_cons]at hk;have ho:ops[k]? =some o:=by
   have:=hr 0;simp only[Nat.add_zero,List.getElem?_cons_zero]at this;rw[if_pos (by omega)]at this;exact this.symm
  have a2:∀j,rest[j]? =if k+1+j<I then ops[k+1+j]? else none:=fun j=>by
   have:=hr (j+1);simp only[List.getElem?_cons_succ]at this;rw[this,show k+(j+1)=k+1+j from by omega]
  obtain⟨e,R,U⟩:=h;obtain⟨sp',O,g2,g4,g3⟩:=y3f.extract I rest (k+1) _ (fun j=>if j=k then .det e else sp j) a2 (by omega)
   (by
    rw[z1s,hf,ho];simp only[if_true,Spec.val,Option.bind_some];rw[z1M ops k (fun _=>undef) (sp':=fun j=>if j=k then .det e else sp j) fun j hj=>by rw[if_neg (by omega)]]) U
  have A:sp' k= .det e:=by rw[O k (by omega),if_pos rfl]
  refine⟨sp',fun j hj=>by rw[O j (by omega),if_neg (by omega)],fun i a1 J=>?_,fun i a1 J=>?_,g3⟩
  .by_cases L:i=k
   .subst L;intro o' N D w hD Y;obtain rfl:o=o':=by rw[ho]at N;exact Option.some.inj N
    refine⟨e,A,?_⟩;have:=R D w hD Y;rw[hf,z1M ops i (fun _=>undef) (sp':=sp') fun j hj=>by rw[O j (by omega),if_neg (by omega)]]at this;exact this
   exact g2 i (by omega) J
  by_cases L:i=k
  .subst L;exact⟨e,A⟩
  exact g4 i (by omega) J
variable {P ops S}
theorem y3f.read{Fin:Act->World->Prop}{fr:Act}{k:Nat}{o:Oper}{rest:List Oper}(e:Value)(N:Region.wanted o (yielded ops fr.tmps)=true)(L:∀D w,S D w->S (mark D k) w)
  (I:∀D w,S D w->(execOp fr.eval o).run P w= .ok (.value e) w) (J:y3f P ops S Fin (fr.put o.dst e) (k+1) rest):y3f P ops S Fin fr k (o::rest):=
 ⟨e,fun D w _ A=> .inl ⟨N,I D w A,L D w A⟩,J⟩
theorem y3f.call{Fin:Act->World->Prop}{fr:Act}{k:Nat}{o:Oper}{rest:List Oper}(e:Value)(N:Region.wanted o (yielded ops fr.tmps)=true)
  (A:∀D w,Open ops D k o->S D w->o.wp P fr w (fun a' w'=>∃u,a'=fr.put o.dst u/\u=e/\S (mark D k) w') (fun _ _ _=>False))
  (I:y3f P ops S Fin (fr.put o.dst e) (k+1) rest):y3f P ops S Fin fr k (o::rest):=
 ⟨e,fun D w J L=> .inr (.inr ⟨N,A D w J L⟩),I⟩
end
section
variable (P:Program) (ops:Array Oper) (S:(Nat->Bool)->(Nat->Value)->World->Prop)
def z3d(v:Nat->Value)(i:Nat)(u:Value):Nat->Value:=fun j=>if i=j then u else v j
def q3e(D:Nat->Bool)(v:Nat->Value)(i:Nat)(a:Act)(o:Oper)(e:Value)(w:World):Prop:=
 (Region.wanted o (yielded ops a.tmps)=true/\(execOp a.eval o).run P w= .ok (.value e) w/\S (mark D i) v w)\/(Region.wanted o (yielded ops a.tmps)=false/\e=undef/\S (mark D i) v w)\/z9a P ops (fun _ w'=>S (mark D i) v w') a o (fun u _=>u=e) w
def q3V(D:Nat->Bool)(v:Nat->Value)(i:Nat)(a:Act)(o:Oper)(w:World):Prop:=
 z9a P ops (fun _ _=>True) a o (fun u w'=>S (mark D i) (z3d v i u) w') w
def q8(Fin:Act->World->Prop):((Nat->Value)->Act)->Nat->List Oper->Prop
 | fr,k, []=>∀v w,S (fun j=>decide (j<k)) v w->Fin (fr v) w
 | fr,k,o::rest=>
  (∃e,(∀D v w,Open ops D k o->S D v w->q3e P ops S D v k (fr v) o e w)/\q8 Fin (fun v=>(fr v).put o.dst e) (k+1) rest)\/
  ((∀D v w,Open ops D k o->S D v w->q3V P ops S D v k (fr v) o w)/\q8 Fin (fun v=>(fr v).put o.dst (v k)) (k+1) rest)
def q0h(a0:Act)(sp:Nat->Spec)(i:Nat):Prop:=
 ∀o,ops[i]? =some o->∀D v w,Open ops D i o->S D v w->
  (match sp i with
   | .det e=>q3e P ops S D v i (z1s ops a0 sp i v) o e w
   | .rel _=>q3V P ops S D v i (z1s ops a0 sp i v) o w)
theorem q8.extract{Fin:Act->World->Prop}{a0:Act}(J:Nat):∀(rest:List Oper) (k:Nat) (fr:(Nat->Value)->Act) (sp:Nat->Spec),
  (∀j,rest[j]? =if k+j<J then ops[k+j]? else none)->k+rest.length=J->(∀v,fr v=z1s ops a0 sp k v)->q8 P ops S Fin fr k rest->
  ∃sp':Nat->Spec,(∀j,j<k->sp' j=sp j)/\(∀i,k<=i->i<J->q0h P ops S a0 sp' i)/\
   (∀v w,S (fun j=>decide (j<J)) v w->Fin (z1s ops a0 sp' J v) w)
 | [],k,fr,sp,hr,hk,hf,h=>by
  simp only[List.length_nil,Nat.add_zero]at hk;subst hk;exact⟨sp,fun _ _=>rfl,fun i h1 h2=>by omega,fun v w R=>hf v▸h v w R⟩
 | o::rest,k,fr,sp,hr,hk,hf,h=>by
  simp only[List.length_cons]at hk;have ho:ops[k]? =some o:=by
   have:=hr 0;simp only[Nat.add_zero,List.getElem?_cons_zero]at this;rw[if_pos (by omega)]at this;exact this.symm
  have Y:∀j,rest[j]? =if k+1+j<J then ops[k+1+j]? else none:=fun j=>by
   have:=hr (j+1);simp only[List.getElem?_cons_succ]at this;rw[this,show k+(j+1)=k+1+j from by omega]
  rcases h with⟨e,h1,h2⟩|⟨h1,h2⟩
  .obtain⟨sp',L,g2,g3⟩:=q8.extract J rest (k+1) _ (fun j=>if j=k then .det e else sp j) Y (by omega)
    (fun v=>by
     rw[z1s,hf,ho];simp only[if_true,Spec.val,Option.bind_some];rw[z1M ops k v (sp':=fun j=>if j=k then .det e else sp j) fun j U=>by rw[if_neg (by omega)]]) h2
   have I:sp' k= .det e:=(by rw[L k (by omega),if_pos rfl]);refine⟨sp',fun j U=>by rw[L j (by omega),if_neg (by omega)],fun i a1 N=>?_,g3⟩;by_cases O:i=k
   .subst O;intro o' A D v w hD R;obtain rfl:o=o':=by rw[ho]at A;exact Option.some.inj A
    rw[I];have:=h1 D v w hD R;rw[hf,z1M ops i v (sp':=sp') fun j U=>by rw[L j (by omega),if_neg (by omega)]]at this;exact this
   exact g2 i (by omega) N
  obtain⟨sp',L,g2,g3⟩:=q8.extract J rest (k+1) _ (fun j=>if j=k then .rel (fun _ _=>True)else sp j) Y (by omega)
   (fun v=>by
    rw[z1s,hf,ho];simp only[if_true,Spec.val,Option.bind_some];rw[z1M ops k v (sp':=fun j=>if j=k then .rel (fun _ _=>True)else sp j) fun j U=>by rw[if_neg (by omega)]]) h2
  have I:sp' k= .rel (fun _ _=>True):=(by rw[L k (by omega),if_pos rfl]);refine⟨sp',fun j U=>by rw[L j (by omega),if_neg (by omega)],fun i a1 N=>?_,g3⟩;by_cases O:i=k
  .subst O;intro o' A D v w hD R;obtain rfl:o=o':=by rw[ho]at A;exact Option.some.inj A
   rw[I];have:=h1 D v w hD R;rw[hf,z1M ops i v (sp':=sp') fun j U=>by rw[L j (by omega),if_neg (by omega)]]at this;exact this
  exact g2 i (by omega) N
variable {P ops S}
structure q6A (S:(Nat->Bool)->(Nat->Value)->World->Prop) (a0:Act) (sp:Nat->Spec) (n0:Nat) (listed:Array Bool) (v:Nat->Value) (a:Act) (w:World):Prop where
 size:listed.size=ops.size
 down:∀m o,ops[m]? =some o->listed.getD m true=true->∀j,z1r o j=true->listed.getD j false=true
 tails:∀k,n0<=k->k<ops.size->listed.getD k true=false
 agree:Agree (ops:=ops) a0 sp n0 (fun j=>listed.getD j false=true) v a
 S:S (fun j=>listed.getD j false) v w
theorem q3l{O:Nat}{Q:Exit->Act->World->Prop}{a0:Act}{sp:Nat->Spec}(hc:y2Q ops O)(hd:∀j d,j<O->(ops[j]?).bind (·.dst)=some d->d<a0.tmps.size)
  (b3:∀i,i<O->q0h P ops S a0 sp i)
  (aJ:∀v w,S (fun j=>decide (j<O)) v w->wpOps P ops Q (List.range' O (ops.size - O)) (z1s ops a0 sp O v) w):
  ∀(c L:Nat) (A:Array Bool) (v:Nat->Value) (a:Act) (w:World),(∃l:List Nat,l.Nodup/\(∀j,j∈l↔j<O/\A.getD j true=false)/\l.length=c)->L=c+(ops.size - O)->
   q6A (ops:=ops) S a0 sp O A v a w->wpAny P .any ops Q L A a w:=by
 intro c
 induction c with
 | zero=>
  rintro L A v a w ⟨l,_,hl,a2⟩ aU N;have aN:=List.eq_nil_of_length_eq_zero a2;subst aN;have a1:∀j,j<O->A.getD j false=true:=fun j I=>by
   have:=hl j;simp only[List.not_mem_nil,false_iff,not_and]at this;have Y:=this I;rw[z5Q (by have:=N.size;have:=hc.le;omega)]at Y;simpa using Y
  have b0:=hc.le;have aB:=Agree.frame (sp:=sp) hc hd v O (Nat.le_refl _);have ha:a=z1s ops a0 sp O v:=by
   refine Agree.eq (D:=fun j=>j<O) ⟨N.agree.defers,N.agree.size,fun j d I _ h=>N.agree.done j d I (a1 j I) h,fun t ht=>N.agree.rest t fun j I _=>ht j I I⟩ aB
  subst ha;refine y7W hc L O A _ w (Nat.le_refl _) (by omega) N.size (fun j I=>?_) (by
   rw[show L=ops.size - O from by omega];refine aJ v w ?_;have e:(fun j=>A.getD j false)=fun j=>decide (j<O):=by
    funext j
    by_cases h:j<O
    .rw[decide_eq_true h];exact a1 j h
    rw[decide_eq_false h];by_cases h2:j<ops.size
    .rw[<-z5Q (by have:=N.size;omega)];exact N.tails j (by omega) h2
    have:=N.size;simp[Array.getD,show ¬j<A.size by omega]
   have:=N.S;rw[e]at this;exact this)
  by_cases h:j<O
  .rw[decide_eq_true h,z5Q (by have:=N.size;omega)];exact a1 j h
  rw[decide_eq_false h];exact N.tails j (by omega) I
 | succ c ih=>
  rintro L A v a w ⟨l,aL,hl,a2⟩ aU N;obtain⟨f,rfl⟩:∃f,L=f+1:=⟨L - 1,by omega⟩;have b0:=hc.le;have b4:=N.size;have aT:∃i,i∈Region.ready .any ops A:=by
   have b2:∃j,j<O/\A.getD j true=false:=by
    match l,a2 with
    | j::l,_=>exact⟨j,(hl j).1 (by simp)⟩
   have aM:∀j,j<O->A.getD j true=false->∃i,i<O/\A.getD i true=false/\∀k,k<i->A.getD k true=true:=by
    intro j
    induction j using Nat.strongRecOn with
    | ind j ihj=>
     intro I hf;by_cases h:∃k,k<j/\A.getD k true=false
     .obtain⟨k,hk,aW⟩:=h;exact ihj k hk (by omega) aW
     exact⟨j,I,hf,fun k hk=>by
      cases e:A.getD k true with
      | true=>rfl
      | false=>exact absurd ⟨k,hk,e⟩ h⟩
   obtain⟨j,I,a7⟩:=b2;obtain⟨i,hi,a5,a1⟩:=aM j I a7;refine⟨i,mem_ready.2 ⟨a5,ops[i],by simp[show i<ops.size by omega],fun e he hb=>?_⟩⟩;have b1:=hc.ahead i ops[i] e.on (by simp[show i<ops.size by omega]) (by
    unfold z1r;rw[Array.any_eq_true'];exact⟨e,he,by simp[hb]⟩)
   rw[<-z5Q (by omega)];exact a1 e.on b1
  refine⟨fun h0=>(by obtain⟨i,hi⟩:=aT;rw[h0]at hi;cases hi),fun i hi=>?_⟩;obtain⟨a5,o,ho,aI⟩:=mem_ready.1 hi;have b8:=(Array.getElem?_eq_some_iff.1 ho).1;have a4:∀j,z1r o j=true->A.getD j false=true:=fun j I=>by
   unfold z1r at I;rw[Array.any_eq_true']at I;obtain⟨e,he,hb⟩:=I;simp only[Bool.and_eq_true,beq_iff_eq]at hb;rw[<-hb.2];exact aI e he hb.1
  have U:i<O:=by
   refine Nat.lt_of_not_le fun aV=>?_;obtain⟨j,I,a7⟩:∃j,j<O/\A.getD j true=false:=by
    match l,a2 with
    | j::l,_=>exact⟨j,(hl j).1 (by simp)⟩
   rw[z5Q (by omega)]at a7;have aS:∀q,Reach ops i q->A.getD q false=true:=fun q hq=>by
    generalize hii:i=ii at hq
    induction hq with
    | base ho' h=>
     subst hii;rw[ho]at ho';obtain rfl:=Option.some.inj ho';exact a4 _ h
    | step hr hoq h ih=>
     have aC:=(Array.getElem?_eq_some_iff.1 hoq).1;exact N.down _ _ hoq (by rw[z5Q (by omega)];exact ih) _ h
   rw[aS j (hc.tail i o aV ho j (by omega))]at a7;cases a7
  have a8:∀j oj,ops[j]? =some oj->z1r oj i=true->¬A.getD j false=true:=fun j oj aO aX aY=>by
   have b9:=(Array.getElem?_eq_some_iff.1 aO).1;have:=N.down j oj aO (by rw[z5Q (by omega)];exact aY) i aX;rw[z5Q (by omega),this]at a5;cases a5
  have a9:=Agree.sees hc hd N.agree U ho a4 a8;have aG:=y4X a9;have aE:=y2p a9;have aA:∀cs b,o.op≠ .select cs b:=fun cs b=>Region.noSelect_spec hc.nosel i o cs b ho;have aB:=Agree.frame (sp:=sp) hc hd v i (by omega);have next:∀u v' w',(∀j,i≠j->v' j=v j)->(sp i).val (v' i)=u->S (mark (fun j=>A.getD j false) i) v' w'->wpAny P .any ops Q f (A.setIfInBounds i true) (a.put o.dst u) w':=by
   intro u v' w' b6 aR b7;refine ih f (A.setIfInBounds i true) v' _ w' ⟨l.erase i,aL.erase i,fun j=>?_,?_⟩ (by omega) ⟨by simpa using b4,fun m om aH aC j I=>?_,fun k aZ aD=>?_,⟨?_,?_,?_,?_⟩,?_⟩
   .rw[aL.mem_erase_iff,hl,z3i _ (by omega)];constructor
    .rintro⟨Y,h2,h3⟩;exact⟨h2,by rw[if_neg (Ne.symm Y)];exact h3⟩
    rintro⟨Y,h2⟩;by_cases e:i=j
    .rw[if_pos e]at h2;cases h2
    rw[if_neg e]at h2;exact⟨Ne.symm e,Y,h2⟩
   .rw[List.length_erase_of_mem ((hl i).2 ⟨U,a5⟩),a2];omega
   .rw[z3i _ (by omega)]at aC ⊢;by_cases e:i=j
    .rw[if_pos e]
    rw[if_neg e];by_cases e2:i=m
    .subst e2;rw[ho]at aH;obtain rfl:=Option.some.inj aH;exact a4 j I
    rw[if_neg e2]at aC;exact N.down m om aH aC j I
   .rw[z3i _ (by omega),if_neg (by omega)];exact N.tails k aZ aD
   .rw[z6J];exact N.agree.defers
   .rw[y7R];exact N.agree.size
   .intro j d I hD a6;simp only[z3i _ (show i<A.size by omega)]at hD;by_cases e:j=i
    .subst e;have a3:o.dst=some d:=(by rw[ho]at a6;exact a6);rw[a3,z5g _ _ _ (by rw[N.agree.size];exact hd j d I a6)];exact aR.symm
    rw[if_neg (Ne.symm e)]at hD;have a3:o.dst≠some d:=fun e2=>e (hc.uniq j i d I U a6 (by rw[ho];exact e2));rw[z6w _ _ _ _ a3];rw[N.agree.done j d I hD a6,b6 j (Ne.symm e)]
   .intro t ht;have b5:o.dst≠some t:=fun e=>ht i U (by simp only[z3i _ (show i<A.size by omega),if_true]) (by rw[ho];exact e);rw[z6w _ _ _ _ b5];exact N.agree.rest t fun j I hD=>ht j I (by
     simp only[z3i _ (show i<A.size by omega)];by_cases e:i=j
     .rw[if_pos e]
     rw[if_neg e];exact hD)
   have e:(fun j=>(A.setIfInBounds i true).getD j false)=mark (fun j=>A.getD j false) i:=by
    funext j
    rw[z3i _ (by omega)];rfl
   rw[e];exact b7
  have J:=b3 i U o ho (fun j=>A.getD j false) v w ⟨by rw[<-z5Q (by omega)];exact a5,a4,fun j oj Y h2=>by simpa using a8 j oj Y h2⟩ N.S;unfold wpOp;simp only[ho];cases hs:sp i with
  | det e=>
   rw[hs]at J;simp only at J;have aF:(sp i).val (v i)=e:=(by rw[hs];rfl);rcases J with⟨Y,h2,h3⟩|⟨Y,h2,h3⟩|h3
   .rw[<-aE]at Y;rw[if_pos Y];refine .inl ?_;unfold Oper.wp;rw[execOp_congr o aA aG,h2];exact next e v w (fun _ _=>rfl) aF h3
   .rw[<-aE]at Y;rw[if_neg (by rw[Y];simp)];subst h2;exact next undef v w (fun _ _=>rfl) aF h3
   obtain⟨Y,h2⟩:=h3.carry (a:=a) (Q:=Q) aA aG aE (fun d a3=>by rw[aB.size];exact hd i d U (by rw[ho];exact a3)) (fun u w' hR hE=>next u v w' (fun _ _=>rfl) (aF.trans hR.symm) hE);rw[if_pos Y];exact .inl h2
  | rel R=>
   rw[hs]at J;simp only at J;obtain⟨Y,h2⟩:=z9a.carry (a:=a) (Q:=Q) aA aG aE (fun d a3=>by rw[aB.size];exact hd i d U (by rw[ho];exact a3)) J
    (fun u w' hR hE=>next u (z3d v i u) w' (fun j I=>by unfold z3d;rw[if_neg I]) (by rw[hs];simp[Spec.val,z3d]) hR)
   rw[if_pos Y];exact .inl h2
theorem z3z{id:Nat}{Q:Exit->Act->World->Prop}{a0:Act}{w:World}(A N:Nat)(hm:P.follows .mixedOrders=true)(I:y1z ops A=true)(hN:a0.tmps.size=N)(hd:y1I ops A N=true)
  (S:(Nat->Bool)->(Nat->Value)->World->Prop) (U:Nat->Value) (hS:S (fun _=>false) U w.drew)
  (h:q8 P ops S (fun a w=>wpList P ops Q (ops.toList.drop A) a w) (fun _=>a0) 0 (ops.toList.take A)):(Code.region id ops true).wp P Q a0 w:=by
 have I:=q0I I;have hd:=q0E (hN▸hd);have a1:=I.le;obtain⟨sp,_,g2,g3⟩:=q8.extract (a0:=a0) P ops S A _ 0 _ (fun _=> .det undef) (fun j=>by
   rw[List.getElem?_take];simp) (by simp;omega) (fun _=>rfl) h
 refine wp_region_any hm ?_;have Y:(fun j=>(Array.replicate ops.size false).getD j false)=fun _=>false:=by
  funext j
  by_cases h:j<ops.size<;>simp[h]
 refine q3l I hd (fun i hi=>g2 i (Nat.zero_le _) hi) (fun v w J=>?_) A ops.size _ U a0 w.drew ⟨List.range A,List.nodup_range,fun j=>?_,by simp⟩ (by omega) ⟨by simp,fun m o ho O=>?_,fun k _ hk=>?_,⟨rfl,rfl,fun j d R hD=>?_,fun t _=>rfl⟩,by rw[Y];exact hS⟩
 .have:=g3 v w J;rw[<-wpOps_eq_wpList (ops.toList.drop A) A (fun j=>by simp)]at this;simpa using this
 .simp only[List.mem_range];constructor
  .intro R;exact⟨R,by simp[show j<ops.size by omega]⟩
  exact fun h=>h.1
 .have L:=(Array.getElem?_eq_some_iff.1 ho).1;simp[L]at O
 .simp[hk]
 have:j<ops.size:=by omega
 simp[this]at hD
variable {Fin:Act->World->Prop} {fr:(Nat->Value)->Act} {k:Nat} {o:Oper} {rest:List Oper}
theorem q8.read(e:Value)(O:∀v,Region.wanted o (yielded ops (fr v).tmps)=true)(N:∀D v w,S D v w->S (mark D k) v w)
  (I:∀D v w,Open ops D k o->S D v w->(execOp (fr v).eval o).run P w= .ok (.value e) w) (J:q8 P ops S Fin (fun v=>(fr v).put o.dst e) (k+1) rest):q8 P ops S Fin fr k (o::rest):=
 .inl ⟨e,fun D v w L A=> .inl ⟨O v,I D v w L A,N D v w A⟩,J⟩
theorem q8.rd(e:Value)(A:∀D v w,Open ops D k o->S D v w->(execOp (fr v).eval o).run P w= .ok (.value e) w)(I:q8 P ops S Fin (fun v=>(fr v).put o.dst e) (k+1) rest)
  (L:∀v,Region.wanted o (yielded ops (fr v).tmps)=true:=by intro v;rfl) (J:∀D v w,S D v w->S (mark D k) v w:=by intro D v w h;exact h):q8 P ops S Fin fr k (o::rest):=
 q8.read e L J A I
theorem q6{id:Nat}{Q:Exit->Act->World->Prop}{a0:Act}{w:World}(A N:Nat)(S:(Nat->Bool)->(Nat->Value)->World->Prop)(J:S (fun _=>false) (fun _=>undef) w.drew)
  (h:q8 P ops S (fun a w=>wpList P ops Q (ops.toList.drop A) a w) (fun _=>a0) 0 (ops.toList.take A)) (O:P.follows .mixedOrders=true:=by kernel_rfl) (L:y1z ops A=true:=by kernel_rfl)
  (I:a0.tmps.size=N:=by exact rfl) (hd:y1I ops A N=true:=by kernel_rfl):(Code.region id ops true).wp P Q a0 w:=
 z3z A N O L I hd S _ J h
theorem q8.rl(e:Value)(J:∀D v w,S D v w->S (mark D k) v w)(A:∀D v w,Open ops D k o->S D v w->(execOp (fr v).eval o).run P w= .ok (.value e) w)
  (I:q8 P ops S Fin (fun v=>(fr v).put o.dst e) (k+1) rest) (L:∀v,Region.wanted o (yielded ops (fr v).tmps)=true:=by intro v;rfl):q8 P ops S Fin fr k (o::rest):=
 q8.read e L J A I
theorem z0C:(∀(a:Oper) (l:List Oper) (n:Nat),(a::l).take (n+1)=a::l.take n)/\(∀l:List Oper,l.take 0= [])/\(∀(a:Oper) (l:List Oper) (n:Nat),(a::l).drop (n+1)=l.drop n)/\∀l:List Oper,l.drop 0=l:=⟨fun _ _ _=>rfl,fun _=>rfl,fun _ _ _=>rfl,fun _=>rfl⟩
theorem q8.skip(L:∀v,Region.wanted o (yielded ops (fr v).tmps)=false)(J:∀D v w,S D v w->S (mark D k) v w)
  (A:q8 P ops S Fin (fun v=>(fr v).put o.dst undef) (k+1) rest):q8 P ops S Fin fr k (o::rest):=
 .inl ⟨undef,fun D v w _ I=> .inr (.inl ⟨L v,rfl,J D v w I⟩),A⟩
theorem q8.call(e:Value)(N:∀v,Region.wanted o (yielded ops (fr v).tmps)=true)
  (A:∀D v w,Open ops D k o->S D v w->o.wp P (fr v) w (fun a' w'=>∃u,a'=(fr v).put o.dst u/\u=e/\S (mark D k) v w') (fun _ _ _=>False))
  (I:q8 P ops S Fin (fun v=>(fr v).put o.dst e) (k+1) rest):q8 P ops S Fin fr k (o::rest):=
 .inl ⟨e,fun D v w J L=> .inr (.inr ⟨N v,A D v w J L⟩),I⟩
theorem q8.rel(N:∀v,Region.wanted o (yielded ops (fr v).tmps)=true)
  (A:∀D v w,Open ops D k o->S D v w->o.wp P (fr v) w (fun a' w'=>∃u,a'=(fr v).put o.dst u/\S (mark D k) (z3d v k u) w'/\True) (fun _ _ _=>False))
  (I:q8 P ops S Fin (fun v=>(fr v).put o.dst (v k)) (k+1) rest):q8 P ops S Fin fr k (o::rest):=
 .inr ⟨fun D v w J L=>⟨N v,A D v w J L⟩,I⟩
theorem q8.sk(I:∀D v w,S D v w->S (mark D k) v w)(A:q8 P ops S Fin (fun v=>(fr v).put o.dst undef) (k+1) rest)
  (J:∀v,Region.wanted o (yielded ops (fr v).tmps)=false:=by intro v;rfl):q8 P ops S Fin fr k (o::rest):=q8.skip J I A
theorem q8.ca(e:Value)
  (A:∀D v w,Open ops D k o->S D v w->o.wp P (fr v) w (fun a' w'=>∃u,a'=(fr v).put o.dst u/\u=e/\S (mark D k) v w') (fun _ _ _=>False))
  (I:q8 P ops S Fin (fun v=>(fr v).put o.dst e) (k+1) rest) (J:∀v,Region.wanted o (yielded ops (fr v).tmps)=true:=by intro v;rfl):q8 P ops S Fin fr k (o::rest):=q8.call e J A I
theorem q8.re(A:∀D v w,Open ops D k o->S D v w->o.wp P (fr v) w (fun a' w'=>∃u,a'=(fr v).put o.dst u/\S (mark D k) (z3d v k u) w'/\True) (fun _ _ _=>False))
  (I:q8 P ops S Fin (fun v=>(fr v).put o.dst (v k)) (k+1) rest) (J:∀v,Region.wanted o (yielded ops (fr v).tmps)=true:=by intro v;rfl):q8 P ops S Fin fr k (o::rest):=q8.rel J A I
theorem q8.fin(h:∀v w,S (fun j=>decide (j<k)) v w->Fin (fr v) w):q8 P ops S Fin fr k []:=h
end
theorem z1T(D:Nat->Bool)(k:Nat):mark D k k=true:=by simp[mark]
theorem q9{D:Nat->Bool}{k j:Nat}(h:k≠j):mark D k j=D j:=by simp[mark,h]
theorem z0q(v:Nat->Value)(k:Nat)(u:Value):z3d v k u k=u:=by simp[z3d]
theorem z0g{v:Nat->Value}{k j:Nat}{u:Value}(h:k≠j):z3d v k u j=v j:=by simp[z3d,h]
def y0f(j:Nat)(u:Value):Value:=match u with
 | .tuple xs=>xs.getD j undef
 | _=>undef
structure z5q (n m:Nat) (T:Bool->Value->World->Prop) (D:Nat->Bool) (v:Nat->Value) (w:World):Prop where
 t:T (D n) (v n) w
 mv:D (n+1)=true->D n=true/\v (n+1)=v n
 ex:∀j,j<m->D (n+2+j)=true->D (n+1)=true/\v (n+2+j)=y0f j (v n)
 ag:∀j,j<m->D (n+2+m+j)=true->D (n+2+j)=true/\v (n+2+m+j)=y0f j (v n)
section
variable {n m:Nat} {T:Bool->Value->World->Prop} {D:Nat->Bool} {v:Nat->Value} {w w':World}
theorem z5q.start(h:T false (v n) w):z5q n m T (fun _=>false) v w:=⟨h,fun h=>by simp at h,fun j _ h=>by simp at h,fun j _ h=>by simp at h⟩
theorem z5q.read(h:z5q n m T D v w)(k:Nat)(L:k<n):z5q n m T (mark D k) v w:=by
 have I:∀j,n<=j->mark D k j=D j:=fun j J=>q9 (by omega);refine⟨by rw[I n (Nat.le_refl _)];exact h.t,fun A=>?_,fun j J A=>?_,fun j J A=>?_⟩
 .rw[I _ (by omega)]at A;rw[I _ (by omega)];exact h.mv A
 .rw[I _ (by omega)]at A;rw[I _ (by omega)];exact h.ex j J A
 rw[I _ (by omega)]at A;rw[I _ (by omega)];exact h.ag j J A
theorem z5q.called{u:Value}(h:z5q n m T D v w)(hd:D n=false)(O:T true u w'):z5q n m T (mark D n) (z3d v n u) w':=by
 have J:D (n+1)=false:=by
  cases e:D (n+1)with
  | false=>rfl
  | true=>have:=(h.mv e).1;rw[hd]at this;cases this
 have L:∀j,j<m->D (n+2+j)=false:=fun j I=>by
  cases e:D (n+2+j)with
  | false=>rfl
  | true=>have:=(h.ex j I e).1;rw[J]at this;cases this
 have N:∀j,j<m->D (n+2+m+j)=false:=fun j I=>by
  cases e:D (n+2+m+j)with
  | false=>rfl
  | true=>have:=(h.ag j I e).1;rw[L j I]at this;cases this
 refine⟨by rw[z1T,z0q];exact O,fun A=>?_,fun j I A=>?_,fun j I A=>?_⟩
 .rw[q9 (by omega),J]at A;cases A
 .rw[q9 (by omega),L j I]at A;cases A
 rw[q9 (by omega),N j I]at A;cases A
theorem z5q.moved(h:z5q n m T D v w)(hd:D n=true):z5q n m T (mark D (n+1)) (z3d v (n+1) (v n)) w:=by
 have J:z3d v (n+1) (v n) n=v n:=z0g (by omega);refine⟨by rw[q9 (by omega),J];exact h.t,fun _=>⟨by rw[q9 (by omega)];exact hd,by rw[z0q,J]⟩,fun j I A=>?_,fun j I A=>?_⟩
 .rw[q9 (by omega)]at A;exact⟨z1T _ _,by rw[z0g (by omega),J];exact(h.ex j I A).2⟩
 rw[q9 (by omega)]at A;exact⟨by rw[q9 (by omega)];exact(h.ag j I A).1,by rw[z0g (by omega),J];exact(h.ag j I A).2⟩
theorem z5q.ext(h:z5q n m T D v w)(i:Nat)(O:i<m)(hd:D (n+1)=true){u:Value}(N:y0f i (v n)=u):z5q n m T (mark D (n+2+i)) (z3d v (n+2+i) u) w:=by
 have I:z3d v (n+2+i) u n=v n:=z0g (by omega);refine⟨by rw[q9 (by omega),I];exact h.t,fun A=>?_,fun j J A=>?_,fun j J A=>?_⟩
 .rw[q9 (by omega)]at A;rw[q9 (by omega),z0g (by omega),I];exact h.mv A
 .refine⟨by rw[q9 (by omega)];exact hd,?_⟩;by_cases e:i=j
  .subst e;rw[z0q,I,N]
  rw[q9 (by omega)]at A;rw[z0g (by omega),I];exact(h.ex j J A).2
 rw[q9 (by omega)]at A;have L:=h.ag j J A;refine⟨?_,by rw[z0g (by omega),I];exact L.2⟩;by_cases e:i=j
 .subst e;exact z1T _ _
 rw[q9 (by omega)];exact L.1
theorem z5q.asg(h:z5q n m T D v w)(i:Nat)(N:i<m)(hd:D (n+2+i)=true):z5q n m T (mark D (n+2+m+i)) (z3d v (n+2+m+i) (v (n+2+i))) w:=by
 have I:z3d v (n+2+m+i) (v (n+2+i)) n=v n:=z0g (by omega);refine⟨by rw[q9 (by omega),I];exact h.t,fun A=>?_,fun j J A=>?_,fun j J A=>?_⟩
 .rw[q9 (by omega)]at A;rw[q9 (by omega),z0g (by omega),I];exact h.mv A
 .rw[q9 (by omega)]at A;rw[q9 (by omega),z0g (by omega),I];exact h.ex j J A
 by_cases e:i=j
 .subst e;exact⟨by rw[q9 (by omega)];exact hd,by rw[z0q,I];exact(h.ex i N hd).2⟩
 rw[q9 (by omega)]at A;have L:=h.ag j J A;exact⟨by rw[q9 (by omega)];exact L.1,by rw[z0g (by omega),I];exact L.2⟩
theorem z5q.fin{N:Nat}(I:N=n+2+2*m)(h:z5q n m T (fun j=>decide (j<N)) v w):T true (v n) w/\v (n+1)=v n/\(∀j,j<m->v (n+2+j)=y0f j (v n))/\∀j,j<m->v (n+2+m+j)=y0f j (v n):=by
 subst I;refine⟨?_,(h.mv (by simp;omega)).2,fun j A=>(h.ex j A (by simp;omega)).2,fun j A=>(h.ag j A (by simp;omega)).2⟩;have:=h.t;rw[decide_eq_true (by omega)]at this;exact this
theorem z5q.parts2{N:Nat}{a b:Value}(O:N=n+6)(h:z5q n 2 T (fun j=>decide (j<N)) v w)(L:v n= .tuple #[a,b]):
  v (n+1)= .tuple #[a,b]/\v (n+2)=a/\v (n+3)=b/\v (n+4)=a/\v (n+5)=b:=by
 obtain⟨-,J,A,I⟩:=z5q.fin (by omega) h;rw[L]at J A I;exact⟨J,A 0 (by omega),A 1 (by omega),I 0 (by omega),I 1 (by omega)⟩
end

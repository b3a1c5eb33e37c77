/-
  A region that draws its order, walked once, in the order of the text: each operation is carried out in whatever world meets S and the facts of those that it waits for; what it leaves must be kept by all others (Ext). The last operations, which wait for all others, are left as a list.
  A region that draws its order, walked once, where what holds depends on which of its operations are done: a call that changes what another operation looks at.
  A region that draws its order, walked once, where what holds depends on which of its operations are done, and on what these have made: calls that change what others look at, and hand back new memory.
-/
import Derived.Test.YtpocjegemokjgaaGreatDoorRows
import Derived.WalkKit
import Derived.Orders
namespace Go.Proofs.YtpocjegemokjgaaGreatDoor
set_option linter.all false
set_option maxRecDepth 100000
set_option maxHeartbeats 12800000
open Go.RowKit
section
variable (P:Program) (ops:Array Oper) (S:World->Prop) (Ext:World->World->Prop)
def z1e(o:Oper)(j:Nat):Bool:=o.after.any fun e=>Region.binds .any e&&e.on==j
def z8f(a:Act)(o:Oper)(R:Value->World->Prop)(w:World):Prop:=
 Region.wanted o (yielded ops a.tmps)=true/\o.wp P a w (fun a' w'=>∃u,a'=a.put o.dst u/\R u w'/\Ext w w') (fun _ _ _=>False)
def q1u(a:Act)(o:Oper)(e:Value)(w:World):Prop:=
 (Region.wanted o (yielded ops a.tmps)=true/\(execOp a.eval o).run P w= .ok (.value e) w)\/(Region.wanted o (yielded ops a.tmps)=false/\e=undef)\/z8f P ops Ext a o (fun u _=>u=e) w
def Hav(Fin:Act->World->Prop):((Nat->Value)->Act)->List (Nat×(Value->World->Prop))->Nat->List Oper->Prop
 | fr,rels,_, []=>∀v w,S w->(∀p∈rels,p.2 (v p.1) w)->Fin (fr v) w
 | fr,rels,k,o::rest=>
  (∃e,(∀v w,S w->(∀p∈rels,z1e o p.1=true->p.2 (v p.1) w)->q1u P ops Ext (fr v) o e w)/\Hav Fin (fun v=>(fr v).put o.dst e) rels (k+1) rest)\/
  (∃R:Value->World->Prop,(∀u w w',Ext w w'->R u w->R u w')/\(∀v w,S w->(∀p∈rels,z1e o p.1=true->p.2 (v p.1) w)->z8f P ops Ext (fr v) o R w)/\
   Hav Fin (fun v=>(fr v).put o.dst (v k)) (rels++ [(k,R)]) (k+1) rest)
inductive Spec where
 | det (e:Value)
 | rel (R:Value->World->Prop)
def Spec.val:Spec->Value->Value
 | .det e,_=>e
 | .rel _,u=>u
def Spec.ok:Spec->Value->World->Prop
 | .det _,_,_=>True
 | .rel R,u,w=>R u w
def z1g(a0:Act)(sp:Nat->Spec):Nat->(Nat->Value)->Act
 | 0,_=>a0
 | i+1,v=>(z1g a0 sp i v).put ((ops[i]?).bind (·.dst)) ((sp i).val (v i))
theorem z1s{a0:Act}{sp sp':Nat->Spec}:∀(i:Nat) (v:Nat->Value),(∀j,j<i->sp j=sp' j)->z1g ops a0 sp i v=z1g ops a0 sp' i v
 | 0,_,_=>rfl
 | i+1,v,h=>by rw[z1g,z1g,z1s i v fun j A=>h j (by omega),h i (by omega)]
def q5r(a0:Act)(sp:Nat->Spec)(i:Nat):Prop:=
 ∀o,ops[i]? =some o->∀v w,S w->(∀j,j<i->z1e o j=true->(sp j).ok (v j) w)->
  (match sp i with
   | .det e=>q1u P ops Ext (z1g ops a0 sp i v) o e w
   | .rel R=>z8f P ops Ext (z1g ops a0 sp i v) o R w)
def q5h(sp:Nat->Spec)(i:Nat):Prop:=∀R,sp i= .rel R->∀u w w',Ext w w'->R u w->R u w'
theorem Hav.extract{Fin:Act->World->Prop}{a0:Act}(L:Nat):∀(rest:List Oper) (k:Nat) (fr:(Nat->Value)->Act) (rels:List (Nat×(Value->World->Prop))) (sp:Nat->Spec),
  (∀j,rest[j]? =if k+j<L then ops[k+j]? else none)->k+rest.length=L->(∀v,fr v=z1g ops a0 sp k v)->(∀p,p∈rels↔p.1<k/\sp p.1= .rel p.2)->Hav P ops S Ext Fin fr rels k rest->
  ∃sp':Nat->Spec,(∀j,j<k->sp' j=sp j)/\(∀i,k<=i->i<L->q5r P ops S Ext a0 sp' i/\q5h Ext sp' i)/\
   (∀v w,S w->(∀j,j<L->(sp' j).ok (v j) w)->Fin (z1g ops a0 sp' L v) w)
 | [],k,fr,rels,sp,hr,hk,hf,hrel,h=>by
  simp only[List.length_nil,Nat.add_zero]at hk;subst hk;refine⟨sp,fun _ _=>rfl,fun i U Y=>by omega,fun v w hS a3=>?_⟩;rw[<-hf];refine h v w hS fun p B=>?_;obtain⟨U,Y⟩:=(hrel p).1 B;have:=a3 p.1 U;rw[Y]at this;exact this
 | o::rest,k,fr,rels,sp,hr,hk,hf,hrel,h=>by
  simp only[List.length_cons]at hk;have ho:ops[k]? =some o:=by
   have:=hr 0;simp only[List.getElem?_cons_zero,Nat.add_zero]at this;rw[if_pos (by omega)]at this;exact this.symm
  have a1:∀j,rest[j]? =if k+1+j<L then ops[k+1+j]? else none:=fun j=>by
   have:=hr (j+1);simp only[List.getElem?_cons_succ]at this;rw[this,show k+(j+1)=k+1+j from by omega]
  rcases h with⟨e,U,Y⟩|⟨R,hm,U,Y⟩
  ·obtain⟨sp',J,g2,g3⟩:=Hav.extract L rest (k+1) _ rels (fun j=>if j=k then .det e else sp j) a1 (by omega)
    (fun v=>by
     rw[z1g,hf,ho];simp only[if_true,Spec.val,Option.bind_some];rw[z1s ops k v (sp':=fun j=>if j=k then .det e else sp j) fun j hj=>by rw[if_neg (by omega)]])
    (fun p=>by
     rw[hrel];constructor
     ·rintro⟨a,b⟩;exact⟨by omega,by rw[if_neg (by omega)];exact b⟩
     ·rintro⟨a,b⟩;by_cases B:p.1=k
      ·rw[if_pos B]at b;cases b
      ·rw[if_neg B]at b;exact⟨by omega,b⟩) Y
   refine⟨sp',fun j hj=>by rw[J j (by omega),if_neg (by omega)],fun i a2 O=>?_,g3⟩;by_cases hik:i=k
   ·subst hik;have A:sp' i= .det e:=(by rw[J i (by omega),if_pos rfl]);refine⟨?_,fun R N=>by rw[A]at N;cases N⟩;intro o' I v w hS hF;obtain rfl:o=o':=by rw[ho]at I;exact Option.some.inj I
    rw[A];simp only;have:=U v w hS fun p B ha=>by
     obtain⟨q1,q2⟩:=(hrel p).1 B;have:=hF p.1 q1 ha;rw[J p.1 (by omega),if_neg (by omega),q2]at this;exact this
    rw[hf,z1s ops i v (sp':=sp') fun j hj=>by rw[J j (by omega),if_neg (by omega)]]at this;exact this
   ·exact g2 i (by omega) O
  ·obtain⟨sp',J,g2,g3⟩:=Hav.extract L rest (k+1) _ _ (fun j=>if j=k then .rel R else sp j) a1 (by omega)
    (fun v=>by
     rw[z1g,hf,ho];simp only[if_true,Spec.val,Option.bind_some];rw[z1s ops k v (sp':=fun j=>if j=k then .rel R else sp j) fun j hj=>by rw[if_neg (by omega)]])
    (fun p=>by
     rw[List.mem_append,hrel];constructor
     ·rintro(⟨a,b⟩|B)
      ·exact⟨by omega,by rw[if_neg (by omega)];exact b⟩
      ·simp only[List.mem_singleton]at B;subst B;exact⟨by simp,by simp⟩
     ·rintro⟨a,b⟩;by_cases B:p.1=k
      ·rw[if_pos B]at b
       injection b with b
       exact .inr (by obtain⟨p1,p2⟩:=p;simp only at B b;subst B;subst b;simp)
      ·rw[if_neg B]at b;exact .inl ⟨by omega,b⟩) Y
   refine⟨sp',fun j hj=>by rw[J j (by omega),if_neg (by omega)],fun i a2 O=>?_,g3⟩;by_cases hik:i=k
   ·subst hik;have A:sp' i= .rel R:=(by rw[J i (by omega),if_pos rfl]);refine⟨?_,fun R' N=>by rw[A]at N;injection N with N;subst N;exact hm⟩;intro o' I v w hS hF;obtain rfl:o=o':=by rw[ho]at I;exact Option.some.inj I
    rw[A];simp only;have:=U v w hS fun p B ha=>by
     obtain⟨q1,q2⟩:=(hrel p).1 B;have:=hF p.1 q1 ha;rw[J p.1 (by omega),if_neg (by omega),q2]at this;exact this
    rw[hf,z1s ops i v (sp':=sp') fun j hj=>by rw[J j (by omega),if_neg (by omega)]]at this;exact this
   ·exact g2 i (by omega) O
inductive Reach:Nat->Nat->Prop where
 | base {k j:Nat} {o:Oper} (ho:ops[k]? =some o) (h:z1e o j=true):Reach k j
 | step {k m j:Nat} {o:Oper} (hr:Reach k m) (ho:ops[m]? =some o) (h:z1e o j=true):Reach k j
structure y1G (n0:Nat):Prop where
 le:n0<=ops.size
 ahead:∀i o j,ops[i]? =some o->z1e o j=true->j<i
 uniq:∀i j d,i<n0->j<n0->(ops[i]?).bind (·.dst)=some d->(ops[j]?).bind (·.dst)=some d->i=j
 looks:∀i o,i<n0->ops[i]? =some o->∀t∈o.looksAt ops,∀j oj,j<n0->ops[j]? =some oj->oj.dst=some t->(j<i/\z1e o j=true)\/(i<j/\z1e oj i=true)
 nosel:Region.noSelect ops=true
 tail:∀k o,n0<=k->ops[k]? =some o->∀j,j<k->Reach ops k j
variable {P ops S Ext}
theorem z4I(a:Act)(d:Nat)(u:Value)(h:d<a.tmps.size):(a.put (some d) u).tmps.getD d undef=u:=by
 simp[Act.put,h]
theorem z5X(a:Act)(x:Option Tmp)(t:Nat)(u:Value)(h:x≠some t):(a.put x u).tmps.getD t undef=a.tmps.getD t undef:=by
 cases x with
 | none=>rfl
 | some d=>
  have A:d≠t:=fun e=>h (by rw[e]);simp[Act.put,Array.getElem?_setIfInBounds_ne A]
theorem y5o(a:Act)(x:Option Tmp)(u:Value):(a.put x u).tmps.size=a.tmps.size:=by cases x<;>simp[Act.put]
theorem z6c(a:Act)(x:Option Tmp)(u:Value):(a.put x u).defers=a.defers:=by cases x<;>rfl
structure Agree (a0:Act) (sp:Nat->Spec) (n0:Nat) (D:Nat->Prop) (v:Nat->Value) (a:Act):Prop where
 defers:a.defers=a0.defers
 size:a.tmps.size=a0.tmps.size
 done:∀j d,j<n0->D j->(ops[j]?).bind (·.dst)=some d->a.tmps.getD d undef=(sp j).val (v j)
 rest:∀t,(∀j,j<n0->D j->(ops[j]?).bind (·.dst)≠some t)->a.tmps.getD t undef=a0.tmps.getD t undef
theorem Agree.frame{a0:Act}{sp:Nat->Spec}{J:Nat}(N:y1G ops J)(hd:∀j d,j<J->(ops[j]?).bind (·.dst)=some d->d<a0.tmps.size)(v:Nat->Value):
  ∀i,i<=J->Agree (ops:=ops) a0 sp J (·<i) v (z1g ops a0 sp i v)
 | 0,_=>⟨rfl,rfl,fun j d _ h _=>absurd h (Nat.not_lt_zero j),fun _ _=>rfl⟩
 | i+1,h=>by
  have I:=Agree.frame (sp:=sp) N hd v i (by omega);refine⟨by rw[z1g,z6c,I.defers],by rw[z1g,y5o,I.size],fun j d B L A=>?_,fun t O=>?_⟩
  ·rw[z1g];by_cases e:j=i
   ·subst e;rw[A,z4I _ _ _ (by rw[I.size];exact hd j d B A)]
   ·rw[z5X _ _ _ _ fun R=>e (N.uniq j i d B (by omega) A R)];exact I.done j d B (by omega) A
  ·rw[z1g,z5X _ _ _ _ (O i (by omega) (by omega))];exact I.rest t fun j B L=>O j B (by omega)
theorem Agree.eq{a0:Act}{sp:Nat->Spec}{J:Nat}{D:Nat->Prop}{v:Nat->Value}{a b:Act}(B:Agree (ops:=ops) a0 sp J D v a)(hb:Agree (ops:=ops) a0 sp J D v b):a=b:=by
 obtain⟨R,Y⟩:=a;obtain⟨U,db⟩:=b;have L:Y=db:=B.defers.trans hb.defers.symm;have N:R=U:=by
  apply Array.ext (B.size.trans hb.size.symm);intro t L N;have key:R.getD t undef=U.getD t undef:=by
   by_cases h:∃j,j<J/\D j/\(ops[j]?).bind (·.dst)=some t
   ·obtain⟨j,I,A,hd⟩:=h;exact(B.done j t I A hd).trans (hb.done j t I A hd).symm
   ·have O:∀j,j<J->D j->(ops[j]?).bind (·.dst)≠some t:=fun j I A hd=>h ⟨j,I,A,hd⟩;exact(B.rest t O).trans (hb.rest t O).symm
  simpa[L,N]using key
 subst L;subst N;rfl
theorem Agree.sees{a0:Act}{sp:Nat->Spec}{R:Nat}{D:Nat->Prop}{v:Nat->Value}{a:Act}(hc:y1G ops R)(hd:∀j d,j<R->(ops[j]?).bind (·.dst)=some d->d<a0.tmps.size)
  (ha:Agree (ops:=ops) a0 sp R D v a) {i:Nat} {o:Oper} (hi:i<R) (ho:ops[i]? =some o) (a1:∀j,z1e o j=true->D j) (O:∀j L,ops[j]? =some L->z1e L i=true->¬D j)
  (t:Nat) (ht:t∈o.looksAt ops):a.tmps.getD t undef=(z1g ops a0 sp i v).tmps.getD t undef:=by
 have hf:=Agree.frame (sp:=sp) hc hd v i (by omega);by_cases h:∃j L,j<R/\ops[j]? =some L/\L.dst=some t
 ·obtain⟨j,L,hj,N,U⟩:=h;have B:(ops[j]?).bind (·.dst)=some t:=by rw[N];exact U
  rcases hc.looks i o hi ho t ht j L hj N U with⟨h1,h2⟩|⟨h1,h2⟩
  ·rw[ha.done j t hj (a1 j h2) B,hf.done j t hj h1 B]
  ·have a2:=O j L N h2;have J:∀k,k<R->(ops[k]?).bind (·.dst)=some t->k=j:=fun k I A=>hc.uniq k j t I hj A B;rw[ha.rest t fun k I hD A=>a2 (J k I A▸hD),hf.rest t fun k I a3 A=>by have:=J k I A;omega]
 ·have Y:∀k,k<R->(ops[k]?).bind (·.dst)≠some t:=fun k I A=>by
   cases hok:ops[k]? with
   | none=>rw[hok]at A;cases A
   | some ok=>rw[hok]at A;exact h ⟨k,ok,I,hok,A⟩
  rw[ha.rest t fun k I _=>Y k I,hf.rest t fun k I _=>Y k I]
theorem y3W{a b:Act}{o:Oper}(h:∀t∈o.looksAt ops,a.tmps.getD t undef=b.tmps.getD t undef):∀x∈o.op.operands,a.eval x=b.eval x:=by
 intro x A;cases x with
 | tmp t=>exact h t (List.mem_append_left _ (List.mem_filterMap.2 ⟨.tmp t,by simpa using A,rfl⟩))
 | const v=>rfl
 | global g=>rfl
 | func f=>rfl
theorem y1M{a b:Act}{o:Oper}(h:∀t∈o.looksAt ops,a.tmps.getD t undef=b.tmps.getD t undef):Region.wanted o (yielded ops a.tmps)=Region.wanted o (yielded ops b.tmps):=by
 unfold Region.wanted;cases hg:o.guard with
 | none=>rfl
 | some gw=>
  obtain⟨g,A⟩:=gw;have B:yielded ops a.tmps g=yielded ops b.tmps g:=by
   unfold yielded;cases ht:(ops[g]?).bind (·.dst)with
   | none=>rfl
   | some t=>
    have:=h t (List.mem_append_right _ (by simp[hg,ht]));simp only[Array.getD_eq_getD_getElem?]at this;simp only[Option.bind_some];cases ha:a.tmps[t]? with
    | none=>
     cases hb:b.tmps[t]? with
     | none=>rfl
     | some y=>rw[ha,hb]at this;simp only[Option.getD_none,Option.getD_some]at this;subst this;rfl
    | some x=>
     cases hb:b.tmps[t]? with
     | none=>rw[ha,hb]at this;simp only[Option.getD_none,Option.getD_some]at this;subst this;rfl
     | some y=>rw[ha,hb]at this;simp only[Option.getD_some]at this;subst this;rfl
  simp only[B]
theorem y4o{a:Act}{x:Option Tmp}{u A:Value}(I:∀d,x=some d->d<a.tmps.size)(h:a.put x u=a.put x A):x=none\/u=A:=by
 cases x with
 | none=>exact .inl rfl
 | some d=>
  right
  have B:=z4I a d u (I d rfl);rw[h,z4I a d A (I d rfl)]at B;exact B.symm
theorem z8f.carry{a b:Act}{o:Oper}{R:Value->World->Prop}{w:World}{Q:Exit->Act->World->Prop}{K:Act->World->Prop}(U:∀cs b,o.op≠ .select cs b)
  (B:∀x∈o.op.operands,a.eval x=b.eval x) (Y:Region.wanted o (yielded ops a.tmps)=Region.wanted o (yielded ops b.tmps)) (J:∀d,o.dst=some d->d<b.tmps.size)
  (h:z8f P ops Ext b o R w) (L:∀u w',R u w'->Ext w w'->K (a.put o.dst u) w'):Region.wanted o (yielded ops a.tmps)=true/\o.wp P a w K Q:=by
 obtain⟨N,A⟩:=h;refine⟨Y.trans N,?_⟩;unfold Oper.wp at*;rw[execOp_congr o U B];have conv:∀v w',(∃u,b.put o.dst v=b.put o.dst u/\R u w'/\Ext w w')->K (a.put o.dst v) w':=fun v w' ⟨u,e,hR,hE⟩=>by
  rcases y4o J e with e|e
  ·have:=L u w' hR hE;rw[e]at this ⊢;exact this
  ·subst e;exact L v w' hR hE
 generalize (execOp b.eval o).run P w=r at A
 cases r with
 | ok n w'=>
  cases n<;>simp only[Oper.upon]at A ⊢
  case value v=>exact conv v w' A
  case skip=>exact conv undef w' A
  case defer d=>
   obtain⟨u,e,_⟩:=A;have:=congrArg (fun x:Act=>x.defers.length) e;simp only[z6c]at this;simp at this
  case enter f args=>
   refine Calls.mono A fun e I B=>?_;cases e with
   | returned v=>exact conv v I B
   | panicked c=>exact B.elim
   | outgrown=>obtain⟨_,_,O⟩:=B;exact O.elim
  case row row args=>exact Rows.mono A fun v I B=>conv v I B
 | halt x w'=>
  cases x<;>simp only[Oper.upon]at A
theorem z2Q{l:Array Bool}{i j:Nat}(b:Bool)(A:i<l.size):(l.setIfInBounds i true).getD j b=if i=j then true else l.getD j b:=by
 by_cases h:i=j
 ·subst h;simp[A]
 ·rw[if_neg h];simp[Array.getElem?_setIfInBounds_ne h]
theorem y4A{n0:Nat}{Q:Exit->Act->World->Prop}(hc:y1G ops n0):∀(fuel m:Nat) (listed:Array Bool) (a:Act) (w:World),n0<=m->m+fuel=ops.size->listed.size=ops.size->
  (∀j,j<ops.size->listed.getD j true=decide (j<m))->wpOps P ops Q (List.range' m fuel) a w->wpAny P .any ops Q fuel listed a w
 | 0,m,listed,a,w,hm,hs,hls,hl,h=>by
  refine⟨?_,by simpa[wpOps]using h⟩;refine List.eq_nil_iff_forall_not_mem.2 fun j hj=>?_;obtain⟨h1,o,Y,_⟩:=mem_ready.1 hj;have I:=(Array.getElem?_eq_some_iff.1 Y).1;rw[hl j I,decide_eq_false_iff_not]at h1;omega
 | fuel+1,m,listed,a,w,hm,hs,hls,hl,h=>by
  have J:m<ops.size:=by omega
  have U:m∈Region.ready .any ops listed:=by
   refine mem_ready.2 ⟨by rw[hl m J];simp,ops[m],by simp[J],fun e he hb=>?_⟩;have I:=hc.ahead m ops[m] e.on (by simp[J]) (by
    unfold z1e;rw[Array.any_eq_true'];exact⟨e,he,by simp[hb]⟩)
   have:=hl e.on (by omega);rw[decide_eq_true I]at this;simp only[Array.getD_eq_getD_getElem?]at this ⊢;have N:e.on<listed.size:=(by omega);simp only[Array.getElem?_eq_getElem N,Option.getD_some]at this ⊢;exact this
  refine⟨fun h0=>(by rw[h0]at U;cases U),fun j hj=>?_⟩;have a2:j=m:=by
   obtain⟨h1,o,Y,R⟩:=mem_ready.1 hj;have I:=(Array.getElem?_eq_some_iff.1 Y).1;rw[hl j I,decide_eq_false_iff_not]at h1;refine Nat.le_antisymm (Nat.le_of_not_lt fun a1=>?_) (by omega);have A:∀q,z1e o q=true->listed.getD q false=true:=fun q L=>by
    unfold z1e at L;rw[Array.any_eq_true']at L;obtain⟨e,he,hb⟩:=L;simp only[Bool.and_eq_true,beq_iff_eq]at hb;rw[<-hb.2];exact R e he hb.1
   have B:∀q,m<=q->listed.getD q false=true->False:=fun q L h2=>by
    by_cases hqs:q<ops.size
    ·have O:=hl q hqs;rw[decide_eq_false (by omega)]at O;simp only[Array.getD_eq_getD_getElem?]at h2 O;have N:q<listed.size:=(by omega);simp only[Array.getElem?_eq_getElem N,Option.getD_some]at h2 O;rw[h2]at O;cases O
    ·simp[Array.getElem?_eq_none (show listed.size<=q by omega)]at h2
   have all:∀q,Reach ops j q->q<m:=fun q L=>by
    generalize hjj:j=jj at L
    induction L with
    | base ho' h=>
     subst hjj;rw[Y]at ho';obtain rfl:=Option.some.inj ho';exact Nat.lt_of_not_le fun a0=>B _ a0 (A _ h)
    | step hr hoq h ih=>
     have:=hc.ahead _ _ _ hoq h;omega
   exact Nat.lt_irrefl _ (all m (hc.tail j o (by omega) Y m a1))
  subst a2;rw[List.range'_succ,wpOps_cons]at h;refine wpOp_mono (fun a w hh=>?_) h;refine y4A hc fuel (j+1) _ a w (by omega) (by omega) (by simpa using hls) (fun q L=>?_) hh;rw[z2Q _ (by omega)];by_cases e:j=q
  ·subst e;simp
  ·rw[if_neg e,hl q L];simp only[decide_eq_decide];omega
theorem z5m{l:Array Bool}{i:Nat}(h:i<l.size):l.getD i true=l.getD i false:=by simp[h]
end
def y4B(acc:Array Bool)(o:Oper):Array Bool:=o.after.toList.foldl (fun acc e=>if Region.binds .any e then acc.setIfInBounds e.on true else acc) acc
def y7l(ops:Array Oper)(k:Nat):Array Bool:=
 (List.range k).reverse.foldl (fun acc i=>if acc.getD i false then(match ops[i]? with|some o=>y4B acc o|none=>acc)else acc) (match ops[k]? with|some o=>y4B (Array.replicate k false) o|none=>Array.replicate k false)
theorem z9W{R:Nat->Prop}{A:Array Bool}{o:Oper}(h:∀j,A.getD j false=true->R j)(U:∀j,z1e o j=true->R j):∀j,(y4B A o).getD j false=true->R j:=by
 unfold y4B;have:∀(l:List Edge) (A:Array Bool),(∀e∈l,e∈o.after.toList)->(∀j,A.getD j false=true->R j)->∀j,(l.foldl (fun A e=>if Region.binds .any e then A.setIfInBounds e.on true else A) A).getD j false=true->R j:=by
  intro l
  induction l with
  | nil=>intro A _ h j J;exact h j J
  | cons e l ih=>
   intro A L h j J;refine ih _ (fun N I=>L N (by simp[I])) (fun q B=>?_) j J;simp only at B;by_cases hb:Region.binds .any e=true
   ·rw[if_pos hb]at B;by_cases e2:e.on=q
    ·refine U q ?_;unfold z1e;rw[Array.any_eq_true'];exact⟨e,by simpa using L e (by simp),by simp[hb,e2]⟩
    ·rw[show(A.setIfInBounds e.on true).getD q false=A.getD q false from by simp[Array.getElem?_setIfInBounds_ne e2]]at B;exact h q B
   ·rw[if_neg hb]at B;exact h q B
 exact this _ A (fun e O=>O) h
theorem y3S{ops:Array Oper}{k:Nat}:∀j,(y7l ops k).getD j false=true->Reach ops k j:=by
 unfold y7l;have:∀(l:List Nat) (A:Array Bool),(∀j,A.getD j false=true->Reach ops k j)->
   ∀j,(l.foldl (fun A i=>if A.getD i false then(match ops[i]? with|some o=>y4B A o|none=>A)else A) A).getD j false=true->Reach ops k j:=by
  intro l
  induction l with
  | nil=>intro A h j B;exact h j B
  | cons i l ih=>
   intro A h j B;refine ih _ (fun q I=>?_) j B;simp only at I;by_cases hi:A.getD i false=true
   ·rw[if_pos hi]at I;cases ho:ops[i]? with
    | none=>rw[ho]at I;exact h q I
    | some o=>rw[ho]at I;exact z9W h (fun j B=> .step (h i hi) ho B) q I
   ·rw[if_neg hi]at I;exact h q I
 refine this _ _ fun j B=>?_;have J:∀j,(Array.replicate k false).getD j false=true->Reach ops k j:=fun j B=>by
  by_cases h:j<k<;>simp[h]at B
 cases ho:ops[k]? with
 | none=>rw[ho]at B;exact J j B
 | some o=>rw[ho]at B;exact z9W J (fun j B=> .base ho B) j B
def y0u(ops:Array Oper)(n0:Nat):Bool:=
 decide (n0<=ops.size)&&
 ((List.range ops.size).all fun i=>match ops[i]? with|some o=>o.after.all fun e=>!Region.binds .any e || decide (e.on<i)|none=>true)&&
 ((List.range n0).all fun i=>(List.range n0).all fun j=>match(ops[i]?).bind (·.dst),(ops[j]?).bind (·.dst)with|some d,some d'=>d !=d' || i==j|_,_=>true)&&
 ((List.range n0).all fun i=>match ops[i]? with
  | some o=>(o.looksAt ops).all fun t=>(List.range n0).all fun j=>match ops[j]? with
   | some oj=>oj.dst !=some t || (decide (j<i)&&z1e o j) || (decide (i<j)&&z1e oj i)
   | none=>true
  | none=>true)&&
 Region.noSelect ops&&
 ((List.range ops.size).all fun k=>decide (k<n0) || (List.range k).all fun j=>(y7l ops k).getD j false)
theorem y9L{ops:Array Oper}{U:Nat}(h:y0u ops U=true):y1G ops U:=by
 simp only[y0u,Bool.and_eq_true,decide_eq_true_eq,List.all_eq_true,List.mem_range]at h;obtain⟨⟨⟨⟨⟨Y,h2⟩,h3⟩,h4⟩,h5⟩,h6⟩:=h;refine⟨Y,fun i o j B J=>?_,fun i j d O I L N=>?_,fun i o O B t ht j oj I R hd=>?_,h5,fun k o hk B j I=>?_⟩
 ·have:=h2 i (Array.getElem?_eq_some_iff.1 B).1;rw[B]at this;simp only[Array.all_eq_true_iff_forall_mem]at this;unfold z1e at J;rw[Array.any_eq_true']at J;obtain⟨e,he,hb⟩:=J;simp only[Bool.and_eq_true,beq_iff_eq]at hb;have A:=this e he;rw[hb.1]at A;simp only[Bool.not_true,Bool.false_or,decide_eq_true_eq]at A;omega
 ·have:=h3 i O j I;rw[L,N]at this;simpa using this
 ·have:=h4 i O;rw[B]at this;simp only[List.all_eq_true,List.mem_range]at this;have A:=this t ht j I;rw[R]at A;simp only[hd,bne_self_eq_false,Bool.false_or,Bool.or_eq_true,Bool.and_eq_true,decide_eq_true_eq]at A;exact A
 ·have A:=h6 k (Array.getElem?_eq_some_iff.1 B).1;simp only[Bool.or_eq_true,decide_eq_true_eq]at A;rcases A with A|A
  ·omega
  ·rw[List.all_eq_true]at A;exact y3S j (A j (by simpa using I))
def y0s(ops:Array Oper)(n0 N:Nat):Bool:=(List.range n0).all fun j=>match(ops[j]?).bind (·.dst)with|some d=>decide (d<N)|none=>true
theorem y9C{ops:Array Oper}{A N:Nat}(h:y0s ops A N=true):∀j d,j<A->(ops[j]?).bind (·.dst)=some d->d<N:=by
 intro j d B hd;simp only[y0s,List.all_eq_true,List.mem_range]at h;have:=h j B;rw[hd]at this;simpa using this
section
variable {P:Program} {ops:Array Oper} {S:World->Prop} {Ext:World->World->Prop} {Fin:Act->World->Prop} {fr:(Nat->Value)->Act} {rels:List (Nat×(Value->World->Prop))} {k:Nat} {o:Oper} {rest:List Oper}
theorem Hav.det(e:Value)(A:∀v w,S w->(∀p∈rels,z1e o p.1=true->p.2 (v p.1) w)->q1u P ops Ext (fr v) o e w)(B:Hav P ops S Ext Fin (fun v=>(fr v).put o.dst e) rels (k+1) rest):Hav P ops S Ext Fin fr rels k (o::rest):=
 .inl ⟨e,A,B⟩
theorem Hav.read(e:Value)(L:∀v,Region.wanted o (yielded ops (fr v).tmps)=true)(A:∀v w,S w->(∀p∈rels,z1e o p.1=true->p.2 (v p.1) w)->(execOp (fr v).eval o).run P w= .ok (.value e) w)
  (B:Hav P ops S Ext Fin (fun v=>(fr v).put o.dst e) rels (k+1) rest):Hav P ops S Ext Fin fr rels k (o::rest):=
 .det e (fun v w J I=> .inl ⟨L v,A v w J I⟩) B
theorem Hav.skip(B:∀v,Region.wanted o (yielded ops (fr v).tmps)=false)(A:Hav P ops S Ext Fin (fun v=>(fr v).put o.dst undef) rels (k+1) rest):Hav P ops S Ext Fin fr rels k (o::rest):=
 .det undef (fun v w J I=> .inr (.inl ⟨B v,rfl⟩)) A
theorem Hav.call(e:Value)(L:∀v,Region.wanted o (yielded ops (fr v).tmps)=true)
  (A:∀v w,S w->(∀p∈rels,z1e o p.1=true->p.2 (v p.1) w)->o.wp P (fr v) w (fun a' w'=>∃u,a'=(fr v).put o.dst u/\u=e/\Ext w w') (fun _ _ _=>False))
  (B:Hav P ops S Ext Fin (fun v=>(fr v).put o.dst e) rels (k+1) rest):Hav P ops S Ext Fin fr rels k (o::rest):=
 .det e (fun v w J I=> .inr (.inr ⟨L v,A v w J I⟩)) B
theorem Hav.rel(R:Value->World->Prop)(I:∀u w w',Ext w w'->R u w->R u w')(A:∀v w,S w->(∀p∈rels,z1e o p.1=true->p.2 (v p.1) w)->z8f P ops Ext (fr v) o R w)
  (B:Hav P ops S Ext Fin (fun v=>(fr v).put o.dst (v k)) (rels++ [(k,R)]) (k+1) rest):Hav P ops S Ext Fin fr rels k (o::rest):=
 .inr ⟨R,I,A,B⟩
theorem Hav.fin(h:∀v w,S w->(∀p∈rels,p.2 (v p.1) w)->Fin (fr v) w):Hav P ops S Ext Fin fr rels k []:=h
end
section
variable (P:Program) (ops:Array Oper) (S:(Nat->Bool)->World->Prop)
def mark(D:Nat->Bool)(i:Nat):Nat->Bool:=fun j=>if i=j then true else D j
def q4A(D:Nat->Bool)(i:Nat)(a:Act)(o:Oper)(e:Value)(w:World):Prop:=
 (Region.wanted o (yielded ops a.tmps)=true/\(execOp a.eval o).run P w= .ok (.value e) w/\S (mark D i) w)\/(Region.wanted o (yielded ops a.tmps)=false/\e=undef/\S (mark D i) w)\/z8f P ops (fun _ w'=>S (mark D i) w') a o (fun u _=>u=e) w
structure Open (D:Nat->Bool) (i:Nat) (o:Oper):Prop where
 self:D i=false
 pre:∀j,z1e o j=true->D j=true
 post:∀j oj,ops[j]? =some oj->z1e oj i=true->D j=false
def y2f(Fin:Act->World->Prop):Act->Nat->List Oper->Prop
 | fr,k, []=>∀w,S (fun j=>decide (j<k)) w->Fin fr w
 | fr,k,o::rest=>∃e,(∀D w,Open ops D k o->S D w->q4A P ops S D k fr o e w)/\y2f Fin (fr.put o.dst e) (k+1) rest
def q5z(a0:Act)(sp:Nat->Spec)(i:Nat):Prop:=
 ∀o,ops[i]? =some o->∀D w,Open ops D i o->S D w->∃e,sp i= .det e/\q4A P ops S D i (z1g ops a0 sp i fun _=>undef) o e w
theorem y2f.extract{Fin:Act->World->Prop}{a0:Act}(B:Nat):∀(rest:List Oper) (k:Nat) (fr:Act) (sp:Nat->Spec),
  (∀j,rest[j]? =if k+j<B then ops[k+j]? else none)->k+rest.length=B->fr=z1g ops a0 sp k (fun _=>undef)->y2f P ops S Fin fr k rest->
  ∃sp':Nat->Spec,(∀j,j<k->sp' j=sp j)/\(∀i,k<=i->i<B->q5z P ops S a0 sp' i)/\(∀i,k<=i->i<B->∃e,sp' i= .det e)/\
   (∀w,S (fun j=>decide (j<B)) w->Fin (z1g ops a0 sp' B fun _=>undef) w)
 | [],k,fr,sp,hr,hk,hf,h=>by
  simp only[List.length_nil,Nat.add_zero]at hk;subst hk;exact⟨sp,fun _ _=>rfl,fun i N O=>by omega,fun i N O=>by omega,fun w R=>hf▸h w R⟩
 | o::rest,k,fr,sp,hr,hk,hf,h=>by
  simp only[List.length_cons]at hk;have ho:ops[k]? =some o:=by
   have:=hr 0;simp only[Nat.add_zero,List.getElem?_cons_zero]at this;rw[if_pos (by omega)]at this;exact this.symm
  have Y:∀j,rest[j]? =if k+1+j<B then ops[k+1+j]? else none:=fun j=>by
   have:=hr (j+1);simp only[List.getElem?_cons_succ]at this;rw[this,show k+(j+1)=k+1+j from by omega]
  obtain⟨e,N,O⟩:=h;obtain⟨sp',L,g2,g4,g3⟩:=y2f.extract B rest (k+1) _ (fun j=>if j=k then .det e else sp j) Y (by omega)
   (by
    rw[z1g,hf,ho];simp only[if_true,Spec.val,Option.bind_some];rw[z1s ops k (fun _=>undef) (sp':=fun j=>if j=k then .det e else sp j) fun j hj=>by rw[if_neg (by omega)]]) O
  have A:sp' k= .det e:=by rw[L k (by omega),if_pos rfl]
  refine⟨sp',fun j hj=>by rw[L j (by omega),if_neg (by omega)],fun i U I=>?_,fun i U I=>?_,g3⟩
  ·by_cases hik:i=k
   ·subst hik;intro o' J D w hD R;obtain rfl:o=o':=by rw[ho]at J;exact Option.some.inj J
    refine⟨e,A,?_⟩;have:=N D w hD R;rw[hf,z1s ops i (fun _=>undef) (sp':=sp') fun j hj=>by rw[L j (by omega),if_neg (by omega)]]at this;exact this
   ·exact g2 i (by omega) I
  ·by_cases hik:i=k
   ·subst hik;exact⟨e,A⟩
   ·exact g4 i (by omega) I
variable {P ops S}
theorem y2f.read{Fin:Act->World->Prop}{fr:Act}{k:Nat}{o:Oper}{rest:List Oper}(e:Value)(L:Region.wanted o (yielded ops fr.tmps)=true)(J:∀D w,S D w->S (mark D k) w)
  (B:∀D w,S D w->(execOp fr.eval o).run P w= .ok (.value e) w) (I:y2f P ops S Fin (fr.put o.dst e) (k+1) rest):y2f P ops S Fin fr k (o::rest):=
 ⟨e,fun D w _ A=> .inl ⟨L,B D w A,J D w A⟩,I⟩
theorem y2f.call{Fin:Act->World->Prop}{fr:Act}{k:Nat}{o:Oper}{rest:List Oper}(e:Value)(L:Region.wanted o (yielded ops fr.tmps)=true)
  (A:∀D w,Open ops D k o->S D w->o.wp P fr w (fun a' w'=>∃u,a'=fr.put o.dst u/\u=e/\S (mark D k) w') (fun _ _ _=>False))
  (B:y2f P ops S Fin (fr.put o.dst e) (k+1) rest):y2f P ops S Fin fr k (o::rest):=
 ⟨e,fun D w I J=> .inr (.inr ⟨L,A D w I J⟩),B⟩
end
section
variable (P:Program) (ops:Array Oper) (S:(Nat->Bool)->(Nat->Value)->World->Prop)
def z2O(v:Nat->Value)(i:Nat)(u:Value):Nat->Value:=fun j=>if i=j then u else v j
def q0S(D:Nat->Bool)(v:Nat->Value)(i:Nat)(a:Act)(o:Oper)(e:Value)(w:World):Prop:=
 (Region.wanted o (yielded ops a.tmps)=true/\(execOp a.eval o).run P w= .ok (.value e) w/\S (mark D i) v w)\/(Region.wanted o (yielded ops a.tmps)=false/\e=undef/\S (mark D i) v w)\/z8f P ops (fun _ w'=>S (mark D i) v w') a o (fun u _=>u=e) w
def q0N(D:Nat->Bool)(v:Nat->Value)(i:Nat)(a:Act)(o:Oper)(w:World):Prop:=
 z8f P ops (fun _ _=>True) a o (fun u w'=>S (mark D i) (z2O v i u) w') w
def q8(Fin:Act->World->Prop):((Nat->Value)->Act)->Nat->List Oper->Prop
 | fr,k, []=>∀v w,S (fun j=>decide (j<k)) v w->Fin (fr v) w
 | fr,k,o::rest=>
  (∃e,(∀D v w,Open ops D k o->S D v w->q0S P ops S D v k (fr v) o e w)/\q8 Fin (fun v=>(fr v).put o.dst e) (k+1) rest)\/
  ((∀D v w,Open ops D k o->S D v w->q0N P ops S D v k (fr v) o w)/\q8 Fin (fun v=>(fr v).put o.dst (v k)) (k+1) rest)
def y7U(a0:Act)(sp:Nat->Spec)(i:Nat):Prop:=
 ∀o,ops[i]? =some o->∀D v w,Open ops D i o->S D v w->
  (match sp i with
   | .det e=>q0S P ops S D v i (z1g ops a0 sp i v) o e w
   | .rel _=>q0N P ops S D v i (z1g ops a0 sp i v) o w)
theorem q8.extract{Fin:Act->World->Prop}{a0:Act}(I:Nat):∀(rest:List Oper) (k:Nat) (fr:(Nat->Value)->Act) (sp:Nat->Spec),
  (∀j,rest[j]? =if k+j<I then ops[k+j]? else none)->k+rest.length=I->(∀v,fr v=z1g ops a0 sp k v)->q8 P ops S Fin fr k rest->
  ∃sp':Nat->Spec,(∀j,j<k->sp' j=sp j)/\(∀i,k<=i->i<I->y7U P ops S a0 sp' i)/\
   (∀v w,S (fun j=>decide (j<I)) v w->Fin (z1g ops a0 sp' I v) w)
 | [],k,fr,sp,hr,hk,hf,h=>by
  simp only[List.length_nil,Nat.add_zero]at hk;subst hk;exact⟨sp,fun _ _=>rfl,fun i U Y=>by omega,fun v w N=>hf v▸h v w N⟩
 | o::rest,k,fr,sp,hr,hk,hf,h=>by
  simp only[List.length_cons]at hk;have ho:ops[k]? =some o:=by
   have:=hr 0;simp only[Nat.add_zero,List.getElem?_cons_zero]at this;rw[if_pos (by omega)]at this;exact this.symm
  have R:∀j,rest[j]? =if k+1+j<I then ops[k+1+j]? else none:=fun j=>by
   have:=hr (j+1);simp only[List.getElem?_cons_succ]at this;rw[this,show k+(j+1)=k+1+j from by omega]
  rcases h with⟨e,U,Y⟩|⟨U,Y⟩
  ·obtain⟨sp',J,g2,g3⟩:=q8.extract I rest (k+1) _ (fun j=>if j=k then .det e else sp j) R (by omega)
    (fun v=>by
     rw[z1g,hf,ho];simp only[if_true,Spec.val,Option.bind_some];rw[z1s ops k v (sp':=fun j=>if j=k then .det e else sp j) fun j O=>by rw[if_neg (by omega)]]) Y
   have B:sp' k= .det e:=(by rw[J k (by omega),if_pos rfl]);refine⟨sp',fun j O=>by rw[J j (by omega),if_neg (by omega)],fun i a1 L=>?_,g3⟩;by_cases hik:i=k
   ·subst hik;intro o' A D v w hD N;obtain rfl:o=o':=by rw[ho]at A;exact Option.some.inj A
    rw[B];have:=U D v w hD N;rw[hf,z1s ops i v (sp':=sp') fun j O=>by rw[J j (by omega),if_neg (by omega)]]at this;exact this
   ·exact g2 i (by omega) L
  ·obtain⟨sp',J,g2,g3⟩:=q8.extract I rest (k+1) _ (fun j=>if j=k then .rel (fun _ _=>True)else sp j) R (by omega)
    (fun v=>by
     rw[z1g,hf,ho];simp only[if_true,Spec.val,Option.bind_some];rw[z1s ops k v (sp':=fun j=>if j=k then .rel (fun _ _=>True)else sp j) fun j O=>by rw[if_neg (by omega)]]) Y
   have B:sp' k= .rel (fun _ _=>True):=(by rw[J k (by omega),if_pos rfl]);refine⟨sp',fun j O=>by rw[J j (by omega),if_neg (by omega)],fun i a1 L=>?_,g3⟩;by_cases hik:i=k
   ·subst hik;intro o' A D v w hD N;obtain rfl:o=o':=by rw[ho]at A;exact Option.some.inj A
    rw[B];have:=U D v w hD N;rw[hf,z1s ops i v (sp':=sp') fun j O=>by rw[J j (by omega),if_neg (by omega)]]at this;exact this
   ·exact g2 i (by omega) L
variable {P ops S}
structure q3j (S:(Nat->Bool)->(Nat->Value)->World->Prop) (a0:Act) (sp:Nat->Spec) (n0:Nat) (listed:Array Bool) (v:Nat->Value) (a:Act) (w:World):Prop where
 size:listed.size=ops.size
 down:∀m o,ops[m]? =some o->listed.getD m true=true->∀j,z1e o j=true->listed.getD j false=true
 tails:∀k,n0<=k->k<ops.size->listed.getD k true=false
 agree:Agree (ops:=ops) a0 sp n0 (fun j=>listed.getD j false=true) v a
 S:S (fun j=>listed.getD j false) v w
theorem q1Y{J:Nat}{Q:Exit->Act->World->Prop}{a0:Act}{sp:Nat->Spec}(hc:y1G ops J)(hd:∀j d,j<J->(ops[j]?).bind (·.dst)=some d->d<a0.tmps.size)
  (aW:∀i,i<J->y7U P ops S a0 sp i)
  (aH:∀v w,S (fun j=>decide (j<J)) v w->wpOps P ops Q (List.range' J (ops.size - J)) (z1g ops a0 sp J v) w):
  ∀(c fuel:Nat) (listed:Array Bool) (v:Nat->Value) (a:Act) (w:World),(∃l:List Nat,l.Nodup/\(∀j,j∈l↔j<J/\listed.getD j true=false)/\l.length=c)->fuel=c+(ops.size - J)->
   q3j (ops:=ops) S a0 sp J listed v a w->wpAny P .any ops Q fuel listed a w:=by
 intro c
 induction c with
 | zero=>
  rintro fuel listed v a w ⟨l,_,hl,Y⟩ aO I;have aL:=List.eq_nil_of_length_eq_zero Y;subst aL;have U:∀j,j<J->listed.getD j false=true:=fun j A=>by
   have:=hl j;simp only[List.not_mem_nil,false_iff,not_and]at this;have N:=this A;rw[z5m (by have:=I.size;have:=hc.le;omega)]at N;simpa using N
  have aY:=hc.le;have a9:=Agree.frame (sp:=sp) hc hd v J (Nat.le_refl _);have ha:a=z1g ops a0 sp J v:=by
   refine Agree.eq (D:=fun j=>j<J) ⟨I.agree.defers,I.agree.size,fun j d A _ h=>I.agree.done j d A (U j A) h,fun t ht=>I.agree.rest t fun j A _=>ht j A A⟩ a9
  subst ha;refine y4A hc fuel J listed _ w (Nat.le_refl _) (by omega) I.size (fun j A=>?_) (by
   rw[show fuel=ops.size - J from by omega];refine aH v w ?_;have e:(fun j=>listed.getD j false)=fun j=>decide (j<J):=by
    funext j
    by_cases h:j<J
    ·rw[decide_eq_true h];exact U j h
    ·rw[decide_eq_false h];by_cases O:j<ops.size
     ·rw[<-z5m (by have:=I.size;omega)];exact I.tails j (by omega) O
     ·have:=I.size;simp[Array.getD,show ¬j<listed.size by omega]
   have:=I.S;rw[e]at this;exact this)
  by_cases h:j<J
  ·rw[decide_eq_true h,z5m (by have:=I.size;omega)];exact U j h
  ·rw[decide_eq_false h];exact I.tails j (by omega) A
 | succ c ih=>
  rintro fuel listed v a w ⟨l,aI,hl,Y⟩ aO I;obtain⟨f,rfl⟩:∃f,fuel=f+1:=⟨fuel - 1,by omega⟩;have aY:=hc.le;have b0:=I.size;have hex:∃i,i∈Region.ready .any ops listed:=by
   have aD:∃j,j<J/\listed.getD j true=false:=by
    match l,Y with
    | j::l,_=>exact⟨j,(hl j).1 (by simp)⟩
   have aJ:∀j,j<J->listed.getD j true=false->∃i,i<J/\listed.getD i true=false/\∀k,k<i->listed.getD k true=true:=by
    intro j
    induction j using Nat.strongRecOn with
    | ind j ihj=>
     intro A hf;by_cases h:∃k,k<j/\listed.getD k true=false
     ·obtain⟨k,hk,aX⟩:=h;exact ihj k hk (by omega) aX
     ·exact⟨j,A,hf,fun k hk=>by
       cases e:listed.getD k true with
       | true=>rfl
       | false=>exact absurd ⟨k,hk,e⟩ h⟩
   obtain⟨j,A,a5⟩:=aD;obtain⟨i,hi,a3,U⟩:=aJ j A a5;refine⟨i,mem_ready.2 ⟨a3,ops[i],by simp[show i<ops.size by omega],fun e he hb=>?_⟩⟩;have aZ:=hc.ahead i ops[i] e.on (by simp[show i<ops.size by omega]) (by
    unfold z1e;rw[Array.any_eq_true'];exact⟨e,he,by simp[hb]⟩)
   rw[<-z5m (by omega)];exact U e.on aZ
  refine⟨fun h0=>(by obtain⟨i,hi⟩:=hex;rw[h0]at hi;cases hi),fun i hi=>?_⟩;obtain⟨a3,o,ho,aG⟩:=mem_ready.1 hi;have b4:=(Array.getElem?_eq_some_iff.1 ho).1;have a2:∀j,z1e o j=true->listed.getD j false=true:=fun j A=>by
   unfold z1e at A;rw[Array.any_eq_true']at A;obtain⟨e,he,hb⟩:=A;simp only[Bool.and_eq_true,beq_iff_eq]at hb;rw[<-hb.2];exact aG e he hb.1
  have L:i<J:=by
   refine Nat.lt_of_not_le fun aR=>?_;obtain⟨j,A,a5⟩:∃j,j<J/\listed.getD j true=false:=by
    match l,Y with
    | j::l,_=>exact⟨j,(hl j).1 (by simp)⟩
   rw[z5m (by omega)]at a5;have all:∀q,Reach ops i q->listed.getD q false=true:=fun q hq=>by
    generalize hii:i=ii at hq
    induction hq with
    | base ho' h=>
     subst hii;rw[ho]at ho';obtain rfl:=Option.some.inj ho';exact a2 _ h
    | step hr hoq h ih=>
     have aA:=(Array.getElem?_eq_some_iff.1 hoq).1;exact I.down _ _ hoq (by rw[z5m (by omega)];exact ih) _ h
   rw[all j (hc.tail i o aR ho j (by omega))]at a5;cases a5
  have a6:∀j oj,ops[j]? =some oj->z1e oj i=true->¬listed.getD j false=true:=fun j oj aM aS aT=>by
   have b5:=(Array.getElem?_eq_some_iff.1 aM).1;have:=I.down j oj aM (by rw[z5m (by omega)];exact aT) i aS;rw[z5m (by omega),this]at a3;cases a3
  have a7:=Agree.sees hc hd I.agree L ho a2 a6;have aE:=y3W a7;have aB:=y1M a7;have a8:∀cs b,o.op≠ .select cs b:=fun cs b=>Region.noSelect_spec hc.nosel i o cs b ho;have a9:=Agree.frame (sp:=sp) hc hd v i (by omega);have next:∀u v' w',(∀j,i≠j->v' j=v j)->(sp i).val (v' i)=u->S (mark (fun j=>listed.getD j false) i) v' w'->wpAny P .any ops Q f (listed.setIfInBounds i true) (a.put o.dst u) w':=by
   intro u v' w' b2 aN b3;refine ih f (listed.setIfInBounds i true) v' _ w' ⟨l.erase i,aI.erase i,fun j=>?_,?_⟩ (by omega) ⟨by simpa using b0,fun m om aF aA j A=>?_,fun k aU aV=>?_,⟨?_,?_,?_,?_⟩,?_⟩
   ·rw[aI.mem_erase_iff,hl,z2Q _ (by omega)];constructor
    ·rintro⟨N,O,h3⟩;exact⟨O,by rw[if_neg (Ne.symm N)];exact h3⟩
    ·rintro⟨N,O⟩;by_cases e:i=j
     ·rw[if_pos e]at O;cases O
     ·rw[if_neg e]at O;exact⟨Ne.symm e,N,O⟩
   ·rw[List.length_erase_of_mem ((hl i).2 ⟨L,a3⟩),Y];omega
   ·rw[z2Q _ (by omega)]at aA ⊢;by_cases e:i=j
    ·rw[if_pos e]
    ·rw[if_neg e];by_cases e2:i=m
     ·subst e2;rw[ho]at aF;obtain rfl:=Option.some.inj aF;exact a2 j A
     ·rw[if_neg e2]at aA;exact I.down m om aF aA j A
   ·rw[z2Q _ (by omega),if_neg (by omega)];exact I.tails k aU aV
   ·rw[z6c];exact I.agree.defers
   ·rw[y5o];exact I.agree.size
   ·intro j d A hD a4;simp only[z2Q _ (show i<listed.size by omega)]at hD;by_cases e:j=i
    ·subst e;have a1:o.dst=some d:=(by rw[ho]at a4;exact a4);rw[a1,z4I _ _ _ (by rw[I.agree.size];exact hd j d A a4)];exact aN.symm
    ·rw[if_neg (Ne.symm e)]at hD;have a1:o.dst≠some d:=fun e2=>e (hc.uniq j i d A L a4 (by rw[ho];exact e2));rw[z5X _ _ _ _ a1];rw[I.agree.done j d A hD a4,b2 j (Ne.symm e)]
   ·intro t ht;have b1:o.dst≠some t:=fun e=>ht i L (by simp only[z2Q _ (show i<listed.size by omega),if_true]) (by rw[ho];exact e);rw[z5X _ _ _ _ b1];exact I.agree.rest t fun j A hD=>ht j A (by
     simp only[z2Q _ (show i<listed.size by omega)];by_cases e:i=j
     ·rw[if_pos e]
     ·rw[if_neg e];exact hD)
   ·have e:(fun j=>(listed.setIfInBounds i true).getD j false)=mark (fun j=>listed.getD j false) i:=by
     funext j
     rw[z2Q _ (by omega)];rfl
    rw[e];exact b3
  have B:=aW i L o ho (fun j=>listed.getD j false) v w ⟨by rw[<-z5m (by omega)];exact a3,a2,fun j oj N O=>by simpa using a6 j oj N O⟩ I.S;unfold wpOp;simp only[ho];cases hs:sp i with
  | det e=>
   rw[hs]at B;simp only at B;have aC:(sp i).val (v i)=e:=(by rw[hs];rfl);rcases B with⟨N,O,h3⟩|⟨N,O,h3⟩|h3
   ·rw[<-aB]at N;rw[if_pos N];refine .inl ?_;unfold Oper.wp;rw[execOp_congr o a8 aE,O];exact next e v w (fun _ _=>rfl) aC h3
   ·rw[<-aB]at N;rw[if_neg (by rw[N];simp)];subst O;exact next undef v w (fun _ _=>rfl) aC h3
   ·obtain⟨N,O⟩:=h3.carry (a:=a) (Q:=Q) a8 aE aB (fun d a1=>by rw[a9.size];exact hd i d L (by rw[ho];exact a1)) (fun u w' hR hE=>next u v w' (fun _ _=>rfl) (aC.trans hR.symm) hE);rw[if_pos N];exact .inl O
  | rel R=>
   rw[hs]at B;simp only at B;obtain⟨N,O⟩:=z8f.carry (a:=a) (Q:=Q) a8 aE aB (fun d a1=>by rw[a9.size];exact hd i d L (by rw[ho];exact a1)) B
    (fun u w' hR hE=>next u (z2O v i u) w' (fun j A=>by unfold z2O;rw[if_neg A]) (by rw[hs];simp[Spec.val,z2O]) hR)
   rw[if_pos N];exact .inl O
theorem z3k{id:Nat}{Q:Exit->Act->World->Prop}{a0:Act}{w:World}(A N:Nat)(hm:P.follows .mixedOrders=true)(B:y0u ops A=true)(hN:a0.tmps.size=N)(hd:y0s ops A N=true)
  (S:(Nat->Bool)->(Nat->Value)->World->Prop) (R:Nat->Value) (hS:S (fun _=>false) R w.drew)
  (h:q8 P ops S (fun a w=>wpList P ops Q (ops.toList.drop A) a w) (fun _=>a0) 0 (ops.toList.take A)):(Code.region id ops true).wp P Q a0 w:=by
 have B:=y9L B;have hd:=y9C (hN▸hd);have a1:=B.le;obtain⟨sp,_,Y,g3⟩:=q8.extract (a0:=a0) P ops S A _ 0 _ (fun _=> .det undef) (fun j=>by
   rw[List.getElem?_take];simp) (by simp;omega) (fun _=>rfl) h
 refine wp_region_any hm ?_;have U:(fun j=>(Array.replicate ops.size false).getD j false)=fun _=>false:=by
  funext j
  by_cases h:j<ops.size<;>simp[h]
 refine q1Y B hd (fun i hi=>Y i (Nat.zero_le _) hi) (fun v w I=>?_) A ops.size _ R a0 w.drew ⟨List.range A,List.nodup_range,fun j=>?_,by simp⟩ (by omega) ⟨by simp,fun m o ho L=>?_,fun k _ hk=>?_,⟨rfl,rfl,fun j d O hD=>?_,fun t _=>rfl⟩,by rw[U];exact hS⟩
 ·have:=g3 v w I;rw[<-wpOps_eq_wpList (ops.toList.drop A) A (fun j=>by simp)]at this;simpa using this
 ·simp only[List.mem_range];constructor
  ·intro O;exact⟨O,by simp[show j<ops.size by omega]⟩
  ·exact fun h=>h.1
 ·have J:=(Array.getElem?_eq_some_iff.1 ho).1;simp[J]at L
 ·simp[hk]
 ·have:j<ops.size:=by omega
  simp[this]at hD
variable {Fin:Act->World->Prop} {fr:(Nat->Value)->Act} {k:Nat} {o:Oper} {rest:List Oper}
theorem q8.read(e:Value)(N:∀v,Region.wanted o (yielded ops (fr v).tmps)=true)(L:∀D v w,S D v w->S (mark D k) v w)
  (B:∀D v w,Open ops D k o->S D v w->(execOp (fr v).eval o).run P w= .ok (.value e) w) (I:q8 P ops S Fin (fun v=>(fr v).put o.dst e) (k+1) rest):q8 P ops S Fin fr k (o::rest):=
 .inl ⟨e,fun D v w J A=> .inl ⟨N v,B D v w J A,L D v w A⟩,I⟩
theorem q8.rd(e:Value)(A:∀D v w,Open ops D k o->S D v w->(execOp (fr v).eval o).run P w= .ok (.value e) w)(B:q8 P ops S Fin (fun v=>(fr v).put o.dst e) (k+1) rest)
  (J:∀v,Region.wanted o (yielded ops (fr v).tmps)=true:=by intro v;rfl) (I:∀D v w,S D v w->S (mark D k) v w:=by intro D v w h;exact h):q8 P ops S Fin fr k (o::rest):=
 q8.read e J I A B
theorem q6{id:Nat}{Q:Exit->Act->World->Prop}{a0:Act}{w:World}(A N:Nat)(S:(Nat->Bool)->(Nat->Value)->World->Prop)(I:S (fun _=>false) (fun _=>undef) w.drew)
  (h:q8 P ops S (fun a w=>wpList P ops Q (ops.toList.drop A) a w) (fun _=>a0) 0 (ops.toList.take A)) (L:P.follows .mixedOrders=true:=by kernel_rfl) (J:y0u ops A=true:=by kernel_rfl)
  (B:a0.tmps.size=N:=by exact rfl) (hd:y0s ops A N=true:=by kernel_rfl):(Code.region id ops true).wp P Q a0 w:=
 z3k A N L J B hd S _ I h
theorem q8.rl(e:Value)(I:∀D v w,S D v w->S (mark D k) v w)(A:∀D v w,Open ops D k o->S D v w->(execOp (fr v).eval o).run P w= .ok (.value e) w)
  (B:q8 P ops S Fin (fun v=>(fr v).put o.dst e) (k+1) rest) (J:∀v,Region.wanted o (yielded ops (fr v).tmps)=true:=by intro v;rfl):q8 P ops S Fin fr k (o::rest):=
 q8.read e J I A B
theorem z0v:(∀(a:Oper) (l:List Oper) (n:Nat),(a::l).take (n+1)=a::l.take n)/\(∀l:List Oper,l.take 0= [])/\(∀(a:Oper) (l:List Oper) (n:Nat),(a::l).drop (n+1)=l.drop n)/\∀l:List Oper,l.drop 0=l:=⟨fun _ _ _=>rfl,fun _=>rfl,fun _ _ _=>rfl,fun _=>rfl⟩
theorem q8.skip(J:∀v,Region.wanted o (yielded ops (fr v).tmps)=false)(I:∀D v w,S D v w->S (mark D k) v w)
  (A:q8 P ops S Fin (fun v=>(fr v).put o.dst undef) (k+1) rest):q8 P ops S Fin fr k (o::rest):=
 .inl ⟨undef,fun D v w _ B=> .inr (.inl ⟨J v,rfl,I D v w B⟩),A⟩
theorem q8.call(e:Value)(L:∀v,Region.wanted o (yielded ops (fr v).tmps)=true)
  (A:∀D v w,Open ops D k o->S D v w->o.wp P (fr v) w (fun a' w'=>∃u,a'=(fr v).put o.dst u/\u=e/\S (mark D k) v w') (fun _ _ _=>False))
  (B:q8 P ops S Fin (fun v=>(fr v).put o.dst e) (k+1) rest):q8 P ops S Fin fr k (o::rest):=
 .inl ⟨e,fun D v w I J=> .inr (.inr ⟨L v,A D v w I J⟩),B⟩
theorem q8.rel(L:∀v,Region.wanted o (yielded ops (fr v).tmps)=true)
  (A:∀D v w,Open ops D k o->S D v w->o.wp P (fr v) w (fun a' w'=>∃u,a'=(fr v).put o.dst u/\S (mark D k) (z2O v k u) w'/\True) (fun _ _ _=>False))
  (B:q8 P ops S Fin (fun v=>(fr v).put o.dst (v k)) (k+1) rest):q8 P ops S Fin fr k (o::rest):=
 .inr ⟨fun D v w I J=>⟨L v,A D v w I J⟩,B⟩
theorem q8.sk(B:∀D v w,S D v w->S (mark D k) v w)(A:q8 P ops S Fin (fun v=>(fr v).put o.dst undef) (k+1) rest)
  (I:∀v,Region.wanted o (yielded ops (fr v).tmps)=false:=by intro v;rfl):q8 P ops S Fin fr k (o::rest):=q8.skip I B A
theorem q8.ca(e:Value)
  (A:∀D v w,Open ops D k o->S D v w->o.wp P (fr v) w (fun a' w'=>∃u,a'=(fr v).put o.dst u/\u=e/\S (mark D k) v w') (fun _ _ _=>False))
  (B:q8 P ops S Fin (fun v=>(fr v).put o.dst e) (k+1) rest) (I:∀v,Region.wanted o (yielded ops (fr v).tmps)=true:=by intro v;rfl):q8 P ops S Fin fr k (o::rest):=q8.call e I A B
theorem q8.re(A:∀D v w,Open ops D k o->S D v w->o.wp P (fr v) w (fun a' w'=>∃u,a'=(fr v).put o.dst u/\S (mark D k) (z2O v k u) w'/\True) (fun _ _ _=>False))
  (B:q8 P ops S Fin (fun v=>(fr v).put o.dst (v k)) (k+1) rest) (I:∀v,Region.wanted o (yielded ops (fr v).tmps)=true:=by intro v;rfl):q8 P ops S Fin fr k (o::rest):=q8.rel I A B
theorem q8.fin(h:∀v w,S (fun j=>decide (j<k)) v w->Fin (fr v) w):q8 P ops S Fin fr k []:=h
end

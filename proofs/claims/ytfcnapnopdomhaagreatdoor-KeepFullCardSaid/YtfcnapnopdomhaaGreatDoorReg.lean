/-
  A region that draws its order, walked once, in the order of the text: each operation is carried out in whatever world meets S and the facts of those that it waits for; what it leaves must be kept by all others (Ext). The last operations, which wait for all others, are left as a list.
-/
import Derived.Test.YtfcnapnopdomhaaGreatDoorRows
import Derived.WalkKit
import Derived.Orders
namespace Go.Proofs.YtfcnapnopdomhaaGreatDoor
set_option linter.unusedSimpArgs false
set_option linter.unusedVariables false
set_option maxRecDepth 100000
set_option maxHeartbeats 12800000
open Go.RowKit
section
variable (P:Program) (ops:Array Oper) (S:World→Prop) (Ext:World→World→Prop)
def z0J(o:Oper)(j:Nat):Bool:=o.after.any fun e=>Region.binds .any e&&e.on==j
def z7w(a:Act)(o:Oper)(R:Value→World→Prop)(w:World):Prop:=
 Region.wanted o (yielded ops a.tmps)=true∧o.wp P a w (fun a' w'=>∃u,a'=a.put o.dst u∧R u w'∧Ext w w') (fun _ _ _=>False)
def y9R(a:Act)(o:Oper)(e:Value)(w:World):Prop:=
 (Region.wanted o (yielded ops a.tmps)=true∧(execOp a.eval o).run P w= .ok (.value e) w)∨(Region.wanted o (yielded ops a.tmps)=false∧e=undef)∨z7w P ops Ext a o (fun u _=>u=e) w
def Hav(Fin:Act→World→Prop):((Nat→Value)→Act)→List (Nat×(Value→World→Prop))→Nat→List Oper→Prop
 | fr,rels,_, []=>∀v w,S w→(∀p∈rels,p.2 (v p.1) w)→Fin (fr v) w
 | fr,rels,k,o::rest=>
  (∃e,(∀v w,S w→(∀p∈rels,z0J o p.1=true→p.2 (v p.1) w)→y9R P ops Ext (fr v) o e w)∧Hav Fin (fun v=>(fr v).put o.dst e) rels (k+1) rest)∨
  (∃R:Value→World→Prop,(∀u w w',Ext w w'→R u w→R u w')∧(∀v w,S w→(∀p∈rels,z0J o p.1=true→p.2 (v p.1) w)→z7w P ops Ext (fr v) o R w)∧
   Hav Fin (fun v=>(fr v).put o.dst (v k)) (rels++ [(k,R)]) (k+1) rest)
inductive Spec where
 | det (e:Value)
 | rel (R:Value→World→Prop)
def Spec.val:Spec→Value→Value
 | .det e,_=>e
 | .rel _,u=>u
def Spec.ok:Spec→Value→World→Prop
 | .det _,_,_=>True
 | .rel R,u,w=>R u w
def z0S(a0:Act)(sp:Nat→Spec):Nat→(Nat→Value)→Act
 | 0,_=>a0
 | i+1,v=>(z0S a0 sp i v).put ((ops[i]?).bind (·.dst)) ((sp i).val (v i))
theorem z1k{a0:Act}{sp sp':Nat→Spec}:∀(i:Nat) (v:Nat→Value),(∀j,j<i→sp j=sp' j)→z0S ops a0 sp i v=z0S ops a0 sp' i v
 | 0,_,_=>rfl
 | i+1,v,h=>by rw [z0S,z0S,z1k i v fun j hj=>h j (by omega),h i (by omega)]
def q0b(a0:Act)(sp:Nat→Spec)(i:Nat):Prop:=
 ∀o,ops[i]? =some o→∀v w,S w→(∀j,j<i→z0J o j=true→(sp j).ok (v j) w)→
  (match sp i with
   | .det e=>y9R P ops Ext (z0S ops a0 sp i v) o e w
   | .rel R=>z7w P ops Ext (z0S ops a0 sp i v) o R w)
def y9B(sp:Nat→Spec)(i:Nat):Prop:=∀R,sp i= .rel R→∀u w w',Ext w w'→R u w→R u w'
theorem Hav.extract{Fin:Act→World→Prop}{a0:Act}(n0:Nat):∀(rest:List Oper) (k:Nat) (fr:(Nat→Value)→Act) (rels:List (Nat×(Value→World→Prop))) (sp:Nat→Spec),
  (∀j,rest[j]? =if k+j<n0 then ops[k+j]? else none)→k+rest.length=n0→(∀v,fr v=z0S ops a0 sp k v)→(∀p,p∈rels↔p.1<k∧sp p.1= .rel p.2)→Hav P ops S Ext Fin fr rels k rest→
  ∃sp':Nat→Spec,(∀j,j<k→sp' j=sp j)∧(∀i,k≤i→i<n0→q0b P ops S Ext a0 sp' i∧y9B Ext sp' i)∧
   (∀v w,S w→(∀j,j<n0→(sp' j).ok (v j) w)→Fin (z0S ops a0 sp' n0 v) w)
 | [],k,fr,rels,sp,hr,hk,hf,hrel,h=>by
  simp only [List.length_nil,Nat.add_zero] at hk;subst hk;refine ⟨sp,fun _ _=>rfl,fun i h1 h2=>by omega,fun v w hS hok=>?_⟩;rw [←hf];refine h v w hS fun p hp=>?_;obtain ⟨h1,h2⟩:=(hrel p).1 hp;have:=hok p.1 h1;rw [h2] at this;exact this
 | o::rest,k,fr,rels,sp,hr,hk,hf,hrel,h=>by
  simp only [List.length_cons] at hk;have ho:ops[k]? =some o:=by
   have:=hr 0;simp only [List.getElem?_cons_zero,Nat.add_zero] at this;rw [if_pos (by omega)] at this;exact this.symm
  have hr':∀j,rest[j]? =if k+1+j<n0 then ops[k+1+j]? else none:=fun j=>by
   have:=hr (j+1);simp only [List.getElem?_cons_succ] at this;rw [this,show k+(j+1)=k+1+j from by omega]
  rcases h with ⟨e,h1,h2⟩ | ⟨R,hm,h1,h2⟩
  ·obtain ⟨sp',g1,g2,g3⟩:=Hav.extract n0 rest (k+1) _ rels (fun j=>if j=k then .det e else sp j) hr' (by omega)
    (fun v=>by
     rw [z0S,hf,ho];simp only [if_true,Spec.val,Option.bind_some];rw [z1k ops k v (sp':=fun j=>if j=k then .det e else sp j) fun j hj=>by rw [if_neg (by omega)]])
    (fun p=>by
     rw [hrel];constructor
     ·rintro ⟨a,b⟩;exact ⟨by omega,by rw [if_neg (by omega)];exact b⟩
     ·rintro ⟨a,b⟩;by_cases hp:p.1=k
      ·rw [if_pos hp] at b;cases b
      ·rw [if_neg hp] at b;exact ⟨by omega,b⟩) h2
   refine ⟨sp',fun j hj=>by rw [g1 j (by omega),if_neg (by omega)],fun i hi1 hi2=>?_,g3⟩;by_cases hik:i=k
   ·subst hik;have hspi:sp' i= .det e:=by rw [g1 i (by omega),if_pos rfl]
    refine ⟨?_,fun R hR=>by rw [hspi] at hR;cases hR⟩;intro o' ho' v w hS hF;obtain rfl:o=o':=by rw [ho] at ho';exact Option.some.inj ho'
    rw [hspi];simp only;have:=h1 v w hS fun p hp ha=>by
     obtain ⟨q1,q2⟩:=(hrel p).1 hp;have:=hF p.1 q1 ha;rw [g1 p.1 (by omega),if_neg (by omega),q2] at this;exact this
    rw [hf,z1k ops i v (sp':=sp') fun j hj=>by rw [g1 j (by omega),if_neg (by omega)]] at this;exact this
   ·exact g2 i (by omega) hi2
  ·obtain ⟨sp',g1,g2,g3⟩:=Hav.extract n0 rest (k+1) _ _ (fun j=>if j=k then .rel R else sp j) hr' (by omega)
    (fun v=>by
     rw [z0S,hf,ho];simp only [if_true,Spec.val,Option.bind_some];rw [z1k ops k v (sp':=fun j=>if j=k then .rel R else sp j) fun j hj=>by rw [if_neg (by omega)]])
    (fun p=>by
     rw [List.mem_append,hrel];constructor
     ·rintro (⟨a,b⟩ | hp)
      ·exact ⟨by omega,by rw [if_neg (by omega)];exact b⟩
      ·simp only [List.mem_singleton] at hp;subst hp;exact ⟨by simp,by simp⟩
     ·rintro ⟨a,b⟩;by_cases hp:p.1=k
      ·rw [if_pos hp] at b
       injection b with b
       exact .inr (by obtain ⟨p1,p2⟩:=p;simp only at hp b;subst hp;subst b;simp)
      ·rw [if_neg hp] at b;exact .inl ⟨by omega,b⟩) h2
   refine ⟨sp',fun j hj=>by rw [g1 j (by omega),if_neg (by omega)],fun i hi1 hi2=>?_,g3⟩;by_cases hik:i=k
   ·subst hik;have hspi:sp' i= .rel R:=by rw [g1 i (by omega),if_pos rfl]
    refine ⟨?_,fun R' hR=>by rw [hspi] at hR;injection hR with hR;subst hR;exact hm⟩;intro o' ho' v w hS hF;obtain rfl:o=o':=by rw [ho] at ho';exact Option.some.inj ho'
    rw [hspi];simp only;have:=h1 v w hS fun p hp ha=>by
     obtain ⟨q1,q2⟩:=(hrel p).1 hp;have:=hF p.1 q1 ha;rw [g1 p.1 (by omega),if_neg (by omega),q2] at this;exact this
    rw [hf,z1k ops i v (sp':=sp') fun j hj=>by rw [g1 j (by omega),if_neg (by omega)]] at this;exact this
   ·exact g2 i (by omega) hi2
inductive Reach:Nat→Nat→Prop where
 | base {k j:Nat} {o:Oper} (ho:ops[k]? =some o) (h:z0J o j=true):Reach k j
 | step {k m j:Nat} {o:Oper} (hr:Reach k m) (ho:ops[m]? =some o) (h:z0J o j=true):Reach k j
structure z7X (n0:Nat):Prop where
 le:n0≤ops.size
 ahead:∀i o j,ops[i]? =some o→z0J o j=true→j<i
 uniq:∀i j d,i<n0→j<n0→(ops[i]?).bind (·.dst)=some d→(ops[j]?).bind (·.dst)=some d→i=j
 looks:∀i o,i<n0→ops[i]? =some o→∀t∈o.looksAt ops,∀j oj,j<n0→ops[j]? =some oj→oj.dst=some t→(j<i∧z0J o j=true)∨(i<j∧z0J oj i=true)
 nosel:Region.noSelect ops=true
 tail:∀k o,n0≤k→ops[k]? =some o→∀j,j<k→Reach ops k j
variable {P ops S Ext}
theorem z3s(a:Act)(d:Nat)(u:Value)(h:d<a.tmps.size):(a.put (some d) u).tmps.getD d undef=u:=by
 simp [Act.put,h]
theorem z3I(a:Act)(x:Option Tmp)(t:Nat)(u:Value)(h:x≠some t):(a.put x u).tmps.getD t undef=a.tmps.getD t undef:=by
 cases x with
 | none=>rfl
 | some d=>
  have hne:d≠t:=fun e=>h (by rw [e]);simp [Act.put,Array.getElem?_setIfInBounds_ne hne]
theorem y0v(a:Act)(x:Option Tmp)(u:Value):(a.put x u).tmps.size=a.tmps.size:=by cases x<;>simp [Act.put]
theorem z4i(a:Act)(x:Option Tmp)(u:Value):(a.put x u).defers=a.defers:=by cases x<;>rfl
structure Agree (a0:Act) (sp:Nat→Spec) (n0:Nat) (D:Nat→Prop) (v:Nat→Value) (a:Act):Prop where
 defers:a.defers=a0.defers
 size:a.tmps.size=a0.tmps.size
 done:∀j d,j<n0→D j→(ops[j]?).bind (·.dst)=some d→a.tmps.getD d undef=(sp j).val (v j)
 rest:∀t,(∀j,j<n0→D j→(ops[j]?).bind (·.dst)≠some t)→a.tmps.getD t undef=a0.tmps.getD t undef
theorem Agree.frame{a0:Act}{sp:Nat→Spec}{n0:Nat}(hc:z7X ops n0)(hd:∀j d,j<n0→(ops[j]?).bind (·.dst)=some d→d<a0.tmps.size)(v:Nat→Value):
  ∀i,i≤n0→Agree (ops:=ops) a0 sp n0 (·<i) v (z0S ops a0 sp i v)
 | 0,_=>⟨rfl,rfl,fun j d _ h _=>absurd h (Nat.not_lt_zero j),fun _ _=>rfl⟩
 | i+1,h=>by
  have ih:=Agree.frame (sp:=sp) hc hd v i (by omega);refine ⟨by rw [z0S,z4i,ih.defers],by rw [z0S,y0v,ih.size],fun j d hj hji hdj=>?_,fun t ht=>?_⟩
  ·rw [z0S];by_cases e:j=i
   ·subst e;rw [hdj,z3s _ _ _ (by rw [ih.size];exact hd j d hj hdj)]
   ·rw [z3I _ _ _ _ fun e2=>e (hc.uniq j i d hj (by omega) hdj e2)];exact ih.done j d hj (by omega) hdj
  ·rw [z0S,z3I _ _ _ _ (ht i (by omega) (by omega))];exact ih.rest t fun j hj hji=>ht j hj (by omega)
theorem Agree.eq{a0:Act}{sp:Nat→Spec}{n0:Nat}{D:Nat→Prop}{v:Nat→Value}{a b:Act}(ha:Agree (ops:=ops) a0 sp n0 D v a)(hb:Agree (ops:=ops) a0 sp n0 D v b):a=b:=by
 obtain ⟨ta,da⟩:=a;obtain ⟨tb,db⟩:=b;have h1:da=db:=ha.defers.trans hb.defers.symm;have h2:ta=tb:=by
  apply Array.ext (ha.size.trans hb.size.symm);intro t h1 h2;have key:ta.getD t undef=tb.getD t undef:=by
   by_cases h:∃j,j<n0∧D j∧(ops[j]?).bind (·.dst)=some t
   ·obtain ⟨j,hj,hD,hd⟩:=h;exact (ha.done j t hj hD hd).trans (hb.done j t hj hD hd).symm
   ·have h':∀j,j<n0→D j→(ops[j]?).bind (·.dst)≠some t:=fun j hj hD hd=>h ⟨j,hj,hD,hd⟩;exact (ha.rest t h').trans (hb.rest t h').symm
  simpa [h1,h2] using key
 subst h1;subst h2;rfl
theorem Agree.sees{a0:Act}{sp:Nat→Spec}{n0:Nat}{D:Nat→Prop}{v:Nat→Value}{a:Act}(hc:z7X ops n0)(hd:∀j d,j<n0→(ops[j]?).bind (·.dst)=some d→d<a0.tmps.size)
  (ha:Agree (ops:=ops) a0 sp n0 D v a) {i:Nat} {o:Oper} (hi:i<n0) (ho:ops[i]? =some o) (hpre:∀j,z0J o j=true→D j) (hpost:∀j oj,ops[j]? =some oj→z0J oj i=true→¬D j)
  (t:Nat) (ht:t∈o.looksAt ops):a.tmps.getD t undef=(z0S ops a0 sp i v).tmps.getD t undef:=by
 have hf:=Agree.frame (sp:=sp) hc hd v i (by omega);by_cases h:∃j oj,j<n0∧ops[j]? =some oj∧oj.dst=some t
 ·obtain ⟨j,oj,hj,hoj,hdj⟩:=h;have hdj':(ops[j]?).bind (·.dst)=some t:=by rw [hoj];exact hdj
  rcases hc.looks i o hi ho t ht j oj hj hoj hdj with ⟨h1,h2⟩ | ⟨h1,h2⟩
  ·rw [ha.done j t hj (hpre j h2) hdj',hf.done j t hj h1 hdj']
  ·have hnD:=hpost j oj hoj h2;have huniq:∀k,k<n0→(ops[k]?).bind (·.dst)=some t→k=j:=fun k hk hdk=>hc.uniq k j t hk hj hdk hdj';rw [ha.rest t fun k hk hD hdk=>hnD (huniq k hk hdk▸hD),hf.rest t fun k hk hki hdk=>by have:=huniq k hk hdk;omega]
 ·have hno:∀k,k<n0→(ops[k]?).bind (·.dst)≠some t:=fun k hk hdk=>by
   cases hok:ops[k]? with
   | none=>rw [hok] at hdk;cases hdk
   | some ok=>rw [hok] at hdk;exact h ⟨k,ok,hk,hok,hdk⟩
  rw [ha.rest t fun k hk _=>hno k hk,hf.rest t fun k hk _=>hno k hk]
theorem z8s{a b:Act}{o:Oper}(h:∀t∈o.looksAt ops,a.tmps.getD t undef=b.tmps.getD t undef):∀x∈o.op.operands,a.eval x=b.eval x:=by
 intro x hx;cases x with
 | tmp t=>exact h t (List.mem_append_left _ (List.mem_filterMap.2 ⟨.tmp t,by simpa using hx,rfl⟩))
 | const v=>rfl
 | global g=>rfl
 | func f=>rfl
theorem z6G{a b:Act}{o:Oper}(h:∀t∈o.looksAt ops,a.tmps.getD t undef=b.tmps.getD t undef):Region.wanted o (yielded ops a.tmps)=Region.wanted o (yielded ops b.tmps):=by
 unfold Region.wanted;cases hg:o.guard with
 | none=>rfl
 | some gw=>
  obtain ⟨g,want⟩:=gw;have hy:yielded ops a.tmps g=yielded ops b.tmps g:=by
   unfold yielded;cases ht:(ops[g]?).bind (·.dst) with
   | none=>rfl
   | some t=>
    have:=h t (List.mem_append_right _ (by simp [hg,ht]));simp only [Array.getD_eq_getD_getElem?] at this;simp only [Option.bind_some];cases ha:a.tmps[t]? with
    | none=>
     cases hb:b.tmps[t]? with
     | none=>rfl
     | some y=>rw [ha,hb] at this;simp only [Option.getD_none,Option.getD_some] at this;subst this;rfl
    | some x=>
     cases hb:b.tmps[t]? with
     | none=>rw [ha,hb] at this;simp only [Option.getD_none,Option.getD_some] at this;subst this;rfl
     | some y=>rw [ha,hb] at this;simp only [Option.getD_some] at this;subst this;rfl
  simp only [hy]
theorem y3l{a:Act}{x:Option Tmp}{u u':Value}(hx:∀d,x=some d→d<a.tmps.size)(h:a.put x u=a.put x u'):x=none∨u=u':=by
 cases x with
 | none=>exact .inl rfl
 | some d=>
  right
  have h1:=z3s a d u (hx d rfl);rw [h,z3s a d u' (hx d rfl)] at h1;exact h1.symm
theorem z7w.carry{a b:Act}{o:Oper}{R:Value→World→Prop}{w:World}{Q:Exit→Act→World→Prop}{K:Act→World→Prop}(hs:∀cs b,o.op≠ .select cs b)
  (he:∀x∈o.op.operands,a.eval x=b.eval x) (hw:Region.wanted o (yielded ops a.tmps)=Region.wanted o (yielded ops b.tmps)) (hdb:∀d,o.dst=some d→d<b.tmps.size)
  (h:z7w P ops Ext b o R w) (hK:∀u w',R u w'→Ext w w'→K (a.put o.dst u) w'):Region.wanted o (yielded ops a.tmps)=true∧o.wp P a w K Q:=by
 obtain ⟨h1,h2⟩:=h;refine ⟨hw.trans h1,?_⟩;unfold Oper.wp at*;rw [execOp_congr o hs he];have conv:∀v w',(∃u,b.put o.dst v=b.put o.dst u∧R u w'∧Ext w w')→K (a.put o.dst v) w':=fun v w' ⟨u,e,hR,hE⟩=>by
  rcases y3l hdb e with e | e
  ·have:=hK u w' hR hE;rw [e] at this ⊢;exact this
  ·subst e;exact hK v w' hR hE
 generalize (execOp b.eval o).run P w=r at h2
 cases r with
 | ok n w'=>
  cases n<;>simp only [Oper.upon] at h2 ⊢
  case value v=>exact conv v w' h2
  case skip=>exact conv undef w' h2
  case defer d=>
   obtain ⟨u,e,_⟩:=h2;have:=congrArg (fun x:Act=>x.defers.length) e;simp only [z4i] at this;simp at this
  case enter f args=>
   refine Calls.mono h2 fun e w'' he=>?_;cases e with
   | returned v=>exact conv v w'' he
   | panicked c=>exact he.elim
   | outgrown=>obtain ⟨_,_,hf⟩:=he;exact hf.elim
  case row row args=>exact Rows.mono h2 fun v w'' he=>conv v w'' he
 | halt x w'=>
  cases x<;>simp only [Oper.upon] at h2
theorem z1a{l:Array Bool}{i j:Nat}(b:Bool)(hi:i<l.size):(l.setIfInBounds i true).getD j b=if i=j then true else l.getD j b:=by
 by_cases h:i=j
 ·subst h;simp [hi]
 ·rw [if_neg h];simp [Array.getElem?_setIfInBounds_ne h]
theorem y0f{n0:Nat}{Q:Exit→Act→World→Prop}(hc:z7X ops n0):∀(fuel m:Nat) (listed:Array Bool) (a:Act) (w:World),n0≤m→m+fuel=ops.size→listed.size=ops.size→
  (∀j,j<ops.size→listed.getD j true=decide (j<m))→wpOps P ops Q (List.range' m fuel) a w→wpAny P .any ops Q fuel listed a w
 | 0,m,listed,a,w,hm,hs,hls,hl,h=>by
  refine ⟨?_,by simpa [wpOps] using h⟩;refine List.eq_nil_iff_forall_not_mem.2 fun j hj=>?_;obtain ⟨h1,o,ho,_⟩:=mem_ready.1 hj;have hlt:=(Array.getElem?_eq_some_iff.1 ho).1;rw [hl j hlt,decide_eq_false_iff_not] at h1;omega
 | fuel+1,m,listed,a,w,hm,hs,hls,hl,h=>by
  have hmlt:m<ops.size:=by omega
  have hmr:m∈Region.ready .any ops listed:=by
   refine mem_ready.2 ⟨by rw [hl m hmlt];simp,ops[m],by simp [hmlt],fun e he hb=>?_⟩;have hlt:=hc.ahead m ops[m] e.on (by simp [hmlt]) (by
    unfold z0J;rw [Array.any_eq_true'];exact ⟨e,he,by simp [hb]⟩)
   have:=hl e.on (by omega);rw [decide_eq_true hlt] at this;simp only [Array.getD_eq_getD_getElem?] at this ⊢;have hin:e.on<listed.size:=by omega
   simp only [Array.getElem?_eq_getElem hin,Option.getD_some] at this ⊢;exact this
  refine ⟨fun h0=>(by rw [h0] at hmr;cases hmr),fun j hj=>?_⟩;have hjm:j=m:=by
   obtain ⟨h1,o,ho,hall⟩:=mem_ready.1 hj;have hlt:=(Array.getElem?_eq_some_iff.1 ho).1;rw [hl j hlt,decide_eq_false_iff_not] at h1;refine Nat.le_antisymm (Nat.le_of_not_lt fun hgt=>?_) (by omega);have listed_of:∀q,z0J o q=true→listed.getD q false=true:=fun q hq=>by
    unfold z0J at hq;rw [Array.any_eq_true'] at hq;obtain ⟨e,he,hb⟩:=hq;simp only [Bool.and_eq_true,beq_iff_eq] at hb;rw [←hb.2];exact hall e he hb.1
   have notlisted:∀q,m≤q→listed.getD q false=true→False:=fun q hq h2=>by
    by_cases hqs:q<ops.size
    ·have h3:=hl q hqs;rw [decide_eq_false (by omega)] at h3;simp only [Array.getD_eq_getD_getElem?] at h2 h3;have hin:q<listed.size:=by omega
     simp only [Array.getElem?_eq_getElem hin,Option.getD_some] at h2 h3;rw [h2] at h3;cases h3
    ·simp [Array.getElem?_eq_none (show listed.size≤q by omega)] at h2
   have all:∀q,Reach ops j q→q<m:=fun q hq=>by
    generalize hjj:j=jj at hq
    induction hq with
    | base ho' h=>
     subst hjj;rw [ho] at ho';obtain rfl:=Option.some.inj ho';exact Nat.lt_of_not_le fun hge=>notlisted _ hge (listed_of _ h)
    | step hr hoq h ih=>
     have:=hc.ahead _ _ _ hoq h;omega
   exact Nat.lt_irrefl _ (all m (hc.tail j o (by omega) ho m hgt))
  subst hjm;rw [List.range'_succ,wpOps_cons] at h;refine wpOp_mono (fun a w hh=>?_) h;refine y0f hc fuel (j+1) _ a w (by omega) (by omega) (by simpa using hls) (fun q hq=>?_) hh;rw [z1a _ (by omega)];by_cases e:j=q
  ·subst e;simp
  ·rw [if_neg e,hl q hq];simp only [decide_eq_decide];omega
structure q3f (S:World→Prop) (a0:Act) (sp:Nat→Spec) (n0:Nat) (listed:Array Bool) (v:Nat→Value) (a:Act) (w:World):Prop where
 size:listed.size=ops.size
 down:∀m o,ops[m]? =some o→listed.getD m true=true→∀j,z0J o j=true→listed.getD j false=true
 tails:∀k,n0≤k→k<ops.size→listed.getD k true=false
 agree:Agree (ops:=ops) a0 sp n0 (fun j=>listed.getD j false=true) v a
 facts:∀j,j<n0→listed.getD j false=true→(sp j).ok (v j) w
 S:S w
theorem z2w{l:Array Bool}{i:Nat}(h:i<l.size):l.getD i true=l.getD i false:=by simp [h]
theorem q1I{n0:Nat}{Q:Exit→Act→World→Prop}{a0:Act}{sp:Nat→Spec}(hc:z7X ops n0)(hd:∀j d,j<n0→(ops[j]?).bind (·.dst)=some d→d<a0.tmps.size)
  (hSE:∀w w',Ext w w'→S w→S w') (hst:∀i,i<n0→q0b P ops S Ext a0 sp i∧y9B Ext sp i)
  (hfin:∀v w,S w→(∀j,j<n0→(sp j).ok (v j) w)→wpOps P ops Q (List.range' n0 (ops.size - n0)) (z0S ops a0 sp n0 v) w):
  ∀(c fuel:Nat) (listed:Array Bool) (v:Nat→Value) (a:Act) (w:World),(∃l:List Nat,l.Nodup∧(∀j,j∈l↔j<n0∧listed.getD j true=false)∧l.length=c)→fuel=c+(ops.size - n0)→
   q3f (ops:=ops) S a0 sp n0 listed v a w→wpAny P .any ops Q fuel listed a w:=by
 intro c
 induction c with
 | zero=>
  rintro fuel listed v a w ⟨l,_,hl,hlen⟩ hfu hI;have hnil:=List.eq_nil_of_length_eq_zero hlen;subst hnil;have hall:∀j,j<n0→listed.getD j false=true:=fun j hj=>by
   have:=hl j;simp only [List.not_mem_nil,false_iff,not_and] at this;have h1:=this hj;rw [z2w (by have:=hI.size;have:=hc.le;omega)] at h1;simpa using h1
  have hle:=hc.le;have hfr:=Agree.frame (sp:=sp) hc hd v n0 (Nat.le_refl _);have ha:a=z0S ops a0 sp n0 v:=by
   refine Agree.eq (D:=fun j=>j<n0) ⟨hI.agree.defers,hI.agree.size,fun j d hj _ h=>hI.agree.done j d hj (hall j hj) h,fun t ht=>hI.agree.rest t fun j hj _=>ht j hj hj⟩ hfr
  subst ha;refine y0f hc fuel n0 listed _ w (Nat.le_refl _) (by omega) hI.size (fun j hj=>?_) (by
   rw [show fuel=ops.size - n0 from by omega];exact hfin v w hI.S fun j hj=>hI.facts j hj (hall j hj))
  by_cases h:j<n0
  ·rw [decide_eq_true h,z2w (by have:=hI.size;omega)];exact hall j h
  ·rw [decide_eq_false h];exact hI.tails j (by omega) hj
 | succ c ih=>
  rintro fuel listed v a w ⟨l,hln,hl,hlen⟩ hfu hI;obtain ⟨f,rfl⟩:∃f,fuel=f+1:=⟨fuel - 1,by omega⟩;have hle:=hc.le;have hsz:=hI.size;have hex:∃i,i∈Region.ready .any ops listed:=by
   have hne:∃j,j<n0∧listed.getD j true=false:=by
    match l,hlen with
    | j::l,_=>exact ⟨j,(hl j).1 (by simp)⟩
   have hmin:∀j,j<n0→listed.getD j true=false→∃i,i<n0∧listed.getD i true=false∧∀k,k<i→listed.getD k true=true:=by
    intro j
    induction j using Nat.strongRecOn with
    | ind j ihj=>
     intro hj hf;by_cases h:∃k,k<j∧listed.getD k true=false
     ·obtain ⟨k,hk,hkf⟩:=h;exact ihj k hk (by omega) hkf
     ·exact ⟨j,hj,hf,fun k hk=>by
       cases e:listed.getD k true with
       | true=>rfl
       | false=>exact absurd ⟨k,hk,e⟩ h⟩
   obtain ⟨j,hj,hjf⟩:=hne;obtain ⟨i,hi,hif,hall⟩:=hmin j hj hjf;refine ⟨i,mem_ready.2 ⟨hif,ops[i],by simp [show i<ops.size by omega],fun e he hb=>?_⟩⟩;have hlt:=hc.ahead i ops[i] e.on (by simp [show i<ops.size by omega]) (by
    unfold z0J;rw [Array.any_eq_true'];exact ⟨e,he,by simp [hb]⟩)
   rw [←z2w (by omega)];exact hall e.on hlt
  refine ⟨fun h0=>(by obtain ⟨i,hi⟩:=hex;rw [h0] at hi;cases hi),fun i hi=>?_⟩;obtain ⟨hif,o,ho,hpre0⟩:=mem_ready.1 hi;have hilt:=(Array.getElem?_eq_some_iff.1 ho).1;have hpre:∀j,z0J o j=true→listed.getD j false=true:=fun j hj=>by
   unfold z0J at hj;rw [Array.any_eq_true'] at hj;obtain ⟨e,he,hb⟩:=hj;simp only [Bool.and_eq_true,beq_iff_eq] at hb;rw [←hb.2];exact hpre0 e he hb.1
  have hin0:i<n0:=by
   refine Nat.lt_of_not_le fun hge=>?_;obtain ⟨j,hj,hjf⟩:∃j,j<n0∧listed.getD j true=false:=by
    match l,hlen with
    | j::l,_=>exact ⟨j,(hl j).1 (by simp)⟩
   rw [z2w (by omega)] at hjf;have all:∀q,Reach ops i q→listed.getD q false=true:=fun q hq=>by
    generalize hii:i=ii at hq
    induction hq with
    | base ho' h=>
     subst hii;rw [ho] at ho';obtain rfl:=Option.some.inj ho';exact hpre _ h
    | step hr hoq h ih=>
     have hml:=(Array.getElem?_eq_some_iff.1 hoq).1;exact hI.down _ _ hoq (by rw [z2w (by omega)];exact ih) _ h
   rw [all j (hc.tail i o hge ho j (by omega))] at hjf;cases hjf
  have hpost:∀j oj,ops[j]? =some oj→z0J oj i=true→¬listed.getD j false=true:=fun j oj hoj hja hjl=>by
   have hjlt:=(Array.getElem?_eq_some_iff.1 hoj).1;have:=hI.down j oj hoj (by rw [z2w (by omega)];exact hjl) i hja;rw [z2w (by omega),this] at hif;cases hif
  have hsees:=Agree.sees hc hd hI.agree hin0 ho hpre hpost;have hev:=z8s hsees;have hwt:=z6G hsees;have hsel:∀cs b,o.op≠ .select cs b:=fun cs b=>Region.noSelect_spec hc.nosel i o cs b ho;have hfr:=Agree.frame (sp:=sp) hc hd v i (by omega);have next:∀u w',(sp i).ok u w'→(∀e,sp i= .det e→u=e)→(w'=w∨Ext w w')→wpAny P .any ops Q f (listed.setIfInBounds i true) (a.put o.dst u) w':=by
   intro u w' hok hdet hww;refine ih f (listed.setIfInBounds i true) (fun j=>if j=i then u else v j) _ w' ⟨l.erase i,hln.erase i,fun j=>?_,?_⟩ (by omega) ⟨by simpa using hsz,fun m om hom hml j hj=>?_,fun k hk1 hk2=>?_,⟨?_,?_,?_,?_⟩,fun j hj hjl=>?_,?_⟩
   ·rw [hln.mem_erase_iff,hl,z1a _ (by omega)];constructor
    ·rintro ⟨h1,h2,h3⟩;exact ⟨h2,by rw [if_neg (Ne.symm h1)];exact h3⟩
    ·rintro ⟨h1,h2⟩;by_cases e:i=j
     ·rw [if_pos e] at h2;cases h2
     ·rw [if_neg e] at h2;exact ⟨Ne.symm e,h1,h2⟩
   ·rw [List.length_erase_of_mem ((hl i).2 ⟨hin0,hif⟩),hlen];omega
   ·rw [z1a _ (by omega)] at hml ⊢;by_cases e:i=j
    ·rw [if_pos e]
    ·rw [if_neg e];by_cases e2:i=m
     ·subst e2;rw [ho] at hom;obtain rfl:=Option.some.inj hom;exact hpre j hj
     ·rw [if_neg e2] at hml;exact hI.down m om hom hml j hj
   ·rw [z1a _ (by omega),if_neg (by omega)];exact hI.tails k hk1 hk2
   ·rw [z4i];exact hI.agree.defers
   ·rw [y0v];exact hI.agree.size
   ·intro j d hj hD hdj;simp only [z1a _ (show i<listed.size by omega)] at hD;by_cases e:j=i
    ·subst e;have hdo:o.dst=some d:=by rw [ho] at hdj;exact hdj
     rw [hdo,z3s _ _ _ (by rw [hI.agree.size];exact hd j d hj hdj)];simp only [if_true];cases hs:sp j with
     | det e=>exact hdet e hs
     | rel R=>rfl
    ·rw [if_neg (Ne.symm e)] at hD;simp only [if_neg e];have hdo:o.dst≠some d:=fun e2=>e (hc.uniq j i d hj hin0 hdj (by rw [ho];exact e2));rw [z3I _ _ _ _ hdo];exact hI.agree.done j d hj hD hdj
   ·intro t ht;have hti:o.dst≠some t:=fun e=>ht i hin0 (by simp only [z1a _ (show i<listed.size by omega),if_true]) (by rw [ho];exact e);rw [z3I _ _ _ _ hti];exact hI.agree.rest t fun j hj hD=>ht j hj (by
     simp only [z1a _ (show i<listed.size by omega)];by_cases e:i=j
     ·rw [if_pos e]
     ·rw [if_neg e];exact hD)
   ·rw [z1a _ (by omega)] at hjl;by_cases e:j=i
    ·subst e;simp only [if_true];exact hok
    ·simp only [if_neg e];rw [if_neg (Ne.symm e)] at hjl;have h1:=hI.facts j hj hjl;rcases hww with rfl | hww
     ·exact h1
     ·cases hs:sp j with
      | det e=>trivial
      | rel R=>rw [hs] at h1;exact (hst j hj).2 R hs _ _ _ hww h1
   ·rcases hww with rfl | hww
    ·exact hI.S
    ·exact hSE _ _ hww hI.S
  have hstep:=(hst i hin0).1 o ho v w hI.S fun j hj hja=>hI.facts j (by omega) (hpre j hja);unfold wpOp;simp only [ho];cases hs:sp i with
  | det e=>
   rw [hs] at hstep next
   rcases hstep with ⟨h1,h2⟩ | ⟨h1,h2⟩ | h3
   ·rw [←hwt] at h1;rw [if_pos h1];refine .inl ?_;unfold Oper.wp;rw [execOp_congr o hsel hev,h2];exact next e w trivial (fun e' h=>by injection h) (.inl rfl)
   ·rw [←hwt] at h1;rw [if_neg (by rw [h1];simp)];subst h2;exact next undef w trivial (fun e' h=>by injection h) (.inl rfl)
   ·obtain ⟨h1,h2⟩:=h3.carry (a:=a) (Q:=Q) hsel hev hwt (fun d hdo=>by rw [hfr.size];exact hd i d hin0 (by rw [ho];exact hdo)) (fun u w' hR hE=>next u w' trivial (fun e' h=>by injection h with h;exact hR.trans h) (.inr hE));rw [if_pos h1];exact .inl h2
  | rel R=>
   rw [hs] at hstep next
   obtain ⟨h1,h2⟩:=hstep.carry (a:=a) (Q:=Q) hsel hev hwt (fun d hdo=>by rw [hfr.size];exact hd i d hin0 (by rw [ho];exact hdo)) (fun u w' hR hE=>next u w' hR (fun e h=>by cases h) (.inr hE));rw [if_pos h1];exact .inl h2
theorem y0W{id:Nat}{Q:Exit→Act→World→Prop}{a0:Act}{w:World}(n0:Nat)(hm:P.follows .mixedOrders=true)(hc:z7X ops n0)(hd:∀j d,j<n0→(ops[j]?).bind (·.dst)=some d→d<a0.tmps.size)
  (S:World→Prop) (Ext:World→World→Prop) (hS:S w.drew) (hSE:∀w w',Ext w w'→S w→S w')
  (h:Hav P ops S Ext (fun a w=>wpList P ops Q (ops.toList.drop n0) a w) (fun _=>a0) [] 0 (ops.toList.take n0)):(Code.region id ops true).wp P Q a0 w:=by
 have hle:=hc.le;obtain ⟨sp,_,g2,g3⟩:=Hav.extract (a0:=a0) P ops S Ext n0 _ 0 _ _ (fun _=> .det undef) (fun j=>by
   rw [List.getElem?_take];simp) (by simp;omega) (fun v=>rfl) (fun p=>by simp) h
 refine wp_region_any hm ?_;refine q1I hc hd hSE (fun i hi=>g2 i (Nat.zero_le _) hi) (fun v w hSw hok=>?_) n0 ops.size _ (fun _=>undef) a0 w.drew ⟨List.range n0,List.nodup_range,fun j=>?_,by simp⟩ (by omega) ⟨by simp,fun m o ho hml=>?_,fun k _ hk=>?_,⟨rfl,rfl,fun j d hj hD=>?_,fun t _=>rfl⟩,fun j hj hjl=>?_,hS⟩
 ·have:=g3 v w hSw hok;rw [←wpOps_eq_wpList (ops.toList.drop n0) n0 (fun j=>by simp)] at this;simpa using this
 ·simp only [List.mem_range];constructor
  ·intro hj;exact ⟨hj,by simp [show j<ops.size by omega]⟩
  ·exact fun h=>h.1
 ·have hlt:=(Array.getElem?_eq_some_iff.1 ho).1;simp [hlt] at hml
 ·simp [hk]
 ·have:j<ops.size:=by omega
  simp [this] at hD
 ·have:j<ops.size:=by omega
  simp [this] at hjl
end
def y3F(acc:Array Bool)(o:Oper):Array Bool:=o.after.toList.foldl (fun acc e=>if Region.binds .any e then acc.setIfInBounds e.on true else acc) acc
def y4T(ops:Array Oper)(k:Nat):Array Bool:=
 (List.range k).reverse.foldl (fun acc i=>if acc.getD i false then (match ops[i]? with | some o=>y3F acc o | none=>acc) else acc) (match ops[k]? with | some o=>y3F (Array.replicate k false) o | none=>Array.replicate k false)
theorem z9u{R:Nat→Prop}{acc:Array Bool}{o:Oper}(h:∀j,acc.getD j false=true→R j)(ho:∀j,z0J o j=true→R j):∀j,(y3F acc o).getD j false=true→R j:=by
 unfold y3F;have:∀(l:List Edge) (acc:Array Bool),(∀e∈l,e∈o.after.toList)→(∀j,acc.getD j false=true→R j)→∀j,(l.foldl (fun acc e=>if Region.binds .any e then acc.setIfInBounds e.on true else acc) acc).getD j false=true→R j:=by
  intro l
  induction l with
  | nil=>intro acc _ h j hj;exact h j hj
  | cons e l ih=>
   intro acc hl h j hj;refine ih _ (fun e' he'=>hl e' (by simp [he'])) (fun q hq=>?_) j hj;simp only at hq;by_cases hb:Region.binds .any e=true
   ·rw [if_pos hb] at hq;by_cases e2:e.on=q
    ·refine ho q ?_;unfold z0J;rw [Array.any_eq_true'];exact ⟨e,by simpa using hl e (by simp),by simp [hb,e2]⟩
    ·rw [show (acc.setIfInBounds e.on true).getD q false=acc.getD q false from by simp [Array.getElem?_setIfInBounds_ne e2]] at hq;exact h q hq
   ·rw [if_neg hb] at hq;exact h q hq
 exact this _ acc (fun e he=>he) h
theorem y2S{ops:Array Oper}{k:Nat}:∀j,(y4T ops k).getD j false=true→Reach ops k j:=by
 unfold y4T;have:∀(l:List Nat) (acc:Array Bool),(∀j,acc.getD j false=true→Reach ops k j)→
   ∀j,(l.foldl (fun acc i=>if acc.getD i false then (match ops[i]? with | some o=>y3F acc o | none=>acc) else acc) acc).getD j false=true→Reach ops k j:=by
  intro l
  induction l with
  | nil=>intro acc h j hj;exact h j hj
  | cons i l ih=>
   intro acc h j hj;refine ih _ (fun q hq=>?_) j hj;simp only at hq;by_cases hi:acc.getD i false=true
   ·rw [if_pos hi] at hq;cases ho:ops[i]? with
    | none=>rw [ho] at hq;exact h q hq
    | some o=>rw [ho] at hq;exact z9u h (fun j hj=> .step (h i hi) ho hj) q hq
   ·rw [if_neg hi] at hq;exact h q hq
 refine this _ _ fun j hj=>?_;have hz:∀j,(Array.replicate k false).getD j false=true→Reach ops k j:=fun j hj=>by
  by_cases h:j<k<;>simp [h] at hj
 cases ho:ops[k]? with
 | none=>rw [ho] at hj;exact hz j hj
 | some o=>rw [ho] at hj;exact z9u hz (fun j hj=> .base ho hj) j hj
def z9P(ops:Array Oper)(n0:Nat):Bool:=
 decide (n0≤ops.size)&&
 ((List.range ops.size).all fun i=>match ops[i]? with | some o=>o.after.all fun e=>!Region.binds .any e || decide (e.on<i) | none=>true)&&
 ((List.range n0).all fun i=>(List.range n0).all fun j=>match (ops[i]?).bind (·.dst),(ops[j]?).bind (·.dst) with | some d,some d'=>d !=d' || i==j | _,_=>true)&&
 ((List.range n0).all fun i=>match ops[i]? with
  | some o=>(o.looksAt ops).all fun t=>(List.range n0).all fun j=>match ops[j]? with
   | some oj=>oj.dst !=some t || (decide (j<i)&&z0J o j) || (decide (i<j)&&z0J oj i)
   | none=>true
  | none=>true)&&
 Region.noSelect ops&&
 ((List.range ops.size).all fun k=>decide (k<n0) || (List.range k).all fun j=>(y4T ops k).getD j false)
theorem y1t{ops:Array Oper}{n0:Nat}(h:z9P ops n0=true):z7X ops n0:=by
 simp only [z9P,Bool.and_eq_true,decide_eq_true_eq,List.all_eq_true,List.mem_range] at h;obtain ⟨⟨⟨⟨⟨h1,h2⟩,h3⟩,h4⟩,h5⟩,h6⟩:=h;refine ⟨h1,fun i o j ho ha=>?_,fun i j d hi hj hdi hdj=>?_,fun i o hi ho t ht j oj hj hoj hd=>?_,h5,fun k o hk ho j hj=>?_⟩
 ·have:=h2 i (Array.getElem?_eq_some_iff.1 ho).1;rw [ho] at this;simp only [Array.all_eq_true_iff_forall_mem] at this;unfold z0J at ha;rw [Array.any_eq_true'] at ha;obtain ⟨e,he,hb⟩:=ha;simp only [Bool.and_eq_true,beq_iff_eq] at hb;have h7:=this e he;rw [hb.1] at h7;simp only [Bool.not_true,Bool.false_or,decide_eq_true_eq] at h7;omega
 ·have:=h3 i hi j hj;rw [hdi,hdj] at this;simpa using this
 ·have:=h4 i hi;rw [ho] at this;simp only [List.all_eq_true,List.mem_range] at this;have h7:=this t ht j hj;rw [hoj] at h7;simp only [hd,bne_self_eq_false,Bool.false_or,Bool.or_eq_true,Bool.and_eq_true,decide_eq_true_eq] at h7;exact h7
 ·have h7:=h6 k (Array.getElem?_eq_some_iff.1 ho).1;simp only [Bool.or_eq_true,decide_eq_true_eq] at h7;rcases h7 with h7 | h7
  ·omega
  ·rw [List.all_eq_true] at h7;exact y2S j (h7 j (by simpa using hj))
def z9G(ops:Array Oper)(n0 N:Nat):Bool:=(List.range n0).all fun j=>match (ops[j]?).bind (·.dst) with | some d=>decide (d<N) | none=>true
theorem y1R{ops:Array Oper}{n0 N:Nat}(h:z9G ops n0 N=true):∀j d,j<n0→(ops[j]?).bind (·.dst)=some d→d<N:=by
 intro j d hj hd;simp only [z9G,List.all_eq_true,List.mem_range] at h;have:=h j hj;rw [hd] at this;simpa using this
theorem q0W{P:Program}{ops:Array Oper}{id:Nat}{Q:Exit→Act→World→Prop}{a0:Act}{w:World}(n0 N:Nat)(hm:P.follows .mixedOrders=true)(hc:z9P ops n0=true)(hN:a0.tmps.size=N)(hd:z9G ops n0 N=true)
  (S:World→Prop) (hS:S w) (hSE:∀w w',Below w.heap.size w w'→S w→S w') (hSd:S w→S w.drew)
  (h:Hav P ops S (fun w w'=>Below w.heap.size w w') (fun a w=>wpList P ops Q (ops.toList.drop n0) a w) (fun _=>a0) [] 0 (ops.toList.take n0)):(Code.region id ops true).wp P Q a0 w:=
 y0W n0 hm (y1t hc) (hN▸y1R hd) S _ (hSd hS) hSE h
section
variable {P:Program} {ops:Array Oper} {S:World→Prop} {Ext:World→World→Prop} {Fin:Act→World→Prop} {fr:(Nat→Value)→Act} {rels:List (Nat×(Value→World→Prop))} {k:Nat} {o:Oper} {rest:List Oper}
theorem Hav.det(e:Value)(h1:∀v w,S w→(∀p∈rels,z0J o p.1=true→p.2 (v p.1) w)→y9R P ops Ext (fr v) o e w)(h2:Hav P ops S Ext Fin (fun v=>(fr v).put o.dst e) rels (k+1) rest):Hav P ops S Ext Fin fr rels k (o::rest):=
 .inl ⟨e,h1,h2⟩
theorem Hav.read(e:Value)(hw:∀v,Region.wanted o (yielded ops (fr v).tmps)=true)(h1:∀v w,S w→(∀p∈rels,z0J o p.1=true→p.2 (v p.1) w)→(execOp (fr v).eval o).run P w= .ok (.value e) w)
  (h2:Hav P ops S Ext Fin (fun v=>(fr v).put o.dst e) rels (k+1) rest):Hav P ops S Ext Fin fr rels k (o::rest):=
 .det e (fun v w hS hF=> .inl ⟨hw v,h1 v w hS hF⟩) h2
theorem Hav.skip(hw:∀v,Region.wanted o (yielded ops (fr v).tmps)=false)(h2:Hav P ops S Ext Fin (fun v=>(fr v).put o.dst undef) rels (k+1) rest):Hav P ops S Ext Fin fr rels k (o::rest):=
 .det undef (fun v w hS hF=> .inr (.inl ⟨hw v,rfl⟩)) h2
theorem Hav.call(e:Value)(hw:∀v,Region.wanted o (yielded ops (fr v).tmps)=true)
  (h1:∀v w,S w→(∀p∈rels,z0J o p.1=true→p.2 (v p.1) w)→o.wp P (fr v) w (fun a' w'=>∃u,a'=(fr v).put o.dst u∧u=e∧Ext w w') (fun _ _ _=>False))
  (h2:Hav P ops S Ext Fin (fun v=>(fr v).put o.dst e) rels (k+1) rest):Hav P ops S Ext Fin fr rels k (o::rest):=
 .det e (fun v w hS hF=> .inr (.inr ⟨hw v,h1 v w hS hF⟩)) h2
theorem Hav.rel(R:Value→World→Prop)(hR:∀u w w',Ext w w'→R u w→R u w')(h1:∀v w,S w→(∀p∈rels,z0J o p.1=true→p.2 (v p.1) w)→z7w P ops Ext (fr v) o R w)
  (h2:Hav P ops S Ext Fin (fun v=>(fr v).put o.dst (v k)) (rels++ [(k,R)]) (k+1) rest):Hav P ops S Ext Fin fr rels k (o::rest):=
 .inr ⟨R,hR,h1,h2⟩
theorem Hav.fin(h:∀v w,S w→(∀p∈rels,p.2 (v p.1) w)→Fin (fr v) w):Hav P ops S Ext Fin fr rels k []:=h
end
end Go.Proofs.YtfcnapnopdomhaaGreatDoor

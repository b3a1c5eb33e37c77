/-
  A region that draws its order, walked once, where what holds depends on which of its operations are done: a call that changes what another operation looks at.
  A region that draws its order, walked once, where what holds depends on which of its operations are done, and on what these have made: calls that change what others look at, and hand back new memory.
-/
import Derived.Test.YtfcnapnopdomhaaGreatDoorReg
namespace Go.Proofs.YtfcnapnopdomhaaGreatDoor
set_option linter.unusedSimpArgs false
set_option linter.unusedVariables false
set_option maxRecDepth 100000
set_option maxHeartbeats 12800000
open Go.RowKit
section
variable (P:Program) (ops:Array Oper) (S:(Nat→Bool)→World→Prop)
def mark(D:Nat→Bool)(i:Nat):Nat→Bool:=fun j=>if i=j then true else D j
def q2t(D:Nat→Bool)(i:Nat)(a:Act)(o:Oper)(e:Value)(w:World):Prop:=
 (Region.wanted o (yielded ops a.tmps)=true∧(execOp a.eval o).run P w= .ok (.value e) w∧S (mark D i) w)∨(Region.wanted o (yielded ops a.tmps)=false∧e=undef∧S (mark D i) w)∨z7w P ops (fun _ w'=>S (mark D i) w') a o (fun u _=>u=e) w
structure Open (D:Nat→Bool) (i:Nat) (o:Oper):Prop where
 self:D i=false
 pre:∀j,z0J o j=true→D j=true
 post:∀j oj,ops[j]? =some oj→z0J oj i=true→D j=false
def y1k(Fin:Act→World→Prop):Act→Nat→List Oper→Prop
 | fr,k, []=>∀w,S (fun j=>decide (j<k)) w→Fin fr w
 | fr,k,o::rest=>∃e,(∀D w,Open ops D k o→S D w→q2t P ops S D k fr o e w)∧y1k Fin (fr.put o.dst e) (k+1) rest
def q3j(a0:Act)(sp:Nat→Spec)(i:Nat):Prop:=
 ∀o,ops[i]? =some o→∀D w,Open ops D i o→S D w→∃e,sp i= .det e∧q2t P ops S D i (z0S ops a0 sp i fun _=>undef) o e w
theorem y1k.extract{Fin:Act→World→Prop}{a0:Act}(n0:Nat):∀(rest:List Oper) (k:Nat) (fr:Act) (sp:Nat→Spec),
  (∀j,rest[j]? =if k+j<n0 then ops[k+j]? else none)→k+rest.length=n0→fr=z0S ops a0 sp k (fun _=>undef)→y1k P ops S Fin fr k rest→
  ∃sp':Nat→Spec,(∀j,j<k→sp' j=sp j)∧(∀i,k≤i→i<n0→q3j P ops S a0 sp' i)∧(∀i,k≤i→i<n0→∃e,sp' i= .det e)∧
   (∀w,S (fun j=>decide (j<n0)) w→Fin (z0S ops a0 sp' n0 fun _=>undef) w)
 | [],k,fr,sp,hr,hk,hf,h=>by
  simp only [List.length_nil,Nat.add_zero] at hk;subst hk;exact ⟨sp,fun _ _=>rfl,fun i h1 h2=>by omega,fun i h1 h2=>by omega,fun w hS=>hf▸h w hS⟩
 | o::rest,k,fr,sp,hr,hk,hf,h=>by
  simp only [List.length_cons] at hk;have ho:ops[k]? =some o:=by
   have:=hr 0;simp only [Nat.add_zero,List.getElem?_cons_zero] at this;rw [if_pos (by omega)] at this;exact this.symm
  have hr':∀j,rest[j]? =if k+1+j<n0 then ops[k+1+j]? else none:=fun j=>by
   have:=hr (j+1);simp only [List.getElem?_cons_succ] at this;rw [this,show k+(j+1)=k+1+j from by omega]
  obtain ⟨e,h1,h2⟩:=h;obtain ⟨sp',g1,g2,g4,g3⟩:=y1k.extract n0 rest (k+1) _ (fun j=>if j=k then .det e else sp j) hr' (by omega)
   (by
    rw [z0S,hf,ho];simp only [if_true,Spec.val,Option.bind_some];rw [z1k ops k (fun _=>undef) (sp':=fun j=>if j=k then .det e else sp j) fun j hj=>by rw [if_neg (by omega)]]) h2
  have hspk:sp' k= .det e:=by rw [g1 k (by omega),if_pos rfl]
  refine ⟨sp',fun j hj=>by rw [g1 j (by omega),if_neg (by omega)],fun i hi1 hi2=>?_,fun i hi1 hi2=>?_,g3⟩
  ·by_cases hik:i=k
   ·subst hik;intro o' ho' D w hD hS;obtain rfl:o=o':=by rw [ho] at ho';exact Option.some.inj ho'
    refine ⟨e,hspk,?_⟩;have:=h1 D w hD hS;rw [hf,z1k ops i (fun _=>undef) (sp':=sp') fun j hj=>by rw [g1 j (by omega),if_neg (by omega)]] at this;exact this
   ·exact g2 i (by omega) hi2
  ·by_cases hik:i=k
   ·subst hik;exact ⟨e,hspk⟩
   ·exact g4 i (by omega) hi2
variable {P ops S}
theorem y1k.read{Fin:Act→World→Prop}{fr:Act}{k:Nat}{o:Oper}{rest:List Oper}(e:Value)(hw:Region.wanted o (yielded ops fr.tmps)=true)(hk:∀D w,S D w→S (mark D k) w)
  (h1:∀D w,S D w→(execOp fr.eval o).run P w= .ok (.value e) w) (h2:y1k P ops S Fin (fr.put o.dst e) (k+1) rest):y1k P ops S Fin fr k (o::rest):=
 ⟨e,fun D w _ hS=> .inl ⟨hw,h1 D w hS,hk D w hS⟩,h2⟩
theorem y1k.call{Fin:Act→World→Prop}{fr:Act}{k:Nat}{o:Oper}{rest:List Oper}(e:Value)(hw:Region.wanted o (yielded ops fr.tmps)=true)
  (h1:∀D w,Open ops D k o→S D w→o.wp P fr w (fun a' w'=>∃u,a'=fr.put o.dst u∧u=e∧S (mark D k) w') (fun _ _ _=>False))
  (h2:y1k P ops S Fin (fr.put o.dst e) (k+1) rest):y1k P ops S Fin fr k (o::rest):=
 ⟨e,fun D w hD hS=> .inr (.inr ⟨hw,h1 D w hD hS⟩),h2⟩
end
section
variable (P:Program) (ops:Array Oper) (S:(Nat→Bool)→(Nat→Value)→World→Prop)
def z2P(v:Nat→Value)(i:Nat)(u:Value):Nat→Value:=fun j=>if i=j then u else v j
def y8O(D:Nat→Bool)(v:Nat→Value)(i:Nat)(a:Act)(o:Oper)(e:Value)(w:World):Prop:=
 (Region.wanted o (yielded ops a.tmps)=true∧(execOp a.eval o).run P w= .ok (.value e) w∧S (mark D i) v w)∨(Region.wanted o (yielded ops a.tmps)=false∧e=undef∧S (mark D i) v w)∨z7w P ops (fun _ w'=>S (mark D i) v w') a o (fun u _=>u=e) w
def q0G(D:Nat→Bool)(v:Nat→Value)(i:Nat)(a:Act)(o:Oper)(w:World):Prop:=
 z7w P ops (fun _ _=>True) a o (fun u w'=>S (mark D i) (z2P v i u) w') w
def q8(Fin:Act→World→Prop):((Nat→Value)→Act)→Nat→List Oper→Prop
 | fr,k, []=>∀v w,S (fun j=>decide (j<k)) v w→Fin (fr v) w
 | fr,k,o::rest=>
  (∃e,(∀D v w,Open ops D k o→S D v w→y8O P ops S D v k (fr v) o e w)∧q8 Fin (fun v=>(fr v).put o.dst e) (k+1) rest)∨
  ((∀D v w,Open ops D k o→S D v w→q0G P ops S D v k (fr v) o w)∧q8 Fin (fun v=>(fr v).put o.dst (v k)) (k+1) rest)
def y6U(a0:Act)(sp:Nat→Spec)(i:Nat):Prop:=
 ∀o,ops[i]? =some o→∀D v w,Open ops D i o→S D v w→
  (match sp i with
   | .det e=>y8O P ops S D v i (z0S ops a0 sp i v) o e w
   | .rel _=>q0G P ops S D v i (z0S ops a0 sp i v) o w)
theorem q8.extract{Fin:Act→World→Prop}{a0:Act}(n0:Nat):∀(rest:List Oper) (k:Nat) (fr:(Nat→Value)→Act) (sp:Nat→Spec),
  (∀j,rest[j]? =if k+j<n0 then ops[k+j]? else none)→k+rest.length=n0→(∀v,fr v=z0S ops a0 sp k v)→q8 P ops S Fin fr k rest→
  ∃sp':Nat→Spec,(∀j,j<k→sp' j=sp j)∧(∀i,k≤i→i<n0→y6U P ops S a0 sp' i)∧
   (∀v w,S (fun j=>decide (j<n0)) v w→Fin (z0S ops a0 sp' n0 v) w)
 | [],k,fr,sp,hr,hk,hf,h=>by
  simp only [List.length_nil,Nat.add_zero] at hk;subst hk;exact ⟨sp,fun _ _=>rfl,fun i h1 h2=>by omega,fun v w hS=>hf v▸h v w hS⟩
 | o::rest,k,fr,sp,hr,hk,hf,h=>by
  simp only [List.length_cons] at hk;have ho:ops[k]? =some o:=by
   have:=hr 0;simp only [Nat.add_zero,List.getElem?_cons_zero] at this;rw [if_pos (by omega)] at this;exact this.symm
  have hr':∀j,rest[j]? =if k+1+j<n0 then ops[k+1+j]? else none:=fun j=>by
   have:=hr (j+1);simp only [List.getElem?_cons_succ] at this;rw [this,show k+(j+1)=k+1+j from by omega]
  rcases h with ⟨e,h1,h2⟩ | ⟨h1,h2⟩
  ·obtain ⟨sp',g1,g2,g3⟩:=q8.extract n0 rest (k+1) _ (fun j=>if j=k then .det e else sp j) hr' (by omega)
    (fun v=>by
     rw [z0S,hf,ho];simp only [if_true,Spec.val,Option.bind_some];rw [z1k ops k v (sp':=fun j=>if j=k then .det e else sp j) fun j hj=>by rw [if_neg (by omega)]]) h2
   have hspk:sp' k= .det e:=by rw [g1 k (by omega),if_pos rfl]
   refine ⟨sp',fun j hj=>by rw [g1 j (by omega),if_neg (by omega)],fun i hi1 hi2=>?_,g3⟩;by_cases hik:i=k
   ·subst hik;intro o' ho' D v w hD hS;obtain rfl:o=o':=by rw [ho] at ho';exact Option.some.inj ho'
    rw [hspk];have:=h1 D v w hD hS;rw [hf,z1k ops i v (sp':=sp') fun j hj=>by rw [g1 j (by omega),if_neg (by omega)]] at this;exact this
   ·exact g2 i (by omega) hi2
  ·obtain ⟨sp',g1,g2,g3⟩:=q8.extract n0 rest (k+1) _ (fun j=>if j=k then .rel (fun _ _=>True) else sp j) hr' (by omega)
    (fun v=>by
     rw [z0S,hf,ho];simp only [if_true,Spec.val,Option.bind_some];rw [z1k ops k v (sp':=fun j=>if j=k then .rel (fun _ _=>True) else sp j) fun j hj=>by rw [if_neg (by omega)]]) h2
   have hspk:sp' k= .rel (fun _ _=>True):=by rw [g1 k (by omega),if_pos rfl]
   refine ⟨sp',fun j hj=>by rw [g1 j (by omega),if_neg (by omega)],fun i hi1 hi2=>?_,g3⟩;by_cases hik:i=k
   ·subst hik;intro o' ho' D v w hD hS;obtain rfl:o=o':=by rw [ho] at ho';exact Option.some.inj ho'
    rw [hspk];have:=h1 D v w hD hS;rw [hf,z1k ops i v (sp':=sp') fun j hj=>by rw [g1 j (by omega),if_neg (by omega)]] at this;exact this
   ·exact g2 i (by omega) hi2
variable {P ops S}
structure q1G (S:(Nat→Bool)→(Nat→Value)→World→Prop) (a0:Act) (sp:Nat→Spec) (n0:Nat) (listed:Array Bool) (v:Nat→Value) (a:Act) (w:World):Prop where
 size:listed.size=ops.size
 down:∀m o,ops[m]? =some o→listed.getD m true=true→∀j,z0J o j=true→listed.getD j false=true
 tails:∀k,n0≤k→k<ops.size→listed.getD k true=false
 agree:Agree (ops:=ops) a0 sp n0 (fun j=>listed.getD j false=true) v a
 S:S (fun j=>listed.getD j false) v w
theorem y9F{n0:Nat}{Q:Exit→Act→World→Prop}{a0:Act}{sp:Nat→Spec}(hc:z7X ops n0)(hd:∀j d,j<n0→(ops[j]?).bind (·.dst)=some d→d<a0.tmps.size)
  (hst:∀i,i<n0→y6U P ops S a0 sp i)
  (hfin:∀v w,S (fun j=>decide (j<n0)) v w→wpOps P ops Q (List.range' n0 (ops.size - n0)) (z0S ops a0 sp n0 v) w):
  ∀(c fuel:Nat) (listed:Array Bool) (v:Nat→Value) (a:Act) (w:World),(∃l:List Nat,l.Nodup∧(∀j,j∈l↔j<n0∧listed.getD j true=false)∧l.length=c)→fuel=c+(ops.size - n0)→
   q1G (ops:=ops) S a0 sp n0 listed v a w→wpAny P .any ops Q fuel listed a w:=by
 intro c
 induction c with
 | zero=>
  rintro fuel listed v a w ⟨l,_,hl,hlen⟩ hfu hI;have hnil:=List.eq_nil_of_length_eq_zero hlen;subst hnil;have hall:∀j,j<n0→listed.getD j false=true:=fun j hj=>by
   have:=hl j;simp only [List.not_mem_nil,false_iff,not_and] at this;have h1:=this hj;rw [z2w (by have:=hI.size;have:=hc.le;omega)] at h1;simpa using h1
  have hle:=hc.le;have hfr:=Agree.frame (sp:=sp) hc hd v n0 (Nat.le_refl _);have ha:a=z0S ops a0 sp n0 v:=by
   refine Agree.eq (D:=fun j=>j<n0) ⟨hI.agree.defers,hI.agree.size,fun j d hj _ h=>hI.agree.done j d hj (hall j hj) h,fun t ht=>hI.agree.rest t fun j hj _=>ht j hj hj⟩ hfr
  subst ha;refine y0f hc fuel n0 listed _ w (Nat.le_refl _) (by omega) hI.size (fun j hj=>?_) (by
   rw [show fuel=ops.size - n0 from by omega];refine hfin v w ?_;have e:(fun j=>listed.getD j false)=fun j=>decide (j<n0):=by
    funext j
    by_cases h:j<n0
    ·rw [decide_eq_true h];exact hall j h
    ·rw [decide_eq_false h];by_cases h2:j<ops.size
     ·rw [←z2w (by have:=hI.size;omega)];exact hI.tails j (by omega) h2
     ·have:=hI.size;simp [Array.getD,show ¬j<listed.size by omega]
   have:=hI.S;rw [e] at this;exact this)
  by_cases h:j<n0
  ·rw [decide_eq_true h,z2w (by have:=hI.size;omega)];exact hall j h
  ·rw [decide_eq_false h];exact hI.tails j (by omega) hj
 | succ c ih=>
  rintro fuel listed v a w ⟨l,hln,hl,hlen⟩ hfu hI;obtain ⟨f,rfl⟩:∃f,fuel=f+1:=⟨fuel - 1,by omega⟩;have hle:=hc.le;have hsz:=hI.size;have hex:∃i,i∈Region.ready .any ops listed:=by
   have hne:∃j,j<n0∧listed.getD j true=false:=by
    match l,hlen with
    | j::l,_=>exact ⟨j,(hl j).1 (by simp)⟩
   have hmin:∀j,j<n0→listed.getD j true=false→∃i,i<n0∧listed.getD i true=false∧∀k,k<i→listed.getD k true=true:=by
    intro j
    induction j using Nat.strongRecOn with
    | ind j ihj=>
     intro hj hf;by_cases h:∃k,k<j∧listed.getD k true=false
     ·obtain ⟨k,hk,hkf⟩:=h;exact ihj k hk (by omega) hkf
     ·exact ⟨j,hj,hf,fun k hk=>by
       cases e:listed.getD k true with
       | true=>rfl
       | false=>exact absurd ⟨k,hk,e⟩ h⟩
   obtain ⟨j,hj,hjf⟩:=hne;obtain ⟨i,hi,hif,hall⟩:=hmin j hj hjf;refine ⟨i,mem_ready.2 ⟨hif,ops[i],by simp [show i<ops.size by omega],fun e he hb=>?_⟩⟩;have hlt:=hc.ahead i ops[i] e.on (by simp [show i<ops.size by omega]) (by
    unfold z0J;rw [Array.any_eq_true'];exact ⟨e,he,by simp [hb]⟩)
   rw [←z2w (by omega)];exact hall e.on hlt
  refine ⟨fun h0=>(by obtain ⟨i,hi⟩:=hex;rw [h0] at hi;cases hi),fun i hi=>?_⟩;obtain ⟨hif,o,ho,hpre0⟩:=mem_ready.1 hi;have hilt:=(Array.getElem?_eq_some_iff.1 ho).1;have hpre:∀j,z0J o j=true→listed.getD j false=true:=fun j hj=>by
   unfold z0J at hj;rw [Array.any_eq_true'] at hj;obtain ⟨e,he,hb⟩:=hj;simp only [Bool.and_eq_true,beq_iff_eq] at hb;rw [←hb.2];exact hpre0 e he hb.1
  have hin0:i<n0:=by
   refine Nat.lt_of_not_le fun hge=>?_;obtain ⟨j,hj,hjf⟩:∃j,j<n0∧listed.getD j true=false:=by
    match l,hlen with
    | j::l,_=>exact ⟨j,(hl j).1 (by simp)⟩
   rw [z2w (by omega)] at hjf;have all:∀q,Reach ops i q→listed.getD q false=true:=fun q hq=>by
    generalize hii:i=ii at hq
    induction hq with
    | base ho' h=>
     subst hii;rw [ho] at ho';obtain rfl:=Option.some.inj ho';exact hpre _ h
    | step hr hoq h ih=>
     have hml:=(Array.getElem?_eq_some_iff.1 hoq).1;exact hI.down _ _ hoq (by rw [z2w (by omega)];exact ih) _ h
   rw [all j (hc.tail i o hge ho j (by omega))] at hjf;cases hjf
  have hpost:∀j oj,ops[j]? =some oj→z0J oj i=true→¬listed.getD j false=true:=fun j oj hoj hja hjl=>by
   have hjlt:=(Array.getElem?_eq_some_iff.1 hoj).1;have:=hI.down j oj hoj (by rw [z2w (by omega)];exact hjl) i hja;rw [z2w (by omega),this] at hif;cases hif
  have hsees:=Agree.sees hc hd hI.agree hin0 ho hpre hpost;have hev:=z8s hsees;have hwt:=z6G hsees;have hsel:∀cs b,o.op≠ .select cs b:=fun cs b=>Region.noSelect_spec hc.nosel i o cs b ho;have hfr:=Agree.frame (sp:=sp) hc hd v i (by omega);have next:∀u v' w',(∀j,i≠j→v' j=v j)→(sp i).val (v' i)=u→S (mark (fun j=>listed.getD j false) i) v' w'→wpAny P .any ops Q f (listed.setIfInBounds i true) (a.put o.dst u) w':=by
   intro u v' w' hvv hval hww;refine ih f (listed.setIfInBounds i true) v' _ w' ⟨l.erase i,hln.erase i,fun j=>?_,?_⟩ (by omega) ⟨by simpa using hsz,fun m om hom hml j hj=>?_,fun k hk1 hk2=>?_,⟨?_,?_,?_,?_⟩,?_⟩
   ·rw [hln.mem_erase_iff,hl,z1a _ (by omega)];constructor
    ·rintro ⟨h1,h2,h3⟩;exact ⟨h2,by rw [if_neg (Ne.symm h1)];exact h3⟩
    ·rintro ⟨h1,h2⟩;by_cases e:i=j
     ·rw [if_pos e] at h2;cases h2
     ·rw [if_neg e] at h2;exact ⟨Ne.symm e,h1,h2⟩
   ·rw [List.length_erase_of_mem ((hl i).2 ⟨hin0,hif⟩),hlen];omega
   ·rw [z1a _ (by omega)] at hml ⊢;by_cases e:i=j
    ·rw [if_pos e]
    ·rw [if_neg e];by_cases e2:i=m
     ·subst e2;rw [ho] at hom;obtain rfl:=Option.some.inj hom;exact hpre j hj
     ·rw [if_neg e2] at hml;exact hI.down m om hom hml j hj
   ·rw [z1a _ (by omega),if_neg (by omega)];exact hI.tails k hk1 hk2
   ·rw [z4i];exact hI.agree.defers
   ·rw [y0v];exact hI.agree.size
   ·intro j d hj hD hdj;simp only [z1a _ (show i<listed.size by omega)] at hD;by_cases e:j=i
    ·subst e;have hdo:o.dst=some d:=by rw [ho] at hdj;exact hdj
     rw [hdo,z3s _ _ _ (by rw [hI.agree.size];exact hd j d hj hdj)];exact hval.symm
    ·rw [if_neg (Ne.symm e)] at hD;have hdo:o.dst≠some d:=fun e2=>e (hc.uniq j i d hj hin0 hdj (by rw [ho];exact e2));rw [z3I _ _ _ _ hdo];rw [hI.agree.done j d hj hD hdj,hvv j (Ne.symm e)]
   ·intro t ht;have hti:o.dst≠some t:=fun e=>ht i hin0 (by simp only [z1a _ (show i<listed.size by omega),if_true]) (by rw [ho];exact e);rw [z3I _ _ _ _ hti];exact hI.agree.rest t fun j hj hD=>ht j hj (by
     simp only [z1a _ (show i<listed.size by omega)];by_cases e:i=j
     ·rw [if_pos e]
     ·rw [if_neg e];exact hD)
   ·have e:(fun j=>(listed.setIfInBounds i true).getD j false)=mark (fun j=>listed.getD j false) i:=by
     funext j
     rw [z1a _ (by omega)];rfl
    rw [e];exact hww
  have hstep:=hst i hin0 o ho (fun j=>listed.getD j false) v w ⟨by rw [←z2w (by omega)];exact hif,hpre,fun j oj h1 h2=>by simpa using hpost j oj h1 h2⟩ hI.S;unfold wpOp;simp only [ho];cases hs:sp i with
  | det e=>
   rw [hs] at hstep;simp only at hstep;have hee:(sp i).val (v i)=e:=by rw [hs];rfl
   rcases hstep with ⟨h1,h2,h3⟩ | ⟨h1,h2,h3⟩ | h3
   ·rw [←hwt] at h1;rw [if_pos h1];refine .inl ?_;unfold Oper.wp;rw [execOp_congr o hsel hev,h2];exact next e v w (fun _ _=>rfl) hee h3
   ·rw [←hwt] at h1;rw [if_neg (by rw [h1];simp)];subst h2;exact next undef v w (fun _ _=>rfl) hee h3
   ·obtain ⟨h1,h2⟩:=h3.carry (a:=a) (Q:=Q) hsel hev hwt (fun d hdo=>by rw [hfr.size];exact hd i d hin0 (by rw [ho];exact hdo)) (fun u w' hR hE=>next u v w' (fun _ _=>rfl) (hee.trans hR.symm) hE);rw [if_pos h1];exact .inl h2
  | rel R=>
   rw [hs] at hstep;simp only at hstep;obtain ⟨h1,h2⟩:=z7w.carry (a:=a) (Q:=Q) hsel hev hwt (fun d hdo=>by rw [hfr.size];exact hd i d hin0 (by rw [ho];exact hdo)) hstep
    (fun u w' hR hE=>next u (z2P v i u) w' (fun j hj=>by unfold z2P;rw [if_neg hj]) (by rw [hs];simp [Spec.val,z2P]) hR)
   rw [if_pos h1];exact .inl h2
theorem q6{id:Nat}{Q:Exit→Act→World→Prop}{a0:Act}{w:World}(n0 N:Nat)(hm:P.follows .mixedOrders=true)(hc:z9P ops n0=true)(hN:a0.tmps.size=N)(hd:z9G ops n0 N=true)
  (S:(Nat→Bool)→(Nat→Value)→World→Prop) (v0:Nat→Value) (hS:S (fun _=>false) v0 w.drew)
  (h:q8 P ops S (fun a w=>wpList P ops Q (ops.toList.drop n0) a w) (fun _=>a0) 0 (ops.toList.take n0)):(Code.region id ops true).wp P Q a0 w:=by
 have hc:=y1t hc;have hd:=y1R (hN▸hd);have hle:=hc.le;obtain ⟨sp,_,g2,g3⟩:=q8.extract (a0:=a0) P ops S n0 _ 0 _ (fun _=> .det undef) (fun j=>by
   rw [List.getElem?_take];simp) (by simp;omega) (fun _=>rfl) h
 refine wp_region_any hm ?_;have e0:(fun j=>(Array.replicate ops.size false).getD j false)=fun _=>false:=by
  funext j
  by_cases h:j<ops.size<;>simp [h]
 refine y9F hc hd (fun i hi=>g2 i (Nat.zero_le _) hi) (fun v w hSw=>?_) n0 ops.size _ v0 a0 w.drew ⟨List.range n0,List.nodup_range,fun j=>?_,by simp⟩ (by omega) ⟨by simp,fun m o ho hml=>?_,fun k _ hk=>?_,⟨rfl,rfl,fun j d hj hD=>?_,fun t _=>rfl⟩,by rw [e0];exact hS⟩
 ·have:=g3 v w hSw;rw [←wpOps_eq_wpList (ops.toList.drop n0) n0 (fun j=>by simp)] at this;simpa using this
 ·simp only [List.mem_range];constructor
  ·intro hj;exact ⟨hj,by simp [show j<ops.size by omega]⟩
  ·exact fun h=>h.1
 ·have hlt:=(Array.getElem?_eq_some_iff.1 ho).1;simp [hlt] at hml
 ·simp [hk]
 ·have:j<ops.size:=by omega
  simp [this] at hD
variable {Fin:Act→World→Prop} {fr:(Nat→Value)→Act} {k:Nat} {o:Oper} {rest:List Oper}
theorem q8.read(e:Value)(hw:∀v,Region.wanted o (yielded ops (fr v).tmps)=true)(hk:∀D v w,S D v w→S (mark D k) v w)
  (h1:∀D v w,Open ops D k o→S D v w→(execOp (fr v).eval o).run P w= .ok (.value e) w) (h2:q8 P ops S Fin (fun v=>(fr v).put o.dst e) (k+1) rest):q8 P ops S Fin fr k (o::rest):=
 .inl ⟨e,fun D v w hD hS=> .inl ⟨hw v,h1 D v w hD hS,hk D v w hS⟩,h2⟩
theorem q8.rd(e:Value)(h1:∀D v w,Open ops D k o→S D v w→(execOp (fr v).eval o).run P w= .ok (.value e) w)(h2:q8 P ops S Fin (fun v=>(fr v).put o.dst e) (k+1) rest)
  (hw:∀v,Region.wanted o (yielded ops (fr v).tmps)=true:=by intro v;rfl) (hk:∀D v w,S D v w→S (mark D k) v w:=by intro D v w h;exact h):q8 P ops S Fin fr k (o::rest):=
 q8.read e hw hk h1 h2
theorem q8.skip(hw:∀v,Region.wanted o (yielded ops (fr v).tmps)=false)(hk:∀D v w,S D v w→S (mark D k) v w)
  (h2:q8 P ops S Fin (fun v=>(fr v).put o.dst undef) (k+1) rest):q8 P ops S Fin fr k (o::rest):=
 .inl ⟨undef,fun D v w _ hS=> .inr (.inl ⟨hw v,rfl,hk D v w hS⟩),h2⟩
theorem q8.call(e:Value)(hw:∀v,Region.wanted o (yielded ops (fr v).tmps)=true)
  (h1:∀D v w,Open ops D k o→S D v w→o.wp P (fr v) w (fun a' w'=>∃u,a'=(fr v).put o.dst u∧u=e∧S (mark D k) v w') (fun _ _ _=>False))
  (h2:q8 P ops S Fin (fun v=>(fr v).put o.dst e) (k+1) rest):q8 P ops S Fin fr k (o::rest):=
 .inl ⟨e,fun D v w hD hS=> .inr (.inr ⟨hw v,h1 D v w hD hS⟩),h2⟩
theorem q8.rel(hw:∀v,Region.wanted o (yielded ops (fr v).tmps)=true)
  (h1:∀D v w,Open ops D k o→S D v w→o.wp P (fr v) w (fun a' w'=>∃u,a'=(fr v).put o.dst u∧S (mark D k) (z2P v k u) w'∧True) (fun _ _ _=>False))
  (h2:q8 P ops S Fin (fun v=>(fr v).put o.dst (v k)) (k+1) rest):q8 P ops S Fin fr k (o::rest):=
 .inr ⟨fun D v w hD hS=>⟨hw v,h1 D v w hD hS⟩,h2⟩
theorem q8.fin(h:∀v w,S (fun j=>decide (j<k)) v w→Fin (fr v) w):q8 P ops S Fin fr k []:=h
end
end Go.Proofs.YtfcnapnopdomhaaGreatDoor

/-
  The region of keep's Take that calls Look (LkS).
-/
import Derived.Test.YtfcnapnopdomhaaGreatDoorZTaFTaIATaKKeB
namespace Go.Proofs.YtfcnapnopdomhaaGreatDoor
set_option linter.unusedSimpArgs false
set_option linter.unusedVariables false
set_option maxRecDepth 100000
set_option maxHeartbeats 12800000
open Go.RowKit Go.Maps
structure LkS (W:World) (rb:Nat) (p:Array Value) (bo er:Value) (P:Value→World→Prop) (D:Nat→Bool) (v:Nat→Value) (w':World):Prop where
 low:z0s (fun k=>k=rb) W w'
 q0:D 5=false→w'.heap[rb]? =W.heap[rb]?
 c:D 5=true→∃(sl:Value) (F:Nat→Prop),v 5= .tuple #[.agg p,bo,sl,er]∧Kept F w' (P sl)∧∀k,F k→k<w'.heap.size∧(D 11=true→v 11≠ .pointer (some ⟨k,0,none⟩))
 m:D 6=true→D 5=true∧v 6=v 5
 e:D 9=true→D 5=true∧v 9=z8I 2 (v 5)
 a:D 14=true→D 9=true∧v 14=v 9
 al:D 11=true→∃g,v 11= .pointer (some ⟨g,0,none⟩)∧W.heap.size≤g∧w'.heap[g]? =some (.cells (if D 12 then p else z1O) 125 (0,0))
section
variable {W w' w'':World} {rb:Nat} {p:Array Value} {bo er:Value} {P:Value→World→Prop} {D:Nat→Bool} {v:Nat→Value}
theorem LkS.start(W:World)(rb:Nat)(p:Array Value)(bo er:Value)(P:Value→World→Prop):LkS W rb p bo er P (fun _=>false) (fun _=>undef) W.drew:=
 ⟨⟨rfl,rfl,rfl,Nat.le_refl _,fun _ _ _=>rfl⟩,(fun _=>rfl),(fun h=>by cases h),(fun h=>by cases h),(fun h=>by cases h),(fun h=>by cases h),fun h=>by cases h⟩
theorem LkS.read(h:LkS W rb p bo er P D v w')(k:Nat)(h5:k≠5)(h6:k≠6)(h9:k≠9)(h11:k≠11)(h12:k≠12)(h14:k≠14):LkS W rb p bo er P (mark D k) v w':=by
 refine ⟨h.low,?_,?_,?_,?_,?_,?_⟩
 ·rw [q9 h5];exact h.q0
 ·rw [q9 h5,q9 h11];exact h.c
 ·rw [q9 h6,q9 h5];exact h.m
 ·rw [q9 h9,q9 h5];exact h.e
 ·rw [q9 h14,q9 h9];exact h.a
 ·rw [q9 h11,q9 h12];exact h.al
theorem LkS.call(h:LkS W rb p bo er P D v w')(d5:D 5=false)(hr:rb<W.heap.size)(ho:z0s (fun k=>k=rb) w' w'')(sl:Value)(F:Nat→Prop)(hP:Kept F w'' (P sl))(hF:∀k,F k→k=rb∨(w'.heap.size≤k∧k<w''.heap.size)):LkS W rb p bo er P (mark D 5) (z2P v 5 (.tuple #[.agg p,bo,sl,er])) w'':=by
 refine ⟨h.low.trans ho (fun _ hk=> .inl hk),fun e=>?_,fun _=>⟨sl,F,z0p _ _ _,hP,fun k hk=>?_⟩,fun e=>?_,fun e=>?_,fun e=>?_,fun e=>?_⟩
 ·rw [z1z] at e;cases e
 ·have hsz:=h.low.size;have hsz2:=ho.size;refine ⟨by rcases hF k hk with h1 | h1<;>omega,fun e=>?_⟩;rw [q9 (by omega)] at e;rw [z0c (by omega)];obtain ⟨g,g1,g2,g3⟩:=h.al e;rw [g1];intro e2;simp only [Value.pointer.injEq,Option.some.injEq,Addr.mk.injEq,and_true] at e2;have:=(Array.getElem?_eq_some_iff.1 g3).1;rcases hF k hk with h1 | h1<;>omega
 ·rw [q9 (by omega)] at e;have:=(h.m e).1;rw [d5] at this;cases this
 ·rw [q9 (by omega)] at e;have:=(h.e e).1;rw [d5] at this;cases this
 ·rw [q9 (by omega)] at e;have:=(h.e (h.a e).1).1;rw [d5] at this;cases this
 ·rw [q9 (by omega)] at e;rw [q9 (by omega),z0c (by omega)];obtain ⟨g,g1,g2,g3⟩:=h.al e;exact ⟨g,g1,g2,(ho.block g (Array.getElem?_eq_some_iff.1 g3).1 (by omega)).trans g3⟩
theorem LkS.move(h:LkS W rb p bo er P D v w')(d5:D 5=true):LkS W rb p bo er P (mark D 6) (z2P v 6 (v 5)) w':=by
 refine ⟨h.low,?_,?_,fun _=>⟨by rw [q9 (by omega)];exact d5,by rw [z0p,z0c (by omega)]⟩,?_,?_,?_⟩
 ·rw [q9 (by omega)];exact h.q0
 ·rw [q9 (by omega),q9 (by omega),z0c (by omega),z0c (by omega)];exact h.c
 ·rw [q9 (by omega),q9 (by omega),z0c (by omega),z0c (by omega)];exact h.e
 ·rw [q9 (by omega),q9 (by omega),z0c (by omega),z0c (by omega)];exact h.a
 ·rw [q9 (by omega),q9 (by omega),z0c (by omega)];exact h.al
theorem LkS.ext(h:LkS W rb p bo er P D v w')(d5:D 5=true){u:Value}(hu:z8I 2 (v 5)=u)(d14:D 14=false):LkS W rb p bo er P (mark D 9) (z2P v 9 u) w':=by
 refine ⟨h.low,?_,?_,?_,fun _=>⟨by rw [q9 (by omega)];exact d5,by rw [z0p,z0c (by omega),hu]⟩,fun e=>?_,?_⟩
 ·rw [q9 (by omega)];exact h.q0
 ·rw [q9 (by omega),q9 (by omega),z0c (by omega),z0c (by omega)];exact h.c
 ·rw [q9 (by omega),q9 (by omega),z0c (by omega),z0c (by omega)];exact h.m
 ·rw [q9 (by omega),d14] at e;cases e
 ·rw [q9 (by omega),q9 (by omega),z0c (by omega)];exact h.al
theorem LkS.asg(h:LkS W rb p bo er P D v w')(d9:D 9=true):LkS W rb p bo er P (mark D 14) (z2P v 14 (v 9)) w':=by
 refine ⟨h.low,?_,?_,?_,?_,fun _=>⟨by rw [q9 (by omega)];exact d9,by rw [z0p,z0c (by omega)]⟩,?_⟩
 ·rw [q9 (by omega)];exact h.q0
 ·rw [q9 (by omega),q9 (by omega),z0c (by omega),z0c (by omega)];exact h.c
 ·rw [q9 (by omega),q9 (by omega),z0c (by omega),z0c (by omega)];exact h.m
 ·rw [q9 (by omega),q9 (by omega),z0c (by omega),z0c (by omega)];exact h.e
 ·rw [q9 (by omega),q9 (by omega),z0c (by omega)];exact h.al
theorem LkS.make(h:LkS W rb p bo er P D v w')(hr:rb<W.heap.size)(d12:D 12=false):LkS W rb p bo er P (mark D 11) (z2P v 11 (.pointer (some ⟨w'.heap.size,0,none⟩))) (w'.alloc (.cells z1O 125)):=by
 have hb:=q5 w' (.cells z1O 125);refine ⟨h.low.trans (S':=fun _=>False) (z0s.of_below hb) (fun _ hk=>hk.elim),?_,fun e=>?_,?_,?_,?_,fun _=>⟨w'.heap.size,z0p _ _ _,h.low.size,?_⟩⟩
 ·rw [q9 (by omega)];exact fun e=>(hb.block rb (by have:=h.low.size;omega)).trans (h.q0 e)
 ·rw [q9 (by omega)] at e;obtain ⟨sl,F,g1,g2,g3⟩:=h.c e;refine ⟨sl,F,by rw [z0c (by omega)];exact g1,g2.next fun k hk=>hb.block k (g3 k hk).1,fun k hk=>⟨Nat.lt_of_lt_of_le (g3 k hk).1 hb.size,fun _=>?_⟩⟩;rw [z0p];intro e2;simp only [Value.pointer.injEq,Option.some.injEq,Addr.mk.injEq,and_true] at e2;have:=(g3 k hk).1;omega
 ·rw [q9 (by omega),q9 (by omega),z0c (by omega),z0c (by omega)];exact h.m
 ·rw [q9 (by omega),q9 (by omega),z0c (by omega),z0c (by omega)];exact h.e
 ·rw [q9 (by omega),q9 (by omega),z0c (by omega),z0c (by omega)];exact h.a
 ·rw [q9 (by omega),d12];exact j8 _ _
theorem LkS.store(h:LkS W rb p bo er P D v w')(hr:rb<W.heap.size)(d5:D 5=true)(d11:D 11=true)(d12:D 12=false){g:Nat}(hg:v 11= .pointer (some ⟨g,0,none⟩))(hp:p.size=12):LkS W rb p bo er P (mark D 12) v (w'.setCells g 0 p.toList):=by
 obtain ⟨g',g1,g2,g3⟩:=h.al d11;rw [hg] at g1;simp only [Value.pointer.injEq,Option.some.injEq,Addr.mk.injEq,and_true] at g1;subst g1;rw [d12] at g3;have hb:∀k,k≠g→(w'.setCells g 0 p.toList).heap[k]? =w'.heap[k]? :=fun k hk=>z0T hk _ _ _;have hsz:(w'.setCells g 0 p.toList).heap.size=w'.heap.size:=size_setCells _ _ _;have ho:=z0s.setCells (S:=fun k=>k=g) (b:=g) rfl p.toList 0 w';refine ⟨h.low.trans ho (fun k hk=> .inr (by omega)),fun e=>?_,fun e=>?_,?_,?_,?_,fun e=>⟨g,hg,g2,?_⟩⟩
 ·rw [q9 (by omega),d5] at e;cases e
 ·obtain ⟨sl,F,k1,k2,k3⟩:=h.c d5;refine ⟨sl,F,k1,k2.next fun k hk=>hb k fun e=>?_,fun k hk=>⟨by rw [hsz];exact (k3 k hk).1,fun _=>(k3 k hk).2 d11⟩⟩;subst e;exact (k3 _ hk).2 d11 hg
 ·rw [q9 (by omega),q9 (by omega)];exact h.m
 ·rw [q9 (by omega),q9 (by omega)];exact h.e
 ·rw [q9 (by omega),q9 (by omega)];exact h.a
 ·rw [z1z,z0I p.toList 0 _ _ g3 (by simp [hp]),z3T (by simp [hp])];simp
end
theorem y8f(p:z1h)(n:Nat)(hn:n≤p.st.length):toP p n=z5F 0 (p.st.take n):=by
 unfold toP z5F z1i;split
 ·rename_i h;subst h;simp
 ·rename_i h;rw [List.getLast?_take,if_neg h,List.getElem?_map];cases hg:p.st[n - 1]? with
  | none=>
   have:=List.getElem?_eq_none_iff.1 hg;omega
  | some x=>simp
theorem q2M{p:z1h}(h:p.Ok){n m:Nat}(hnm:n<m)(hm:m≤p.st.length):toP p n<toP p m:=by
 obtain ⟨-, -, -,h4,h5⟩:=z3n h.rd;have hm1:m - 1<p.st.length:=by omega
 have em:toP p m=(p.st[m - 1]).at_:=by
  unfold toP z1i;rw [if_neg (by omega),List.getElem?_map,List.getElem?_eq_getElem hm1];rfl
 rw [em];by_cases h0:n=0
 ·subst h0;have:=(h4 _ (List.getElem_mem hm1)).2.2.1;show toP p 0<_;unfold toP;rw [if_pos rfl];exact this
 ·have hn1:n - 1<p.st.length:=by omega
  have en:toP p n=(p.st[n - 1]).at_:=by
   unfold toP z1i;rw [if_neg h0,List.getElem?_map,List.getElem?_eq_getElem hn1];rfl
  rw [en];exact (List.pairwise_iff_getElem.1 h5 (n - 1) (m - 1) hn1 hm1 (by omega)).1
def z1d(p:z1h)(n:Nat):z1h:=⟨p.l.take (toP p n),p.st.take n⟩
theorem y1L{p:z1h}(h:p.Ok){n:Nat}(hn:n≤p.st.length):(z1d p n).Ok:=
 ⟨by unfold z1d;rw [y8f p n hn];exact y5M h.rd hn,by unfold z1d;have:=h.len;simp only [List.length_take];omega⟩
theorem z7G{p:z1h}(h:p.Ok){n:Nat}(hn:n≤p.st.length):(z1d p n).l.length=toP p n∧(z1d p n).st.length=n:=by
 unfold z1d;have:=z9M h n;simp only [List.length_take];omega
theorem y5I{p:z1h}(h:p.Ok):z1d p p.st.length=p:=by
 unfold z1d;rw [y2H h,List.take_length,List.take_length]
theorem y2Y{p:z1h}(h:p.Ok){n m:Nat}(hn:n≤m)(hm:m≤p.st.length):(z1d p n).l++(p.l.drop (toP p n)).take (toP p m - toP p n)=(z1d p m).l:=by
 unfold z1d;have h1:=y4M h hn hm;show p.l.take (toP p n)++_=p.l.take (toP p m)
 conv=>rhs;rw [show toP p m=toP p n+(toP p m - toP p n) by omega]
 rw [List.take_add]
structure z4y (x s:z1o):Prop where
 le:x.done.length≤s.done.length
 done:x.done=s.done.take x.done.length
 cur:∃p cl,s.parts[x.done.length]? =some (p,cl)∧x.cur.st.length≤p.st.length∧x.cur=z1d p x.cur.st.length∧(cl=true→x.cur.st.length<p.st.length)
def y1G(s:z1o):Prop:=∀D p,(s.done++ [s.cur])[D]? =some p→p.st≠ []→z5g (s.done.take D)=true→z3B (s.done.take D)<firstT p.st
theorem y8B(s:z1o)(D:Nat)(p:z1h)(cl:Bool)(h:s.parts[D]? =some (p,cl)):(s.done++ [s.cur])[D]? =some p∧(cl=true→D<s.done.length)∧(cl=false→D=s.done.length):=by
 unfold z1o.parts at h;by_cases hD:D<s.done.length
 ·rw [List.getElem?_append_left (by simpa using hD),List.getElem?_map,List.getElem?_eq_getElem hD] at h;simp only [Option.map_some,Option.some.injEq,Prod.mk.injEq] at h;rw [List.getElem?_append_left hD,List.getElem?_eq_getElem hD,h.1];exact ⟨rfl,fun _=>hD,fun e=>by rw [←h.2] at e;cases e⟩
 ·rw [List.getElem?_append_right (by simpa using hD),List.length_map] at h;rw [List.getElem?_append_right (by omega)];cases hk:D - s.done.length with
  | zero=>
   rw [hk] at h;simp only [List.getElem?_cons_zero,Option.some.injEq,Prod.mk.injEq] at h;rw [←h.1];exact ⟨rfl,(fun e=>by rw [←h.2] at e;cases e),fun _=>by omega⟩
  | succ k=>rw [hk] at h;simp at h
theorem z8N{s:z1o}(hs:s.Ok){D:Nat}{p:z1h}{cl:Bool}(h:s.parts[D]? =some (p,cl)):p.Ok:=by
 unfold z1o.parts at h;rcases List.mem_append.1 (List.mem_of_getElem? h) with h | h
 ·obtain ⟨y,hy,e⟩:=List.mem_map.1 h;simp only [Prod.mk.injEq] at e;rw [←e.1];exact (hs.done y hy).1
 ·simp only [List.mem_singleton,Prod.mk.injEq] at h;rw [h.1];exact hs.cur
theorem z4y.ok{x s:z1o}(h:z4y x s)(hs:s.Ok):x.Ok:=by
 refine ⟨fun p hp=>?_,?_⟩
 ·rw [h.done] at hp;exact hs.done p (List.mem_of_mem_take hp)
 ·obtain ⟨p,cl,h1,h2,h3, -⟩:=h.cur;rw [h3];exact y1L (z8N hs h1) h2
theorem y3A{s:z1o}(hs:s.Ok):z4y z7T s:=by
 refine ⟨Nat.zero_le _,by simp,?_⟩;cases hd:s.done with
 | nil=>exact ⟨s.cur,false,by unfold z1o.parts;rw [hd];rfl,Nat.zero_le _,by unfold z1d toP;simp,fun e=>by cases e⟩
 | cons p l=>
  refine ⟨p,true,by unfold z1o.parts;rw [hd];rfl,Nat.zero_le _,by unfold z1d toP;simp,fun _=>?_⟩;exact (hs.done p (by rw [hd];exact List.mem_cons_self)).2
theorem z8a{x s:z1o}(h:z4y x s):s.done.take x.done.length=x.done:=h.done.symm
structure q2l (x s:z1o) (id:Nat) (r:y3a) (st:List z0V):Prop where
 series:r.series=id
 p:r.p=z1U x
 more:x.cur.st.length<r.count
 count:r.count≤24
 bits0:0<r.bits.length
 bits1:r.bits.length≤3504
 sum:r.sum=z3b 0 x.cur.l
 rd:z5c (x.cur.l++r.bits)=some st
 len:st.length=r.count
 rise:z5g x.done=true→z3B x.done<firstT st
 grow:z4y (z6E x ⟨x.cur.l++r.bits,st⟩ r.closed) s
theorem y5o{x s:z1o}(hs:s.Ok)(h:z4y x s):∃p cl,z4n s (z1U x)=some (p,cl)∧s.parts[x.done.length]? =some (p,cl)∧x.cur.st.length≤p.st.length∧x.cur=z1d p x.cur.st.length∧(cl=true→x.cur.st.length<p.st.length):=by
 obtain ⟨p,cl,h1,h2,h3,h4⟩:=h.cur;have hp:=z8N hs h1;refine ⟨p,cl,?_,h1,h2,h3,h4⟩;unfold z4n z1U;simp only [h1];rw [if_neg];rintro (g | ⟨g1,g2⟩ | g)
 ·omega
 ·have:=h4 g1;omega
 ·apply g;have:=(z7G hp h2).1;rw [←h3] at this;exact this.symm
theorem y2b{x s:z1o}(hs:s.Ok)(hr:y1G s)(h:z4y x s)(id:Nat)(most:Int):
  (z5A s id (z1U x) most).err=0∧((z5A s id (z1U x) most).count=0∨∃st,q2l x s id (z5A s id (z1U x) most) st):=by
 obtain ⟨p,cl,hpt,hpp,hle,hfr,hcl⟩:=y5o hs h;have hp:=z8N hs hpp;unfold z5A;rw [hpt];simp only;split
 ·exact ⟨rfl, .inl rfl⟩
 ·rename_i hne;refine ⟨rfl, .inr ?_⟩;have hmore:=y1O hs hpt hne;have hmore':x.cur.st.length<p.st.length:=hmore;obtain ⟨n,hn⟩:∃n,n=x.cur.st.length:=⟨_,rfl⟩;have hE:z1U x=(x.done.length,toP p n,n):=by
   unfold z1U;have:=(z7G hp hle).1;rw [←hfr] at this;rw [this,hn]
  rw [hE];simp only;obtain ⟨M,hM⟩:∃M,M=y2s p (toP p n) n most:=⟨_,rfl⟩;have hMs:=z7F (z1i p.st) (toP p n) most (p.st.length - (n+1)) (n+1) (by rw [z7K];omega);rw [z7K] at hMs;rw [←hM];have hM1:n+1≤M∧M≤p.st.length:=by rw [hM];exact hMs
  clear hMs hM;have hlt:=q2M hp (n:=n) (m:=M) (by omega) hM1.2;have hpl:=z9M hp M;have hbits:=hp.bits;have hlen:((p.l.drop (toP p n)).take (toP p M - toP p n)).length=toP p M - toP p n:=by rw [List.length_take,List.length_drop];omega
  have hcl':x.cur.l=(z1d p n).l:=by rw [hn];exact congrArg z1h.l hfr
  have hjoin:x.cur.l++(p.l.drop (toP p n)).take (toP p M - toP p n)=(z1d p M).l:=by rw [hcl'];exact y2Y hp (by omega) hM1.2
  have hMok:=y1L hp hM1.2;have hMlen:=(z7G hp hM1.2).2;have hp24:=hp.len;obtain ⟨hat,hat1,hat2⟩:=y8B s _ _ _ hpp;refine ⟨(z1d p M).st,⟨rfl,hE.symm,by show _<M;omega,by show M≤24;omega,by show 0<List.length _;rw [hlen];omega,by show List.length _≤_;rw [hlen];omega,?_,?_,hMlen,fun hsome=>?_,?_⟩⟩
  ·show z3b 0 (p.l.take (toP p n))=z3b 0 x.cur.l;rw [hcl'];rfl
  ·show z5c (x.cur.l++_)=_;rw [hjoin];exact hMok.rd
  ·have h1:=hr x.done.length p hat (by intro e;rw [e] at hmore';simp at hmore') (by rw [z8a h];exact hsome);rw [z8a h] at h1;have hf:firstT (z1d p M).st=firstT p.st:=by
    unfold firstT z1d;cases hst:p.st with
    | nil=>simp
    | cons y l=>
     have:M=(M - 1)+1:=by omega
     rw [this,List.take_succ_cons];rfl
   rw [hf];exact h1
  ·show z4y (z6E x ⟨x.cur.l++_,_⟩ _) s;rw [hjoin];have e1:(⟨(z1d p M).l,(z1d p M).st⟩:z1h)=z1d p M:=rfl;rw [e1];show z4y (z6E x (z1d p M) (cl&&decide (M=p.st.length))) s;cases hc:(cl&&decide (M=p.st.length)) with
   | false=>
    show z4y ⟨x.done,z1d p M⟩ s;refine ⟨h.le,h.done,p,cl,hpp,by show (z1d p M).st.length≤_;omega,by show z1d p M=z1d p (z1d p M).st.length;rw [hMlen],fun hcl2=>?_⟩;show (z1d p M).st.length<_;rw [hMlen];rw [hcl2] at hc;simp only [Bool.true_and,decide_eq_false_iff_not] at hc;omega
   | true=>
    simp only [Bool.and_eq_true,decide_eq_true_eq] at hc;have hD:=hat1 hc.1;have hfull:z1d p M=p:=by rw [hc.2];exact y5I hp
    have hgd:s.done[x.done.length]? =some p:=by
     rw [List.getElem?_append_left hD] at hat;exact hat
    show z4y ⟨x.done++ [z1d p M],z2e⟩ s;rw [hfull];have hlen2:(x.done++ [p]).length=x.done.length+1:=by simp
    refine ⟨by show (x.done++ [p]).length≤_;omega,?_,?_⟩
    ·show x.done++ [p]=s.done.take (x.done++ [p]).length;rw [hlen2,List.take_add_one,z8a h,hgd];rfl
    ·show ∃q cl',s.parts[(x.done++ [p]).length]? =some (q,cl')∧z2e.st.length≤q.st.length∧z2e=z1d q z2e.st.length∧(cl'=true→z2e.st.length<q.st.length);rw [hlen2];have hpl:x.done.length+1<s.parts.length:=by rw [s.parts_len];omega
     refine ⟨s.parts[x.done.length+1].1,s.parts[x.done.length+1].2,by rw [List.getElem?_eq_getElem hpl],Nat.zero_le _,by unfold z1d toP;simp,fun e=>?_⟩;have hq:=List.getElem_mem hpl;unfold z1o.parts at hq;rcases List.mem_append.1 hq with hq | hq
     ·obtain ⟨y,hy,ey⟩:=List.mem_map.1 hq;have:=(hs.done y hy).2;have e2:s.parts[x.done.length+1]=(y,true):=ey.symm;rw [e2];exact this
     ·simp only [List.mem_singleton] at hq;have e2:s.parts[x.done.length+1]=(s.cur,false):=hq;rw [e2] at e;cases e
theorem y2a{x:z1o}(hx:x.Ok):z8c x (z1U x)=(z3b 0 x.cur.l,0):=by
 have hp:z4n x (z1U x)=some (x.cur,false):=by
  have h1:x.parts[x.done.length]? =some (x.cur,false):=by
   unfold z1o.parts;rw [List.getElem?_append_right (by simp),List.length_map,Nat.sub_self];rfl
  unfold z4n z1U;simp only [h1];rw [if_neg];rintro (g | ⟨g1, -⟩ | g)
  ·omega
  ·cases g1
  ·exact g (y2H hx.cur)
 unfold z8c;rw [hp];simp only [z1U,List.take_length]
theorem y0Z{k:z0m}{x s:z1o}{id:Nat}{r:y3a}{st:List z0V}(f:Fr)(h:q2l x s id r st)(hroom:z3q k id=0)(hsize:24≤k.size)(h1:f.series=r.series)(h2:z5E f=r.p)(h3:f.count=r.count):
  z0Z k x f r.bits=(0,⟨x.cur.l++r.bits,st⟩):=by
 have hb:y1n x f=x.cur.l:=by unfold y1n;rw [h2,h.p,if_pos rfl]
 have hc:f.cnt=x.cur.st.length:=by
  have:=h2.trans h.p;unfold z5E z1U at this;simp only [Prod.mk.injEq] at this;exact this.2.2
 unfold z0Z;rw [h1,h.series,if_neg (by omega),if_neg (by rw [h2,h.p];simp),hb,h.rd];simp only;have hf:y4I k x f st=false:=by
  unfold y4I;apply decide_eq_false;have:=h.len;have:=h.more;have:=h.count;rintro (g | g | g | ⟨g1,g2⟩)
  ·omega
  ·omega
  ·omega
  ·have:=h.rise g1;omega
 rw [hf];rfl
theorem y9G{b:z0m}{id:Nat}{x:z1K}(hs:(z0f b id).Ok)(hr:y1G (z0f b id))(hm:z5Y b id x.t=0)(cl:Bool):y1G (z6E (z0f b id) (z3e (z0f b id).cur x) cl):=by
 obtain ⟨s,hse⟩:∃s,s=z0f b id:=⟨_,rfl⟩;have htime:(z5T s).2=true→(z5T s).1<x.t:=fun h2=>by
  unfold z5Y at hm;rw [y4t hm,if_pos rfl,←hse] at hm;split at hm
  ·cases hm
  ·rename_i hn;have:¬x.t≤(z5T s).1:=fun h=>hn ⟨h2,h⟩;omega
 rw [←hse] at hs hr ⊢;clear hm hse;have key:∀D p,(s.done++ [z3e s.cur x])[D]? =some p→p.st≠ []→z5g (s.done.take D)=true→z3B (s.done.take D)<firstT p.st:=fun D p hp hne hsome=>by
  by_cases hD:D<s.done.length
  ·rw [List.getElem?_append_left hD] at hp;exact hr D p (by rw [List.getElem?_append_left hD];exact hp) hne hsome
  ·rw [List.getElem?_append_right (by omega)] at hp;have hD2:D=s.done.length:=by
    rcases Nat.lt_or_ge (D - s.done.length) 1 with h | h
    ·omega
    ·rw [List.getElem?_eq_none (by simpa using h)] at hp;cases hp
   subst hD2;rw [Nat.sub_self] at hp;simp only [List.getElem?_cons_zero,Option.some.injEq] at hp;subst hp;rw [List.take_length] at hsome ⊢;by_cases h0:s.cur.st= []
   ·have h1:z5T s=(z3B s.done,z5g s.done):=if_neg (by rw [h0];simp);have h2:=htime (by rw [h1];exact hsome);rw [h1] at h2;have:firstT (z3e s.cur x).st=x.t:=by unfold firstT z3e;rw [h0];rfl
    rw [this];exact h2
   ·have h1:=hr s.done.length s.cur (by rw [List.getElem?_append_right (by omega),Nat.sub_self];rfl) h0 (by rw [List.take_length];exact hsome);rw [List.take_length] at h1;have:firstT (z3e s.cur x).st=firstT s.cur.st:=by
     unfold firstT z3e;cases hst:s.cur.st with
     | nil=>exact absurd hst h0
     | cons y l=>rfl
    rw [this];exact h1
 cases cl with
 | false=>exact key
 | true=>
  intro D p hp hne hsome;have hp':(s.done++ [z3e s.cur x]++ [z2e])[D]? =some p:=hp;have hsome':z5g ((s.done++ [z3e s.cur x]).take D)=true:=hsome;show z3B ((s.done++ [z3e s.cur x]).take D)<firstT p.st;by_cases hD:D<(s.done++ [z3e s.cur x]).length
  ·rw [List.getElem?_append_left hD] at hp';have hDs:D≤s.done.length:=by simp at hD;omega
   rw [List.take_append_of_le_length hDs] at hsome' ⊢;exact key D p hp' hne hsome'
  ·rw [List.getElem?_append_right (by omega)] at hp';have:p=z2e:=by
    rcases Nat.lt_or_ge (D - (s.done++ [z3e s.cur x]).length) 1 with h | h
    ·have e0:D - (s.done++ [z3e s.cur x]).length=0:=by omega
     rw [e0] at hp';simp only [List.getElem?_cons_zero,Option.some.injEq] at hp';exact hp'.symm
    ·rw [List.getElem?_eq_none (by simpa using h)] at hp';cases hp'
   rw [this] at hne;exact absurd rfl hne
theorem y5E:y1G z7T:=fun D p hp hne _=>by
 have:p=z2e:=by
  cases D with
  | zero=>simpa using hp.symm
  | succ D=>simp at hp
 rw [this] at hne;exact absurd rfl hne
theorem y9j{b:z0m}{k ep id:Nat}(hk:k<256)(he:ep<4294967296)(hi:id<4294967296)(hs:(z0f b id).Ok)(hn:(z0f b id).done.length≤1000000000):(z5i b k ep id).Ok∧(z5i b k ep id).b= []:=by
 have h1:=hs.cur.bits;have h2:=hs.cur.len;refine ⟨⟨hk,he,hi,?_,?_,?_,(by decide:0<4294967296),?_,(by decide:(-9223372036854775808:Int)≤0),(by decide:(0:Int)≤9223372036854775807)⟩,rfl⟩
 ·show (z0f b id).done.length<_;omega
 ·show (z0f b id).cur.l.length<_;omega
 ·show (z0f b id).cur.st.length<_;omega
 ·show (z8c (z0f b id) (z1U (z0f b id))).1<_;rw [y2a hs];exact Nat.lt_trans (y0K _ _ (by decide)) (by decide)
structure KIn (w:World) (kb rb bb tb mb sb B:Nat) (E:List (Int×z0C)) (S:Nat→Prop) (F:List Nat) (b:z0m) (ep:Nat) (s:FsS):Prop where
 k:z2M w kb rb bb tb
 r:z0L w rb bb ep
 bk:z0r w bb mb E b B S
 t:z3w w tb sb z2o
 fs:z1p w sb s F
 ok:s.Ok
 db:z1m w
 kr:kb≠rb
 tr:tb≠rb
 kF:kb∉F
 rF:rb∉F
 tF:tb∉F
 kS:¬S kb
 rS:¬S rb
 tS:¬S tb
 sF:∀x∈F,¬S x
 dr:0≠rb
 dS:¬S 0
 dF:0∉F
section
variable {w w':World} {kb rb bb tb mb sb B:Nat} {E E':List (Int×z0C)} {S S':Nat→Prop} {F F':List Nat} {b b':z0m} {ep ep':Nat} {s s':FsS}
def KU(rb:Nat)(S:Nat→Prop)(F:List Nat)(x:Nat):Prop:=x=rb∨S x∨x∈F
theorem z1m.lt(h:z1m w):0<w.heap.size:=by
 have h1:=h 0 (by decide);by_cases hx:0<w.heap.size
 ·exact hx
 ·simp [World.cell?,Array.getElem?_eq_none (Nat.le_of_not_lt hx)] at h1
theorem z1m.only{U:Nat→Prop}(h:z1m w)(ho:z0s U w w')(hU:¬U 0):z1m w':=fun j hj=>by
 have h1:=h j hj;have h2:=ho.block _ h.lt hU;unfold World.cell? at h1 ⊢;simp only at h1 ⊢;rw [h2];exact h1
theorem KIn.upd(h:KIn w kb rb bb tb mb sb B E S F b ep s)(ho:z0s (KU rb S F) w w')(hr:z0L w' rb bb ep')(hb:z0r w' bb mb E' b' B S')(hf:z1p w' sb s' F')(ok:s'.Ok)(hS:∀x,S' x→S x∨w.heap.size≤x)(hF:∀x∈F',x∈F∨w.heap.size≤x)(hd:∀x∈F',¬S' x):KIn w' kb rb bb tb mb sb B E' S' F' b' ep' s':=by
 have hkl:=h.k.lt;have hrl:=h.r.lt;have htl:=h.t.lt;have hdl:=h.db.lt;refine ⟨(ho.block kb hkl ?_).trans h.k,hr,hb,(ho.block tb htl ?_).trans h.t,hf,ok,h.db.only ho ?_,h.kr,h.tr,fun hm=>?_,fun hm=>?_,fun hm=>?_,fun hm=>?_,fun hm=>?_,fun hm=>?_,hd,h.dr,fun hm=>?_,fun hm=>?_⟩
 ·rintro (e | e | e)
  ·exact h.kr e
  ·exact h.kS e
  ·exact h.kF e
 ·rintro (e | e | e)
  ·exact h.tr e
  ·exact h.tS e
  ·exact h.tF e
 ·rintro (e | e | e)
  ·exact h.dr e
  ·exact h.dS e
  ·exact h.dF e
 ·rcases hF _ hm with e | e
  ·exact h.kF e
  ·omega
 ·rcases hF _ hm with e | e
  ·exact h.rF e
  ·omega
 ·rcases hF _ hm with e | e
  ·exact h.tF e
  ·omega
 ·rcases hS _ hm with e | e
  ·exact h.kS e
  ·omega
 ·rcases hS _ hm with e | e
  ·exact h.rS e
  ·omega
 ·rcases hS _ hm with e | e
  ·exact h.tS e
  ·omega
 ·rcases hS _ hm with e | e
  ·exact h.dS e
  ·omega
 ·rcases hF _ hm with e | e
  ·exact h.dF e
  ·omega
theorem KIn.lt(h:KIn w kb rb bb tb mb sb B E S F b ep s){x:Nat}(hx:KU rb S F x):x<w.heap.size:=by
 rcases hx with e | e | e
 ·rw [e];exact h.r.lt
 ·exact (h.bk.lo x e).2
 ·exact h.fs.lt x e
theorem z0F.ge{B:Nat}{w:World}{v:Value}{xs:List (Value×List UInt8)}(h:z0F B w v xs){j:Nat}(hj:v.ownBlock=some j∨∃x∈xs,x.1.ownBlock=some j):B≤j:=by
 rcases hj with e | ⟨x,hx,e⟩
 ·exact (h.row.lt j e).1
 ·exact ((h.ent x hx).lt j e).1
theorem KIn.low(h:KIn w kb rb bb tb mb sb B E S F b ep s)(hb:Below w.heap.size w w'):KIn w' kb rb bb tb mb sb B E S F b ep s:=
 h.upd (z0s.of_below hb) (h.r.low hb) (h.bk.low hb) (h.fs.low hb) h.ok (fun _ h=> .inl h) (fun _ h=> .inl h) h.sF
end
def q1a(w:World)(kb bb sb:Nat)(b:z0m)(ep:Nat)(s:FsS)(U:Nat→Prop):Prop:=∃rb tb mb B E S F,KIn w kb rb bb tb mb sb B E S F b ep s∧U=KU rb S F
def tkS(b:z0m)(ep:Nat)(s:FsS)(f:Fr)(l:List Bool):Int×List Bs×z0m×Nat×FsS:=
 if (z3j b ep f l).1≠0 then (((z3j b ep f l).1:Nat), [],b,(z3j b ep f l).2.2,s)
 else if (z3j b ep f l).2.1≠0 then (0, [z6K (z5i b (z3j b ep f l).2.1 f.epoch f.series)],b,(z3j b ep f l).2.2,s)
 else if (wrS s (z3c f l)).1≠0 then ((wrS s (z3c f l)).1, [],b,(z3j b ep f l).2.2,(wrS s (z3c f l)).2)
 else (0, [z6K (z5i (takeB b f l) 4 (z3j b ep f l).2.2 f.series)],takeB b f l,(z3j b ep f l).2.2,(wrS s (z3c f l)).2)
def q2T(kb bb sb:Nat)(R:Int×List Bs×z0m×Nat×FsS)(U:Nat→Prop)(w:World)(e:Ending)(w':World):Prop:=
 ∃U',q1a w' kb bb sb R.2.2.1 R.2.2.2.1 R.2.2.2.2 U'∧z0s U w w'∧(∀x,U' x→U x∨w.heap.size≤x)∧
  ((R.1≠0∧e= .returned (.tuple #[.slice none 0 0, .int .u16 R.1]))∨(R.1=0∧∃a m cc xs,e= .returned (.tuple #[.slice a m cc, .int .u16 0])∧m=xs.length∧z0F w.heap.size w' (.slice a m cc) xs∧xs.map Prod.snd=R.2.1∧∀j,((Value.slice a m cc).ownBlock=some j∨∃x∈xs,x.1.ownBlock=some j)→¬U' j))
def q3p(b:z0m)(f:Fr)(sl:Value)(rb bb N:Nat)(R:Nat×Nat×Nat)(p:Array Value)(B:Bool)(x:Int)(P:Value→World→Prop):Prop:=
 (R.1≠0∧p=z1O∧B=false∧x=(R.1:Nat)∧P=fun s w'=>z0L w' rb bb R.2.2∧s= .slice none 0 0)∨
 (R.1=0∧R.2.1≠0∧p=z1O∧B=false∧x=0∧P=fun s w'=>z0L w' rb bb R.2.2∧∃g,s= .slice (some ⟨g,0,none⟩) 1 1∧w'.heap[g]? =some (.cells (z0a (z5i b R.2.1 f.epoch f.series) (.slice none 0 0)) 50 (0,0))∧N≤g)∨
 (R.1=0∧R.2.1=0∧p=z2H f sl∧B=true∧x=0∧P=fun s w'=>z0L w' rb bb R.2.2∧s= .slice none 0 0)
theorem y9g(b:z0m)(f:Fr)(a:Option Addr)(n c rb bb:Nat)(N:Nat)(R:Nat×Nat×Nat):∃p B x P,q3p b f (.slice a n c) rb bb N R p B x P∧p.size=12∧p.all (·.oneCell')=true∧
  ∀w e w',N≤w.heap.size→rb<w.heap.size→y0C rb bb b f (.slice a n c) R w e w'→∃(sl:Value) (G:Nat→Prop),e= .returned (.tuple #[.agg p, .bool B,sl, .int .u16 x])∧z0s (fun k=>k=rb) w w'∧Kept G w' (P sl)∧∀k,G k→k=rb∨(w.heap.size≤k∧k<w'.heap.size):=by
 have hk:∀{w':World} {Q:Prop},z0L w' rb bb R.2.2→Q→Kept (fun k=>k=rb) w' fun w''=>z0L w'' rb bb R.2.2∧Q:=fun hr hq w'' hw=>⟨(hw rb rfl).trans hr,hq⟩;by_cases h1:R.1=0
 ·by_cases h2:R.2.1=0
  ·refine ⟨_,_,_,_, .inr (.inr ⟨h1,h2,rfl,rfl,rfl,rfl⟩),rfl,by unfold z2H;simp [Value.oneCell'],?_⟩;rintro w e w' hN hrl ⟨ho,hr,⟨g1, -⟩ | ⟨-,g2, -⟩ | ⟨-, -,rfl⟩⟩
   ·exact absurd h1 g1
   ·exact absurd h2 g2
   ·exact ⟨_,_,rfl,ho,hk hr rfl,fun k hk=> .inl hk⟩
  ·refine ⟨_,_,_,_, .inr (.inl ⟨h1,h2,rfl,rfl,rfl,rfl⟩),rfl,by simp [Value.oneCell'],?_⟩;rintro w e w' hN hrl ⟨ho,hr,⟨g1, -⟩ | ⟨-,g2,g,rfl,hg,hge⟩ | ⟨-,g2, -⟩⟩
   ·exact absurd h1 g1
   ·refine ⟨_,fun k=>k=rb∨k=g,rfl,ho,fun w'' hw=>⟨(hw rb (.inl rfl)).trans hr,g,rfl,(hw g (.inr rfl)).trans hg,by omega⟩,fun k hk=>?_⟩;rcases hk with rfl | rfl
    ·exact .inl rfl
    ·exact .inr ⟨hge,(Array.getElem?_eq_some_iff.1 hg).1⟩
   ·exact absurd g2 h2
 ·refine ⟨_,_,_,_, .inl ⟨h1,rfl,rfl,rfl,rfl⟩,rfl,by simp [Value.oneCell'],?_⟩;rintro w e w' hN hrl ⟨ho,hr,⟨-,rfl⟩ | ⟨g1, -⟩ | ⟨g1, -⟩⟩
  ·exact ⟨_,_,rfl,ho,hk hr rfl,fun k hk=> .inl hk⟩
  ·exact absurd g1 h1
  ·exact absurd g1 h1
end Go.Proofs.YtfcnapnopdomhaaGreatDoor

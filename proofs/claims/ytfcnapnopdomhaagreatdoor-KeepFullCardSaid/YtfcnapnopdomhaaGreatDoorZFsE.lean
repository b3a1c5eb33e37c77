/-
  bytes.Clone; the walk of a file system's Append.
-/
import Derived.Test.YtfcnapnopdomhaaGreatDoorZFsAFsBFsCFsD
namespace Go.Proofs.YtfcnapnopdomhaaGreatDoor
set_option linter.unusedSimpArgs false
set_option linter.unusedVariables false
set_option maxRecDepth 100000
set_option maxHeartbeats 12800000
open Go.RowKit Go.Maps
theorem y7y:(Tryz.prog.info? 85).map (fun i=>(i.zero,i.size,i.bytes))=some (some (.agg #[.string ⟨#[]⟩, .slice none 0 0]),2,40):=by kernel_rfl
def z5t(w w':World)(a:Option Addr)(n c:Nat)(b:Bs):Prop:=w'.ownsRow w.heap.size 5 1 (.slice a n c) n (z0b b)∧n=b.length∧Below w.heap.size w w'
theorem z5t.rd{w w':World}{a:Option Addr}{n c:Nat}{b:Bs}(h:z5t w w' a n c b):RdB w' (.slice a n c) b:=by
 have:=z0d h.1;unfold RdB;rw [←h.2.1];exact this
theorem z5t.ge{w w':World}{a:Option Addr}{n c:Nat}{b:Bs}(h:z5t w w' a n c b):∀k,(Value.slice a n c).ownBlock=some k→w.heap.size≤k∧k<w'.heap.size:=fun k hk=>h.1.lt k hk
theorem z5t.cap{w w':World}{a:Option Addr}{n c:Nat}{b:Bs}(h:z5t w w' a n c b):n≤c∧c≤9223372036854775807:=z1C h.1
theorem z5t.ent{w w':World}{a:Option Addr}{n c:Nat}{b:Bs}(h:z5t w w' a n c b){M:List Nat}(hM:∀k∈M,k<w.heap.size):z4u w' M ⟨b,a,n,c⟩:=
 ⟨h.rd,h.2.1,h.cap.1,h.cap.2,fun k hk=>⟨fun hm=>by have:=hM k hm;have:=(h.ge k hk).1;omega,(h.ge k hk).2⟩⟩
theorem y3S(a:Option Addr)(n c:Nat)(b:Bs)(w:World)(hx:RdB w (.slice a n c) b)(hn:n=b.length)(hl:n≤1099511627776):
  Calls Tryz.prog 70 #[.slice a n c] w fun e w'=>∃a' c',e= .returned (.slice a' n c')∧z5t w w' a' n c' b:=by
 rcases hx.2 with ⟨h1,h2⟩ | ⟨ad,cc,h1,h2⟩
 ·simp only [Value.slice.injEq] at h1;obtain ⟨rfl,rfl,rfl⟩:=h1;have hb:b= []:=List.eq_nil_of_length_eq_zero h2;subst hb;have hq:=fun (w:World)=>Lib.run_eql_slice_nil (P:=Tryz.prog) w 46 5 none 0 0 0 0 Tryz.underlying46;clear hx h2 hn hl;go_enter Tryz.func70,Tryz.ntmps70;go_wp2;go_ret;exact ⟨_,_,rfl,World.ownsRow_nil _ _ _ _,rfl,Below.refl _ _⟩
 ·simp only [Value.slice.injEq] at h1;obtain ⟨rfl, -,rfl⟩:=h1;have hq:=fun (w:World)=>Lib.run_eql_slice_nil (P:=Tryz.prog) w 46 5 (some ad) n c 0 0 Tryz.underlying46;obtain ⟨i0,hi,hz0,hz1,hz2⟩:=info_parts z8l;have hx':=z7 (hx.low (q5 w (.cells #[] 5)));have hx2:=z7 (show Rd (w.alloc (.cells #[] 5)) (.slice (some ad) n c) 1 n (z0b b) by have:=hx'.out;unfold RdB at this;rw [←hn] at this;exact this);have HN:=z7 hn;clear hx h2 hx' hn;go_enter Tryz.func70,Tryz.ntmps70;go_wp2_with (at_builtin;refine z1J rfl _ _ 46 rfl w.heap.size 5 i0 (.int .u8 0) 1 1 Tryz.underlying46 hi hz0 hz1 hz2 rfl (by decide) _ _ _ rfl (World.ownsRow_made w #[] 0 (Nat.le_refl _) (by decide) rfl) _ n (z0b b) rfl hx2.out (z3Y b) (by unfold maxLen;omega) (by omega) (by simp) ?_;intro v' w1 hown hgrow hnil hblk;obtain ⟨a',c',rfl⟩:=(z0d hown).head;have HO:=z7 hown;have HG:=z7 (show Below w.heap.size w w1 from ((Below.refl _ _).alloc (Nat.le_refl _) _).grown hgrow (by simp) (by intro k hk;simp [Act.eval,Value.ownBlock] at hk;omega));clear hown hgrow hnil hblk);go_ret;have h1:=HO.out;simp only [Nat.zero_add,List.nil_append] at h1 ⊢;exact ⟨a',c',rfl,h1,HN.out,HG.out⟩
structure ApS (w1:World) (wv:Value) (k b:Bs) (n:Nat) (L:List (Bs×Ent)) (D:Nat→Bool) (v:Nat→Value) (w':World):Prop where
 g:w1.grownBy w' wv.ownBlock
 q:D 10=false→w'.ownsRow 0 85 2 wv L.length (z1u L)
 c:D 7=true→∃a c,v 7= .slice a n c∧w'.ownsRow w1.heap.size 5 1 (.slice a n c) n (z0b b)
 m:D 8=true→D 7=true∧v 8= .agg #[.string ⟨k.toArray⟩,v 7]
 s:D 9=true→D 8=true∧∃g,v 9= .slice (some ⟨g,0,none⟩) 1 1∧Rd w' (.slice (some ⟨g,0,none⟩) 1 1) 2 1 [.string ⟨k.toArray⟩,v 7]∧w1.heap.size≤g
 a:D 10=true→D 9=true∧∃aa ac,v 10= .slice aa (L.length+1) ac∧w'.ownsRow 0 85 2 (.slice aa (L.length+1) ac) (L.length+1) (z1u L++ [.string ⟨k.toArray⟩,v 7])∧((Value.slice aa (L.length+1) ac).ownBlock=wv.ownBlock∨∃g,(Value.slice aa (L.length+1) ac).ownBlock=some g∧w1.heap.size≤g)
theorem z2D.rowTo{w2 w':World}{sb mb:Nat}{s s':FsS}{wv wv':Value}{lp:Option Nat}{E L L':List (Bs×Ent)}(h:z2D w2 sb s mb wv lp E L)(hg:w2.grownBy w' wv.ownBlock)
  (hrow:w'.ownsRow 0 85 2 wv' L'.length (z1u L')) (hblk:∀k,wv'.ownBlock=some k→wv.ownBlock=some k∨w2.heap.size≤k)
  (hr:s'.room=s.room) (hh:s'.halted=s.halted) (hl:s'.left=s.left) (hf:s'.files=s.files) (hw:s'.waits=L'.map ct)
  (he:∀p∈L',p∈L∨(z4u w' (z1l sb mb wv lp) p.2∧∀k,p.2.v.ownBlock=some k→w2.heap.size≤k∧wv'.ownBlock≠some k)):
  z2v w2 sb (z8F (z1l sb mb wv lp) (E++L)) s' (w'.setCell ⟨sb,2,none⟩ wv'):=by
 obtain ⟨n1,n2,n3⟩:=h.ne;have hlt:=h.mut_lt;have hsb:sb<w2.heap.size:=hlt sb (by simp [z1l]);have hmb:mb<w2.heap.size:=hlt mb (by simp [z1l]);have hb:∀k,k<w2.heap.size→k≠sb→wv.ownBlock≠some k→(w'.setCell ⟨sb,2,none⟩ wv').heap[k]? =w2.heap[k]? :=fun k hk hn hne=>by
  rw [q7 hn];exact hg.block k hk fun e=>hne e.symm
 have hsz:w2.heap.size≤(w'.setCell ⟨sb,2,none⟩ wv').heap.size:=by
  have:=hg.size;simp [World.setCell];exact this
 have hrsb:∀k,wv'.ownBlock=some k→k≠sb:=fun k hk e=>by
  rcases hblk k hk with h1 | h1
  ·exact (n2 k h1).1 e
  ·omega
 have hmem:∀k,k∈z1l sb mb wv' lp→k∈z1l sb mb wv lp∨w2.heap.size≤k:=fun k hk=>by
  simp only [z1l,List.mem_cons,List.mem_append,Option.mem_toList] at hk ⊢;rcases hk with h1 | h1 | h1 | h1
  ·exact .inl (.inl h1)
  ·exact .inl (.inr (.inl h1))
  ·rcases hblk k h1 with h2 | h2
   ·exact .inl (.inr (.inr (.inl h2)))
   ·exact .inr h2
  ·exact .inl (.inr (.inr (.inr h1)))
 have hsame:∀k,(w'.setCell ⟨sb,2,none⟩ wv').heap[k]? =w'.heap[k]? ∨k=sb:=fun k=>by
  by_cases e:k=sb
  ·exact .inr e
  ·exact .inl (q7 e)
 refine h.to (mb':=mb) (wv':=wv') (lp':=lp) (E':=E) (L':=L') ⟨?_,?_,?_,?_,hf.trans h.files,hw,fun p hp=>?_,?_⟩ hg.os hg.tape hg.output hsz (fun k hk hn=>hb k hk (fun e=>hn (by simp [z1l,e])) fun e=>hn (by simp [z1l,e])) hmem fun p hp k hk=>?_
 ·have h1:w'.heap[sb]? =_:=(hg.block sb hsb fun e=>(n2 sb e.symm).1 rfl).trans h.blk;have h2:=j9 h1 2 wv';rw [hr,hh];simpa using h2
 ·exact h.map.same (hb mb hmb n1 fun e=>(n2 mb e).2 rfl)
 ·exact j7 hrow fun b hb'=>q7 (hrsb b hb')
 ·rw [hl];exact h.left.same fun b hb'=>hb b (hlt b (by simp [z1l,hb'])) (n3 b hb').1 (n3 b hb').2.2
 ·rcases List.mem_append.1 hp with hp | hp
  ·have h1:=h.ent p (List.mem_append_left _ hp);have h2:=h1.same (w':=w'.setCell ⟨sb,2,none⟩ wv') (fun k hk=>hb k (h1.far k hk).2 (fun e=>(h1.far k hk).1 (by simp [z1l,e])) fun e=>(h1.far k hk).1 (by simp [z1l,e])) hsz;exact ⟨h2.rd,h2.n,h2.le,h2.cap,fun k hk=>⟨fun hm=>(hmem k hm).elim (h1.far k hk).1 fun h3=>by have:=(h1.far k hk).2;omega,(h2.far k hk).2⟩⟩
  ·rcases he p hp with hp' | ⟨h1,h2⟩
   ·have h1:=h.ent p (List.mem_append_right _ hp');have h2:=h1.same (w':=w'.setCell ⟨sb,2,none⟩ wv') (fun k hk=>hb k (h1.far k hk).2 (fun e=>(h1.far k hk).1 (by simp [z1l,e])) fun e=>(h1.far k hk).1 (by simp [z1l,e])) hsz;exact ⟨h2.rd,h2.n,h2.le,h2.cap,fun k hk=>⟨fun hm=>(hmem k hm).elim (h1.far k hk).1 fun h3=>by have:=(h1.far k hk).2;omega,(h2.far k hk).2⟩⟩
   ·have h3:=h1.same (w':=w'.setCell ⟨sb,2,none⟩ wv') (fun k hk=>q7 fun e=>by have:=(h2 k hk).1;omega) (by simp [World.setCell]);refine ⟨h3.rd,h3.n,h3.le,h3.cap,fun k hk=>⟨fun hm=>?_,(h3.far k hk).2⟩⟩;have h4:=(h2 k hk).1;simp only [z1l,List.mem_cons,List.mem_append,Option.mem_toList] at hm;rcases hm with h5 | h5 | h5 | h5
    ·omega
    ·omega
    ·exact (h2 k hk).2 h5
    ·have:=hlt k (by simp [z1l,h5]);omega
 ·unfold z1l;simp only [List.nodup_cons,List.mem_cons,List.mem_append,Option.mem_toList,not_or,List.nodup_append];refine ⟨⟨Ne.symm n1,fun e=>hrsb sb e rfl,fun e=>(n3 sb e).1 rfl⟩,⟨fun e=>?_,fun e=>(n3 mb e).2.1 rfl⟩,?_,?_,?_⟩
  ·rcases hblk mb e with h1 | h1
   ·exact (n2 mb h1).2 rfl
   ·omega
  ·cases wv'.ownBlock<;>simp
  ·cases lp<;>simp
  ·intro x hx y hy e;subst e;rcases hblk x hx with h1 | h1
   ·exact (n3 x hy).2.2 h1
   ·have:=hlt x (by simp [z1l,hy]);omega
 ·rcases List.mem_append.1 hp with hp | hp
  ·exact .inl ⟨p,List.mem_append_left _ hp,hk⟩
  ·rcases he p hp with h1 | ⟨_,h1⟩
   ·exact .inl ⟨p,List.mem_append_right _ h1,hk⟩
   ·exact .inr (h1 k hk).1
theorem y5Y{w:World}{base base' e e' size size' n n' k:Nat}{v v':Value}{xs xs':List Value}(h:w.ownsRow base e size v n xs)(h':w.ownsRow base' e' size' v' n' xs')(he:e≠e')(hk:v.ownBlock=some k):v'.ownBlock≠some k:=by
 intro hk';rcases h.2 with ⟨rfl,_⟩ | ⟨g,c,cur,rfl,_,h1,_⟩
 ·cases hk
 ·rcases h'.2 with ⟨rfl,_⟩ | ⟨g',c',cur',rfl,_,h1',_⟩
  ·cases hk'
  ·simp only [Value.ownBlock,Option.some.injEq] at hk hk';subst hk;subst hk';rw [h1] at h1';simp only [Option.some.injEq,Obj.cells.injEq] at h1';exact he h1'.2.1
theorem y8T{w2 w':World}{sb mb:Nat}{s s':FsS}{wv:Value}{lp:Option Nat}{E L:List (Bs×Ent)}{k b:Bs}{aa a':Option Addr}{ac n c':Nat}(h:z2D w2 sb s mb wv lp E L)(hg:w2.grownBy w' wv.ownBlock)
  (hrow:w'.ownsRow 0 85 2 (.slice aa (L.length+1) ac) (L.length+1) (z1u L++ [.string ⟨k.toArray⟩, .slice a' n c'])) (hblk:(Value.slice aa (L.length+1) ac).ownBlock=wv.ownBlock∨∃g,(Value.slice aa (L.length+1) ac).ownBlock=some g∧w2.heap.size≤g)
  (hfr:w'.ownsRow w2.heap.size 5 1 (.slice a' n c') n (z0b b)) (hn:n=b.length)
  (hr:s'.room=s.room) (hh:s'.halted=s.halted) (hl:s'.left=s.left) (hf:s'.files=s.files) (hw:s'.waits=s.waits++ [(k,b)]):z2v w2 sb (z8F (z1l sb mb wv lp) (E++L)) s' (w'.setCell ⟨sb,2,none⟩ (.slice aa (L.length+1) ac)):=by
 have e1:(L++ [(k,(⟨b,a',n,c'⟩:Ent))]).length=L.length+1:=by simp
 have e2:z1u (L++ [(k,(⟨b,a',n,c'⟩:Ent))])=z1u L++ [.string ⟨k.toArray⟩, .slice a' n c']:=by rw [y2r];rfl
 refine h.rowTo (L':=L++ [(k,⟨b,a',n,c'⟩)]) hg (by rw [e1,e2];exact hrow) (fun k hk=>?_) hr hh hl hf (by rw [hw,h.waits];simp [ct]) fun p hp=>?_
 ·rcases hblk with h1 | ⟨g,h1,h2⟩
  ·exact .inl (by rw [←h1];exact hk)
  ·rw [h1] at hk;simp only [Option.some.injEq] at hk;subst hk;exact .inr h2
 ·rcases List.mem_append.1 hp with hp | hp
  ·exact .inl hp
  ·simp only [List.mem_singleton] at hp;subst hp;refine .inr ⟨⟨?_,hn,(z1C hfr).1,(z1C hfr).2,fun k hk=>⟨fun hm=>?_,(hfr.lt k hk).2⟩⟩,fun k hk=>⟨(hfr.lt k hk).1,y5Y hfr hrow (by decide) hk⟩⟩
   ·have:=z0d hfr;unfold RdB;rw [←hn];exact this
   ·have h1:=h.mut_lt k hm;have h2:=(hfr.lt k hk).1;omega
theorem z5O{a b c:World}{row:Option Nat}(h:a.grownBy b row)(k:Below b.heap.size b c):a.grownBy c row:=
 ⟨k.os.trans h.os,k.tape.trans h.tape,k.output.trans h.output,Nat.le_trans h.size k.size,fun i hi hn=>(k.block i (Nat.lt_of_lt_of_le hi h.size)).trans (h.block i hi hn)⟩
theorem ApS.start{w2:World}{wv:Value}{k b:Bs}{n:Nat}{L:List (Bs×Ent)}(h:w2.ownsRow 0 85 2 wv L.length (z1u L)):ApS w2 wv k b n L (fun _=>false) (fun _=>undef) w2.drew:=
 ⟨⟨rfl,rfl,rfl,Nat.le_refl _,fun _ _ _=>rfl⟩,fun _=>h,(fun h=>by cases h),(fun h=>by cases h),(fun h=>by cases h),(fun h=>by cases h)⟩
theorem ApS.clone{w2 w' w'':World}{wv:Value}{k b:Bs}{n c':Nat}{a':Option Addr}{L:List (Bs×Ent)}{D:Nat→Bool}{v:Nat→Value}(h:ApS w2 wv k b n L D v w')(d8:D 8=false)(hf:z5t w' w'' a' n c' b):ApS w2 wv k b n L (mark D 7) (z2P v 7 (.slice a' n c')) w'':=by
 have d9:D 9=false:=by cases e:D 9 with
  | false=>rfl
  | true=>have:=(h.s e).1;rw [d8] at this;cases this
 have d10:D 10=false:=by cases e:D 10 with
  | false=>rfl
  | true=>have:=(h.a e).1;rw [d9] at this;cases this
 refine ⟨z5O h.g hf.2.2,fun _=>ownsRow_below (h.q d10) hf.2.2 (Nat.le_refl _),fun _=>⟨a',c',rfl,z0i hf.1 h.g.size⟩,fun e=>?_,fun e=>?_,fun e=>?_⟩
 ·have:D 8=true:=e;rw [d8] at this;cases this
 ·have:D 9=true:=e;rw [d9] at this;cases this
 ·have:D 10=true:=e;rw [d10] at this;cases this
theorem ApS.built{w2 w':World}{wv:Value}{k b:Bs}{n c':Nat}{a':Option Addr}{L:List (Bs×Ent)}{D:Nat→Bool}{v:Nat→Value}(h:ApS w2 wv k b n L D v w')(d7:D 7=true)(d9:D 9=false)(h7:v 7= .slice a' n c'):ApS w2 wv k b n L (mark D 8) (z2P v 8 (.agg #[.string ⟨k.toArray⟩, .slice a' n c'])) w':=by
 have d10:D 10=false:=by cases e:D 10 with
  | false=>rfl
  | true=>have:=(h.a e).1;rw [d9] at this;cases this
 refine ⟨h.g,fun _=>h.q d10,fun _=>h.c d7,fun _=>⟨d7,?_⟩,fun e=>?_,fun e=>?_⟩
 ·show Value.agg #[.string ⟨k.toArray⟩, .slice a' n c']= .agg #[.string ⟨k.toArray⟩,v 7];rw [h7]
 ·have:D 9=true:=e;rw [d9] at this;cases this
 ·have:D 10=true:=e;rw [d10] at this;cases this
theorem ApS.made{w2 w':World}{wv:Value}{k b:Bs}{n c':Nat}{a':Option Addr}{L:List (Bs×Ent)}{D:Nat→Bool}{v:Nat→Value}(h:ApS w2 wv k b n L D v w')(d8:D 8=true)(d10:D 10=false)(h7:v 7= .slice a' n c'):
  ApS w2 wv k b n L (mark D 9) (z2P v 9 (.slice (some ⟨w'.heap.size,0,none⟩) 1 1)) (w'.alloc (.cells #[.string ⟨k.toArray⟩, .slice a' n c'] 85)):=by
 have hb:=q5 w' (.cells #[.string ⟨k.toArray⟩, .slice a' n c'] 85);refine ⟨z5O h.g hb,fun _=>ownsRow_below (h.q d10) hb (Nat.le_refl _),fun e=>?_,fun e=>h.m e,fun _=>⟨d8,w'.heap.size,rfl,?_,h.g.size⟩,fun e=>?_⟩
 ·obtain ⟨a,c,h1,h2⟩:=h.c e;exact ⟨a,c,h1,ownsRow_below h2 hb (Nat.le_refl _)⟩
 ·show Rd _ _ 2 1 [.string ⟨k.toArray⟩,v 7];rw [h7];exact z3C w' #[.string ⟨k.toArray⟩, .slice a' n c'] 85 1 2 (by decide) rfl
 ·have:D 10=true:=e;rw [d10] at this;cases this
theorem ApS.appended{w2 w' w'':World}{wv v':Value}{k b:Bs}{n:Nat}{L:List (Bs×Ent)}{D:Nat→Bool}{v:Nat→Value}(h:ApS w2 wv k b n L D v w')(d9:D 9=true)(hrow2:w2.ownsRow 0 85 2 wv L.length (z1u L))
  (hrow:w''.ownsRow 0 85 2 v' (L.length+1) (z1u L++ [.string ⟨k.toArray⟩,v 7])) (hg:w'.grownBy w'' wv.ownBlock) (hb:v'.ownBlock=wv.ownBlock∨v'.ownBlock=some w'.heap.size):ApS w2 wv k b n L (mark D 10) (z2P v 10 v') w'':=by
 obtain ⟨aa,ac,rfl⟩:=(z0d hrow).head;refine ⟨h.g.trans hg,(fun e=>by cases e),fun e=>?_,fun e=>h.m e,fun e=>?_,fun _=>⟨d9,aa,ac,rfl,hrow,hb.imp id fun e=>⟨_,e,h.g.size⟩⟩⟩
 ·obtain ⟨a,c,h1,h2⟩:=h.c e;refine ⟨a,c,h1,j7 h2 fun j hj=>hg.block j (h2.lt j hj).2 fun e=>?_⟩;have h3:=(h2.lt j hj).1;have h4:=(hrow2.lt j e.symm).2;omega
 ·obtain ⟨h1,g,h2,h3,h4⟩:=h.s e;refine ⟨h1,g,h2,h3.kept fun j hj hlt=>hg.block j hlt fun e=>?_,h4⟩;have h5:=(hrow2.lt j e.symm).2;simp only [Value.ownBlock,Option.some.injEq] at hj;omega
theorem y7M(sb:Nat)(s:FsS)(F:List Nat)(k:Bs)(hk:k.length≤maxLen)(a:Option Addr)(n c:Nat)(b:Bs)(w:World)(h:z1p w sb s F)(ok:s.Ok)(hx:RdB w (.slice a n c) b)(hn:n=b.length)(hl:n≤1099511627776)(hd:0<n→∀k,(Value.slice a n c).ownBlock=some k→k∉F):
  Calls Tryz.prog 175 #[.pointer (some ⟨sb,0,none⟩), .string ⟨k.toArray⟩, .slice a n c] w fun e w'=>e= .returned (.int .u16 (z1j s k b).1)∧z2v w sb F (z1j s k b).2 w':=by
 have H:=z7 h;have OK:=z7 ok;have HX:=z7 hx;have HN:=z7 hn;have HD:=z7 hd;clear h ok hx hn hd;cases hh:s.has k with
 | false=>
  have e:z1j s k b=(80,s):=by simp [z1j,hh]
  rw [e];clear e;go_enter Tryz.func175,Tryz.ntmps175;go_wp2_with (refine (z2q sb s _ k hk _ H.out).mono ?_;rintro e w' ⟨rfl,rfl⟩;rw [hh]);go_ret;exact ⟨rfl,z2v.refl H.out⟩
 | true=>
  by_cases h0:n=0
  ·have e:z1j s k b=(0,s):=by have h1:=HN.out;rw [h0] at h1;have h2:b= []:=List.eq_nil_of_length_eq_zero h1.symm;simp [z1j,hh,h2]
   rw [e];have i0:((n:Int)==0)=true:=by simpa using h0
   have HNZ:=z7 h0;clear e h0;go_enter Tryz.func175,Tryz.ntmps175;go_wp2_with (refine (z2q sb s _ k hk _ H.out).mono ?_;rintro e w' ⟨rfl,rfl⟩;rw [hh]);go_ret;exact ⟨rfl,z2v.refl H.out⟩
  ·have i0:((n:Int)==0)=false:=by simpa using h0
   have H':=H.out;obtain ⟨mb,wv,lp,E,L,h,rfl⟩:=H';obtain ⟨c0,c1,c2,c3,c4,fz⟩:=z2y h.blk;have hsb:=(Array.getElem?_eq_some_iff.1 h.blk).1;have HC0:=z7 c0;have hu:=OK.out.used_le;have hr0:=OK.out.room0;have hr1:=OK.out.room1;have hw1:IntKind.i64.wrap (s.room - (s.used:Int))=s.room - (s.used:Int):=wrap64 (by omega) (by omega);clear h c0 c1 c2 c3 c4 fz;by_cases hbig:s.room - (s.used:Int)<n
   ·have e:z1j s k b=(82,s):=by have h1:=HN.out;unfold z1j;rw [if_neg (by simp [hh]),if_neg (by omega),if_pos (by omega)]
    rw [e];clear e;go_enter Tryz.func175,Tryz.ntmps175;go_wp2_with (refine (z2q sb s _ k hk _ H.out).mono ?_;rintro e w' ⟨rfl,rfl⟩;rw [hh]);refine q6 10 42 (by kernel_rfl) (by kernel_rfl) rfl (by kernel_rfl) (fun D v w'=>Below w.heap.size w w') (fun _=>undef) (Below.refl _ _).drew ?_;simp only [List.take_succ_cons,List.take_zero,List.drop_succ_cons,List.drop_zero];iterate 5 (refine q8.rd (e:=?_) (fun D v w' hD hS=>?_) ?_;rotate_left;(skip;clear hS hD;first | (go_simp;done) | (go_simp;with_reducible rfl));go_simp)
    iterate 1 (refine q8.rd (e:=?_) (fun D v w' hD hS=>?_) ?_;rotate_left;(have c0:w'.cell? ⟨sb,0,none⟩=some (.int .i64 s.room):=(hS.cell (p:=⟨sb,0,none⟩) hsb).trans HC0.out;clear hS hD;first | (go_simp;done) | (go_simp;with_reducible rfl));go_simp)
    iterate 1 (refine q8.rd (e:=?_) (fun D v w' hD hS=>?_) ?_;rotate_left;(skip;clear hS hD;first | (go_simp;done) | (go_simp;with_reducible rfl));go_simp)
    refine q8.call (.int .i64 s.used) (fun v=>by rfl) (fun D v w' hD hS=>?_) ?_
    ·have HS:=z7 hS;clear hS hD;go_simp;go_at_call 17;refine (z6Z sb s _ w' (H.out.low HS.out) OK.out).mono ?_;rintro e w'' ⟨rfl,hb⟩;exact ⟨rfl,HS.out.trans (hb.mono HS.out.size)⟩
    go_simp;iterate 2 (refine q8.rd (e:=?_) (fun D v w' hD hS=>?_) ?_;rotate_left;(skip;clear hS hD;first | (go_simp;done) | (go_simp;with_reducible rfl));go_simp)
    refine q8.fin (fun v w1 hS=>?_);have HS:=z7 hS;have H1:=z7 (H.out.low hS);clear hS;go_wp2;go_ret;exact ⟨rfl,⟨_,H1.out,Chg.of_below HS.out⟩⟩
   ·have ea:z1j s k b=(0,if s.go then {s.went with waits:=s.waits++ [(k,b)]} else s.went):=by have h1:=HN.out;unfold z1j;rw [if_neg (by simp [hh]),if_neg (by omega),if_neg (by omega)]
    cases hg:s.go with
    | false=>
     have e:z1j s k b=(0,s.went):=by rw [ea,hg];rfl
     rw [e];clear e ea;go_enter Tryz.func175,Tryz.ntmps175;go_wp2_with (refine (z2q sb s _ k hk _ H.out).mono ?_;rintro e w' ⟨rfl,rfl⟩;rw [hh]);refine q6 10 42 (by kernel_rfl) (by kernel_rfl) rfl (by kernel_rfl) (fun D v w'=>Below w.heap.size w w') (fun _=>undef) (Below.refl _ _).drew ?_;simp only [List.take_succ_cons,List.take_zero,List.drop_succ_cons,List.drop_zero];iterate 5 (refine q8.rd (e:=?_) (fun D v w' hD hS=>?_) ?_;rotate_left;(skip;clear hS hD;first | (go_simp;done) | (go_simp;with_reducible rfl));go_simp)
     iterate 1 (refine q8.rd (e:=?_) (fun D v w' hD hS=>?_) ?_;rotate_left;(have c0:w'.cell? ⟨sb,0,none⟩=some (.int .i64 s.room):=(hS.cell (p:=⟨sb,0,none⟩) hsb).trans HC0.out;clear hS hD;first | (go_simp;done) | (go_simp;with_reducible rfl));go_simp)
     iterate 1 (refine q8.rd (e:=?_) (fun D v w' hD hS=>?_) ?_;rotate_left;(skip;clear hS hD;first | (go_simp;done) | (go_simp;with_reducible rfl));go_simp)
     refine q8.call (.int .i64 s.used) (fun v=>by rfl) (fun D v w' hD hS=>?_) ?_
     ·have HS:=z7 hS;clear hS hD;go_simp;go_at_call 17;refine (z6Z sb s _ w' (H.out.low HS.out) OK.out).mono ?_;rintro e w'' ⟨rfl,hb⟩;exact ⟨rfl,HS.out.trans (hb.mono HS.out.size)⟩
     go_simp;iterate 2 (refine q8.rd (e:=?_) (fun D v w' hD hS=>?_) ?_;rotate_left;(skip;clear hS hD;first | (go_simp;done) | (go_simp;with_reducible rfl));go_simp)
     refine q8.fin (fun v w1 hS=>?_);have HS:=z7 hS;have H1:=z7 (H.out.low hS);clear hS;go_wp2_with fail;refine (z4h sb s _ _ H1.out OK.out.left0).mono ?_;rintro e w2 ⟨rfl,ht⟩;rw [hg];have HT:=z7 ht;clear ht hg;go_wp2;go_ret;obtain ⟨F2,hF2,hC2⟩:=HT.out;exact ⟨rfl,F2,hF2,(Chg.of_below HS.out).trans hC2⟩
    | true=>
     have e:z1j s k b=(0,{s.went with waits:=s.waits++ [(k,b)]}):=by rw [ea,hg];rfl
     rw [e];obtain ⟨s',hs'⟩:∃s',s'=({s.went with waits:=s.waits++ [(k,b)]}:FsS):=⟨_,rfl⟩;rw [←hs'];have HS':=z7 hs';clear e ea hs';go_enter Tryz.func175,Tryz.ntmps175;go_wp2_with (refine (z2q sb s _ k hk _ H.out).mono ?_;rintro e w' ⟨rfl,rfl⟩;rw [hh]);refine q6 10 42 (by kernel_rfl) (by kernel_rfl) rfl (by kernel_rfl) (fun D v w'=>Below w.heap.size w w') (fun _=>undef) (Below.refl _ _).drew ?_;simp only [List.take_succ_cons,List.take_zero,List.drop_succ_cons,List.drop_zero];iterate 5 (refine q8.rd (e:=?_) (fun D v w' hD hS=>?_) ?_;rotate_left;(skip;clear hS hD;first | (go_simp;done) | (go_simp;with_reducible rfl));go_simp)
     iterate 1 (refine q8.rd (e:=?_) (fun D v w' hD hS=>?_) ?_;rotate_left;(have c0:w'.cell? ⟨sb,0,none⟩=some (.int .i64 s.room):=(hS.cell (p:=⟨sb,0,none⟩) hsb).trans HC0.out;clear hS hD;first | (go_simp;done) | (go_simp;with_reducible rfl));go_simp)
     iterate 1 (refine q8.rd (e:=?_) (fun D v w' hD hS=>?_) ?_;rotate_left;(skip;clear hS hD;first | (go_simp;done) | (go_simp;with_reducible rfl));go_simp)
     refine q8.call (.int .i64 s.used) (fun v=>by rfl) (fun D v w' hD hS=>?_) ?_
     ·have HS:=z7 hS;clear hS hD;go_simp;go_at_call 17;refine (z6Z sb s _ w' (H.out.low HS.out) OK.out).mono ?_;rintro e w'' ⟨rfl,hb⟩;exact ⟨rfl,HS.out.trans (hb.mono HS.out.size)⟩
     go_simp;iterate 2 (refine q8.rd (e:=?_) (fun D v w' hD hS=>?_) ?_;rotate_left;(skip;clear hS hD;first | (go_simp;done) | (go_simp;with_reducible rfl));go_simp)
     refine q8.fin (fun v w1 hS=>?_);have HS:=z7 hS;have H1:=z7 (H.out.low hS);clear hS;go_wp2_with fail;refine (z4h sb s _ _ H1.out OK.out.left0).mono ?_;rintro e w2 ⟨rfl,ht⟩;rw [hg];obtain ⟨F2,hr2,hC2⟩:=ht;have HC2:=z7 hC2;have HX2:=z7 ((HX.out.low HS.out).chg hC2 (HD.out (by omega)));obtain ⟨mb2,wv2,lp2,E2,L2,h2,rfl⟩:=hr2;obtain ⟨c0,c1,c2,c3,c4,fz⟩:=z2y h2.blk;have f2:=fz 2;have hsb2:=(Array.getElem?_eq_some_iff.1 h2.blk).1;obtain ⟨n1,n2,n3⟩:=h2.ne;have hsw:wv2.ownBlock≠some sb:=fun e=>(n2 sb e).1 rfl;have HSW:=z7 hsw;have HROW:=z7 h2.row;have H2:=z7 h2;have hLl:L2.length≤1048576:=by
      have h3:=OK.out.waits_le;have h4:=congrArg List.length ((z2J s).2.2.symm.trans h2.waits);rw [List.length_map] at h4;omega
     obtain ⟨wa,wc,rfl⟩:=(z0d h2.row).head;have HC0':=z7 c2;have hc2:Hid (∀W:World,w2.grownBy W (Value.slice wa L2.length wc).ownBlock→W.cell? ⟨sb,2,none⟩=some (.slice wa L2.length wc)∧W.frozen? ⟨sb,2,none⟩=false):=z7 fun W hW=>
      let h:=hW.block sb hsb2 fun e=>hsw e.symm
      ⟨(World.cell?_of_block (w:=w2) (a:=⟨sb,2,none⟩) h).trans HC0'.out,by rw [World.frozen?_of_block (w:=w2) (a:=⟨sb,2,none⟩) h];exact f2⟩
     have hj:∀j,(Value.slice a n c).ownBlock=some j→(Value.slice wa L2.length wc).ownBlock≠some j:=fun j hj e=>by
      obtain ⟨b',o',c',h5,_,h6⟩:=RdB.at (k:=0) (l:=b) (by have:=HX.out;rw [HN.out] at this;exact this) (by have:=HN.out;omega);simp only [Value.slice.injEq] at h5;obtain ⟨rfl, -⟩:=h5;simp only [Value.ownBlock,Option.some.injEq] at hj;subst hj;rcases HC2.out.fresh b' (z1X.2 (.inl (by simp [z1l,e]))) with h7 | h7
      ·exact HD.out (by omega) b' rfl h7
      ·have:=HS.out.size;omega
     have HJ:=z7 hj;clear hj;clear hC2 c0 c1 c2 c3 c4 fz h2 n1 n2 n3 hg hsw;go_wp2_with fail;refine q6 13 42 (by kernel_rfl) (by kernel_rfl) rfl (by kernel_rfl) (fun D v w'=>ApS w2 (.slice wa L2.length wc) k b n L2 D v w') (fun _=>undef) (ApS.start HROW.out) ?_;simp only [List.take_succ_cons,List.take_zero,List.drop_succ_cons,List.drop_zero];iterate 4 (refine q8.read (e:=?_) (fun v=>by rfl) (fun D v w h=>⟨h.g,h.q,h.c,h.m,h.s,h.a⟩) (fun D v w' hD hS=>?_) ?_;rotate_left;(clear hS hD;first | (go_simp;done) | (go_simp;with_reducible rfl));go_simp)
     iterate 1 (refine q8.read (e:=?_) (fun v=>by rfl) (fun D v w h=>⟨h.g,h.q,h.c,h.m,h.s,h.a⟩) (fun D v w' hD hS=>?_) ?_;rotate_left;(have hcc:=(hc2.out w' hS.g).1;clear hS hD;first | (go_simp;done) | (go_simp;with_reducible rfl));go_simp)
     iterate 2 (refine q8.read (e:=?_) (fun v=>by rfl) (fun D v w h=>⟨h.g,h.q,h.c,h.m,h.s,h.a⟩) (fun D v w' hD hS=>?_) ?_;rotate_left;(clear hS hD;first | (go_simp;done) | (go_simp;with_reducible rfl));go_simp)
     refine q8.rel (fun v=>by rfl) (fun D v w' hD hS=>?_) ?_
     ·have d8:D 8=false:=hD.post 8 _ rfl (by kernel_rfl);have HS3:=z7 hS;have HX3:=z7 (show RdB w' (.slice a n c) b from Rd.kept HX2.out fun j hj hlt=>hS.g.block j hlt fun e=>HJ.out j hj e.symm);clear hS hD;go_simp;go_at_call 70;refine (y3S a n c b w' HX3.out HN.out hl).mono ?_;rintro e w'' ⟨a',c',rfl,hf⟩;exact HS3.out.clone d8 hf
     go_simp;refine q8.rel (fun v=>by rfl) (fun D v w' hD hS=>?_) ?_
     ·have d7:D 7=true:=hD.pre 7 (by kernel_rfl);have d9:D 9=false:=hD.post 9 _ rfl (by kernel_rfl);obtain ⟨a7,c7,h7,_⟩:=hS.c d7;have HS3:=z7 (hS.built d7 d9 h7);clear hS hD;rw [h7];clear h7;go_simp;exact HS3.out
     go_simp;refine q8.rel (fun v=>by rfl) (fun D v w' hD hS=>?_) ?_
     ·have d8:D 8=true:=hD.pre 8 (by kernel_rfl);have d10:D 10=false:=hD.post 10 _ rfl (by kernel_rfl);obtain ⟨d7,h8⟩:=hS.m d8;obtain ⟨a7,c7,h7,_⟩:=hS.c d7;have HS3:=z7 (hS.made d8 d10 h7);clear hS hD;rw [h8,h7];clear h7 h8;go_simp;exact HS3.out
     go_simp;refine q8.rel (fun v=>by rfl) (fun D v w' hD hS=>?_) ?_
     ·have d9:D 9=true:=hD.pre 9 (by kernel_rfl);have d10:D 10=false:=hD.self;obtain ⟨d8,g,h9,hrd,hge⟩:=hS.s d9;obtain ⟨d7,h8⟩:=hS.m d8;obtain ⟨a7,c7,h7,_⟩:=hS.c d7;have hq:=z7 (hS.q d10);have HS3:=z7 hS;have HRD:=z7 hrd;have H7:=z7 h7;rw [h9];obtain ⟨i0,hi,hz0,hz1,hz2⟩:=info_parts y7y;clear hS hD hrd h7 h8 h9;refine z3o _ _ 86 rfl 0 85 i0 (.agg #[.string ⟨#[]⟩, .slice none 0 0]) 2 40 Tryz.underlying86 hi hz0 hz1 hz2 rfl (by decide) _ L2.length (z1u L2) rfl hq.out _ 1 [.string ⟨k.toArray⟩,v 7] rfl HRD.out ?_ (by unfold maxLen;omega) (by omega) (Nat.zero_le _) ?_
      ·intro u hu;rw [H7.out] at hu;simp only [List.mem_cons,List.not_mem_nil,or_false] at hu;rcases hu with rfl | rfl<;>rfl
      ·intro v' w'' h1 h2 h3 h4;exact ⟨v',rfl,HS3.out.appended d9 HROW.out h1 h2 h4,trivial⟩
     go_simp;iterate 2 (refine q8.read (e:=?_) (fun v=>by rfl) (fun D v w h=>⟨h.g,h.q,h.c,h.m,h.s,h.a⟩) (fun D v w' hD hS=>?_) ?_;rotate_left;(clear hS hD;first | (go_simp;done) | (go_simp;with_reducible rfl));go_simp)
     refine q8.fin (fun v w' hS=>?_);obtain ⟨aa,ac,h10,hrow,hblk⟩:=(hS.a rfl).2;obtain ⟨a7,c7,h7,hfr⟩:=hS.c rfl;have HG:=z7 hS.g;have hcc:=hc2.out w' hS.g;rw [h10];have HROW':=z7 hrow;have HBLK:=z7 hblk;have HFR:=z7 hfr;have H7:=z7 h7;obtain ⟨d1,d2⟩:=hcc;clear hS hrow hblk hfr h7 h10;go_wp2;go_ret;refine ⟨rfl,?_⟩;have hrow2:=HROW'.out;rw [H7.out] at hrow2;obtain ⟨e1,e2,e3⟩:=z2J s;obtain ⟨F3,hF3,hC3⟩:=y8T (s':=s') H2.out HG.out hrow2 HBLK.out HFR.out HN.out (by rw [HS'.out]) (by rw [HS'.out]) (by rw [HS'.out]) (by rw [HS'.out]) (by rw [HS'.out,e3]);exact ⟨F3,hF3,(Chg.of_below HS.out).trans (HC2.out.trans hC3)⟩
end Go.Proofs.YtfcnapnopdomhaaGreatDoor

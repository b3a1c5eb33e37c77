/-
  Slices of structs that each hold one slice of bytes of their own: what they read as, all their blocks, and what append leaves.
-/
import Derived.ProofKit
import Derived.OpenShut
import Derived.Carry
import Derived.ChangeSame
import Derived.Deep.Slices
import Derived.Deep.Fields
import Derived.Test.YtfcnapnopdomhaaGreatDoorZRdOnceCrcACrcB
namespace Go.Proofs.YtfcnapnopdomhaaGreatDoor
set_option linter.unusedSimpArgs false
set_option linter.unusedVariables false
set_option maxRecDepth 100000
set_option maxHeartbeats 12800000
section
open Go.RowKit
theorem Chg.alloc{F F':List Nat}{w w':World}(h:Chg F F' w w')(o:Obj):Chg F F' w (w'.alloc o):=
 ⟨h.os,h.tape,h.output,by have:=h.size;simp;omega,fun k hk hn=>(Below.heap_alloc w' o k (Nat.lt_of_lt_of_le hk h.size)).trans (h.block k hk hn),h.fresh⟩
structure Item where
 pre:List Value
 x:Value
 post:List Value
 b:List UInt8
def Item.cells(t:Item):List Value:=t.pre++t.x::t.post
def z7t(v:Value)(L:List Item):List Nat:=v.ownBlock.toList++L.flatMap fun t=>t.x.ownBlock.toList
structure z4E (w:World) (e size:Nat) (v:Value) (L:List Item):Prop where
 nodup:(z7t v L).Nodup
 row:w.ownsRow 0 e size v L.length (L.flatMap Item.cells)
 each:∀t∈L,t.cells.length=size∧(∀u∈t.cells,u.oneCell'=true)∧w.ownsRow 0 5 1 t.x t.b.length (z0b t.b)
theorem z4E.nil(w:World)(e size:Nat):z4E w e size (.slice none 0 0) []:=
 ⟨by simp [z7t,Value.ownBlock],by simpa using World.ownsRow_nil w 0 e size,fun _ h=>by cases h⟩
theorem z4E.same{w w':World}{e size:Nat}{v:Value}{L:List Item}(h:z4E w e size v L)(hk:∀k∈z7t v L,w'.heap[k]? =w.heap[k]?):z4E w' e size v L:=by
 refine ⟨h.nodup,j7 h.row fun b hb=>hk b (by simp [z7t,hb]),fun t ht=>⟨(h.each t ht).1,(h.each t ht).2.1,j7 (h.each t ht).2.2 fun b hb=>hk b ?_⟩⟩;simp only [z7t,List.mem_append,List.mem_flatMap];exact .inr ⟨t,ht,by simp [hb]⟩
theorem z4E.lt{w:World}{e size:Nat}{v:Value}{L:List Item}(h:z4E w e size v L):∀k∈z7t v L,k<w.heap.size:=by
 intro k hk;simp only [z7t,List.mem_append,List.mem_flatMap,Option.mem_toList] at hk;rcases hk with hk | ⟨t,ht,hk⟩
 ·exact (h.row.lt k hk).2
 ·exact ((h.each t ht).2.2.lt k hk).2
theorem flat_get{size:Nat}:∀{L:List Item},(∀t∈L,t.cells.length=size)→∀{i j:Nat} {t:Item},L[i]? =some t→j<size→(L.flatMap Item.cells)[i*size+j]? =t.cells[j]?
 | t0::L,h,0,j,t,hi,hj=>by
  simp only [List.getElem?_cons_zero,Option.some.injEq] at hi;subst hi;rw [List.flatMap_cons,Nat.zero_mul,Nat.zero_add,List.getElem?_append_left (by rw [h t0 (by simp)];exact hj)]
 | t0::L,h,i+1,j,t,hi,hj=>by
  have h0:=h t0 (by simp);rw [List.flatMap_cons,List.getElem?_append_right (by rw [h0,Nat.add_mul];omega),h0,show (i+1)*size+j - size=i*size+j from by rw [Nat.add_mul];omega];exact flat_get (fun t ht=>h t (by simp [ht])) (by simpa using hi) hj
theorem z4E.get{w:World}{e size:Nat}{v:Value}{L:List Item}(h:z4E w e size v L){i:Nat}{t:Item}(hi:L[i]? =some t):
  ∃g cap,v= .slice (some ⟨g,0,none⟩) L.length cap∧(∀j,j<size→w.cell? ⟨g,i*size+j,none⟩=t.cells[j]?)∧(∀o,w.frozen? ⟨g,o,none⟩=false)∧g<w.heap.size:=by
 have hlt:=(List.getElem?_eq_some_iff.1 hi).1;obtain ⟨g,cap,rfl,_⟩:=z4N h.row (by
  intro e0;rcases h.row.2 with ⟨_,hz⟩ | ⟨_,_,_,hz,_⟩
  ·omega
  ·rw [e0] at hz;cases hz)
 refine ⟨g,cap,rfl,fun j hj=>?_,h.row.frozenAt,(h.row.lt g rfl).2⟩;have hb:i*size+j<L.length*size:=by
  have:(i+1)*size≤L.length*size:=Nat.mul_le_mul_right _ hlt;rw [Nat.add_mul] at this;omega
 rw [h.row.cellAt _ hb];exact flat_get (fun t ht=>(h.each t ht).1) hi hj
theorem z4E.head{w:World}{e size:Nat}{v:Value}{L:List Item}(h:z4E w e size v L):∃a c,v= .slice a L.length c:=by
 rcases h.row.2 with ⟨rfl,hz⟩ | ⟨g,cap,_,rfl,_⟩
 ·exact ⟨none,0,by rw [hz]⟩
 ·exact ⟨_,_,rfl⟩
theorem y0e{v v':Value}{L:List Item}{t:Item}{B C:Nat}(h:(z7t v L).Nodup)(hlt:∀k∈z7t v L,k<B)(hx:∀g,t.x.ownBlock=some g→B≤g∧g<C)
  (hBC:B≤C) (hv:v'.ownBlock=v.ownBlock∨v'.ownBlock=some C):(z7t v' (L++ [t])).Nodup:=by
 simp only [z7t,List.flatMap_append,List.flatMap_cons,List.flatMap_nil,List.append_nil] at h hlt ⊢;rw [←List.append_assoc];have hL:∀k∈L.flatMap (fun t=>t.x.ownBlock.toList),k<B:=fun k hk=>hlt k (List.mem_append_right _ hk);have h2:=List.nodup_append.1 h;have hmid:(v'.ownBlock.toList++L.flatMap fun t=>t.x.ownBlock.toList).Nodup:=by
  rcases hv with e | e
  ·rw [e];exact h
  ·rw [e];simp only [Option.toList_some,List.cons_append,List.nil_append,List.nodup_cons];exact ⟨fun hm=>by have:=hL _ hm;omega,h2.2.1⟩
 refine List.nodup_append.2 ⟨hmid,by cases t.x.ownBlock<;>simp,fun a ha b hb=>?_⟩;have hb':=hx b (by simpa using hb);rcases List.mem_append.1 ha with ha | ha
 ·rcases hv with e | e
  ·rw [e] at ha;have:=hlt a (List.mem_append_left _ ha);omega
  ·rw [e] at ha;simp only [Option.toList_some,List.mem_singleton] at ha;omega
 ·have:=hL a ha;omega
theorem z4E.append{w w1 w2:World}{e size:Nat}{v v':Value}{L:List Item}{t:Item}(h:z4E w e size v L)(hb:Below w.heap.size w w1)(ht:t.cells.length=size)(ht1:∀u∈t.cells,u.oneCell'=true)
  (hx:w1.ownsRow 0 5 1 t.x t.b.length (z0b t.b)) (hxn:∀g,t.x.ownBlock=some g→w.heap.size≤g) (hgrow:w1.grownBy w2 v.ownBlock)
  (hown2:w2.ownsRow 0 e size v' (L.length+1) (L.flatMap Item.cells++t.cells)) (hv':v'.ownBlock=v.ownBlock∨v'.ownBlock=some w1.heap.size):
  z4E w2 e size v' (L++ [t])∧Chg (z7t v L) (z7t v' (L++ [t])) w w2:=by
 have hlt:=h.lt;have hs1:=hb.size;have hxg:∀g,t.x.ownBlock=some g→w.heap.size≤g∧g<w1.heap.size:=fun g hg=>⟨hxn g hg,(hx.lt g hg).2⟩;have hnd:=y0e (t:=t) h.nodup hlt hxg hs1 hv';have hk:∀k,k<w1.heap.size→some k≠v.ownBlock→w2.heap[k]? =w1.heap[k]? :=hgrow.block;have hnd2:=List.nodup_append.1 h.nodup;refine ⟨⟨hnd,by simpa using hown2,fun s hs=>?_⟩,⟨hgrow.os.trans hb.os,hgrow.tape.trans hb.tape,hgrow.output.trans hb.output,Nat.le_trans hb.size hgrow.size,fun k hkl hkn=>?_,fun k hk'=>?_⟩⟩
 ·rcases List.mem_append.1 hs with hs | hs
  ·obtain ⟨h1,h2,h3⟩:=h.each s hs;refine ⟨h1,h2,j7 h3 fun b hb'=>?_⟩;have hbm:b∈L.flatMap fun t=>t.x.ownBlock.toList:=List.mem_flatMap.2 ⟨s,hs,by simp [hb']⟩;have hbl:=hlt b (List.mem_append_right _ hbm);rw [hk b (by omega) (fun e=>hnd2.2.2 b (by simp [←e]) b hbm rfl),hb.block b hbl]
  ·simp only [List.mem_singleton] at hs;subst hs;refine ⟨ht,ht1,j7 hx fun b hb'=>hk b (hxg b hb').2 fun e=>?_⟩;have:=hlt b (by simp [z7t,←e]);have:=(hxg b hb').1;omega
 ·simp only [z7t,List.mem_append,not_or,Option.mem_toList] at hkn;rw [hk k (by omega) (fun e=>hkn.1 e.symm),hb.block k hkl]
 ·simp only [z7t,List.flatMap_append,List.flatMap_cons,List.flatMap_nil,List.append_nil,List.mem_append,Option.mem_toList] at hk' ⊢;rcases hk' with hk' | hk' | hk'
  ·rcases hv' with e | e
   ·exact .inl (.inl (e▸hk'))
   ·rw [e] at hk';cases hk';exact .inr hs1
  ·exact .inl (.inr hk')
  ·exact .inr (hxn k hk')
structure z9K (w:World) (size:Nat) (v:Value) (L:List Item):Prop where
 row:Rd w v size L.length (L.flatMap Item.cells)
 each:∀t∈L,t.cells.length=size∧Rd w t.x 1 t.b.length (z0b t.b)
theorem z4E.rd{w:World}{e size:Nat}{v:Value}{L:List Item}(h:z4E w e size v L):z9K w size v L:=
 ⟨z0d h.row,fun t ht=>⟨(h.each t ht).1,z0d (h.each t ht).2.2⟩⟩
theorem z9K.same{w w':World}{size:Nat}{v:Value}{L:List Item}(h:z9K w size v L)(hk:∀k,k<w.heap.size→(v.ownBlock=some k∨∃t∈L,t.x.ownBlock=some k)→w'.heap[k]? =w.heap[k]?):z9K w' size v L:=
 ⟨h.row.kept fun b hb hl=>hk b hl (.inl hb),fun t ht=>⟨(h.each t ht).1,(h.each t ht).2.kept fun b hb hl=>hk b hl (.inr ⟨t,ht,hb⟩)⟩⟩
end
section
open Go.RowKit Go.ChangeShapes Go.WideShapes Go.ChangeAt Go.Deep
theorem own:ownKnob Tryz.prog.godebug=none:=by kernel_rfl
theorem laidOut:laidOutB Tryz.prog=true:=by kernel_rfl
theorem z7A{H:Type}{enc:TypeId×Value→H}{W W':World}(hb:Below W.heap.size W W'):∀(ts:List TypeId) (vs:List Value) (ds:List (DataW H)) (ps:List MemPlace),(∀t∈ts,Tryz.prog.readableRec t=true∧t<Tryz.prog.types.size)→
  DataW.TrodAll enc Tryz.prog W 0 (fun _=>true) true ts vs ds ps→(∀x∈ps,x.block<W.heap.size)→∀sp:Nat→Bool,(∀x∈ps,sp x.block=true)→DataW.TrodAll enc Tryz.prog W' 0 sp true ts vs ds ps
 | [],vs,ds,ps,_,h,_,sp,_=>by
  obtain ⟨rfl,rfl,rfl⟩:=trodAll_nil h;exact trodAll_mk0
 | t::ts,vs,ds,ps,hr,h,hlt,sp,hsp=>by
  obtain ⟨v,vs',d,ds',p,q,rfl,rfl,rfl,h1,h2⟩:=trodAll_cons h;obtain ⟨r1,r2⟩:=hr t (by simp);exact trodAll_cons_mk (WideElems.Trod_stays laidOut r1 r2 h1 (fun x hx=>hb.same (hlt x (List.mem_append_left _ hx))) (fun x hx=>hsp x (List.mem_append_left _ hx)))
   (z7A hb ts vs' ds' q (fun t ht=>hr t (by simp [ht])) h2 (fun x hx=>hlt x (List.mem_append_right _ hx)) sp (fun x hx=>hsp x (List.mem_append_right _ hx)))
theorem q0Q{H:Type}{enc:TypeId×Value→H}{f:Func}{s:ChangeSpec}{W W':World}{args:Array Value}{ds gs:List (DataW H)}{before:List MemPlace}
  (hW:DataW.Whole enc Tryz.prog f.params.toList s.vars false W args.toList ds gs before) (hb:Below W.heap.size W W') (hv:s.vars= []) (hr:f.resultTypes= #[4])
  (hs:s.fn H (ds++gs)={results:= [.lit (.bool true)],args:=ds}) (hp0:(f.params.toList.all fun t=>Tryz.prog.readableRec t&&decide (t<Tryz.prog.types.size))=true):
  s.post enc Tryz.prog f false true false false W args (.bool true) W':=by
 have hp:∀t∈f.params.toList,Tryz.prog.readableRec t=true∧t<Tryz.prog.types.size:=fun t ht=>by
  have:=List.all_eq_true.1 hp0 t ht;simpa using this
 have hlt:∀x∈before,x.block<W.heap.size:=fun x hx=>hW.lt x hx;have hW':=hW;obtain ⟨p,q,hA,hV,rfl,hfz,_⟩:=hW;rw [hv] at hV;obtain ⟨rfl,rfl⟩:=trodVars_none hV;refine ⟨ds, [],_, [],p, [],hW',?_,?_,?_,World.keptBut_mono (fun x hx=>⟨hx,?_⟩) (hb.frame (·∈p++ [])),fun h=>by cases h⟩
 ·rw [hs,hr];exact trodAll_cons_mk (shut_bool Tryz.underlying4 true) trodAll_mk0
 ·rw [hs];exact z7A hb _ _ _ _ hp hA (fun x hx=>hlt x (List.mem_append_left _ hx)) _ (fun x hx=>by simpa using hlt x (List.mem_append_left _ hx))
 ·rw [hv,hs];rfl
 ·simpa using hx
theorem z9h{α:Type}{R:Nat→α→Prop}:∀n,(∀i,i<n→∃y,R i y)→∃l:List α,l.length=n∧∀i (hi:i<l.length),R i l[i]
 | 0,_=>⟨[],rfl,fun i hi=>by simp at hi⟩
 | n+1,key=>by
  obtain ⟨b,hbl,hb⟩:=z9h n fun i hi=>key i (by omega);obtain ⟨y,hy⟩:=key n (by omega);refine ⟨b++ [y],by simp [hbl],fun i hi=>?_⟩;by_cases e:i<b.length
  ·rw [List.getElem_append_left e];exact hb i e
  ·have:i=n:=by simp at hi;omega
   subst this;rw [List.getElem_append_right (by omega)];simpa [hbl] using hy
theorem wf_u16{n:Int}(h:(Lit.int .u16 n).wf=true):0≤n∧n≤65535:=by simpa [Lit.wf,IntKind.min,IntKind.max,IntKind.signed,IntKind.bits] using h
theorem wf_u32{n:Int}(h:(Lit.int .u32 n).wf=true):0≤n∧n≤4294967295:=by simpa [Lit.wf,IntKind.min,IntKind.max,IntKind.signed,IntKind.bits] using h
theorem wf_u64{n:Int}(h:(Lit.int .u64 n).wf=true):0≤n∧n≤18446744073709551615:=by simpa [Lit.wf,IntKind.min,IntKind.max,IntKind.signed,IntKind.bits] using h
theorem wf_i64{n:Int}(h:(Lit.int .i64 n).wf=true): -9223372036854775808≤n∧n≤9223372036854775807:=by simpa [Lit.wf,IntKind.min,IntKind.max,IntKind.signed,IntKind.bits] using h
theorem j8(w:World)(o:Obj):(w.alloc o).heap[w.heap.size]? =some o:=Array.getElem?_push_size
theorem q5(w:World)(o:Obj):Below w.heap.size w (w.alloc o):=(Below.refl _ _).alloc (Nat.le_refl _) _
theorem z4Y{P:Program}{w:World}{a:Act}{o:Oper}{Q:Exit→Act→World→Prop}{ops:Array Oper}{rest:List Oper}(hgd:o.guard=none)(s x:Operand)(t:TypeId)
  (ho:o.op= .call {callee:= .builtin .append,args:= #[s,x],argTypes:= #[t,t]})
  (base:Nat) (e:TypeId) (ht:P.underlying t=some (.slice e)) (hinfo:(P.info? e).map (fun i=>(i.zero,i.size,i.bytes))=some (some (.int .u8 0),1,1))
  (v:Value) (l0:List UInt8) (hs:a.eval s=v) (hown:w.ownsRow base e 1 v l0.length (z0b l0))
  (xv:Value) (l:List UInt8) (hx:a.eval x=xv) (hrd:RdB w xv l) (hl:l0.length+l.length≤70368744177664) (hbase:base≤w.heap.size)
  (h:∀ao co w',w'.ownsRow base e 1 (.slice ao (l0.length+l.length) co) (l0++l).length (z0b (l0++l))→w.grownBy w' v.ownBlock→((Value.slice ao (l0.length+l.length) co).ownBlock=v.ownBlock∨(Value.slice ao (l0.length+l.length) co).ownBlock=some w.heap.size)→wpList P ops Q rest (a.put o.dst (.slice ao (l0.length+l.length) co)) w'):wpList P ops Q (o::rest) a w:=by
 obtain ⟨i0,hi,hz0,hz1,hz2⟩:=info_parts hinfo;refine z1J hgd s x t ho base e i0 (.int .u8 0) 1 1 ht hi hz0 hz1 hz2 rfl (by decide) v l0.length (z0b l0) hs hown xv l.length (z0b l) hx hrd (z3Y l) (by unfold maxLen;omega) (by omega) hbase fun v' w' h1 h2 h3 h4=>?_;obtain ⟨ao,co,rfl⟩:=(z0d h1).head;exact h ao co w' (by rw [z2X,List.length_append];exact h1) h2 h4
def z7C(W:World)(B:Nat)(e:TypeId)(v:Value)(l:List UInt8)(w:World):Prop:=w.ownsRow B e 1 v l.length (z0b l)∧Below B W w∧B≤w.heap.size
abbrev z4I (W:World) (B:Nat) (v:Value) (l:List UInt8) (w:World):Prop:=z7C W B 5 v l w
theorem rowIs_made(W:World)(B:Nat)(l:List UInt8)(cs:Array Value)(hB:B=W.heap.size)(hcs:cs=(z0b l).toArray)(hl:l.length≤1000000):z4I W B (.slice (some ⟨B,0,none⟩) l.length l.length) l (W.alloc (.cells cs 5)):=by
 subst hB;subst hcs;refine ⟨⟨by simp [z0b], .inr ⟨W.heap.size,l.length,(z0b l).toArray,rfl,Nat.le_refl _,j8 _ _,Nat.le_refl _,by unfold maxLen;omega,by simp [z0b],by rw [Nat.mul_one,List.take_of_length_le (by simp [z0b])]⟩⟩,q5 _ _,by simp⟩
theorem z7C.lt{W w:World}{B:Nat}{v:Value}{l:List UInt8}(h:z4I W B v l w):B≤w.heap.size:=h.2.2
theorem z7C.to{W w w':World}{B:Nat}{v:Value}{l:List UInt8}(h:z4I W B v l w)(hb:Below w.heap.size w w'):z4I W B v l w':=
 ⟨ownsRow_below h.1 hb (Nat.le_refl _),h.2.1.trans (hb.mono h.2.2),Nat.le_trans h.2.2 hb.size⟩
theorem z7C.head{W w:World}{B:Nat}{v:Value}{l:List UInt8}(h:z4I W B v l w):∃a c,v= .slice a l.length c:=(z0d h.1).head
theorem wpList_copy_own{P:Program}{w:World}{a:Act}{o:Oper}{Q:Exit→Act→World→Prop}{ops:Array Oper}{rest:List Oper}(hgd:o.guard=none)(s x:Operand)(t:TypeId)
  (ho:o.op= .call {callee:= .builtin .append,args:= #[s,x],argTypes:= #[t,t]})
  (W:World) (base:Nat) (e:TypeId) (ht:P.underlying t=some (.slice e)) (hinfo:(P.info? e).map (fun i=>(i.zero,i.size,i.bytes))=some (some (.int .u8 0),1,1))
  (v:Value) (l0:List UInt8) (hs:a.eval s=v) (hown:z7C W base e v l0 w)
  (xv:Value) (l:List UInt8) (hx:a.eval x=xv) (hrd:RdB w xv l) (hl:l0.length+l.length≤70368744177664)
  (h:∀ao co w',z7C W base e (.slice ao (l0++l).length co) (l0++l) w'→Below base w w'→wpList P ops Q rest (a.put o.dst (.slice ao (l0++l).length co)) w'):wpList P ops Q (o::rest) a w:=by
 refine z4Y hgd s x t ho base e ht hinfo v l0 hs hown.1 xv l hx hrd hl hown.2.2 fun ao co w' h1 h2 h3=>?_;have e0:l0.length+l.length=(l0++l).length:=by simp
 rw [e0] at h1 ⊢;have hb:Below base w w':=(Below.refl base w).grown h2 hown.2.2 fun k hk=>(hown.1.lt k hk).1;exact h ao co w' ⟨h1,hown.2.1.trans hb,Nat.le_trans hown.2.2 hb.size⟩ hb
theorem z1C{w:World}{base e size n c:Nat}{a:Option Addr}{xs:List Value}(h:w.ownsRow base e size (.slice a n c) n xs):n≤c∧c≤9223372036854775807:=by
 rcases h.2 with ⟨h1,h2⟩ | ⟨g,cap,cur,h1,h2,h3,h4,h5,h6,h7⟩
 ·simp only [Value.slice.injEq] at h1;omega
 ·simp only [Value.slice.injEq] at h1;obtain ⟨_,_,rfl⟩:=h1;unfold maxLen at h5;exact ⟨h4,h5⟩
theorem RdB.keep{w w':World}{x:Value}{l:List UInt8}(h:RdB w x l)(hk:∀b,x.ownBlock=some b→w'.heap[b]? =w.heap[b]?):RdB w' x l:=Rd.kept h fun b hb _=>hk b hb
theorem add_add'(a:Addr)(j k:Nat):(a.add j).add k=a.add (j+k):=by
 unfold Addr.add;by_cases hj:j=0
 ·subst hj;simp
 ·by_cases hk:k=0
  ·subst hk;simp
  ·simp [hj,hk];omega
theorem RdB.from{w:World}{ad:Addr}{c n:Nat}{l:List UInt8}(h:RdB w (.slice (some ad) n c) l)(hn:n=l.length)(k:Nat)(c' m:Nat)(hm:m=(l.drop k).length)(hk:k≤l.length):RdB w (.slice (some (ad.add k)) m c') (l.drop k):=by
 subst hn;obtain ⟨h1,⟨he,hz⟩ | ⟨ad2,c2,he,hc⟩⟩:=h
 ·cases he
 ·simp only [Value.slice.injEq,Option.some.injEq,true_and] at he;obtain ⟨rfl,rfl⟩:=he;refine ⟨by simp [z0b], .inr ⟨ad.add k,c',by rw [hm],fun j u hu=>?_⟩⟩;rw [add_add'];refine hc (k+j) u ?_;simpa [z0b] using hu
theorem RdB.upto{w:World}{ad:Addr}{c n:Nat}{l:List UInt8}(h:RdB w (.slice (some ad) n c) l)(hn:n=l.length)(k:Nat)(c' m:Nat)(hm:m=(l.take k).length):RdB w (.slice (some ad) m c') (l.take k):=by
 subst hn;obtain ⟨h1,⟨he,hz⟩ | ⟨ad2,c2,he,hc⟩⟩:=h
 ·cases he
 ·simp only [Value.slice.injEq,Option.some.injEq,true_and] at he;obtain ⟨rfl,rfl⟩:=he;refine ⟨by simp [z0b], .inr ⟨ad,c',by rw [hm],fun j u hu=>hc j u ?_⟩⟩;simp only [z0b,List.map_take,List.getElem?_take] at hu ⊢;split at hu
  ·exact hu
  ·cases hu
theorem RdB.rest{w:World}{ad:Addr}{c n:Nat}{l:List UInt8}(h:RdB w (.slice (some ad) n c) l)(hn:n=l.length)(hc:n≤c)(k:Nat)(c' m:Nat)(hm:m=(l.drop k).length):
  RdB w (.slice (if c=k then some ad else some ⟨ad.block,ad.off+k,none⟩) m c') (l.drop k):=by
 by_cases hk:k<l.length
 ·rw [if_neg (by omega)];obtain ⟨b,off,c2,he,_⟩:=RdB.at (l:=l) (k:=0) (by rw [hn] at h;exact h) (by omega);simp only [Value.slice.injEq,Option.some.injEq] at he;obtain ⟨he,_⟩:=he;subst he;have h2:=h.from hn k c' m hm (by omega)
  have e:(⟨b,off,none⟩:Addr).add k=⟨b,off+k,none⟩:=by unfold Addr.add;split<;>simp_all
  rw [e] at h2;exact h2
 ·have e:l.drop k= []:=List.drop_of_length_le (by omega);rw [e] at hm ⊢;subst hm;have:∃A,(if c=k then some ad else some ⟨ad.block,ad.off+k,none⟩)=some A:=by split<;>exact ⟨_,rfl⟩
  obtain ⟨A,hA⟩:=this;rw [hA];exact ⟨rfl, .inr ⟨A,c',rfl,fun j u hu=>by simp [z0b] at hu⟩⟩
theorem z2Y(ad:Addr)(c k m c':Nat):(Value.slice (if c=k then some ad else some ⟨ad.block,ad.off+k,none⟩) m c').ownBlock=some ad.block:=by
 split<;>rfl
theorem z0t{w:World}{b:Nat}{v:Value}{t:TypeId}(h:w.heap[b]? =some (.cells #[v] t)):w.cell? ⟨b,0,none⟩=some v∧w.frozen? ⟨b,0,none⟩=false∧b<w.heap.size:=by
 refine ⟨by simp [World.cell?,h],by simp [World.frozen?,h],(Array.getElem?_eq_some_iff.1 h).1⟩
end
end Go.Proofs.YtfcnapnopdomhaaGreatDoor

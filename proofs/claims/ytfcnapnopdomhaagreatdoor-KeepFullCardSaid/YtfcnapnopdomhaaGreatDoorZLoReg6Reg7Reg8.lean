/-
  What a call may turn (Only), what stays as long as some blocks stay (Kept), and the blocks of a call's own where some old ones may be other (LocS).
-/
import Derived.Test.YtfcnapnopdomhaaGreatDoorZHqSeANoCNoD
import Derived.Laws.StructEq
namespace Go.Proofs.YtfcnapnopdomhaaGreatDoor
set_option linter.unusedSimpArgs false
set_option linter.unusedVariables false
set_option maxRecDepth 100000
set_option maxHeartbeats 12800000
open Go.RowKit
theorem y2j{fn:Func}{t0:Tmp}(h:fn.results= #[.cell t0 42])(tmps:Array Value)(w:World)(r0:Nat)(x0_0 x0_1 x0_2:Value)(h0:tmps.getD t0 undef= .pointer (some ⟨r0,0,none⟩))(hg0:w.heap[r0]? =some (.cells #[x0_0,x0_1,x0_2] 42 (0,0)))(hx0:([x0_0,x0_1,x0_2].all Value.oneCell')=true):
  (results fn tmps).run Tryz.prog w= .ok (.agg #[x0_0,x0_1,x0_2]) w:=by
 simp only [List.all_cons,List.all_nil,Bool.and_true,Bool.and_eq_true] at hx0;have c0_0:w.cell? ⟨r0,0,none⟩=some x0_0:=by simp [World.cell?,hg0]
 have c0_1:w.cell? ⟨r0,1,none⟩=some x0_1:=by simp [World.cell?,hg0]
 have c0_2:w.cell? ⟨r0,2,none⟩=some x0_2:=by simp [World.cell?,hg0]
 simp only [Array.getD_eq_getD_getElem?] at h0;simp [results,h,go_sem,c0_0,c0_1,c0_2,h0]
abbrev z3D (p:Nat×Nat×Nat):Value:= .agg #[.int .u32 (p.1:Nat), .int .u32 (p.2.1:Nat), .int .u32 (p.2.2:Nat)]
structure z0s (S:Nat→Prop) (w w':World):Prop where
 os:w'.os=w.os
 tape:w'.tape=w.tape
 output:w'.output=w.output
 size:w.heap.size≤w'.heap.size
 block:∀k,k<w.heap.size→¬S k→w'.heap[k]? =w.heap[k]?
theorem z0s.of_below{S:Nat→Prop}{w w':World}(h:Below w.heap.size w w'):z0s S w w':=⟨h.os,h.tape,h.output,h.size,fun k hk _=>h.block k hk⟩
theorem z0s.refl(S:Nat→Prop)(w:World):z0s S w w:=z0s.of_below (Below.refl _ _)
theorem z0s.trans{S S':Nat→Prop}{a b c:World}(h:z0s S a b)(k:z0s S' b c)(hs:∀i,S' i→S i∨a.heap.size≤i):z0s S a c:=
 ⟨k.os.trans h.os,k.tape.trans h.tape,k.output.trans h.output,Nat.le_trans h.size k.size,fun i hi hn=>(k.block i (Nat.lt_of_lt_of_le hi h.size) fun e=>by
  rcases hs i e with h1 | h1
  ·exact hn h1
  ·omega).trans (h.block i hi hn)⟩
theorem z0s.mono{S S':Nat→Prop}{w w':World}(h:z0s S w w')(hs:∀i,S i→S' i∨w.heap.size≤i):z0s S' w w':=(z0s.refl S' w).trans h hs
theorem z0s.below{S:Nat→Prop}{w w':World}(h:z0s S w w'){B:Nat}(hB:B≤w.heap.size)(hS:∀k,S k→B≤k):Below B w w':=⟨h.os,h.tape,h.output,h.size,fun k hk=>h.block k (by omega) fun e=>by have:=hS k e;omega⟩
theorem z0s.grown{S:Nat→Prop}{w w':World}{row:Option Nat}(h:w.grownBy w' row)(hr:∀k,row=some k→S k):z0s S w w':=⟨h.os,h.tape,h.output,h.size,fun k hk hn=>h.block k hk fun e=>hn (hr k e.symm)⟩
theorem z0s.setCell{S:Nat→Prop}(w:World){a:Addr}(v:Value)(hS:S a.block):z0s S w (w.setCell a v):=⟨rfl,rfl,rfl,by simp [World.setCell],fun k hk hn=>Below.heap_setCell _ _ _ _ (fun e=>hn (by rw [e];exact hS))⟩
def Kept(T:Nat→Prop)(w:World)(P:World→Prop):Prop:=∀w':World,(∀k,T k→w'.heap[k]? =w.heap[k]?)→P w'
theorem Kept.now{T:Nat→Prop}{w:World}{P:World→Prop}(h:Kept T w P):P w:=h w fun _ _=>rfl
theorem Kept.next{T:Nat→Prop}{w w':World}{P:World→Prop}(h:Kept T w P)(hk:∀k,T k→w'.heap[k]? =w.heap[k]?):Kept T w' P:=fun w2 h2=>h w2 fun k hT=>(h2 k hT).trans (hk k hT)
theorem Kept.mono{T T':Nat→Prop}{w:World}{P:World→Prop}(h:Kept T w P)(hT:∀k,T k→T' k):Kept T' w P:=fun w' hk=>h w' fun k h1=>hk k (hT k h1)
structure z0E (S:Nat→Prop) (w0:World) (K:List (Nat×Obj)) (w:World):Prop where
 low:z0s S w0 w
 blk:∀p∈K,w.heap[p.1]? =some p.2∧w0.heap.size≤p.1
 nodup:(K.map Prod.fst).Nodup
section
variable {S:Nat→Prop} {w0 w w':World} {K:List (Nat×Obj)}
theorem z0E.start(S:Nat→Prop)(w:World):z0E S w [] w:=⟨z0s.refl _ _,(fun p hp=>by cases hp),List.nodup_nil⟩
theorem z0E.of(h:Loc w0 K w):z0E S w0 K w:=⟨z0s.of_below h.low,h.blk,h.nodup⟩
theorem z0E.lts(h:z0E S w0 K w){p:Nat×Obj}(hp:p∈K):p.1<w.heap.size:=(Array.getElem?_eq_some_iff.1 (h.blk p hp).1).1
theorem z0E.cons(h:z0E S w0 K w){g:Nat}{o:Obj}(hg:w.heap[g]? =some o)(hge:w0.heap.size≤g)(hn:∀p∈K,p.1≠g):z0E S w0 ((g,o)::K) w:=by
 refine ⟨h.low,fun p hp=>?_,?_⟩
 ·rcases List.mem_cons.1 hp with rfl | hp
  ·exact ⟨hg,hge⟩
  ·exact h.blk p hp
 ·rw [List.map_cons,List.nodup_cons];refine ⟨fun hm=>?_,h.nodup⟩;obtain ⟨p,hp,he⟩:=List.mem_map.1 hm;exact hn p hp he
theorem z0E.go(h:z0E S w0 K w){S':Nat→Prop}(ho:z0s S' w w')(h1:∀k,S' k→S k∨w0.heap.size≤k)(h2:∀p∈K,¬S' p.1):z0E S w0 K w':=
 ⟨h.low.trans ho h1,fun p hp=>⟨(ho.block p.1 (h.lts hp) (h2 p hp)).trans (h.blk p hp).1,(h.blk p hp).2⟩,h.nodup⟩
theorem z0E.call(h:z0E S w0 K w)(hb:Below w.heap.size w w'):z0E S w0 K w':=
 h.go (S':=fun _=>False) (z0s.of_below hb) (fun k hk=>hk.elim) (fun p hp hk=>hk)
theorem z0E.turn(h:z0E S w0 K w)(ho:z0s S w w')(hS:∀k,S k→k<w0.heap.size):z0E S w0 K w':=
 h.go ho (fun k hk=> .inl hk) (fun p hp hk=>by have:=hS _ hk;have:=(h.blk p hp).2;omega)
theorem z0E.new(h:z0E S w0 K w)(o:Obj):z0E S w0 ((w.heap.size,o)::K) (w.alloc o):=
 (h.call (q5 w o)).cons (j8 _ _) h.low.size (fun p hp=>by have:=h.lts hp;omega)
theorem z0E.new'(h:z0E S w0 K w)(o:Obj){n:Nat}(hn:n=w.heap.size):z0E S w0 ((n,o)::K) (w.alloc o):=by
 subst hn;exact h.new o
theorem z0E.add(h:z0E S w0 K w)(hb:Below w.heap.size w w'){g:Nat}{o:Obj}(hg:w'.heap[g]? =some o)(hge:w.heap.size≤g):z0E S w0 ((g,o)::K) w':=
 (h.call hb).cons hg (Nat.le_trans h.low.size hge) (fun p hp=>by have:=h.lts hp;omega)
theorem z0E.named(h:z0E S w0 K w):∃W,W=w∧z0E S w0 K W:=⟨w,rfl,h⟩
theorem z0E.drew(h:z0E S w0 K w):z0E S w0 K w.drew:=⟨⟨h.low.os,h.low.tape,h.low.output,h.low.size,h.low.block⟩,h.blk,h.nodup⟩
theorem z0E.get(h:z0E S w0 K w)(i:Nat){b:Nat}{o:Obj}(hi:K[i]? =some (b,o)):w.heap[b]? =some o:=(h.blk _ (List.mem_of_getElem? hi)).1
theorem z0E.lt(h:z0E S w0 K w)(i:Nat){b:Nat}{o:Obj}(hi:K[i]? =some (b,o)):b<w.heap.size:=h.lts (List.mem_of_getElem? hi)
theorem z0E.ge(h:z0E S w0 K w)(i:Nat){b:Nat}{o:Obj}(hi:K[i]? =some (b,o)):w0.heap.size≤b:=(h.blk _ (List.mem_of_getElem? hi)).2
theorem z0E.set(h:z0E S w0 K w)(i:Nat){b:Nat}{cs:Array Value}{t:TypeId}{fr:Nat×Nat}(hi:K[i]? =some (b, .cells cs t fr))(j:Nat)(v:Value):
  z0E S w0 (K.set i (b, .cells (cs.setIfInBounds j v) t fr)) (w.setCell ⟨b,j,none⟩ v):=by
 have hm:=List.mem_of_getElem? hi;have hlt:i<K.length:=(List.getElem?_eq_some_iff.1 hi).1;have hk:K[i]=(b,Obj.cells cs t fr):=(List.getElem?_eq_some_iff.1 hi).2;have hmap:(K.set i (b,Obj.cells (cs.setIfInBounds j v) t fr)).map Prod.fst=K.map Prod.fst:=by
  rw [List.map_set];have:(K.map Prod.fst)[i]'(by simpa using hlt)=b:=by rw [List.getElem_map,hk]
  simp only [←this,List.set_getElem_self]
 have hge:=(h.blk _ hm).2;refine ⟨h.low.trans (z0s.setCell (S:=fun k=>k=b) w v rfl) (fun k hk=> .inr (by subst hk;exact hge)),fun p hp=>?_,by rw [hmap];exact h.nodup⟩;obtain ⟨n,hn,hp'⟩:=List.getElem_of_mem hp;rw [List.length_set] at hn;rw [List.getElem_set] at hp';split at hp'
 ·subst hp';exact ⟨j9 (h.blk _ hm).1 j v,(h.blk _ hm).2⟩
 ·rename_i hne;subst hp';have hpk:K[n]∈K:=List.getElem_mem hn;have hb:K[n].1≠b:=fun e=>by
   have h1:=(List.getElem_inj (i:=n) (j:=i) (h₀:=by simpa using hn) (h₁:=by simpa using hlt) h.nodup).1 (by rw [List.getElem_map,List.getElem_map,hk];exact e);omega
  exact ⟨(q7 hb).trans (h.blk _ hpk).1,(h.blk _ hpk).2⟩
theorem z0E.put(h:z0E S w0 K w){b:Nat}(j:Nat)(v:Value)(hS:S b)(hlt:b<w0.heap.size):z0E S w0 K (w.setCell ⟨b,j,none⟩ v):=
 h.go (S':=fun k=>k=b) (z0s.setCell w v rfl) (fun k hk=>by subst hk;exact .inl hS) (fun p hp hk=>by have:=(h.blk p hp).2;omega)
theorem z0E.old(h:z0E S w0 K w){b:Nat}(hb:b<w0.heap.size)(hS:¬S b):w.heap[b]? =w0.heap[b]? :=h.low.block b hb hS
end
def z5n(cs:Array Value):Nat→List Value→Array Value
 | _, []=>cs
 | j,v::vs=>z5n (cs.setIfInBounds j v) (j+1) vs
theorem z0E.puts0{S:Nat→Prop}{w0:World}(i:Nat){b:Nat}{t:TypeId}{fr:Nat×Nat}:∀(vs:List Value) (j:Nat) (cs:Array Value) (K:List (Nat×Obj)) (w:World),z0E S w0 K w→K[i]? =some (b, .cells cs t fr)→z0E S w0 (K.set i (b, .cells (z5n cs j vs) t fr)) (w.setCells b j vs)
 | [],j,cs,K,w,h,hi=>by
  have:K.set i (b,Obj.cells (z5n cs j []) t fr)=K:=by
   obtain ⟨h1,h2⟩:=List.getElem?_eq_some_iff.1 hi;rw [show z5n cs j []=cs from rfl,←h2,List.set_getElem_self]
  rw [this];exact h
 | v::vs,j,cs,K,w,h,hi=>by
  have h2:=z0E.puts0 i vs (j+1) _ _ _ (h.set i hi j v) (z3Z hi);rw [z1f] at h2;exact h2
theorem z0E.puts{S:Nat→Prop}{w0 w:World}{K:List (Nat×Obj)}(h:z0E S w0 K w)(i:Nat){b:Nat}{t:TypeId}{fr:Nat×Nat}(vs:List Value)(j:Nat)(cs:Array Value)(hi:K[i]? =some (b, .cells cs t fr)):z0E S w0 (K.set i (b, .cells (z5n cs j vs) t fr)) (w.setCells b j vs):=z0E.puts0 i vs j cs K w h hi
theorem z0s.setCells{S:Nat→Prop}{b:Nat}(hS:S b):∀(vs:List Value) (j:Nat) (w:World),z0s S w (w.setCells b j vs)
 | [],j,w=>z0s.refl _ _
 | v::vs,j,w=>(z0s.setCell (a:=⟨b,j,none⟩) w v hS).trans (z0s.setCells hS vs (j+1) _) fun _ h=> .inl h
def setAll(xs:List Value):Nat→List Value→List Value
 | _, []=>xs
 | j,v::vs=>setAll (xs.set j v) (j+1) vs
theorem z7I:∀(vs A C:List Value),C.length=vs.length→setAll (A++C) A.length vs=A++vs
 | [],A,C,h=>by rw [List.eq_nil_of_length_eq_zero h];rfl
 | v::vs,A,c::C,h=>by
  show setAll ((A++c::C).set A.length v) (A.length+1) vs=A++v::vs;have h1:(A++c::C).set A.length v=(A++ [v])++C:=by rw [List.set_append_right _ _ (Nat.le_refl _),Nat.sub_self,List.set_cons_zero,List.append_assoc];rfl
  have h2:=z7I vs (A++ [v]) C (by simpa using h);rw [List.length_append,List.length_singleton] at h2;rw [h1,h2,List.append_assoc];rfl
theorem z6m{base e size g cap n:Nat}:∀(vs:List Value) (j:Nat) (xs:List Value) (w:World),w.ownsRow base e size (.slice (some ⟨g,0,none⟩) n cap) n xs→(w.setCells g j vs).ownsRow base e size (.slice (some ⟨g,0,none⟩) n cap) n (setAll xs j vs)
 | [],j,xs,w,h=>h
 | v::vs,j,xs,w,h=>z6m vs (j+1) _ _ (h.stored j v).1
theorem z2d{b k:Nat}(h:k≠b):∀(vs:List Value) (j:Nat) (w:World),(w.setCells b j vs).heap[k]? =w.heap[k]?
 | [],j,w=>rfl
 | v::vs,j,w=>(z2d h vs (j+1) _).trans (q7 h)
theorem size_setCells{b:Nat}:∀(vs:List Value) (j:Nat) (w:World),(w.setCells b j vs).heap.size=w.heap.size
 | [],j,w=>rfl
 | v::vs,j,w=>(size_setCells vs (j+1) _).trans (by simp [World.setCell])
section
variable {P:Program} {w:World} {a:Act} {op:Oper} {K:Act→World→Prop} {Q:Exit→Act→World→Prop}
theorem z9O(g o j:Nat):(⟨g,o,none⟩:Addr).add j=⟨g,o+j,none⟩:=by unfold Addr.add;split<;>simp_all
def z7q:TypeDesc→Bool
 | .struct _ | .array _ _=>true
 | _=>false
theorem z6P(w:World)(g o:Nat)(ty:TypeId)(vs:Array Value)(hc:∀j v,vs[j]? =some v→w.cell? ⟨g,o+j,none⟩=some v)
  (hu:(P.underlying ty).map z7q=some true) (hi:(P.info? ty).map (·.size)=some vs.size):(loadVar ty ⟨g,o,none⟩).run P w= .ok (.agg vs) w:=by
 have hl:(loadCells ⟨g,o,none⟩ vs.toList.length).run P w= .ok vs.toList.toArray w:=
  run_loadCells_list (P:=P) w ⟨g,o,none⟩ vs.toList (fun j v hv=>by rw [z9O];exact hc j v (by simpa using hv))
 obtain ⟨d,hd,hd2⟩:=Option.map_eq_some_iff.1 hu;cases hq:P.info? ty with
 | none=>simp [hq] at hi
 | some i=>
  have hs:i.size=vs.size:=by simpa [hq] using hi
  have hagg:(isAgg ty).run P w= .ok true w:=by
   unfold isAgg;rw [Sem.run_bind,run_underlying hd w];cases d<;>simp_all [z7q]
  simp only [Array.length_toList,Array.toArray_toList] at hl;simp [loadVar,Sem.run_bind,hagg,sizeOf,typeInfo,hq,hs,hl]
theorem z9C(w:World)(g o:Nat)(ty:TypeId)(vs:Array Value)(hc:∀j,j<vs.size→(w.cell? ⟨g,o+j,none⟩).isSome=true)(hf:∀j,w.frozen? ⟨g,j,none⟩=false)
  (hi:(P.info? ty).map (·.size)=some vs.size) (h1:vs.all (·.oneCell')=true):(storeVar ty ⟨g,o,none⟩ (.agg vs)).run P w= .ok () (w.setCells g o vs.toList):=by
 have:=run_storeCells_cells (P:=P) g o vs.toList 0 w (fun j hj=>by simpa using hc j (by simpa using hj)) (fun j _=>hf _) (fun v hv=>(Array.all_eq_true_iff_forall_mem.1 h1) v (by simpa using hv));simp only [Nat.add_zero] at this;cases hq:P.info? ty with
 | none=>simp [hq] at hi
 | some i=>
  have hs:vs.size=i.size:=by simp [hq] at hi;omega
  simp [storeVar,sizeOf,typeInfo,hq,Value.cells,hs,this]
theorem z1M{ρ:Operand→Value}(ty:TypeId)(x:Operand)(ho:op.op= .load ty x)(g o:Nat)(hx:ρ x= .pointer (some ⟨g,o,none⟩))(vs:Array Value)(hc:∀j v,vs[j]? =some v→w.cell? ⟨g,o+j,none⟩=some v)
  (hu:(P.underlying ty).map z7q=some true) (hi:(P.info? ty).map (·.size)=some vs.size):(execOp ρ op).run P w= .ok (.value (.agg vs)) w:=by
 unfold execOp;simp only [ho,hx,Instr.loadAt,Instr.sureAddr,Sem.run_bind,Sem.run_pure,Result.andThen_ok,z6P w g o ty vs hc hu hi]
theorem y5P(ty:TypeId)(x:Operand)(ho:op.op= .load ty x)(g o:Nat)(hx:a.eval x= .pointer (some ⟨g,o,none⟩))(vs:Array Value)(hc:∀j v,vs[j]? =some v→w.cell? ⟨g,o+j,none⟩=some v)
  (hu:(P.underlying ty).map z7q=some true) (hi:(P.info? ty).map (·.size)=some vs.size) (h:K (a.put op.dst (.agg vs)) w):op.wp P a w K Q:=by
 unfold Oper.wp;rw [z1M ty x ho g o hx vs hc hu hi];exact h
theorem z1N(ty:TypeId)(x y:Operand)(ho:op.op= .store ty x y)(g o:Nat)(hx:a.eval x= .pointer (some ⟨g,o,none⟩))(vs:Array Value)(hy:a.eval y= .agg vs)
  (hc:∀j,j<vs.size→(w.cell? ⟨g,o+j,none⟩).isSome=true) (hf:∀j,w.frozen? ⟨g,j,none⟩=false) (hi:(P.info? ty).map (·.size)=some vs.size) (h1:vs.all (·.oneCell')=true)
  (h:K (a.put op.dst undef) (w.setCells g o vs.toList)):op.wp P a w K Q:=by
 unfold Oper.wp execOp;simp only [ho,hx,hy,Instr.storeAt,Instr.sureAddr,Sem.run_bind,Sem.run_pure,Result.andThen_ok,z9C w g o ty vs hc hf hi h1];exact h
theorem z0N{ops:Array Oper}{rest:List Oper}(hgd:op.guard=none)(ty:TypeId)(x:Operand)(ho:op.op= .load ty x)(g o:Nat)(hx:a.eval x= .pointer (some ⟨g,o,none⟩))(vs:Array Value)(hc:∀j v,vs[j]? =some v→w.cell? ⟨g,o+j,none⟩=some v)
  (hu:(P.underlying ty).map z7q=some true) (hi:(P.info? ty).map (·.size)=some vs.size) (h:wpList P ops Q rest (a.put op.dst (.agg vs)) w):wpList P ops Q (op::rest) a w:=
 wpList_plain hgd fun _ hK=>y5P ty x ho g o hx vs hc hu hi (hK _ _ h)
theorem z0h{ops:Array Oper}{rest:List Oper}(hgd:op.guard=none)(ty:TypeId)(x y:Operand)(ho:op.op= .store ty x y)(g o:Nat)(hx:a.eval x= .pointer (some ⟨g,o,none⟩))(vs:Array Value)(hy:a.eval y= .agg vs)
  (hc:∀j,j<vs.size→(w.cell? ⟨g,o+j,none⟩).isSome=true) (hf:∀j,w.frozen? ⟨g,j,none⟩=false) (hi:(P.info? ty).map (·.size)=some vs.size) (h1:vs.all (·.oneCell')=true)
  (h:wpList P ops Q rest (a.put op.dst undef) (w.setCells g o vs.toList)):wpList P ops Q (op::rest) a w:=
 wpList_plain hgd fun _ hK=>z1N ty x y ho g o hx vs hy hc hf hi h1 (hK _ _ h)
theorem z2a{g:Nat}{cs:Array Value}{t:TypeId}{fr:Nat×Nat}(h:w.heap[g]? =some (.cells cs t fr)):∀j v,cs[j]? =some v→w.cell? ⟨g,0+j,none⟩=some v:=fun j v hv=>by
 rw [Nat.zero_add,cell_of_row w g j cs t fr h];exact hv
end
section
variable {P:Program} {w:World} {a:Act} {o:Oper} {Q:Exit→Act→World→Prop}
theorem z2l{ops:Array Oper}{rest:List Oper}(hgd:o.guard=none)(s x:Operand)(t:TypeId)
  (ho:o.op= .call {callee:= .builtin .append,args:= #[s,x],argTypes:= #[t,t]})
  (base:Nat) (e:TypeId) (i:TypeInfo) (z:Value) (size bytes:Nat) (ht:P.underlying t=some (.slice e)) (hi:P.info? e=some i) (hz:i.zero=some z)
  (hsize:i.size=size) (hby:i.bytes=bytes) (hzs:z.cells.size=size) (hsz:0<size)
  (ad:Option Addr) (n cap:Nat) (xs:List Value) (hs:a.eval s= .slice ad n cap) (hown:w.ownsRow base e size (.slice ad n cap) n xs)
  (xv:Value) (m:Nat) (news:List Value) (hx:a.eval x=xv) (hrd:Rd w xv size m news) (hm:0<m) (h1:∀u∈news,u.oneCell'=true)
  (h63:n+m≤maxLen) (hbytes:(n+m)*bytes≤140737488355328) (hbase:base≤w.heap.size)
  (h:∀g' c' w',w'.ownsRow base e size (.slice (some ⟨g',0,none⟩) (n+m) c') (n+m) (xs++news)→w.grownBy w' (Value.slice ad n cap).ownBlock→((Value.slice ad n cap).ownBlock=some g'∨g'=w.heap.size)→wpList P ops Q rest (a.put o.dst (.slice (some ⟨g',0,none⟩) (n+m) c')) w'):wpList P ops Q (o::rest) a w:=by
 refine z1J hgd s x t ho base e i z size bytes ht hi hz hsize hby hzs hsz (.slice ad n cap) n xs hs hown xv m news hx hrd h1 h63 hbytes hbase fun v' w' h2 h3 h4 h5=>?_;obtain ⟨g',c',rfl, -⟩:=z4N h2 (fun e=>by have:=(h4.1 e).2;omega);refine h g' c' w' h2 h3 ?_;rcases h5 with h5 | h5
 ·exact .inl h5.symm
 ·simp only [Value.ownBlock,Option.some.injEq] at h5;exact .inr h5
end
theorem z0D{P:Program}{c:Code}{Q:Exit→Act→World→Prop}{a:Act}{w w':World}(e:w'=w)(h:c.wp P Q a w'):c.wp P Q a w:=e▸h
theorem z8G{P:Program}{ops:Array Oper}{l:List Oper}{Q:Exit→Act→World→Prop}{a:Act}{w w':World}(e:w'=w)(h:wpList P ops Q l a w'):wpList P ops Q l a w:=e▸h
theorem y0F:∀(vs:List Value) (j:Nat) (cs:List Value),j+vs.length≤cs.length→z5n cs.toArray j vs=(cs.take j++vs++cs.drop (j+vs.length)).toArray
 | [],j,cs,h=>by simp [z5n]
 | v::vs,j,cs,h=>by
  simp only [List.length_cons] at h ⊢;show z5n (cs.toArray.setIfInBounds j v) (j+1) vs=_;rw [List.setIfInBounds_toArray,y0F vs (j+1) (cs.set j v) (by rw [List.length_set];omega)]
  congr 1
  rw [List.drop_set_of_lt (by omega),List.take_add_one,List.take_set_of_le (by omega),List.getElem?_set_self (by omega)];rw [show j+1+vs.length=j+(vs.length+1) by omega];simp
theorem z0E.lay{S:Nat→Prop}{w0 w:World}{K K':List (Nat×Obj)}(i:Nat){b:Nat}{t:TypeId}{fr:Nat×Nat}{cs cs':List Value}(h:z0E S w0 K w)(j:Nat)(vs:List Value)(hi:K[i]? =some (b, .cells cs.toArray t fr))(hj:Nat.ble (j+vs.length) cs.length=true)
  (hcs:cs'=cs.take j++vs++cs.drop (j+vs.length)) (hK:K'=K.set i (b, .cells cs'.toArray t fr)):z0E S w0 K' (w.setCells b j vs):=by
 have:=z0E.puts0 i vs j _ K w h hi;rw [y0F vs j cs (Nat.le_of_ble_eq_true hj),←hcs,←hK] at this;exact this
theorem z2F{P:Program}{ops:Array Oper}{rest:List Oper}{o:Oper}{a:Act}{w:World}{Q:Exit→Act→World→Prop}(hw:Region.wanted o (yielded ops a.tmps)=true)(e:Value)(hx:(execOp a.eval o).run P w= .ok (.value e) w)
  (h:wpList P ops Q rest (a.put o.dst e) w):wpList P ops Q (o::rest) a w:=
 wpList_step fun K hK=>by
  rw [if_pos hw];unfold Oper.wp;rw [hx];exact hK _ _ h
theorem z4g{o:Oper}{w:World}{ρ:Operand→Value}(x y:Operand)(ty:TypeId)(ho:o.op= .binOp .eql 42 x y ty)(p q:Nat×Nat×Nat)(hx:ρ x=z3D p)(hy:ρ y=z3D q)(r:Bool)(hr:decide (p=q)=r):
  (execOp ρ o).run Tryz.prog w= .ok (.value (.bool r)) w:=by
 unfold execOp;simp only [ho,hx,hy];subst hr;obtain ⟨p1,p2,p3⟩:=p;obtain ⟨q1,q2,q3⟩:=q;by_cases h1:p1=q1
 ·by_cases h2:p2=q2
  ·by_cases h3:p3=q3
   ·subst h1 h2 h3;simp [go_sem]
   ·have:¬(p3:Int)=q3:=by omega
    simp [go_sem,h1,h2,h3,this]
  ·have:¬(p2:Int)=q2:=by omega
   simp [go_sem,h1,h2,this]
 ·have:¬(p1:Int)=q1:=by omega
  simp [go_sem,h1,this]
theorem z2V{o:Oper}{w:World}{ρ:Operand→Value}(x y:Operand)(ty:TypeId)(ho:o.op= .binOp .neq 42 x y ty)(p q:Nat×Nat×Nat)(hx:ρ x=z3D p)(hy:ρ y=z3D q)(r:Bool)(hr:decide (p≠q)=r):
  (execOp ρ o).run Tryz.prog w= .ok (.value (.bool r)) w:=by
 unfold execOp;simp only [ho,hx,hy];subst hr;obtain ⟨p1,p2,p3⟩:=p;obtain ⟨q1,q2,q3⟩:=q;by_cases h1:p1=q1
 ·by_cases h2:p2=q2
  ·by_cases h3:p3=q3
   ·subst h1 h2 h3;simp [go_sem]
   ·have:¬(p3:Int)=q3:=by omega
    simp [go_sem,h1,h2,h3,this]
  ·have:¬(p2:Int)=q2:=by omega
   simp [go_sem,h1,h2,this]
 ·have:¬(p1:Int)=q1:=by omega
  simp [go_sem,h1,this]
section
variable {P:Program} {fn:Func} {tmps:Array Value} {w:World}
theorem z8q{g:Nat}{vs:Array Value}{t ty:TypeId}{fr:Nat×Nat}(hg:w.heap[g]? =some (.cells vs t fr))(hu:(P.underlying ty).map z7q=some true)(hi:(P.info? ty).map (·.size)=some vs.size):(loadVar ty ⟨g,0,none⟩).run P w= .ok (.agg vs) w:=z6P w g 0 ty vs (z2a hg) hu hi
theorem q2v{p:Tmp}{ty:TypeId}(h:fn.results= #[.cell p ty]){g:Nat}{vs:Array Value}{t:TypeId}{fr:Nat×Nat}(hp:tmps.getD p undef= .pointer (some ⟨g,0,none⟩))(hg:w.heap[g]? =some (.cells vs t fr))(hu:(P.underlying ty).map z7q=some true)(hi:(P.info? ty).map (·.size)=some vs.size):
  (results fn tmps).run P w= .ok (.agg vs) w:=by
 have hp':tmps[p]?.getD undef= .pointer (some ⟨g,0,none⟩):=by simpa using hp
 simp [results,h,hp',asAddr,z8q hg hu hi]
theorem z9R{p q:Tmp}{ty:TypeId}(h:fn.results= #[.cell p ty, .tmp q]){g:Nat}{vs:Array Value}{t:TypeId}{fr:Nat×Nat}(hp:tmps.getD p undef= .pointer (some ⟨g,0,none⟩))(hg:w.heap[g]? =some (.cells vs t fr))(hu:(P.underlying ty).map z7q=some true)(hi:(P.info? ty).map (·.size)=some vs.size):
  (results fn tmps).run P w= .ok (.tuple #[.agg vs,tmps.getD q undef]) w:=by
 have hp':tmps[p]?.getD undef= .pointer (some ⟨g,0,none⟩):=by simpa using hp
 simp [results,h,hp',asAddr,z8q hg hu hi]
theorem z4V{p q r s:Tmp}{ty:TypeId}(h:fn.results= #[.cell p ty, .tmp q, .tmp r, .tmp s]){g:Nat}{vs:Array Value}{t:TypeId}{fr:Nat×Nat}(hp:tmps.getD p undef= .pointer (some ⟨g,0,none⟩))(hg:w.heap[g]? =some (.cells vs t fr))(hu:(P.underlying ty).map z7q=some true)(hi:(P.info? ty).map (·.size)=some vs.size):
  (results fn tmps).run P w= .ok (.tuple #[.agg vs,tmps.getD q undef,tmps.getD r undef,tmps.getD s undef]) w:=by
 have hp':tmps[p]?.getD undef= .pointer (some ⟨g,0,none⟩):=by simpa using hp
 simp [results,h,hp',asAddr,z8q hg hu hi]
theorem z9I{p q r:Tmp}{ty ty':TypeId}(h:fn.results= #[.cell p ty, .cell q ty', .tmp r]){g g':Nat}{vs vs':Array Value}{t t':TypeId}{fr fr':Nat×Nat}(hp:tmps.getD p undef= .pointer (some ⟨g,0,none⟩))(hg:w.heap[g]? =some (.cells vs t fr))(hu:(P.underlying ty).map z7q=some true)(hi:(P.info? ty).map (·.size)=some vs.size)
  (hp2:tmps.getD q undef= .pointer (some ⟨g',0,none⟩)) (hg2:w.heap[g']? =some (.cells vs' t' fr')) (hu2:(P.underlying ty').map z7q=some true) (hi2:(P.info? ty').map (·.size)=some vs'.size):
  (results fn tmps).run P w= .ok (.tuple #[.agg vs, .agg vs',tmps.getD r undef]) w:=by
 have hp':tmps[p]?.getD undef= .pointer (some ⟨g,0,none⟩):=by simpa using hp
 have hp2':tmps[q]?.getD undef= .pointer (some ⟨g',0,none⟩):=by simpa using hp2
 simp [results,h,hp',hp2',asAddr,z8q hg hu hi,z8q hg2 hu2 hi2]
end
theorem z0y{w:World}{g:Nat}{cs:Array Value}{t:TypeId}{fr:Nat×Nat}(h:w.heap[g]? =some (.cells cs t fr)){n:Nat}(hn:n=cs.size):∀j,j<n→(w.cell? ⟨g,0+j,none⟩).isSome=true:=fun j hj=>by
 subst hn;rw [z2a h j cs[j] (by simp [hj])];rfl
theorem z0B{w:World}{g:Nat}{cs:Array Value}{t:TypeId}(h:w.heap[g]? =some (.cells cs t (0,0))):∀j,w.frozen? ⟨g,j,none⟩=false:=fun j=>by simp [World.frozen?,h]
theorem z0E.toLoc{w0 w:World}{K:List (Nat×Obj)}(h:z0E (fun _=>False) w0 K w):Loc w0 K w:=⟨⟨h.low.os,h.low.tape,h.low.output,h.low.size,fun k hk=>h.low.block k hk fun e=>e⟩,h.blk,h.nodup⟩
theorem z3T{cs vs:List Value}(h:cs.length=vs.length):(laid cs 0 vs).toArray=vs.toArray:=by
 unfold laid;rw [List.take_zero,List.nil_append,Nat.zero_add,List.drop_eq_nil_of_le (by omega),List.append_nil]
theorem q0x{w:World}{g:Nat}{cs cs':Array Value}{t:TypeId}{fr:Nat×Nat}(h:w.heap[g]? =some (.cells cs t fr))(e:cs=cs'):w.heap[g]? =some (.cells cs' t fr):=e▸h
theorem setCells_eq(b:Nat):∀(vs:List Value) (o:Nat) (w:World),w.setCells b o vs={w with heap:=(w.setCells b o vs).heap}
 | [],_,_=>rfl
 | v::vs,o,w=>by
  rw [World.setCells,setCells_eq b vs (o+1) (w.setCell ⟨b,o,none⟩ v)];rfl
theorem z5e(w:World)(cs:Array Value)(t:TypeId)(vs:List Value)(h:cs.size=vs.length):(w.alloc (.cells cs t)).setCells w.heap.size 0 vs=w.alloc (.cells vs.toArray t):=by
 rw [setCells_eq];have hh:((w.alloc (.cells cs t)).setCells w.heap.size 0 vs).heap=(w.alloc (.cells vs.toArray t)).heap:=by
  apply Array.ext_getElem?;intro j;by_cases e:j=w.heap.size
  ·subst e;rw [z0I vs 0 _ cs (j8 w _) (by omega),j8,z3T (by simpa using h)]
  ·rw [z0T e];show (w.heap.push _)[j]? =(w.heap.push _)[j]?;rw [Array.getElem?_push,Array.getElem?_push,if_neg e,if_neg e]
 rw [hh];rfl
theorem q1X{P:Program}{c:Code}{Q:Exit→Act→World→Prop}{a:Act}{w0 w:World}(hb:Below w0.heap.size w0 w)(h:∀w',Below w0.heap.size w0 w'→c.wp P Q a w'):c.wp P Q a w:=h w hb
structure AlS (W:World) (i:Nat) (ty:TypeId) (Z:Array Value) (D:Nat→Bool) (v:Nat→Value) (w':World):Prop where
 low:Below W.heap.size W w'
 made:D i=true→∃g,v i= .pointer (some ⟨g,0,none⟩)∧W.heap.size≤g∧w'.heap[g]? =some (.cells Z ty (0,0))
section
variable {W w' w'':World} {i:Nat} {ty:TypeId} {Z:Array Value} {D:Nat→Bool} {v:Nat→Value}
theorem AlS.start(W:World)(i:Nat)(ty:TypeId)(Z:Array Value):AlS W i ty Z (fun _=>false) (fun _=>undef) W.drew:=⟨(Below.refl _ _).drew,fun h=>by cases h⟩
theorem AlS.call(h:AlS W i ty Z D v w')(k:Nat)(hk:k≠i)(hb:Below w'.heap.size w' w''):AlS W i ty Z (mark D k) v w'':=
 ⟨h.low.trans (hb.mono h.low.size),fun e=>by
  rw [q9 hk] at e;obtain ⟨g,h1,h2,h3⟩:=h.made e;exact ⟨g,h1,h2,(hb.block g (Array.getElem?_eq_some_iff.1 h3).1).trans h3⟩⟩
theorem AlS.make(h:AlS W i ty Z D v w'):AlS W i ty Z (mark D i) (z2P v i (.pointer (some ⟨w'.heap.size,0,none⟩))) (w'.alloc (.cells Z ty)):=
 ⟨h.low.trans ((q5 w' _).mono h.low.size),fun _=>⟨w'.heap.size,z0p _ _ _,h.low.size,j8 _ _⟩⟩
end
structure CsS (W:World) (n sz:Nat) (ty:TypeId) (y:Value) (R:Array Value→World→Prop) (D:Nat→Bool) (v:Nat→Value) (w':World):Prop where
 low:Below W.heap.size W w'
 c:D n=true→∃(p:Array Value) (F:Nat→Prop),v n= .tuple #[.agg p,y]∧p.size=sz∧p.all (·.oneCell')=true∧Kept F w' (R p)∧∀k,F k→W.heap.size≤k∧k<w'.heap.size∧(D (n+4)=true→v (n+4)≠ .pointer (some ⟨k,0,none⟩))
 m:D (n+1)=true→D n=true∧v (n+1)=v n
 e:D (n+2)=true→D n=true∧∀p,v n= .tuple #[.agg p,y]→v (n+2)= .agg p
 al:D (n+4)=true→∃g cs,v (n+4)= .pointer (some ⟨g,0,none⟩)∧W.heap.size≤g∧w'.heap[g]? =some (.cells cs ty (0,0))∧cs.size=sz∧(D (n+5)=true→v (n+2)= .agg cs)
section
variable {W w' w'':World} {n sz:Nat} {ty:TypeId} {y:Value} {R:Array Value→World→Prop} {D:Nat→Bool} {v:Nat→Value}
theorem CsS.start(W:World)(n sz:Nat)(ty:TypeId)(y:Value)(R:Array Value→World→Prop):CsS W n sz ty y R (fun _=>false) (fun _=>undef) W.drew:=
 ⟨(Below.refl _ _).drew,(fun h=>by cases h),(fun h=>by cases h),(fun h=>by cases h),fun h=>by cases h⟩
theorem CsS.other(h:CsS W n sz ty y R D v w')(k:Nat)(h0:k≠n)(h1:k≠n+1)(h2:k≠n+2)(h4:k≠n+4)(h5:k≠n+5)(hb:Below w'.heap.size w' w''):CsS W n sz ty y R (mark D k) v w'':=by
 refine ⟨h.low.trans (hb.mono h.low.size),fun e=>?_,fun e=>?_,fun e=>?_,fun e=>?_⟩
 ·rw [q9 h0] at e;rw [q9 h4];obtain ⟨p,F,g1,g2,g3,g4,g5⟩:=h.c e;exact ⟨p,F,g1,g2,g3,g4.next fun k hk=>hb.block k (g5 k hk).2.1,fun k hk=>⟨(g5 k hk).1,Nat.lt_of_lt_of_le (g5 k hk).2.1 hb.size,(g5 k hk).2.2⟩⟩
 ·rw [q9 h1] at e;rw [q9 h0];exact h.m e
 ·rw [q9 h2] at e;rw [q9 h0];exact h.e e
 ·rw [q9 h4] at e;rw [q9 h5];obtain ⟨g,cs,g1,g2,g3,g4⟩:=h.al e;exact ⟨g,cs,g1,g2,(hb.block g (Array.getElem?_eq_some_iff.1 g3).1).trans g3,g4⟩
theorem CsS.call(h:CsS W n sz ty y R D v w')(d:D n=false)(hb:Below w'.heap.size w' w'')(p:Array Value)(F:Nat→Prop)(hp:p.size=sz)(ho:p.all (·.oneCell')=true)(hR:Kept F w'' (R p))(hF:∀k,F k→w'.heap.size≤k∧k<w''.heap.size):
  CsS W n sz ty y R (mark D n) (z2P v n (.tuple #[.agg p,y])) w'':=by
 refine ⟨h.low.trans (hb.mono h.low.size),fun _=>⟨p,F,z0p _ _ _,hp,ho,hR,fun k hk=>⟨Nat.le_trans h.low.size (hF k hk).1,(hF k hk).2,fun e=>?_⟩⟩,fun e=>?_,fun e=>?_,fun e=>?_⟩
 ·rw [q9 (by omega)] at e;rw [z0c (by omega)];obtain ⟨g,cs,g1,g2,g3,g4⟩:=h.al e;rw [g1];intro e2;simp only [Value.pointer.injEq,Option.some.injEq,Addr.mk.injEq,and_true] at e2;have:=(Array.getElem?_eq_some_iff.1 g3).1;have:=(hF k hk).1;omega
 ·rw [q9 (by omega)] at e;have:=(h.m e).1;rw [d] at this;cases this
 ·rw [q9 (by omega)] at e;have:=(h.e e).1;rw [d] at this;cases this
 ·rw [q9 (by omega)] at e;rw [q9 (by omega),z0c (by omega),z0c (by omega)];obtain ⟨g,cs,g1,g2,g3,g4⟩:=h.al e;exact ⟨g,cs,g1,g2,(hb.block g (Array.getElem?_eq_some_iff.1 g3).1).trans g3,g4⟩
theorem CsS.move(h:CsS W n sz ty y R D v w')(d:D n=true):CsS W n sz ty y R (mark D (n+1)) (z2P v (n+1) (v n)) w':=by
 refine ⟨h.low,fun e=>?_,fun _=>⟨by rw [q9 (by omega)];exact d,by rw [z0p,z0c (by omega)]⟩,fun e=>?_,fun e=>?_⟩
 ·rw [q9 (by omega),z0c (by omega),z0c (by omega)];exact h.c d
 ·rw [q9 (by omega)] at e;rw [q9 (by omega),z0c (by omega),z0c (by omega)];exact h.e e
 ·rw [q9 (by omega)] at e;rw [q9 (by omega),z0c (by omega),z0c (by omega)];exact h.al e
theorem CsS.ext(h:CsS W n sz ty y R D v w')(d:D n=true){p:Array Value}(hp:v n= .tuple #[.agg p,y])(d5:D (n+5)=false):CsS W n sz ty y R (mark D (n+2)) (z2P v (n+2) (.agg p)) w':=by
 refine ⟨h.low,fun e=>?_,fun e=>?_,fun _=>⟨by rw [q9 (by omega)];exact d,fun q hq=>?_⟩,fun e=>?_⟩
 ·rw [q9 (by omega),z0c (by omega),z0c (by omega)];exact h.c d
 ·rw [q9 (by omega)] at e;rw [q9 (by omega),z0c (by omega),z0c (by omega)];exact h.m e
 ·rw [z0c (by omega),hp] at hq;rw [z0p];simp only [Value.tuple.injEq] at hq;have h3:=congrArg (fun a:Array Value=>a[0]?) hq;simpa using h3
 ·rw [q9 (by omega)] at e;obtain ⟨g,cs,g1,g2,g3,g4,g5⟩:=h.al e;refine ⟨g,cs,by rw [z0c (by omega)];exact g1,g2,g3,g4,fun e5=>?_⟩;rw [q9 (by omega),d5] at e5;cases e5
theorem CsS.make(h:CsS W n sz ty y R D v w')(d5:D (n+5)=false){Z:Array Value}(hZ:Z.size=sz):CsS W n sz ty y R (mark D (n+4)) (z2P v (n+4) (.pointer (some ⟨w'.heap.size,0,none⟩))) (w'.alloc (.cells Z ty)):=by
 have hb:=q5 w' (.cells Z ty);refine ⟨h.low.trans (hb.mono h.low.size),fun e=>?_,fun e=>?_,fun e=>?_,fun _=>⟨w'.heap.size,Z,z0p _ _ _,h.low.size,j8 _ _,hZ,fun e5=>?_⟩⟩
 ·rw [q9 (by omega)] at e;obtain ⟨p,F,g1,g2,g3,g4,g5⟩:=h.c e;refine ⟨p,F,by rw [z0c (by omega)];exact g1,g2,g3,g4.next fun k hk=>hb.block k (g5 k hk).2.1,fun k hk=>⟨(g5 k hk).1,Nat.lt_of_lt_of_le (g5 k hk).2.1 hb.size,fun _=>?_⟩⟩;rw [z0p];intro e2;simp only [Value.pointer.injEq,Option.some.injEq,Addr.mk.injEq,and_true] at e2;have:=(g5 k hk).2.1;omega
 ·rw [q9 (by omega)] at e;rw [q9 (by omega),z0c (by omega),z0c (by omega)];exact h.m e
 ·rw [q9 (by omega)] at e;rw [q9 (by omega),z0c (by omega),z0c (by omega)];exact h.e e
 ·rw [q9 (by omega),d5] at e5;cases e5
theorem CsS.store(h:CsS W n sz ty y R D v w')(d2:D (n+2)=true)(d4:D (n+4)=true){g:Nat}(hg:v (n+4)= .pointer (some ⟨g,0,none⟩)){p:Array Value}(hp:v (n+2)= .agg p)(hps:p.size=sz):CsS W n sz ty y R (mark D (n+5)) v (w'.setCells g 0 p.toList):=by
 obtain ⟨g',cs,g1,g2,g3,g4,g5⟩:=h.al d4;rw [hg] at g1;simp only [Value.pointer.injEq,Option.some.injEq,Addr.mk.injEq,and_true] at g1;subst g1;have hb:∀k,k≠g→(w'.setCells g 0 p.toList).heap[k]? =w'.heap[k]? :=fun k hk=>z0T hk _ _ _;have hsz:(w'.setCells g 0 p.toList).heap.size=w'.heap.size:=size_setCells _ _ _;have ho:=z0s.setCells (S:=fun k=>k=g) (b:=g) rfl p.toList 0 w';refine ⟨h.low.trans (z0s.below ho h.low.size (fun k hk=>by omega)),fun e=>?_,fun e=>?_,fun e=>?_,fun e=>?_⟩
 ·rw [q9 (by omega)] at e;obtain ⟨p',F,k1,k2,k3,k4,k5⟩:=h.c e;refine ⟨p',F,k1,k2,k3,k4.next fun k hk=>hb k fun e=>?_,fun k hk=>⟨(k5 k hk).1,by rw [hsz];exact (k5 k hk).2.1,fun _=>(k5 k hk).2.2 d4⟩⟩;subst e;exact (k5 _ hk).2.2 d4 hg
 ·rw [q9 (by omega)] at e;rw [q9 (by omega)];exact h.m e
 ·rw [q9 (by omega)] at e;rw [q9 (by omega)];exact h.e e
 ·refine ⟨g,p,hg,g2,?_,hps,fun _=>hp⟩;rw [z0I p.toList 0 _ _ g3 (by simp;omega),z3T (by simp;omega)]
theorem CsS.value(h:CsS W n sz ty y R D v w')(k:Nat)(u:Value)(h0:k≠n)(h1:k≠n+1)(h2:k≠n+2)(h4:k≠n+4):CsS W n sz ty y R D (z2P v k u) w':=by
 refine ⟨h.low,?_,?_,?_,?_⟩
 ·rw [z0c h0,z0c h4];exact h.c
 ·rw [z0c h0,z0c h1];exact h.m
 ·rw [z0c h0,z0c h2];exact h.e
 ·rw [z0c h2,z0c h4];exact h.al
end
structure CfS (W:World) (n sz:Nat) (y:Value) (R:Array Value→World→Prop) (g:Nat) (ty:TypeId) (C:List Value) (o:Nat) (D:Nat→Bool) (v:Nat→Value) (w':World):Prop where
 low:z0s (fun k=>k=g) W w'
 c:D n=true→∃(p:Array Value) (F:Nat→Prop),v n= .tuple #[.agg p,y]∧p.size=sz∧p.all (·.oneCell')=true∧Kept F w' (R p)∧∀k,F k→W.heap.size≤k∧k<w'.heap.size
 m:D (n+1)=true→D n=true∧v (n+1)=v n
 e:D (n+2)=true→D n=true∧∀p,v n= .tuple #[.agg p,y]→v (n+2)= .agg p
 b0:D (n+5)=false→w'.heap[g]? =some (.cells C.toArray ty (0,0))
 b1:D (n+5)=true→∃p:Array Value,v (n+2)= .agg p∧w'.heap[g]? =some (.cells (laid C o p.toList).toArray ty (0,0))
section
variable {W w' w'':World} {n sz g o:Nat} {ty:TypeId} {y:Value} {R:Array Value→World→Prop} {C:List Value} {D:Nat→Bool} {v:Nat→Value}
theorem CfS.start(h:W.heap[g]? =some (.cells C.toArray ty (0,0))):CfS W n sz y R g ty C o (fun _=>false) (fun _=>undef) W.drew:=
 ⟨⟨rfl,rfl,rfl,Nat.le_refl _,fun _ _ _=>rfl⟩,(fun h=>by cases h),(fun h=>by cases h),(fun h=>by cases h),(fun _=>h),fun h=>by cases h⟩
theorem CfS.glt(h:CfS W n sz y R g ty C o D v w'):g<w'.heap.size:=by
 cases hd:D (n+5) with
 | false=>exact (Array.getElem?_eq_some_iff.1 (h.b0 hd)).1
 | true=>obtain ⟨p, -,h2⟩:=h.b1 hd;exact (Array.getElem?_eq_some_iff.1 h2).1
theorem CfS.other(h:CfS W n sz y R g ty C o D v w')(k:Nat)(h0:k≠n)(h1:k≠n+1)(h2:k≠n+2)(h5:k≠n+5)(hb:Below w'.heap.size w' w''):CfS W n sz y R g ty C o (mark D k) v w'':=by
 refine ⟨h.low.trans (S':=fun _=>False) (z0s.of_below hb) (fun _ hk=>hk.elim),fun e=>?_,fun e=>?_,fun e=>?_,fun e=>?_,fun e=>?_⟩
 ·rw [q9 h0] at e;obtain ⟨p,F,g1,g2,g3,g4,g5⟩:=h.c e;exact ⟨p,F,g1,g2,g3,g4.next fun k hk=>hb.block k (g5 k hk).2,fun k hk=>⟨(g5 k hk).1,Nat.lt_of_lt_of_le (g5 k hk).2 hb.size⟩⟩
 ·rw [q9 h1] at e;rw [q9 h0];exact h.m e
 ·rw [q9 h2] at e;rw [q9 h0];exact h.e e
 ·rw [q9 h5] at e;exact (hb.block g h.glt).trans (h.b0 e)
 ·rw [q9 h5] at e;obtain ⟨p,k1,k2⟩:=h.b1 e;exact ⟨p,k1,(hb.block g h.glt).trans k2⟩
theorem CfS.call(h:CfS W n sz y R g ty C o D v w')(d:D n=false)(hb:Below w'.heap.size w' w'')(p:Array Value)(F:Nat→Prop)(hp:p.size=sz)(ho:p.all (·.oneCell')=true)(hR:Kept F w'' (R p))(hF:∀k,F k→w'.heap.size≤k∧k<w''.heap.size):
  CfS W n sz y R g ty C o (mark D n) (z2P v n (.tuple #[.agg p,y])) w'':=by
 refine ⟨h.low.trans (S':=fun _=>False) (z0s.of_below hb) (fun _ hk=>hk.elim),fun _=>⟨p,F,z0p _ _ _,hp,ho,hR,fun k hk=>⟨Nat.le_trans h.low.size (hF k hk).1,(hF k hk).2⟩⟩,fun e=>?_,fun e=>?_,fun e=>?_,fun e=>?_⟩
 ·rw [q9 (by omega)] at e;have:=(h.m e).1;rw [d] at this;cases this
 ·rw [q9 (by omega)] at e;have:=(h.e e).1;rw [d] at this;cases this
 ·rw [q9 (by omega)] at e;exact (hb.block g h.glt).trans (h.b0 e)
 ·rw [q9 (by omega)] at e;obtain ⟨p,k1,k2⟩:=h.b1 e;exact ⟨p,by rw [z0c (by omega)];exact k1,(hb.block g h.glt).trans k2⟩
theorem CfS.move(h:CfS W n sz y R g ty C o D v w')(d:D n=true):CfS W n sz y R g ty C o (mark D (n+1)) (z2P v (n+1) (v n)) w':=by
 refine ⟨h.low,fun e=>?_,fun _=>⟨by rw [q9 (by omega)];exact d,by rw [z0p,z0c (by omega)]⟩,fun e=>?_,fun e=>?_,fun e=>?_⟩
 ·rw [z0c (by omega)];exact h.c d
 ·rw [q9 (by omega)] at e;rw [q9 (by omega),z0c (by omega),z0c (by omega)];exact h.e e
 ·rw [q9 (by omega)] at e;exact h.b0 e
 ·rw [q9 (by omega)] at e;rw [z0c (by omega)];exact h.b1 e
theorem CfS.ext(h:CfS W n sz y R g ty C o D v w')(d:D n=true){p:Array Value}(hp:v n= .tuple #[.agg p,y])(d5:D (n+5)=false):CfS W n sz y R g ty C o (mark D (n+2)) (z2P v (n+2) (.agg p)) w':=by
 refine ⟨h.low,fun e=>?_,fun e=>?_,fun _=>⟨by rw [q9 (by omega)];exact d,fun q hq=>?_⟩,fun e=>?_,fun e=>?_⟩
 ·rw [z0c (by omega)];exact h.c d
 ·rw [q9 (by omega)] at e;rw [q9 (by omega),z0c (by omega),z0c (by omega)];exact h.m e
 ·rw [z0c (by omega),hp] at hq;rw [z0p];simp only [Value.tuple.injEq] at hq;have h3:=congrArg (fun a:Array Value=>a[0]?) hq;simpa using h3
 ·rw [q9 (by omega)] at e;exact h.b0 e
 ·rw [q9 (by omega),d5] at e;cases e
theorem CfS.store(h:CfS W n sz y R g ty C o D v w')(hg:g<W.heap.size)(d:D n=true)(d5:D (n+5)=false){p:Array Value}(hp:v (n+2)= .agg p)(hps:o+p.size≤C.length):CfS W n sz y R g ty C o (mark D (n+5)) v (w'.setCells g o p.toList):=by
 have hb:∀k,k≠g→(w'.setCells g o p.toList).heap[k]? =w'.heap[k]? :=fun k hk=>z0T hk _ _ _;have hsz:(w'.setCells g o p.toList).heap.size=w'.heap.size:=size_setCells _ _ _;refine ⟨h.low.trans (z0s.setCells (S:=fun k=>k=g) rfl _ _ _) (fun _ hk=> .inl hk),fun e=>?_,fun e=>?_,fun e=>?_,fun e=>?_,fun _=>⟨p,hp,?_⟩⟩
 ·obtain ⟨p',F,k1,k2,k3,k4,k5⟩:=h.c d;refine ⟨p',F,k1,k2,k3,k4.next fun k hk=>hb k fun e=>?_,fun k hk=>⟨(k5 k hk).1,by rw [hsz];exact (k5 k hk).2⟩⟩;have:=(k5 k hk).1;omega
 ·rw [q9 (by omega)] at e;rw [q9 (by omega)];exact h.m e
 ·rw [q9 (by omega)] at e;rw [q9 (by omega)];exact h.e e
 ·rw [z1z] at e;cases e
 ·rw [z0I p.toList o _ _ (h.b0 d5) (by simpa using hps)]
end
structure z5z (W:World) (g1 g2:Nat) (t1 t2:TypeId) (C1 N1 C2 N2:Array Value) (a b:Nat) (D:Nat→Bool) (w':World):Prop where
 low:z0s (fun k=>k=g1∨k=g2) W w'
 b1:w'.heap[g1]? =some (.cells (if D a then N1 else C1) t1 (0,0))
 b2:w'.heap[g2]? =some (.cells (if D b then N2 else C2) t2 (0,0))
section
variable {W w' w'':World} {g1 g2:Nat} {t1 t2:TypeId} {C1 N1 C2 N2:Array Value} {a b:Nat} {D:Nat→Bool}
theorem z5z.start(h1:W.heap[g1]? =some (.cells C1 t1 (0,0)))(h2:W.heap[g2]? =some (.cells C2 t2 (0,0))):z5z W g1 g2 t1 t2 C1 N1 C2 N2 a b (fun _=>false) W.drew:=
 ⟨⟨rfl,rfl,rfl,Nat.le_refl _,fun _ _ _=>rfl⟩,h1,h2⟩
theorem z5z.other(h:z5z W g1 g2 t1 t2 C1 N1 C2 N2 a b D w')(k:Nat)(ha:k≠a)(hb:k≠b)(hw:Below w'.heap.size w' w''):z5z W g1 g2 t1 t2 C1 N1 C2 N2 a b (mark D k) w'':=
 ⟨h.low.trans (S':=fun _=>False) (z0s.of_below hw) (fun _ hk=>hk.elim),by rw [q9 ha];exact (hw.block g1 (Array.getElem?_eq_some_iff.1 h.b1).1).trans h.b1,by rw [q9 hb];exact (hw.block g2 (Array.getElem?_eq_some_iff.1 h.b2).1).trans h.b2⟩
theorem z5z.st1(h:z5z W g1 g2 t1 t2 C1 N1 C2 N2 a b D w')(hn:g1≠g2)(hab:a≠b)(hs:C1.size=N1.size):z5z W g1 g2 t1 t2 C1 N1 C2 N2 a b (mark D a) (w'.setCells g1 0 N1.toList):=by
 have hsz:(if D a then N1 else C1).size=N1.size:=by split<;>simp [hs]
 refine ⟨h.low.trans (z0s.setCells (S:=fun k=>k=g1∨k=g2) (.inl rfl) _ _ _) (fun _ hk=> .inl hk),?_,?_⟩
 ·rw [z1z,z0I N1.toList 0 _ _ h.b1 (by simp [hsz]),z3T (by simp [hsz])];simp
 ·rw [q9 hab,z0T (Ne.symm hn)];exact h.b2
theorem z5z.st2(h:z5z W g1 g2 t1 t2 C1 N1 C2 N2 a b D w')(hn:g1≠g2)(hab:a≠b)(hs:C2.size=N2.size):z5z W g1 g2 t1 t2 C1 N1 C2 N2 a b (mark D b) (w'.setCells g2 0 N2.toList):=by
 have hsz:(if D b then N2 else C2).size=N2.size:=by split<;>simp [hs]
 refine ⟨h.low.trans (z0s.setCells (S:=fun k=>k=g1∨k=g2) (.inr rfl) _ _ _) (fun _ hk=> .inl hk),?_,?_⟩
 ·rw [q9 (Ne.symm hab),z0T hn];exact h.b1
 ·rw [z1z,z0I N2.toList 0 _ _ h.b2 (by simp [hsz]),z3T (by simp [hsz])];simp
theorem z5z.size1(h:z5z W g1 g2 t1 t2 C1 N1 C2 N2 a b D w')(hs:C1.size=N1.size):∀j,j<N1.size→(w'.cell? ⟨g1,0+j,none⟩).isSome=true:=z0y h.b1 (by split<;>simp [hs])
theorem z5z.size2(h:z5z W g1 g2 t1 t2 C1 N1 C2 N2 a b D w')(hs:C2.size=N2.size):∀j,j<N2.size→(w'.cell? ⟨g2,0+j,none⟩).isSome=true:=z0y h.b2 (by split<;>simp [hs])
end
structure z5D (W:World) (g:Nat) (ty:TypeId) (C N:Array Value) (k:Nat) (D:Nat→Bool) (w':World):Prop where
 low:z0s (fun x=>x=g) W w'
 b:w'.heap[g]? =some (.cells (if D k then N else C) ty (0,0))
section
variable {W w' w'':World} {g:Nat} {ty:TypeId} {C N:Array Value} {k:Nat} {D:Nat→Bool}
theorem z5D.start(h:W.heap[g]? =some (.cells C ty (0,0))):z5D W g ty C N k (fun _=>false) W.drew:=⟨⟨rfl,rfl,rfl,Nat.le_refl _,fun _ _ _=>rfl⟩,h⟩
theorem z5D.other(h:z5D W g ty C N k D w')(j:Nat)(hj:j≠k)(hw:Below w'.heap.size w' w''):z5D W g ty C N k (mark D j) w'':=
 ⟨h.low.trans (S':=fun _=>False) (z0s.of_below hw) (fun _ hk=>hk.elim),by rw [q9 hj];exact (hw.block g (Array.getElem?_eq_some_iff.1 h.b).1).trans h.b⟩
theorem z5D.set(h:z5D W g ty C N k D w')(d:D k=false)(o:Nat)(v:Value)(hN:C.setIfInBounds o v=N):z5D W g ty C N k (mark D k) (w'.setCell ⟨g,o,none⟩ v):=by
 refine ⟨h.low.trans (z0s.setCell (S:=fun x=>x=g) (a:=⟨g,o,none⟩) w' v rfl) (fun _ hk=> .inl hk),?_⟩;have hb:=h.b;rw [d] at hb;rw [z1z,j9 hb o v];simp [hN]
theorem z5D.setAll(h:z5D W g ty C N k D w')(d:D k=false)(hs:C.size=N.size):z5D W g ty C N k (mark D k) (w'.setCells g 0 N.toList):=by
 have hb:=h.b;rw [d] at hb;refine ⟨h.low.trans (z0s.setCells (S:=fun x=>x=g) rfl _ _ _) (fun _ hk=> .inl hk),?_⟩;rw [z1z,z0I N.toList 0 _ _ hb (by simp [hs]),z3T (by simp [hs])];simp
theorem z5D.lt(h:z5D W g ty C N k D w'):g<w'.heap.size:=(Array.getElem?_eq_some_iff.1 h.b).1
theorem z5D.cell(h:z5D W g ty C N k D w')(j:Nat){u:Value}(h1:C[j]? =some u)(h2:N[j]? =some u):w'.cell? ⟨g,j,none⟩=some u:=by
 have hb:=h.b;have e:(if D k then N else C)[j]? =Option.some u:=by split<;>assumption
 simpa [World.cell?,hb] using e
theorem z5D.frz(h:z5D W g ty C N k D w')(j:Nat):w'.frozen? ⟨g,j,none⟩=false:=z0B h.b j
theorem z5D.some(h:z5D W g ty C N k D w')(hs:C.size=N.size){j:Nat}(hj:j<N.size):(w'.cell? ⟨g,j,none⟩).isSome=true:=by
 have h1:=z0y h.b (n:=N.size) (by split<;>simp [hs]) j hj
 rwa [Nat.zero_add] at h1
end
end Go.Proofs.YtfcnapnopdomhaaGreatDoor

/-
  The walk of draymanlaw12's Lay.
-/
import Derived.Test.YtfcnapnopdomhaaGreatDoorZKeFKfMKnBBkO
import Derived.Deep.DeepCutAuto
namespace Go.Proofs.YtfcnapnopdomhaaGreatDoor
set_option linter.unusedSimpArgs false
set_option linter.unusedVariables false
set_option maxRecDepth 100000
set_option maxHeartbeats 12800000
open Go.RowKit Go.Maps
structure LOp where
 s:Nat
 t:Int
 v:Nat
structure LOp.Ok (o:LOp):Prop where
 s:o.s<4294967296
 x:z1K.Ok ⟨o.t,o.v⟩
def y0M(w:World)(a:Option Addr)(n:Nat)(L:List LOp):Prop:=n=L.length∧∀(k:Nat) (o:LOp),L[k]? =some o→∃g off,a=some ⟨g,off,none⟩∧g<w.heap.size∧w.cell? ⟨g,off+k*17+1,none⟩=some (.int .u32 o.s)∧w.cell? ⟨g,off+k*17+2,none⟩=some (.int .i64 o.t)∧w.cell? ⟨g,off+k*17+3,none⟩=some (.int .u64 (o.v:Nat))
theorem y0M.low{w w':World}{a:Option Addr}{n:Nat}{L:List LOp}(h:y0M w a n L)(hb:Below w.heap.size w w'):y0M w' a n L:=
 ⟨h.1,fun k o hk=>by
  obtain ⟨g,off,e,hg,h1,h2,h3⟩:=h.2 k o hk;exact ⟨g,off,e,Nat.lt_of_lt_of_le hg hb.size,(hb.cell (p:=⟨g,off+k*17+1,none⟩) hg).trans h1,(hb.cell (p:=⟨g,off+k*17+2,none⟩) hg).trans h2,(hb.cell (p:=⟨g,off+k*17+3,none⟩) hg).trans h3⟩⟩
structure z3W where
 id:Nat
 a:Option Addr
 c:Nat
 xs:List z1K
def z3W.v(x:z3W):Value:= .slice x.a x.xs.length x.c
def z3W.cells(x:z3W):List Value:= [.int .u32 x.id,x.v]
def z7s(id:Nat)(x:z1K):List (Nat×List z1K)→List (Nat×List z1K)
 | []=> [(id, [x])]
 | (i,l)::A=>if i=id then (i,l++ [x])::A else (i,l)::z7s id x A
def z1Y(r:z0m×List (Nat×List z1K))(o:LOp):z0m×List (Nat×List z1K):=
 if z5Y r.1 (o.s%64) o.t≠0 then r else (z9y r.1 (o.s%64) ⟨o.t,o.v⟩,z7s (o.s%64) ⟨o.t,o.v⟩ r.2)
def z4j(size:Int):Nat:=1+(max size 0).toNat%24
def y5j(size:Int)(L:List LOp):z0m×List (Nat×List z1K):=L.foldl z1Y (⟨64,z4j size, []⟩, [])
theorem y0O(size:Int):1≤z4j size∧z4j size≤24:=by unfold z4j;omega
structure z8g (b:z0m) (Z n:Nat):Prop where
 most:b.most=64
 size:b.size=Z
 rise:∀id,y1G (z0f b id)
 lt:∀id,(z0f b id).cur.st.length<Z
 few:∀id,(z0f b id).done.length≤n
theorem z8g.start{Z:Nat}(hZ:1≤Z):z8g ⟨64,Z, []⟩ Z 0:=
 ⟨rfl,rfl,fun id=>y5E,fun id=>hZ,fun id=>Nat.le_refl _⟩
theorem z8g.more{b:z0m}{Z n m:Nat}(h:z8g b Z n)(hm:n≤m):z8g b Z m:=⟨h.most,h.size,h.rise,h.lt,fun id=>Nat.le_trans (h.few id) hm⟩
theorem z8g.put{b:z0m}{Z n id:Nat}{x:z1K}(hZ:1≤Z)(h:z8g b Z n)(hok:(z0f b id).Ok)(hm:z5Y b id x.t=0):z8g (z9y b id x) Z (n+1):=by
 refine ⟨h.most,h.size,fun i=>?_,fun i=>?_,fun i=>?_⟩
 ·unfold z9y;rw [z5V];split
  ·exact y9G hok (h.rise id) hm _
  ·exact h.rise i
 ·unfold z9y;rw [z5V];split
  ·have h1:=h.lt id;rw [h.size];unfold z6E;split
   ·exact hZ
   ·rename_i hc;have h2:(z3e (z0f b id).cur x).st.length=(z0f b id).cur.st.length+1:=by unfold z3e;simp
    show (z3e (z0f b id).cur x).st.length<Z;simp only [decide_eq_true_eq] at hc;omega
  ·exact h.lt i
 ·unfold z9y;rw [z5V];split
  ·exact Nat.le_trans (y0G _ _ _) (by have:=h.few id;omega)
  ·exact Nat.le_trans (h.few i) (Nat.le_succ n)
structure z3g (w0 wr:World) (bb:Nat) (b:z0m) (X:List z3W) (a:Option Addr) (m c:Nat):Prop where
 bk:∃mb E S,z0r wr bb mb E b w0.heap.size S∧(∀k,(Value.slice a m c).ownBlock=some k→¬S k)∧∀x∈X,∀k,x.v.ownBlock=some k→¬S k
 row:wr.ownsRow w0.heap.size 40 2 (.slice a m c) m (X.flatMap z3W.cells)
 len:m=X.length
 ent:∀x∈X,wr.ownsRow w0.heap.size 113 2 x.v x.xs.length (z1b x.xs)
 low:Below w0.heap.size w0 wr
theorem z3g.next{w0 wr w':World}{bb:Nat}{b:z0m}{X:List z3W}{a:Option Addr}{m c:Nat}(h:z3g w0 wr bb b X a m c)(hb:Below wr.heap.size wr w'):z3g w0 w' bb b X a m c:=by
 obtain ⟨mb,E,S,h1,h2,h3⟩:=h.bk;exact ⟨⟨mb,E,S,h1.low hb,h2,h3⟩,ownsRow_below h.row hb (Nat.le_refl _),h.len,fun x hx=>ownsRow_below (h.ent x hx) hb (Nat.le_refl _),h.low.trans (hb.mono h.low.size)⟩
theorem z3g.at{w0 wr:World}{bb:Nat}{b:z0m}{X:List z3W}{a:Option Addr}{m c:Nat}(h:z3g w0 wr bb b X a m c){k:Nat}{x:z3W}(hk:X[k]? =some x):∃g,a=some ⟨g,0,none⟩∧g<wr.heap.size∧wr.cell? ⟨g,k*2,none⟩=some (.int .u32 x.id)∧wr.cell? ⟨g,k*2+1,none⟩=some x.v:=by
 have hkl:=(List.getElem?_eq_some_iff.1 hk).1;have hm:=h.len;rcases (z0d h.row).2 with ⟨-,h2⟩ | ⟨ad,cp,h1,h2⟩
 ·omega
 ·rcases h.row.2 with ⟨e1,e2⟩ | ⟨g,cap,cur,e1,e2,e3, -⟩
  ·omega
  ·rw [e1] at h1;rw [Value.slice.injEq] at e1 h1;refine ⟨g,e1.1,(Array.getElem?_eq_some_iff.1 e3).1,?_,?_⟩
   ·have h3:=h2 (k*2) (.int .u32 x.id) (by have h9:=z9H z3W.cells 2 (fun _=>rfl) X k x hk 0 (by omega);rw [Nat.add_zero] at h9;rw [h9];rfl);rw [←Option.some.inj h1.1] at h3;have hadd:(⟨g,0,none⟩:Addr).add (k*2)=⟨g,k*2,none⟩:=by unfold Addr.add;split<;>simp_all
    rwa [hadd] at h3
   ·have h3:=h2 (k*2+1) x.v (by rw [z9H z3W.cells 2 (fun _=>rfl) X k x hk 1 (by omega)];rfl);rw [←Option.some.inj h1.1] at h3;have hadd:(⟨g,0,none⟩:Addr).add (k*2+1)=⟨g,k*2+1,none⟩:=by unfold Addr.add;split<;>simp_all
    rwa [hadd] at h3
theorem z3g.at'{w0 wr:World}{bb:Nat}{b:z0m}{X:List z3W}{a:Option Addr}{m c:Nat}(h:z3g w0 wr bb b X a m c){k:Nat}{x:z3W}(hk:X[k]? =some x):∃g,a=some ⟨g,0,none⟩∧∀w',Below wr.heap.size wr w'→g<w'.heap.size∧w'.cell? ⟨g,k*2,none⟩=some (.int .u32 x.id)∧w'.cell? ⟨g,k*2+1,none⟩=some x.v∧∀j,w'.frozen? ⟨g,j,none⟩=false:=by
 obtain ⟨g,e, -, -, -⟩:=h.at hk;subst e;refine ⟨g,rfl,fun w' hb=>?_⟩;obtain ⟨g',e',h1,h2,h3⟩:=(h.next hb).at hk;simp only [Option.some.injEq,Addr.mk.injEq,and_true] at e';subst e';refine ⟨h1,h2,h3,fun j=>?_⟩;rcases (h.next hb).row.2 with ⟨e1,e2⟩ | ⟨g2,cap,cur,e1,e2,e3, -⟩
 ·simp at e1
 ·simp only [Value.slice.injEq,Option.some.injEq,Addr.mk.injEq,and_true,true_and] at e1;obtain ⟨rfl, -⟩:=e1;exact z0B e3 j
theorem y6L{v:Value}{w:World}(h:v.ownBlock=(Value.slice none 0 0).ownBlock∨v.ownBlock=some w.heap.size):∀j,v.ownBlock=some j→w.heap.size≤j:=fun j hj=>by
 rcases h with e | e
 ·rw [e] at hj;cases hj
 ·rw [e] at hj;simp only [Option.some.injEq] at hj;exact Nat.le_of_eq hj
theorem q0q:(Tryz.prog.info? 40).map (fun i=>(i.zero,i.size,i.bytes))=some (some (.agg #[.int .u32 0, .slice none 0 0]),2,32):=by kernel_rfl
theorem z3g.book{w0 w w':World}{bb:Nat}{b b':z0m}{X:List z3W}{a:Option Addr}{m c mb:Nat}{E E':List (Int×z0C)}{S S':Nat→Prop}(h:z3g w0 w bb b X a m c)(h2:∀k,(Value.slice a m c).ownBlock=some k→¬S k)(h3:∀x∈X,∀k,x.v.ownBlock=some k→¬S k)(hS0:∀k,S k→w0.heap.size≤k)(hb':z0r w' bb mb E' b' w0.heap.size S')(ho:z0s S w w')(hS:∀k,S' k→S k∨w.heap.size≤k):z3g w0 w' bb b' X a m c:=by
 refine ⟨⟨mb,E',S',hb',fun k hk hs=>?_,fun x hx k hk hs=>?_⟩,j7 h.row fun k hk=>ho.block k (h.row.lt k hk).2 (h2 k hk),h.len,fun x hx=>j7 (h.ent x hx) fun k hk=>ho.block k ((h.ent x hx).lt k hk).2 (h3 x hx k hk),h.low.trans (ho.below h.low.size hS0)⟩
 ·rcases hS k hs with e | e
  ·exact h2 k hk e
  ·have:=(h.row.lt k hk).2;omega
 ·rcases hS k hs with e | e
  ·exact h3 x hx k hk e
  ·have:=((h.ent x hx).lt k hk).2;omega
theorem z3g.add{w0 w w':World}{bb:Nat}{b:z0m}{X:List z3W}{a a':Option Addr}{m c c' id:Nat}(h:z3g w0 w bb b X a m c)(hg:w.grownBy w' (Value.slice a m c).ownBlock)(hn:∀k,(Value.slice a' (m+1) c').ownBlock=some k→(Value.slice a m c).ownBlock=some k∨w.heap.size≤k)
  (hrow:w'.ownsRow w0.heap.size 40 2 (.slice a' (m+1) c') (m+1) (X.flatMap z3W.cells++ [.int .u32 id, .slice none 0 0])):z3g w0 w' bb b (X++ [⟨id,none,0, []⟩]) a' (m+1) c':=by
 obtain ⟨mb,E,S,h1,h2,h3⟩:=h.bk;have hne:∀x∈X,∀k,x.v.ownBlock=some k→some k≠(Value.slice a m c).ownBlock:=fun x hx k hk e=>z8n (h.ent x hx) h.row (by decide) hk e.symm;refine ⟨⟨mb,E,S,h1.keep (fun k hk=>hg.block k (h1.lo k hk).2 fun e=>h2 k e.symm hk) hg.size,fun k hk hs=>?_,fun x hx k hk hs=>?_⟩,?_,by rw [List.length_append,←h.len];rfl,fun x hx=>?_,h.low.grown hg h.low.size fun k hk=>(h.row.lt k hk).1⟩
 ·rcases hn k hk with e | e
  ·exact h2 k e hs
  ·have:=(h1.lo k hs).2;omega
 ·rcases List.mem_append.1 hx with hx | hx
  ·exact h3 x hx k hk hs
  ·rw [List.mem_singleton.1 hx] at hk;cases hk
 ·rw [List.flatMap_append];exact hrow
 ·rcases List.mem_append.1 hx with hx | hx
  ·exact j7 (h.ent x hx) fun k hk=>hg.block k ((h.ent x hx).lt k hk).2 (hne x hx k hk)
  ·rw [List.mem_singleton.1 hx];exact World.ownsRow_nil _ _ _ _
theorem z8C:∀(X:List z3W) (k:Nat) (x y:z3W),X[k]? =some x→y.id=x.id→(X.flatMap z3W.cells).set (k*2+1) y.v=(X.set k y).flatMap z3W.cells
 | [],k,x,y,h,_=>by simp at h
 | z::X,0,x,y,h,he=>by
  simp only [List.getElem?_cons_zero,Option.some.injEq] at h;subst h;rw [List.set_cons_zero,List.flatMap_cons,List.flatMap_cons];unfold z3W.cells;rw [he];rfl
 | z::X,k+1,x,y,h,he=>by
  rw [List.set_cons_succ,List.flatMap_cons,List.flatMap_cons,←z8C X k x y h he];show ([.int .u32 z.id,z.v]++X.flatMap z3W.cells).set ((k+1)*2+1) y.v= [.int .u32 z.id,z.v]++(X.flatMap z3W.cells).set (k*2+1) y.v;rw [show (k+1)*2+1=(k*2+1)+1+1 by omega];rfl
theorem z3g.put{w0 w w':World}{bb g k:Nat}{b:z0m}{X:List z3W}{m c:Nat}{x:z3W}{a':Option Addr}{c':Nat}{xs':List z1K}(h:z3g w0 w bb b X (some ⟨g,0,none⟩) m c)(hk:X[k]? =some x)(hb:Below w.heap.size w w')(hv:w'.ownsRow w0.heap.size 113 2 (.slice a' xs'.length c') xs'.length (z1b xs'))(hnew:∀j,(Value.slice a' xs'.length c').ownBlock=some j→w.heap.size≤j):
  z3g w0 (w'.setCell ⟨g,k*2+1,none⟩ (.slice a' xs'.length c')) bb b (X.set k ⟨x.id,a',c',xs'⟩) (some ⟨g,0,none⟩) m c:=by
 have h':=h.next hb
 obtain ⟨mb,E,S,h1,h2,h3⟩:=h.bk;have hgl:g<w.heap.size:=(h.row.lt g rfl).2;have hS:¬S g:=h2 g rfl;have ho:z0s (fun j=>j=g) w' (w'.setCell ⟨g,k*2+1,none⟩ (.slice a' xs'.length c')):=z0s.setCell w' _ rfl;have h1':=h1.low hb;have hge:w0.heap.size≤g:=(h.row.lt g rfl).1;have hrow:=(h'.row.stored (k*2+1) (.slice a' xs'.length c')).1;have hlen:(X.set k ⟨x.id,a',c',xs'⟩).length=X.length:=List.length_set;refine ⟨⟨mb,E,S,h1'.only ho (fun j hj e=>hS (e▸hj)),h2,fun y hy j hj hs=>?_⟩,?_,by rw [hlen];exact h.len,fun y hy=>?_,h'.low.trans (ho.below h'.low.size fun j hj=>by omega)⟩
 ·rcases List.mem_or_eq_of_mem_set hy with hy | rfl
  ·exact h3 y hy j hj hs
  ·have:=hnew j hj;have:=(h1.lo j hs).2;omega
 ·rw [←z8C X k x ⟨x.id,a',c',xs'⟩ hk rfl];exact hrow
 ·rcases List.mem_or_eq_of_mem_set hy with hy | rfl
  ·exact j7 (h'.ent y hy) fun j hj=>ho.block j ((h'.ent y hy).lt j hj).2 (fun e=>by
    subst e;exact z8n (h'.ent y hy) h'.row (by decide) hj rfl)
  ·exact j7 hv fun j hj=>ho.block j (hv.lt j hj).2 (fun e=>by
    subst e;exact z8n hv h'.row (by decide) hj rfl)
theorem y4n:∀(A:List (Nat×List z1K)) (k id:Nat) (x:z1K) (l:List z1K),A[k]? =some (id,l)→(∀j p,j<k→A[j]? =some p→p.1≠id)→z7s id x A=A.set k (id,l++ [x])
 | [],k,id,x,l,h,_=>by simp at h
 | p::A,0,id,x,l,h,_=>by
  simp only [List.getElem?_cons_zero,Option.some.injEq] at h;subst h;unfold z7s;rw [if_pos rfl,List.set_cons_zero]
 | (i,l0)::A,k+1,id,x,l,h,hn=>by
  have h0:=hn 0 (i,l0) (by omega) rfl;unfold z7s;rw [if_neg h0,List.set_cons_succ,y4n A k id x l h fun j p hj hp=>hn (j+1) p (by omega) hp]
theorem y3L:∀(A:List (Nat×List z1K)) (id:Nat) (x:z1K),(∀p∈A,p.1≠id)→z7s id x A=A++ [(id, [x])]
 | [],id,x,_=>rfl
 | (i,l0)::A,id,x,hn=>by
  unfold z7s;rw [if_neg (hn _ List.mem_cons_self),y3L A id x fun p hp=>hn p (List.mem_cons_of_mem _ hp),List.cons_append]
theorem y4f{n:Nat}:∀(A:List (Nat×List z1K)) (id:Nat) (x:z1K),(∀p∈A,p.2.length≤n)→∀p∈z7s id x A,p.2.length≤n+1
 | [],id,x,h,p,hp=>by
  unfold z7s at hp;rw [List.mem_singleton.1 hp];simp
 | (i,l)::A,id,x,h,p,hp=>by
  have h0:=h _ List.mem_cons_self;unfold z7s at hp;split at hp
  ·rcases List.mem_cons.1 hp with rfl | hp
   ·simp only [List.length_append,List.length_singleton];exact Nat.succ_le_succ h0
   ·exact Nat.le_succ_of_le (h p (List.mem_cons_of_mem _ hp))
  ·rcases List.mem_cons.1 hp with rfl | hp
   ·exact Nat.le_succ_of_le h0
   ·exact y4f A id x (fun q hq=>h q (List.mem_cons_of_mem _ hq)) p hp
theorem y6J:∀(L:List LOp) (r:z0m×List (Nat×List z1K)) (n:Nat),(∀p∈r.2,p.2.length≤n)→∀p∈(L.foldl z1Y r).2,p.2.length≤n+L.length
 | [],r,n,h=>h
 | o::L,r,n,h=>by
  rw [List.foldl_cons];have h1:∀p∈(z1Y r o).2,p.2.length≤n+1:=by
   unfold z1Y;split
   ·exact fun p hp=>Nat.le_succ_of_le (h p hp)
   ·exact y4f r.2 _ _ h
  have h2:=y6J L (z1Y r o) (n+1) h1;intro p hp;have:=h2 p hp;rw [List.length_cons];omega
theorem q3h(size:Int)(hs: -9223372036854775808≤size∧size≤9223372036854775807)(a:Option Addr)(n c:Nat)(L:List LOp)(hL:∀o∈L,o.Ok)(hn:n≤1000)(w:World)(h:y0M w a n L)(hdb:z1m w):
  Calls Tryz.prog 10 #[.int .i64 size, .slice a n c] w fun e w'=>∃bb X a m c,e= .returned (.tuple #[.pointer (some ⟨bb,0,none⟩), .slice a m c])∧z3g w w' bb (y5j size L).1 X a m c∧X.map (fun x=>(x.id,x.xs))=(y5j size L).2∧z8g (y5j size L).1 (z4j size) L.length:=by
 obtain ⟨iS,hiS,hyS0,hyS1,hyS2⟩:=info_parts z9Z;obtain ⟨iA,hiA,hyA0,hyA1,hyA2⟩:=info_parts q0q;have HNEW:=z7 (fun w'=>y9N 64 (z4j size) (by omega) (y0O size) w');have H:=z7 h;have HDB:=z7 hdb;have HL:=z7 hL;have hz:=y0O size;have hze:(z4j size:Int)=1+(max size 0)%24:=by unfold z4j;omega
 clear h hdb hL;go_enter Tryz.func10,Tryz.ntmps10;obtain ⟨Z,hZ⟩:∃Z,Z=z4j size:=⟨_,rfl⟩;unfold y5j;rw [←hZ] at HNEW hz hze ⊢;have HN2:=HNEW.out;rw [hze] at HN2;clear hZ HNEW hze;go_wp2_with fail;refine (HN2 _).mono ?_;rintro e w1 ⟨bb,mb,S,rfl,hbk,hb1⟩;have HBK:=z7 hbk;have HB1:=z7 hb1;have hP0:z8g ⟨64,Z, []⟩ Z 0:=z8g.start hz.1;have hL0:z3g w w1 bb ⟨64,Z, []⟩ [] none 0 0:=⟨⟨mb, [],S,hbk,(fun k hk=>by cases hk),fun x hx=>by cases hx⟩,World.ownsRow_nil _ _ _ _,rfl,(fun x hx=>by cases hx),hb1⟩;have HP0:=z7 hP0;have HL0:=z7 hL0;clear hbk hb1 hP0 hL0 HN2;obtain ⟨r0,hr0⟩:∃r:z0m×List (Nat×List z1K),r=(⟨64,Z, []⟩, []):=⟨_,rfl⟩;have HR0:=z7 hr0;have hnl:=z7 H.out.1;clear hr0;go_wp2_with fail;go_loopw [7,8] (fun av iv wr=>∃(i m:Nat) (a:Option Addr) (c:Nat),av= .slice a m c∧iv= .int .i64 (i:Nat)∧i≤n∧m≤i∧Hid (∃X,z3g w wr bb ((L.take i).foldl z1Y r0).1 X a m c∧X.map (fun x=>(x.id,x.xs))=((L.take i).foldl z1Y r0).2)∧Hid (z8g ((L.take i).foldl z1Y r0).1 Z i)) (fun _ iv _=>match iv with | .int _ y=>n - y.toNat | _=>0)
 case atStart=>
  have h9:((L.take 0).foldl z1Y r0)=(⟨64,Z, []⟩, []):=by rw [List.take_zero];exact HR0.out
  exact ⟨0,0,none,0,rfl,rfl,Nat.zero_le _,Nat.zero_le _,z7 ⟨[],by rw [h9];exact HL0.out,by rw [h9];rfl⟩,z7 (by rw [h9];exact HP0.out)⟩
 case round=>
  obtain ⟨i,m,aa,cc,rfl,rfl,hi,hmi,hX,hP⟩:=hrel;have hwi:IntKind.i64.wrap ((i:Int)+1)=((i+1:Nat):Int):=z0n (by omega) (by omega);by_cases hin:i<n
  ·have d1:decide ((i:Int)<(n:Int))=true:=decide_eq_true (by omega);obtain ⟨o,ho⟩:∃o,L[i]? =some o:=⟨_,List.getElem?_eq_getElem (by have:=hnl.out;omega)⟩;have hok:=HL.out o (List.mem_of_getElem? ho);obtain ⟨X,hXi,hXm⟩:=hX.out;obtain ⟨r,hr⟩:∃r,r=(L.take i).foldl z1Y r0:=⟨_,rfl⟩;have hPi:=hP.out;have hlen:∀p∈r.2,p.2.length≤i:=by
    have h9:=y6J (L.take i) r0 0 (by rw [HR0.out];intro p hp;cases hp);rw [←hr] at h9;intro p hp;have:=h9 p hp;rw [List.length_take] at this;omega
   have hstep:(L.take (i+1)).foldl z1Y r0=z1Y r o:=by rw [List.take_add_one,ho,List.foldl_append,←hr];rfl
   rw [←hr] at hXi hXm hPi;obtain ⟨b,A⟩:=r;simp only at hXi hXm hPi hlen;obtain ⟨g1,off,rfl,hg1,hq⟩:∃g1 off,a=some ⟨g1,off,none⟩∧g1<w.heap.size∧∀w',Below w.heap.size w w'→g1<w'.heap.size∧w'.cell? ⟨g1,off+i*17+1,none⟩=some (.int .u32 o.s)∧w'.cell? ⟨g1,off+i*17+2,none⟩=some (.int .i64 o.t)∧w'.cell? ⟨g1,off+i*17+3,none⟩=some (.int .u64 (o.v:Nat)):=by
    obtain ⟨g1,off,e,hg1, -⟩:=H.out.2 i o ho;refine ⟨g1,off,e,hg1,fun w' hb=>?_⟩;obtain ⟨g2,off2,e2,h1,h2,h3,h4⟩:=(H.out.low hb).2 i o ho;rw [e] at e2;simp only [Option.some.injEq,Addr.mk.injEq,and_true] at e2;obtain ⟨rfl,rfl⟩:=e2;exact ⟨h1,h2,h3,h4⟩
   obtain ⟨id,hid⟩:∃id,id=o.s%64:=⟨_,rfl⟩;have hid64:id<64:=by omega
   have hmod:((o.s:Int)%64)=(id:Int):=by omega
   have htm:=z7 (show ((o.s:Int)).tmod 64=(o.s:Int)%64 from Int.tmod_eq_emod_of_nonneg (by omega));have HQ:=z7 hq;have HQW:=z7 hq;have HXI:=z7 hXi;have HXM:=z7 hXm;have HPI:=z7 hPi;have HST:=z7 hstep;have HLEN:=z7 hlen;have HID:=z7 hid;have hbr:=HDB.out.low hXi.low;have HDBR:=z7 hbr;have hin2:(0:Int)≤i∧(i:Int)<n:=by omega
   obtain ⟨mb,E,S,hbk,hb2,hb3⟩:=hXi.bk;have hput:=z7 (fun w' (hw:Below wr.heap.size wr w')=>q2Z bb mb w.heap.size E b S id (by omega) o.t o.v hok.x (by have:=hPi.few id;omega) (by rw [hPi.size];exact hPi.lt id) w' (hbk.low hw) (hbr.low hw));have hsok:=hbk.serOk id;have HSOK:=z7 hsok;have HBK:=z7 hbk;have HB2:=z7 hb2;have HB3:=z7 hb3;obtain ⟨er,her⟩:∃er,er=z5Y b id o.t:=⟨_,rfl⟩;have hput2:=hput.out;unfold y6u at hput2;simp only at hput2;rw [←her] at hput2;have hput:=z7 hput2;have HER:=z7 her;have hlow:=hXi.low;have HLOW:=z7 hlow;clear hq hXi hXm hPi hstep hlen hX hP ho hr hok hid hbk hb2 hb3 hsok her hput2 hbr hlow;go_upto_region 8 with fail
   refine q6 12 94 (by kernel_rfl) (by kernel_rfl) rfl (by kernel_rfl) (fun D v w'=>Below wr.heap.size wr w') (fun _=>undef) (Below.refl _ _).drew ?_;simp only [List.take_succ_cons,List.take_zero,List.drop_succ_cons,List.drop_zero];iterate 12 (refine q8.rd (e:=?_) (fun D v w' hD hS=>?_) ?_;rotate_left;(obtain ⟨lg,q1,q2,q3⟩:=HQ.out w' (HLOW.out.trans (hS.mono HLOW.out.size));clear hS hD;first | (go_simp;done) | (go_simp;with_reducible rfl));go_simp)
   refine q8.fin (fun v w2 hS=>?_);have HS2:=z7 hS;clear hS;go_wp2_with fail;rw [hmod];have HMOD:=z7 hmod;clear hmod;refine (hput.out w2 HS2.out).mono ?_;rintro e w3 (⟨hne,rfl,hb⟩ | ⟨h0,rfl,E',S',hB',hO',hS'⟩)
   ·have d2:((er:Int)==0)=false:=beq_false_of_ne (by omega);have HNE:=z7 hne;have HB:=z7 hb;clear hne hb hin2;go_wp2;have hl3:=(HXI.out.next HS2.out).next HB.out
    have hst2:(L.take (i+1)).foldl z1Y r0=(b,A):=by
     rw [HST.out];unfold z1Y;rw [←HID.out,←HER.out,if_pos HNE.out]
    exact ⟨⟨i+1,m,aa,cc,rfl,rfl,by omega,by omega,z7 ⟨X,by rw [hst2];exact hl3,by rw [hst2];exact HXM.out⟩,z7 (by rw [hst2];exact HPI.out.more (Nat.le_succ i))⟩,by show n - ((i+1:Nat):Int).toNat<n - (i:Int).toNat;omega⟩
   ·subst h0;have hx3:z3g w w3 bb (z9y b id ⟨o.t,o.v⟩) X aa m cc:=z3g.book (E:=E) (HXI.out.next HS2.out) HB2.out HB3.out (fun k hk=>(HBK.out.lo k hk).1) hB' hO' hS';have hp3:z8g (z9y b id ⟨o.t,o.v⟩) Z (i+1):=z8g.put hz.1 HPI.out HSOK.out HER.out.symm;have hst2:(L.take (i+1)).foldl z1Y r0=(z9y b id ⟨o.t,o.v⟩,z7s id ⟨o.t,o.v⟩ A):=by
     rw [HST.out];unfold z1Y;rw [←HID.out,←HER.out,if_neg (by simp)]
    obtain ⟨pb,hpb⟩:∃pb,pb=z9y b id ⟨o.t,o.v⟩:=⟨_,rfl⟩;rw [←hpb] at hx3 hp3 hst2;have HX3:=z7 hx3;have HP3:=z7 hp3;have HST2:=z7 hst2;have HQ3:=z7 (fun w' (hb:Below w3.heap.size w3 w')=>HQ.out w' (hx3.low.trans (hb.mono hx3.low.size)));have hml:=z7 hx3.len;clear hx3 hp3 hst2 hpb hB' hO' hS' hput HQ HBK HB2 HB3 HXI HS2 HLOW HDBR;go_wp2_with fail;go_loopw [9] (fun kv w4=>∃k:Nat,kv= .int .i64 (k:Nat)∧k≤m∧Hid (∀j x,j<k→X[j]? =some x→x.id≠id)∧Hid (Below w3.heap.size w3 w4)) (fun kv _=>match kv with | .int _ y=>m - y.toNat | _=>0)
    case atStart=>exact ⟨0,rfl,Nat.zero_le _,z7 (fun j x hj=>by omega),z7 (Below.refl _ _)⟩
    case round=>
     obtain ⟨k,rfl,hk,hno,hb4⟩:=hrel;have hwk:IntKind.i64.wrap ((k:Int)+1)=((k+1:Nat):Int):=z0n (by omega) (by omega);have hx4:z3g w wr bb pb X aa m cc:=HX3.out.next hb4.out
     obtain ⟨lg0,q10,q20,q30⟩:=HQ3.out wr hb4.out;have HX4:=z7 hx4;by_cases hkm:k<m
     ·have d3:decide ((k:Int)<(m:Int))=true:=decide_eq_true (by omega);obtain ⟨⟨xid,xa,xc,xs⟩,hx⟩:∃x,X[k]? =some x:=⟨_,List.getElem?_eq_getElem (by have:=hml.out;omega)⟩;obtain ⟨ga,rfl,hga⟩:=hx4.at' hx;obtain ⟨xn,hxn⟩:∃xn,xn=xs.length:=⟨_,rfl⟩;simp only [z3W.v] at hga;rw [←hxn] at hga;have HXN:=z7 hxn;clear hxn;have HGA:=z7 hga;have HX:=z7 hx;have hkin:(0:Int)≤k∧(k:Int)<m:=by omega
      clear hx4 hx hga lg0 q10 q20 q30;by_cases hxi:xid=id
      ·have d4:((xid:Int) !=((o.s:Int)%64))=false:=by rw [HMOD.out,hxi];simp
       have d4':((xid:Int) !=((o.s:Int)).tmod 64)=false:=by rw [htm.out];exact d4
       have d5:((k:Int)==(m:Int))=false:=beq_false_of_ne (by omega);go_wp2_with fail;refine q6 18 94 (by kernel_rfl) (by kernel_rfl) rfl (by kernel_rfl) (fun D v w'=>Below wr.heap.size wr w') (fun _=>undef) (Below.refl _ _).drew ?_;simp only [List.take_succ_cons,List.take_zero,List.drop_succ_cons,List.drop_zero];iterate 18 (refine q8.rd (e:=?_) (fun D v w' hD hS=>?_) ?_;rotate_left;(obtain ⟨lg,q1,q2,q3⟩:=HQ3.out w' (hb4.out.trans (hS.mono hb4.out.size));obtain ⟨lga,ha0,ha1,haf⟩:=HGA.out w' hS;clear hS hD;first | (go_simp;done) | (go_simp;with_reducible rfl));go_simp)
       refine q8.fin (fun v w5 hS=>?_);have HX5:=z7 (HX4.out.next hS);have HQ5:=z7 (fun w' (hb:Below w5.heap.size w5 w')=>HQ3.out w' (hb4.out.trans ((hS.trans (hb.mono hS.size)).mono hb4.out.size)));have HGA5:=z7 (fun w' (hb:Below w5.heap.size w5 w')=>HGA.out w' (hS.trans (hb.mono hS.size)));have hsr:Rd w5 (.slice xa xn xc) 2 xn (z1b xs):=by
        have h9:=z0d (HX5.out.ent _ (List.mem_of_getElem? HX.out));simp only [z3W.v] at h9;rw [←HXN.out] at h9;exact h9
       have HSRC:=z7 hsr;have hLEN:xn≤i:=by
        rw [HXN.out];exact HLEN.out (xid,xs) (by rw [←HXM.out];exact List.mem_map.2 ⟨_,List.mem_of_getElem? HX.out,rfl⟩)
       clear hS hsr hb4 HX3 HX4 HGA HQ3;obtain ⟨lg,q1,q2,q3⟩:=HQ5.out w5 (Below.refl _ _);obtain ⟨lga,ha0,ha1,haf⟩:=HGA5.out w5 (Below.refl _ _);have hb5:=HX5.out.low.size;go_upto_region 16 with (at_builtin;refine z1J rfl _ _ 38 rfl w.heap.size 113 iS _ 2 16 Tryz.underlying38 hiS hyS0 hyS1 hyS2 rfl (by decide) (.slice none 0 0) 0 [] rfl (World.ownsRow_nil _ _ _ _) _ xn _ rfl HSRC.out (z6g xs) (by unfold maxLen;omega) (by omega) hb5 ?_;intro v6 w6 h6 hg6 hv6 hb6;have hn6:=y6L hb6;obtain ⟨a6,c6,rfl⟩:=z2c h6;(try simp only [Nat.zero_add] at hn6);have HR6:=z7 h6;have HG6:=z7 hg6;have HN6:=z7 hn6;clear h6 hg6 hv6 hb6 hn6)
       have hb56:Below w5.heap.size w5 w6:=(Below.refl _ _).grown HG6.out (Nat.le_refl _) (fun j hj=>by cases hj);have hr6:=HR6.out;rw [Nat.zero_add,List.nil_append] at hr6;clear lg q1 q2 q3 lga ha0 ha1 haf;obtain ⟨lg,q1,q2,q3⟩:=HQ5.out w6 hb56;have hal:Below w6.heap.size w6 (w6.alloc (.cells #[.int .i64 o.t, .int .u64 (o.v:Nat)] 113)):=q5 _ _;have hown:=ownsRow_below hr6 hal (Nat.le_refl _);have HOWN6:=z7 hown;have hrd1:Rd (w6.alloc (.cells #[.int .i64 o.t, .int .u64 (o.v:Nat)] 113)) (.slice (some ⟨w6.heap.size,0,none⟩) 1 1) 2 1 [.int .i64 o.t, .int .u64 (o.v:Nat)]:=z3C _ _ _ 1 2 (by simp) (by simp);have HRD6:=z7 hrd1;have hb57:Below w5.heap.size w5 (w6.alloc (.cells #[.int .i64 o.t, .int .u64 (o.v:Nat)] 113)):=hb56.trans (hal.mono hb56.size);have hsz6:w.heap.size≤(w6.alloc (.cells #[.int .i64 o.t, .int .u64 (o.v:Nat)] 113)).heap.size:=Nat.le_trans hb5 hb57.size;have HB57:=z7 hb57;clear hr6 hal hown hrd1 hb57 hb56 HR6;go_upto_region 17 with (at_builtin;refine z2l rfl _ _ 38 rfl w.heap.size 113 iS _ 2 16 Tryz.underlying38 hiS hyS0 hyS1 hyS2 rfl (by decide) a6 (xn) c6 _ rfl HOWN6.out _ 1 [.int .i64 o.t, .int .u64 (o.v:Nat)] rfl HRD6.out (by decide) (by simp [Value.oneCell']) (by unfold maxLen;omega) (by omega) hsz6 ?_;intro g7 c7 w7 h7 hg7 hv7;have HR7:=z7 h7;have HG7:=z7 hg7;have HV7:=z7 hv7;clear h7 hg7 hv7)
       have hb7:Below w5.heap.size w5 w7:=HB57.out.grown HG7.out HB57.out.size (fun j hj=>HN6.out j hj);clear lg q1 q2 q3;obtain ⟨lga,ha0,ha1,haf⟩:=HGA5.out w7 hb7;have HB7:=z7 hb7;clear hb7;go_wp2;have hv7:w7.ownsRow w.heap.size 113 2 (.slice (some ⟨g7,0,none⟩) (xs++([⟨o.t,o.v⟩]:List z1K)).length c7) (xs++([⟨o.t,o.v⟩]:List z1K)).length (z1b (xs++([⟨o.t,o.v⟩]:List z1K))):=by
        rw [List.length_append,z4w];rw [←HXN.out];exact HR7.out
       have hput:=HX5.out.put HX.out HB7.out hv7 (fun j hj=>by
        have hj2:some g7=some j:=hj;simp only [Option.some.injEq] at hj2;subst hj2;rcases HV7.out with e | e
        ·exact HN6.out _ e
        ·have:=HB57.out.size;omega)
       rw [show (xs++([⟨o.t,o.v⟩]:List z1K)).length=xn+1 from by rw [List.length_append];rw [←HXN.out];rfl] at hput;have hmap:(X.set k ⟨xid,some ⟨g7,0,none⟩,c7,xs++ [⟨o.t,o.v⟩]⟩).map (fun x=>(x.id,x.xs))=z7s id ⟨o.t,o.v⟩ A:=by
        rw [y4n A k id _ xs (by rw [←HXM.out,List.getElem?_map,HX.out,←hxi];rfl) (fun j p hj hp=>by
         rw [←HXM.out,List.getElem?_map] at hp;obtain ⟨y,hy,rfl⟩:=Option.map_eq_some_iff.1 hp;exact hno.out j y hj hy),List.map_set,HXM.out,hxi]
       exact ⟨⟨i+1,m,some ⟨ga,0,none⟩,cc,rfl,rfl,by omega,by omega,z7 ⟨_,by rw [HST2.out];exact hput,by rw [HST2.out];exact hmap⟩,z7 (by rw [HST2.out];exact HP3.out)⟩,by show n - ((i+1:Nat):Int).toNat<n - (i:Int).toNat;omega⟩
      ·have d4:((xid:Int) !=((o.s:Int)%64))=true:=by rw [HMOD.out];simp;omega
       have d4':((xid:Int) !=((o.s:Int)).tmod 64)=true:=by rw [htm.out];exact d4
       go_wp2_with fail;refine q6 18 94 (by kernel_rfl) (by kernel_rfl) rfl (by kernel_rfl) (fun D v w'=>Below wr.heap.size wr w') (fun _=>undef) (Below.refl _ _).drew ?_;simp only [List.take_succ_cons,List.take_zero,List.drop_succ_cons,List.drop_zero];iterate 18 (refine q8.rd (e:=?_) (fun D v w' hD hS=>?_) ?_;rotate_left;(obtain ⟨lg,q1,q2,q3⟩:=HQ3.out w' (hb4.out.trans (hS.mono hb4.out.size));obtain ⟨lga,ha0,ha1,haf⟩:=HGA.out w' hS;clear hS hD;first | (go_simp;done) | (go_simp;with_reducible rfl));go_simp)
       refine q8.fin (fun v w5 hS=>?_);have HB5:=z7 (hb4.out.trans (hS.mono hb4.out.size));clear hS;go_wp2;refine ⟨⟨k+1,rfl,by omega,z7 (fun j y hj hy=>?_),HB5⟩,by show m - ((k+1:Nat):Int).toNat<m - (k:Int).toNat;omega⟩;rcases Nat.lt_or_ge j k with h | h
       ·exact hno.out j y h hy
       ·have:j=k:=by omega
        subst this;rw [HX.out] at hy;simp only [Option.some.injEq] at hy;rw [←hy];exact hxi
     ·have hkm2:k=m:=by omega
      subst hkm2;have d3:decide ((k:Int)<(k:Int))=false:=by simp
      have d5:((k:Int)==(k:Int))=true:=by simp
      clear hx4 lg0 q10 q20 q30;go_wp2_with fail;refine q6 18 94 (by kernel_rfl) (by kernel_rfl) rfl (by kernel_rfl) (fun D v w'=>Below wr.heap.size wr w') (fun _=>undef) (Below.refl _ _).drew ?_;simp only [List.take_succ_cons,List.take_zero,List.drop_succ_cons,List.drop_zero];iterate 5 (refine q8.rd (e:=?_) (fun D v w' hD hS=>?_) ?_;rotate_left;(skip;clear hS hD;first | (go_simp;done) | (go_simp;with_reducible rfl));go_simp)
      iterate 12 (refine q8.skip (fun v=>by rfl) (fun D v w h=>h) ?_;go_simp)
      iterate 1 (refine q8.rd (e:=?_) (fun D v w' hD hS=>?_) ?_;rotate_left;(skip;clear hS hD;first | (go_simp;done) | (go_simp;with_reducible rfl));go_simp)
      refine q8.fin (fun v w4 hS=>?_);have HX4':=z7 (HX4.out.next hS);have HQ4:=z7 (fun w' (hb:Below w4.heap.size w4 w')=>HQ3.out w' (hb4.out.trans ((hS.trans (hb.mono hS.size)).mono hb4.out.size)));obtain ⟨lg,q1,q2,q3⟩:=HQ4.out w4 (Below.refl _ _);have hal:Below w4.heap.size w4 (w4.alloc (.cells #[.int .u32 ((o.s:Int)%64), .slice none 0 0] 40)):=q5 _ _;have hX4a:=HX4'.out.next hal
      have HX4A:=z7 hX4a;have hown:=hX4a.row;have HOWN:=z7 hown;have hrd1:Rd (w4.alloc (.cells #[.int .u32 ((o.s:Int)%64), .slice none 0 0] 40)) (.slice (some ⟨w4.heap.size,0,none⟩) 1 1) 2 1 [.int .u32 ((o.s:Int)%64), .slice none 0 0]:=z3C _ _ _ 1 2 (by simp) (by simp);have HRD1:=z7 hrd1;have hsz4:=hX4a.low.size;have HAL:=z7 hal;clear hS hal hX4a hown hrd1 hb4 HX3 HQ3 HX4;go_upto_region 14 with (at_builtin;(refine z2l rfl _ _ 26 rfl w.heap.size 40 iA _ 2 32 Tryz.underlying26 hiA hyA0 hyA1 hyA2 rfl (by decide) aa k cc (X.flatMap z3W.cells) rfl HOWN.out _ 1 [.int .u32 ((o.s:Int)%64), .slice none 0 0] rfl HRD1.out (by decide) (by simp [Value.oneCell']) (by unfold maxLen;omega) (by omega) hsz4 ?_);intro ga ca w5 h5 hg5 hv5;have HR5:=z7 h5;have HG5:=z7 hg5;have HV5:=z7 hv5;clear h5 hg5 hv5)
      have hX5:z3g w w5 bb pb (X++ [⟨id,none,0, []⟩]) (some ⟨ga,0,none⟩) (k+1) ca:=by
       refine HX4A.out.add HG5.out (fun j hj=>?_) ?_
       ·simp only [Value.ownBlock,Option.some.injEq] at hj;subst hj;rcases HV5.out with e | e
        ·exact .inl e
        ·exact .inr (Nat.le_of_eq e.symm)
       ·have h9:=HR5.out;rw [HMOD.out] at h9;exact h9
      obtain ⟨X',hX'⟩:∃X',X'=X++ [⟨id,none,0, []⟩]:=⟨_,rfl⟩;have hxk:X'[k]? =some ⟨id,none,0, []⟩:=by rw [hX',hml.out,List.getElem?_append_right (Nat.le_refl _),Nat.sub_self];rfl
      rw [←hX'] at hX5;obtain ⟨ga2,e2,hga⟩:=hX5.at' hxk;simp only [Option.some.injEq,Addr.mk.injEq,and_true] at e2;subst e2;have HX5:=z7 hX5;have HX:=z7 hxk;have HGA5:=z7 hga;have HX':=z7 hX';have hb45:Below w4.heap.size w4 w5∨True:= .inr trivial;have HQ5:Hid (∀w',Below w5.heap.size w5 w'→g1<w'.heap.size∧w'.cell? ⟨g1,off+i*17+1,none⟩=some (.int .u32 o.s)∧w'.cell? ⟨g1,off+i*17+2,none⟩=some (.int .i64 o.t)∧w'.cell? ⟨g1,off+i*17+3,none⟩=some (.int .u64 (o.v:Nat))):=z7 fun w' hb=>HQW.out w' (hX5.low.trans (hb.mono hX5.low.size));have hsr:Rd w5 (.slice none 0 0) 2 0 []:=Rd.nil _ _;have HSRC:=z7 hsr;have hLEN:(0:Nat)≤i:=Nat.zero_le _;have hkin:(0:Int)≤k∧(k:Int)<k+1:=by omega
      clear hX5 hxk hga hX' hsr hb45 HX4A HX4' HQ4 lg q1 q2 q3 d5 d3;obtain ⟨lg,q1,q2,q3⟩:=HQ5.out w5 (Below.refl _ _);obtain ⟨lga,ha0,ha1,haf⟩:=HGA5.out w5 (Below.refl _ _);have hb5:=HX5.out.low.size;go_upto_region 16 with (at_builtin;refine z1J rfl _ _ 38 rfl w.heap.size 113 iS _ 2 16 Tryz.underlying38 hiS hyS0 hyS1 hyS2 rfl (by decide) (.slice none 0 0) 0 [] rfl (World.ownsRow_nil _ _ _ _) _ 0 _ rfl HSRC.out (z6g []) (by unfold maxLen;omega) (by omega) hb5 ?_;intro v6 w6 h6 hg6 hv6 hb6;have hn6:=y6L hb6;obtain ⟨a6,c6,rfl⟩:=z2c h6;(try simp only [Nat.zero_add] at hn6);have HR6:=z7 h6;have HG6:=z7 hg6;have HN6:=z7 hn6;clear h6 hg6 hv6 hb6 hn6)
      have hb56:Below w5.heap.size w5 w6:=(Below.refl _ _).grown HG6.out (Nat.le_refl _) (fun j hj=>by cases hj);have hr6:=HR6.out;rw [Nat.zero_add,List.nil_append] at hr6;clear lg q1 q2 q3 lga ha0 ha1 haf;obtain ⟨lg,q1,q2,q3⟩:=HQ5.out w6 hb56;have hal:Below w6.heap.size w6 (w6.alloc (.cells #[.int .i64 o.t, .int .u64 (o.v:Nat)] 113)):=q5 _ _;have hown:=ownsRow_below hr6 hal (Nat.le_refl _);have HOWN6:=z7 hown;have hrd1:Rd (w6.alloc (.cells #[.int .i64 o.t, .int .u64 (o.v:Nat)] 113)) (.slice (some ⟨w6.heap.size,0,none⟩) 1 1) 2 1 [.int .i64 o.t, .int .u64 (o.v:Nat)]:=z3C _ _ _ 1 2 (by simp) (by simp);have HRD6:=z7 hrd1;have hb57:Below w5.heap.size w5 (w6.alloc (.cells #[.int .i64 o.t, .int .u64 (o.v:Nat)] 113)):=hb56.trans (hal.mono hb56.size);have hsz6:w.heap.size≤(w6.alloc (.cells #[.int .i64 o.t, .int .u64 (o.v:Nat)] 113)).heap.size:=Nat.le_trans hb5 hb57.size;have HB57:=z7 hb57;clear hr6 hal hown hrd1 hb57 hb56 HR6;go_upto_region 17 with (at_builtin;refine z2l rfl _ _ 38 rfl w.heap.size 113 iS _ 2 16 Tryz.underlying38 hiS hyS0 hyS1 hyS2 rfl (by decide) a6 (0) c6 _ rfl HOWN6.out _ 1 [.int .i64 o.t, .int .u64 (o.v:Nat)] rfl HRD6.out (by decide) (by simp [Value.oneCell']) (by unfold maxLen;omega) (by omega) hsz6 ?_;intro g7 c7 w7 h7 hg7 hv7;have HR7:=z7 h7;have HG7:=z7 hg7;have HV7:=z7 hv7;clear h7 hg7 hv7)
      have hb7:Below w5.heap.size w5 w7:=HB57.out.grown HG7.out HB57.out.size (fun j hj=>HN6.out j hj);clear lg q1 q2 q3;obtain ⟨lga,ha0,ha1,haf⟩:=HGA5.out w7 hb7;have HB7:=z7 hb7;clear hb7;go_wp2;have hv7:w7.ownsRow w.heap.size 113 2 (.slice (some ⟨g7,0,none⟩) ([]++([⟨o.t,o.v⟩]:List z1K)).length c7) ([]++([⟨o.t,o.v⟩]:List z1K)).length (z1b ([]++([⟨o.t,o.v⟩]:List z1K))):=by
       rw [List.length_append,z4w];exact HR7.out
      have hput:=HX5.out.put HX.out HB7.out hv7 (fun j hj=>by
       have hj2:some g7=some j:=hj;simp only [Option.some.injEq] at hj2;subst hj2;rcases HV7.out with e | e
       ·exact HN6.out _ e
       ·have:=HB57.out.size;omega)
      have hmap:(X'.set k ⟨id,some ⟨g7,0,none⟩,c7, []++ [⟨o.t,o.v⟩]⟩).map (fun x=>(x.id,x.xs))=z7s id ⟨o.t,o.v⟩ A:=by
       rw [y3L A id _ (fun p hp=>by
        rw [←HXM.out] at hp;obtain ⟨y,hy,rfl⟩:=List.mem_map.1 hp;obtain ⟨j,hj,hje⟩:=List.getElem_of_mem hy;exact hno.out j y (by have:=hml.out;omega) (by rw [List.getElem?_eq_getElem hj,hje])),HX'.out,hml.out,List.set_append_right _ _ (Nat.le_refl _),Nat.sub_self,←HXM.out,List.map_append]
       rfl
      exact ⟨⟨i+1,k+1,some ⟨ga,0,none⟩,ca,rfl,rfl,by omega,by omega,z7 ⟨_,by rw [HST2.out];exact hput,by rw [HST2.out];exact hmap⟩,z7 (by rw [HST2.out];exact HP3.out)⟩,by show n - ((i+1:Nat):Int).toNat<n - (i:Int).toNat;omega⟩
  ·have d1:decide ((i:Int)<(n:Int))=false:=decide_eq_false (by omega);have hin2:i=n:=by omega
   subst hin2;go_wp2;go_ret2;obtain ⟨X,h1,h2⟩:=hX.out;have ht:L.take i=L:=List.take_of_length_le (Nat.le_of_eq hnl.out.symm);have hP2:=hP.out;rw [ht] at h1 h2 hP2;rw [HR0.out] at h1 h2 hP2;exact ⟨bb,X,aa,m,cc,rfl,h1,h2,by rw [←hnl.out];exact hP2⟩
end Go.Proofs.YtfcnapnopdomhaaGreatDoor

/-
  The walk of a series' grow.
-/
import Derived.Test.YtpocjegemokjgaaGreatDoorZBkMBkABkCBkD
namespace Go.Proofs.YtpocjegemokjgaaGreatDoor
open Go.Proofs.Tryz
set_option linter.all false
set_option maxRecDepth 100000
set_option maxHeartbeats 12800000
open Go.RowKit Go.Maps
def z0C.put(X:z0C)(x:z1r)(T':Nat->Prop):z0C:=⟨X.sb,X.g,X.cap,fun k=>X.T k\/T' k,X.done,x⟩
theorem z0D.setLast{w w':World}{X:z0C}{x:z1r}{L:Nat->Prop}(h:z0D w X)(hx:x.Ok L w)(B:∀k,L k->k<w.heap.size/\k≠X.sb/\k≠X.g)(hw:w'=w.setCells X.g (X.done.length*11) (x.vals false)):
  z0D w' (X.put x L)/\z0t (fun k=>k=X.g) w w':=by
 subst hw;have U:z0t (fun k=>k=X.g) w (w.setCells X.g (X.done.length*11) (x.vals false)):=z0t.setCells (S:=fun k=>k=X.g) rfl _ _ _;have A:∀k,k<w.heap.size->k≠X.g->(w.setCells X.g (X.done.length*11) (x.vals false)).heap[k]? =w.heap[k]? :=fun k A hn=>U.block k A hn;have hs:(w.setCells X.g (X.done.length*11) (x.vals false)).heap.size=w.heap.size:=size_setCells _ _ _;have O:∀k,X.T k->(w.setCells X.g (X.done.length*11) (x.vals false)).heap[k]? =w.heap[k]? :=fun k B=>A k (h.lt k B) (fun e=>h.far.2 (e▸B));have J:∀k,L k->(w.setCells X.g (X.done.length*11) (x.vals false)).heap[k]? =w.heap[k]? :=fun k I=>A k (B k I).1 (B k I).2.2;refine⟨⟨?_,?_,h.ne,⟨fun e=>?_,fun e=>?_⟩,fun k e=>?_,fun y Y=>⟨((h.done y Y).1.next O).mono fun k A=> .inl A,(h.done y Y).2⟩,(hx.next J).mono fun k A=> .inr A⟩,U⟩
 ·exact(A X.sb (h.lts _ (.inl rfl)) h.ne).trans h.blk
 ·have N:=z6E (x.vals false) (X.done.length*11) _ _ h.row;have R:=z8H (x.vals false) (X.done.flatMap fun x=>x.vals true) (X.cur.vals false) rfl;rw[z7B]at R;unfold z0C.cells at N;rw[R]at N;exact N
 ·rcases e with e|e
  ·exact h.far.1 e
  ·exact(B _ e).2.1 rfl
 ·rcases e with e|e
  ·exact h.far.2 e
  ·exact(B _ e).2.2 rfl
 ·rw[hs];rcases e with e|e
  ·exact h.lt k e
  ·exact(B k e).1
theorem z0D.lastAt{w:World}{X:z0C}(h:z0D w X){o:Nat}(A:o=X.done.length*11):∀j v,(X.cur.vals false).toArray[j]? =some v->w.cell? ⟨X.g,o+j,none⟩=some v:=fun j v B=>by
 subst A;exact h.at (by simpa using B)
theorem z0D.lastSome{w:World}{X:z0C}(h:z0D w X){o:Nat}(B:o=X.done.length*11):∀j,j<11->(w.cell? ⟨X.g,o+j,none⟩).isSome=true:=fun j A=>by
 have:j<(X.cur.vals false).length:=A;rw[h.lastAt B j _ (by rw[List.getElem?_toArray];exact List.getElem?_eq_getElem this)];rfl
theorem z3j:(prog.underlying 100).map z7t=some true:=by kernel_rfl
theorem q0f:(prog.info? 100).map (fun i=>(i.zero,i.size,i.bytes))=some (some (.agg #[.slice none 0 0,.int .i64 0,.slice none 0 0,.int .i64 0,.int .i64 0,.int .i64 0,.bool false,.int .u64 0,.int .u8 0,.int .u8 0,.bool false]),11,112):=by kernel_rfl
theorem z0S:(prog.info? 100).map (·.size)=some 11:=by kernel_rfl
theorem z1r.one(x:z1r)(cl:Bool):(x.vals cl).toArray.all (·.oneCell')=true:=by simp[z1r.vals,Value.oneCell']
theorem y4P(X:z0C)(x:z1r)(T':Nat->Prop)(hn:X.done.length<=1000000000)(w:World)(h:z0D w X)(hx:x.Ok T' w)(hT:∀k,T' k->k<w.heap.size/\k≠X.sb/\k≠X.g):
  Calls prog 40 #[.pointer (some ⟨X.sb,0,none⟩),.agg (x.vals false).toArray] w fun e w'=>e= .returned (.tuple #[])/\z0D w' (X.put x T')/\z0t (fun k=>k=X.g) w w':=by
 have O:=z7 ((Loc.start w).new (.cells (x.vals false).toArray 100));have HS:=z7 (h.low O.o.low);have U:=z7 (z7D X hn);obtain⟨o,ho⟩:=zN (X.done.length*11);rw[<-ho]at U;have HO:=z7 ho;have HX:=z7 hx;have HT:=z7 hT;have a1:=z7 (h.lts X.g (.inr (.inl rfl)));clear h hx hT ho hn;go_enter func40,ntmps40;go_wp2_with fail;obtain⟨w1,a0,Y⟩:=O.o.named;rw[<-a0]at HS ⊢;have R:=z7 Y;clear Y a0;refine q6 4 29 (fun D v w'=>Below w1.heap.size w1 w') (Below.refl _ _).drew ?_;simp only[z0v];iterate 1 (refine q8.rd (e:=?_) (fun D v w' L A=>?_) ?_;rotate_left;(clear A L;go_simp;try with_reducible rfl);go_simp)
 refine q8.ca (.pointer (some ⟨X.g,o,none⟩)) (fun D v w' L A=>?_) ?_;(focus (have HZ:=z7 A;clear A L;skip;go_simp;go_at_call 37;refine(U.o w' (HS.o.low HZ.o)).mono ?_;rintro e a2 ⟨rfl,hb⟩;exact⟨rfl,HZ.o.trans (hb.mono HZ.o.size)⟩));go_simp;refine q8.rl (.agg (x.vals false).toArray) (fun D v w h=>h) (fun D v w' L A=>z1o _ _ rfl _ 0 rfl _ (z1X ((R.o.call A).get 0 rfl)) z3j z0S) ?_;go_simp;iterate 1 (refine q8.rd (e:=?_) (fun D v w' L A=>?_) ?_;rotate_left;(have l2:=(HS.o.low A).lts X.g (.inr (.inl rfl));clear A L;go_simp;try with_reducible rfl);go_simp)
 refine q8.fin (fun v w2 A=>?_);have B:=z7 (R.o.call A);have I:=z7 (HS.o.low A);clear A;refine z0f rfl _ _ _ rfl X.g o rfl (x.vals false).toArray rfl (I.o.lastSome HO.o) I.o.row.frozenAt z0S (x.one false) ?_;obtain⟨w3,J⟩:=zN (w2.setCells X.g o (x.vals false).toArray.toList);have h3:=I.o.setLast (w':=w3) (HX.o.next fun k N=>B.o.low.block k (HT.o k N).1) (fun k N=>⟨by have:=(HT.o k N).1;have:=B.o.low.size;omega,(HT.o k N).2⟩) (by rw[J,HO.o]);have hg:w3.heap[w.heap.size]? =some (.cells (x.vals false).toArray 100 (0,0)):=(h3.2.block _ (B.o.lt 0 rfl) (fun e=>by have:=a1.o;omega)).trans (B.o.get 0 rfl);rw[<-J];have H3:=z7 h3;clear h3 J;obtain⟨x0,x1,x2,x3,x4,x5,x6,x7,x8,x9,a3,xf⟩:=z0o hg;have l3:=(Array.getElem?_eq_some_iff.1 hg).1;clear hg;go_wp2
 go_end0
 exact⟨rfl,H3.o.1,(z0t.of_below B.o.low).trans H3.o.2 fun k N=> .inl N⟩
theorem y4T(l:List z0N)(p:z0N):z3S (l++ [p])=y1e p/\z5y (l++ [p])=true:=by
 unfold z3S z5y;simp
theorem y5U(X:z0C)(x:z1r)(T':Nat->Prop)(hn:X.done.length<=1000000000)(w:World)(h:z0D w X)(hx:x.Ok T' w)(hT:∀k,T' k->k<w.heap.size/\k≠X.sb/\k≠X.g)(h0:0<x.p.st.length):
  Calls prog 40 #[.pointer (some ⟨X.sb,0,none⟩),.agg (x.vals true).toArray] w fun e w'=>e= .returned (.tuple #[])/\∃g' aG,z0D w' ⟨X.sb,g',aG,fun k=>X.T k\/T' k,X.done++ [x],z1K⟩/\z0t (fun k=>k=X.g\/k=X.sb) w w'/\(g'=X.g\/w.heap.size<=g'):=by
 obtain⟨iP,aW,b3,b2,b1⟩:=info_parts q0f;have a8:=z7 ((Loc.start w).new (.cells (x.vals true).toArray 100));have HS:=z7 (h.low a8.o.low);have aA:=z7 (z7D X hn);have aU:=z7 hn;obtain⟨o,ho⟩:=zN (X.done.length*11);rw[<-ho]at aA;have HO:=z7 ho;have HX:=z7 hx;have HT:=z7 hT;have aB:=z7 (And.intro (h.lts X.sb (.inl rfl)) (h.lts X.g (.inr (.inl rfl))));clear h hx hT ho hn;go_enter func40,ntmps40;go_wp2_with fail;obtain⟨w1,aR,aH⟩:=a8.o.named;rw[<-aR]at HS ⊢;have a9:=z7 aH;clear aH aR;refine q6 4 29 (fun D v w'=>Below w1.heap.size w1 w') (Below.refl _ _).drew ?_;simp only[z0v];iterate 1 (refine q8.rd (e:=?_) (fun D v w' hD R=>?_) ?_;rotate_left;(clear R hD;go_simp;try with_reducible rfl);go_simp)
 refine q8.ca (.pointer (some ⟨X.g,o,none⟩)) (fun D v w' hD R=>?_) ?_;(focus (have HZ:=z7 R;clear R hD;skip;go_simp;go_at_call 37;refine(aA.o w' (HS.o.low HZ.o)).mono ?_;rintro e bB ⟨rfl,hb⟩;exact⟨rfl,HZ.o.trans (hb.mono HZ.o.size)⟩));go_simp;refine q8.rl (.agg (x.vals true).toArray) (fun D v w h=>h) (fun D v w' hD R=>z1o _ _ rfl _ 0 rfl _ (z1X ((a9.o.call R).get 0 rfl)) z3j z0S) ?_;go_simp;iterate 1 (refine q8.rd (e:=?_) (fun D v w' hD R=>?_) ?_;rotate_left;(have l2:=(HS.o.low R).lts X.g (.inr (.inl rfl));clear R hD;go_simp;try with_reducible rfl);go_simp)
 refine q8.fin (fun v w2 R=>?_);have I:=z7 (a9.o.call R);have B:=z7 (HS.o.low R);clear R;refine z0f rfl _ _ _ rfl X.g o rfl (x.vals true).toArray rfl (B.o.lastSome HO.o) B.o.row.frozenAt z0S (x.one true) ?_;obtain⟨w3,a2⟩:=zN (w2.setCells X.g o (x.vals true).toArray.toList);have a1:z0t (fun k=>k=X.g) w2 w3:=by rw[a2];exact z0t.setCells (S:=fun k=>k=X.g) rfl _ _ _
 have hg:w3.heap[w.heap.size]? =some (.cells (x.vals true).toArray 100 (0,0)):=(a1.block _ (I.o.lt 0 rfl) (fun e=>by have:=aB.o.2;omega)).trans (I.o.get 0 rfl);have a0:w3.ownsRow 0 100 11 (.slice (some ⟨X.g,0,none⟩) (X.done.length+1) X.cap) (X.done.length+1) ((X.done++ [x]).flatMap fun x=>x.vals true):=by
  have h1:=z6E (x.vals true) (X.done.length*11) _ _ B.o.row;have h2:=z8H (x.vals true) (X.done.flatMap fun x=>x.vals true) (X.cur.vals false) rfl;rw[z7B]at h2;unfold z0C.cells at h1;rw[h2,<-HO.o]at h1;rw[List.flatMap_append,List.flatMap_singleton,a2];exact h1
 have L:w3.heap[X.sb]? =some (.cells #[.slice (some ⟨X.g,0,none⟩) (X.done.length+1) X.cap,.int .i64 (z3S X.ser.done),.bool (z5y X.ser.done)] 91 (0,0)):=(a1.block _ (B.o.lts X.sb (.inl rfl)) B.o.ne).trans B.o.blk;rw[<-a2];have aX:=z7 a0;have aV:=z7 a1;have aD:=z7 L;obtain⟨x0,x1,x2,x3,x4,x5,x6,x7,x8,x9,b6,xf⟩:=z0o hg;obtain⟨s0,s1,s2,sf⟩:=cells3 L;have l3:=(Array.getElem?_eq_some_iff.1 hg).1;have l4:=(Array.getElem?_eq_some_iff.1 L).1;have b0:¬w.heap.size=X.sb:=by have:=aB.o.1;omega
 clear hg a2 a0 a1 L;go_upto_region 4 with fail
 obtain⟨Y,U⟩:=zN ((w3.setCell ⟨X.sb,1,none⟩ (.int .i64 (z0m z0h x.p.st).last)).setCell ⟨X.sb,2,none⟩ (.bool true));rw[<-U];have N:Y.heap[X.sb]? =some (.cells #[.slice (some ⟨X.g,0,none⟩) (X.done.length+1) X.cap,.int .i64 (z0m z0h x.p.st).last,.bool true] 91 (0,0)):=by
  rw[U,z0a (z0a aD.o 1 _) 2 _];rfl
 have aM:∀k,k≠X.sb->Y.heap[k]? =w3.heap[k]? :=fun k A=>by rw[U,q7 A,q7 A]
 have aN:Y.heap.size=w3.heap.size:=by rw[U];simp[World.setCell]
 have aC:Hid (z0t (fun k=>k=X.g\/k=X.sb) w2 Y):=z7 (by
  rw[U];exact(aV.o.mono fun k A=> .inl (.inl A)).trans ((z0t.setCell (S:=fun k=>k=X.g\/k=X.sb) _ _ (.inr rfl)).trans (z0t.setCell (S:=fun k=>k=X.g\/k=X.sb) _ _ (.inr rfl)) fun k h=> .inl h) fun k h=> .inl h)
 have a6:Hid (Y.ownsRow 0 100 11 (.slice (some ⟨X.g,0,none⟩) (X.done.length+1) X.cap) (X.done.length+1) ((X.done++ [x]).flatMap fun x=>x.vals true)):=z7 (j7 aX.o fun b hb=>by
  simp only[Value.ownBlock,Option.some.injEq]at hb;exact aM b (by rw[<-hb];exact B.o.ne.symm))
 obtain⟨s0,s1,s2,sf⟩:=cells3 N;have l4:=(Array.getElem?_eq_some_iff.1 N).1;have aE:=z7 N;have b8:X.g<Y.heap.size:=(a6.o.lt X.g rfl).2;obtain⟨n,hn⟩:=zN (X.done.length+1);have bA:n<=1000000001:=by rw[hn];have:=aU.o;omega
 rw[<-hn]at a6 s0;have HN:=z7 hn;have b7:=z7 aN;clear aN N U aM x0 x1 x2 x3 x4 x5 x6 x7 x8 x9 b6 xf b0 hn;have aZ:Hid (Rd (Y.alloc (.cells #[.slice none 0 0,.int .i64 0,.slice none 0 0,.int .i64 0,.int .i64 0,.int .i64 0,.bool false,.int .u64 0,.int .u8 0,.int .u8 0,.bool false] 100)) (.slice (some ⟨Y.heap.size,0,none⟩) 1 1) 11 1 (z1K.vals false)):=z7 (z3z _ _ _ 1 11 (by decide) rfl);have aY:=z7 (a6.o.alloc (.cells #[.slice none 0 0,.int .i64 0,.slice none 0 0,.int .i64 0,.int .i64 0,.int .i64 0,.bool false,.int .u64 0,.int .u8 0,.int .u8 0,.bool false] 100));go_wp2_with (at_builtin;go_loud (refine z1H rfl _ _ 89 rfl 0 100 iP _ 11 112 underlying89 aW b3 b2 b1 rfl (by decide) (some ⟨X.g,0,none⟩) n X.cap _ rfl aY.o _ 1 (z1K.vals false) rfl aZ.o (by decide) (by simp[y4U,Value.oneCell']) (by unfold maxLen;omega) (by omega) (Nat.zero_le _) ?_;intro g5 c5 w5 h5 J aL;(have H5:=z7 h5;have aT:=z7 J;have aS:=z7 aL;have O:=(J.block X.sb (by simp;omega) (fun e=>by simp only[Value.ownBlock,Option.some.injEq]at e;exact B.o.ne e)).trans ((heap_alloc_old Y _ l4).trans aE.o);obtain⟨t0,t1,t2,tf⟩:=cells3 O;have l5:=(Array.getElem?_eq_some_iff.1 O).1;have aF:=z7 O;clear O h5 J aL)))
 go_end0
 obtain⟨w6,a3⟩:=zN (w5.setCell ⟨X.sb,0,none⟩ (.slice (some ⟨g5,0,none⟩) (n+1) c5));rw[<-a3];have b4:=aC.o.size;have b5:z0t (fun k=>k=X.g\/k=X.sb) Y w5:=((z0t.of_below (q5 Y _)).trans (z0t.grown (S:=fun k=>k=X.g\/k=X.sb) aT.o fun k A=>by simp only[Value.ownBlock,Option.some.injEq]at A;exact .inl A.symm) fun k A=> .inl A);have a7:z0t (fun k=>k=X.g\/k=X.sb) w2 w6:=by
  rw[a3];exact(aC.o.trans b5 fun k A=> .inl A).trans (z0t.setCell (S:=fun k=>k=X.g\/k=X.sb) _ _ (.inr rfl)) fun k A=> .inl A
 have J:g5=X.g\/Y.heap.size<g5:=by
  rcases aS.o with e|e
  ·simp only[Value.ownBlock,Option.some.injEq]at e;exact .inl e.symm
  ·rw[e];right;simp
 have a5:g5≠X.sb:=by
  rcases J with e|e
  ·rw[e];exact B.o.ne.symm
  ·omega
 have aI:∀k,X.T k\/T' k->w6.heap[k]? =w2.heap[k]? :=fun k A=>a7.block k (by
   rcases A with A|A
   ·exact B.o.lt k A
   ·exact Nat.lt_of_lt_of_le (HT.o k A).1 I.o.low.size) (by
   rintro(rfl|rfl)
   ·rcases A with A|A
    ·exact B.o.far.2 A
    ·exact(HT.o _ A).2.2 rfl
   ·rcases A with A|A
    ·exact B.o.far.1 A
    ·exact(HT.o _ A).2.1 rfl)
 have aO:(X.done++ [x]).map z1r.p=X.done.map z1r.p++ [x.p]:=by rw[List.map_append];rfl
 have aJ:=y4T (X.done.map z1r.p) x.p;have a4:(X.done++ [x]).length+1=n+1:=by rw[HN.o,List.length_append,List.length_singleton]
 refine⟨rfl,g5,c5,⟨?_,?_,a5.symm,⟨fun e=>?_,fun e=>?_⟩,fun k A=>?_,fun y hy=>?_,y2G _ _⟩,(z0t.of_below I.o.low).trans a7 fun k A=> .inl A,?_⟩
 ·show w6.heap[X.sb]? =some (.cells #[.slice (some ⟨g5,0,none⟩) ((X.done++ [x]).length+1) c5,.int .i64 (z3S ((X.done++ [x]).map z1r.p)),.bool (z5y ((X.done++ [x]).map z1r.p))] 91 (0,0));rw[a3,z0a aF.o 0 _,aO,aJ.1,aJ.2,a4];rfl
 ·show w6.ownsRow 0 100 11 (.slice (some ⟨g5,0,none⟩) ((X.done++ [x]).length+1) c5) ((X.done++ [x]).length+1) _;rw[a4];refine j7 H5.o fun b hb=>?_;simp only[Value.ownBlock,Option.some.injEq]at hb;rw[a3];exact q7 (by rw[<-hb];exact a5)
 ·rcases e with e|e
  ·exact B.o.far.1 e
  ·exact(HT.o _ e).2.1 rfl
 ·have b9:g5<w2.heap.size:=by
   rcases e with e|e
   ·exact B.o.lt _ e
   ·exact Nat.lt_of_lt_of_le (HT.o _ e).1 I.o.low.size
  rcases J with e5|e5
  ·rcases e with e|e
   ·exact B.o.far.2 (e5▸e)
   ·exact(HT.o _ e).2.2 e5
  ·omega
 ·have:k<w2.heap.size:=by
   rcases A with A|A
   ·exact B.o.lt _ A
   ·exact Nat.lt_of_lt_of_le (HT.o _ A).1 I.o.low.size
  have:=a7.size;omega
 ·rcases List.mem_append.1 hy with hy|hy
  ·exact⟨((B.o.done y hy).1.mono fun k A=> .inl A).next aI,(B.o.done y hy).2⟩
  ·rw[List.mem_singleton]at hy;subst hy;exact⟨((HX.o.next fun k A=>I.o.low.block k (HT.o k A).1).mono fun k A=> .inr A).next aI,h0⟩
 ·rcases J with e|e
  ·exact .inl e
  ·have:=I.o.low.size;exact .inr (by omega)
theorem y8z(X:z0C)(x:z1r)(cl:Bool)(B:Nat->Prop)(R:X.done.length<=1000000000)(w:World)(h:z0D w X)(U:x.Ok B w)(O:∀k,B k->k<w.heap.size/\k≠X.sb/\k≠X.g)(Y:0<x.p.st.length):
  Calls prog 40 #[.pointer (some ⟨X.sb,0,none⟩),.agg (x.vals cl).toArray] w fun e w'=>e= .returned (.tuple #[])/\∃J:z0C,J.sb=X.sb/\J.ser=z5f X.ser x.p cl/\z0D w' J/\z0t (fun k=>k=X.g\/k=X.sb) w w'/\(∀k,J.In k->X.In k\/B k\/w.heap.size<=k):=by
 cases cl with
 | false=>
  refine(y4P X x B R w h U O).mono ?_;rintro e w' ⟨rfl,L,N⟩;refine⟨rfl,X.put x B,rfl,rfl,L,N.mono fun k A=> .inl (.inl A),fun k A=>?_⟩;rcases A with A|A|A|A
  ·exact .inl (.inl A)
  ·exact .inl (.inr (.inl A))
  ·exact .inl (.inr (.inr A))
  ·exact .inr (.inl A)
 | true=>
  refine(y5U X x B R w h U O Y).mono ?_;rintro e w' ⟨rfl,g',I,L,N,h3⟩;refine⟨rfl,⟨X.sb,g',I,fun k=>X.T k\/B k,X.done++ [x],z1K⟩,rfl,?_,L,N,fun k A=>?_⟩
  ·show z0U.mk ((X.done++ [x]).map z1r.p) z1J=_;rw[List.map_append];rfl
  ·rcases A with A|A|A|A
   ·exact .inl (.inl A)
   ·rcases h3 with e|e
    ·exact .inl (.inr (.inl (A.trans e)))
    ·exact .inr (.inr (by rw[show k=g' from A];exact e))
   ·exact .inl (.inr (.inr A))
   ·exact .inr (.inl A)
section
variable {α β:Type}
theorem y2H(f:α->β)(x:Int×α):∀E:List (Int×α),(mins z4p x E).map (fun p=>(p.1,f p.2))=mins z4p (x.1,f x.2) (E.map fun p=>(p.1,f p.2))
 | []=>rfl
 | y::r=>by
  unfold mins;rw[List.map_cons];simp only;split
  ·rw[List.map_cons,List.map_cons]
  ·rw[List.map_cons,y2H f x r]
theorem y8K(f:α->β)(k:Int)(v:α)(E:List (Int×α)):(z1B z4p k v E).map (fun p=>(p.1,f p.2))=z1B z4p k (f v) (E.map fun p=>(p.1,f p.2)):=by
 unfold z1B;rw[y2H]
 congr 1
 unfold z2d;rw[List.filter_map];rfl
def z9r(E:List (Int×α)):Prop:=E.Pairwise fun p q=>p.1≠q.1
theorem z9r.same{E:List (Int×α)}(h:z9r E){p q:Int×α}(J:p∈E)(L:q∈E)(e:p.1=q.1):p=q:=by
 induction E with
 | nil=>cases J
 | cons y r ih=>
  obtain⟨I,N⟩:=List.pairwise_cons.1 h;rcases List.mem_cons.1 J with rfl|B
  ·rcases List.mem_cons.1 L with rfl|A
   ·rfl
   ·exact absurd e (I q A)
  ·rcases List.mem_cons.1 L with rfl|A
   ·exact absurd e.symm (I p B)
   ·exact ih N B A
theorem z9r.get{E:List (Int×α)}(h:z9r E){k:Int}{v:α}(A:(k,v)∈E):z0P k E=some v:=by
 cases hg:z0P k E with
 | none=>exact absurd rfl (z7L hg _ A)
 | some u=>
  have:=h.same A (z1z hg) rfl;rw[Prod.mk.injEq]at this;rw[this.2]
theorem z9r.mins{x:Int×α}:∀{E:List (Int×α)},z9r E->(∀p∈E,p.1≠x.1)->z9r (Go.Proofs.YtpocjegemokjgaaGreatDoor.mins z4p x E)
 | [],_,_=>List.pairwise_singleton _ _
 | y::r,h,hx=>by
  obtain⟨B,I⟩:=List.pairwise_cons.1 h;unfold Go.Proofs.YtpocjegemokjgaaGreatDoor.mins;split
  ·exact List.pairwise_cons.2 ⟨fun q A=>(hx q A).symm,h⟩
  ·refine List.pairwise_cons.2 ⟨fun q A=>?_,z9r.mins I fun p J=>hx p (List.mem_cons_of_mem _ J)⟩;rcases(y0Z z4p x q r).1 A with rfl|A
   ·exact hx y List.mem_cons_self
   ·exact B q A
theorem z9r.put{E:List (Int×α)}(h:z9r E)(k:Int)(v:α):z9r (z1B z4p k v E):=by
 unfold z1B;refine z9r.mins (List.Pairwise.filter _ h) fun p A=>?_;exact((z3g k p E).1 A).2
theorem y9P{E:List (Int×α)}{k:Int}(h:z0P k E=none):z2d k E=E:=List.filter_eq_self.2 fun p A=>by simpa using z7L h p A
theorem q1e{E:List (Int×α)}(h:z9r E)(k:Int)(v:α):(z1B z4p k v E).length=if z0P k E=none then E.length+1 else E.length:=by
 unfold z1B;rw[z5T];split
 ·rename_i A;rw[y9P A]
 ·rename_i A;cases hg2:z0P k E with
  | none=>exact absurd hg2 A
  | some u=>
   have J:=z1z hg2;have O:((k,u)::z2d k E).Perm E:=by
    clear A hg2
    induction E with
    | nil=>cases J
    | cons y r ih=>
     obtain⟨I,N⟩:=List.pairwise_cons.1 h;unfold z2d;rw[List.filter_cons];rcases List.mem_cons.1 J with rfl|L
     ·have e:(r.filter fun q=>decide (q.1≠k))=r:=List.filter_eq_self.2 fun q R=>by simpa using(I q R).symm
      rw[if_neg (by simp),e]
     ·have B:y.1≠k:=I _ L;rw[if_pos (by simpa using B)];exact(List.Perm.swap y _ _).trans ((ih N L).cons y)
   have:=O.length_eq;simpa using this
end
theorem z3J.uniq{w:World}{A:Nat}{E:List (Int×z0C)}(h:z9P w A E):z9r E:=(z3J.mok h z5a).1.1
def z0j.set(b:z0j)(id:Nat)(s:z0U):z0j:=⟨b.most,b.size,z1B z4p (id:Int) s b.all⟩
theorem z0q.upd{w w':World}{Y mb B:Nat}{E:List (Int×z0C)}{b:z0j}{S:Nat->Prop}(h:z0q w Y mb E b B S)(id:Nat)(U:z0C)(a5:z0D w' U)(a6:z9P w' mb (z1B z4p (id:Int) U E))(hs:w.heap.size<=w'.heap.size)
  (a2:∀k,U.In k->(∃X,z0P (id:Int) E=some X/\X.In k)\/w.heap.size<=k)
  (a0:∀k,S k->k≠mb->(∀X,z0P (id:Int) E=some X->¬X.In k)->w'.heap[k]? =w.heap[k]?) (a4:z0P (id:Int) E=none->E.length<b.most):
  ∃S',z0q w' Y mb (z1B z4p (id:Int) U E) (b.set id U.ser) B S'/\∀k,S' k->S k\/w.heap.size<=k:=by
 have hU:=h.map.uniq;have J:∀X,z0P (id:Int) E=some X->∀k,X.In k->S k/\k≠Y/\k≠mb:=fun X O k A=>(h.each _ (z1z O)).2 k A;have hold:∀p∈E,p.1≠(id:Int)->∀k,p.2.In k->w'.heap[k]? =w.heap[k]? :=fun p L R k A=>a0 k ((h.each p L).2 k A).1 ((h.each p L).2 k A).2.2 fun X O I=>h.apart p L _ (z1z O) R k A I;have N:∀k,U.In k->k≠Y/\k≠mb/\B<=k/\k<w'.heap.size:=fun k A=>by
  refine⟨?_,?_,?_,a5.lts k A⟩<;>rcases a2 k A with⟨X,O,I⟩|a1
  ·exact(J X O k I).2.1
  ·have:=(h.lo Y h.own.1).2;omega
  ·exact(J X O k I).2.2
  ·have:=(h.lo mb h.own.2).2;omega
  ·exact(h.lo k (J X O k I).1).1
  ·have:=(h.lo Y h.own.1);omega
 refine⟨fun k=>S k\/U.In k,⟨?_,a6,h.ne,⟨.inl h.own.1,.inl h.own.2⟩,fun p L=>?_,fun p L q hq R k A a3=>?_,fun k A=>?_,?_,⟨?_,h.few.2⟩,h.size⟩,fun k A=>?_⟩
 ·refine(a0 Y h.own.1 h.ne fun X O A=>?_).trans h.blk;exact(J X O Y A).2.1 rfl
 ·rcases(z2I z4p _ _ p E).1 L with rfl|⟨L,R⟩
  ·exact⟨a5,fun k A=>⟨.inr A,(N k A).1,(N k A).2.1⟩⟩
  ·exact⟨(h.each p L).1.keep (hold p L R) hs,fun k A=>⟨.inl ((h.each p L).2 k A).1,((h.each p L).2 k A).2⟩⟩
 ·have key:∀r∈E,r.1≠(id:Int)->r.2.In k->¬U.In k:=fun r hr aA a8 I=>by
   rcases a2 k I with⟨X,O,I⟩|a1
   ·exact h.apart r hr _ (z1z O) aA k a8 I
   ·have:=(h.lo k ((h.each r hr).2 k a8).1).2;omega
  rcases(z2I z4p _ _ p E).1 L with rfl|⟨L,a9⟩
  ·rcases(z2I z4p _ _ q E).1 hq with rfl|⟨hq,a7⟩
   ·exact R rfl
   ·exact key q hq a7 a3 A
  ·rcases(z2I z4p _ _ q E).1 hq with rfl|⟨hq,a7⟩
   ·exact key p L a9 A a3
   ·exact h.apart p L q hq R k A a3
 ·rcases A with A|A
  ·exact⟨(h.lo k A).1,Nat.lt_of_lt_of_le (h.lo k A).2 hs⟩
  ·exact⟨(N k A).2.2.1,(N k A).2.2.2⟩
 ·show z1B z4p (id:Int) U.ser b.all=_;rw[h.all,<-y8K]
 ·show(z1B z4p (id:Int) U E).length<=b.most;rw[q1e hU];have:=h.few.1;split
  ·rename_i hg;have:=a4 hg;omega
  ·exact this
 ·rcases A with A|A
  ·exact .inl A
  ·rcases a2 k A with⟨X,O,I⟩|a1
   ·exact .inl (J X O k I).1
   ·exact .inr a1
section
variable {P:Program} {w:World} {a:Act} {o:Oper} {K:Act->World->Prop} {Q:Exit->Act->World->Prop}
theorem y0p(t ty e:TypeId)(i:TypeInfo)(z:Value)(size bytes:Nat)(ht:P.underlying t=some (.slice e))(hi:P.info? e=some i)(hz:i.zero=some z)
  (N:i.size=size) (a2:i.bytes=bytes) (a5:z.cells.size=size)
  (b:Option Addr) (n:Nat) (L:List Value) (I:Rd w (.slice b n n) size n L)
  (U:Addr) (m c:Nat) (news:List Value) (Y:news.length=m*size) (B:∀j u,news[j]? =some u->w.cell? (U.add j)=some u) (hm:0<m)
  (O:n+m<=maxLen) (A:(n+m)*bytes<=140737488355328):
  ∃c' w',(Builtin.append_ #[t,t] ty #[.slice b n n,.slice (some U) m c]).run P w= .ok (.slice (some ⟨w.heap.size,0,none⟩) (n+m) c') w'/\w'.ownsRow w.heap.size e size (.slice (some ⟨w.heap.size,0,none⟩) (n+m) c') (n+m) (L++news)/\Below w.heap.size w w':=by
 subst N;subst a2;have a0:n+m<=9223372036854775807:=by simp only[maxLen]at O;omega
 have J:(L++news).length=(n+m)*i.size:=by rw[List.length_append,I.1,Y,Nat.add_mul]
 have grown:∀(old:Nat),old<n+m->
   (w.drew.alloc (.cells (L.toArray++news.toArray++Builtin.zeroCells z.cells (grownCap w (n+m) old e - (n+m))) e)).ownsRow w.heap.size e i.size
    (.slice (some ⟨w.heap.size,0,none⟩) (n+m) (grownCap w (n+m) old e)) (n+m) (L++news)/\
   Below w.heap.size w (w.drew.alloc (.cells (L.toArray++news.toArray++Builtin.zeroCells z.cells (grownCap w (n+m) old e - (n+m))) e)):=by
  intro old ho;have a4:=grownCap_ge w (n+m) old e;have a3:grownCap w (n+m) old e<=maxLen:=grownCap_le_maxLen w (n+m) old e O;refine⟨⟨J,.inr ⟨w.heap.size,_,_,rfl,Nat.le_refl _,heap_alloc_new w.drew _,a4,a3,?_,?_⟩⟩,(q5 w.drew _).trans (Below.refl _ _) |>fun h=>⟨h.os,h.tape,h.output,h.size,h.block⟩⟩
  ·simp only[Array.size_append,List.size_toArray,size_zeroCells,a5,I.1,Y,<-Nat.add_mul]
   congr 1
   omega
  ·simp only[Array.toList_append,List.append_assoc];rw[<-List.append_assoc,<-J];exact List.take_left
 rcases I.2 with⟨R,a6⟩|⟨a1,c2,R,hc⟩
 ·simp only[Value.slice.injEq]at R;obtain⟨rfl,rfl, -⟩:=R;have hx:L= []:=List.eq_nil_of_length_eq_zero (by simpa using I.1);subst hx;obtain⟨g1,g2⟩:=grown 0 (by omega);refine⟨_,_,?_,g1,g2⟩;have:=run_append_nil (P:=P) w t ty e i z ht hi hz U m c news Y B hm (by omega) (by have hb:=A;simp only[Nat.zero_add]at hb;omega);simpa using this
 ·simp only[Value.slice.injEq,true_and]at R;obtain⟨rfl,rfl⟩:=R;obtain⟨g1,g2⟩:=grown n (by omega);exact⟨_,_,run_append_grow (P:=P) w t ty e i z ht hi hz a1 n n L I.1 hc U m c news Y B (by omega) (by omega) (growslice_fits (by omega) A),g1,g2⟩
theorem y0M(s x:Operand)(t:TypeId)
  (ho:o.op= .call {callee:= .builtin .append,args:= #[s,x],argTypes:= #[t,t]})
  (e:TypeId) (i:TypeInfo) (z:Value) (size bytes:Nat) (ht:P.underlying t=some (.slice e)) (hi:P.info? e=some i) (hz:i.zero=some z)
  (I:i.size=size) (N:i.bytes=bytes) (R:z.cells.size=size)
  (b:Option Addr) (n:Nat) (U:List Value) (hs:a.eval s= .slice b n n) (O:Rd w (.slice b n n) size n U)
  (J:Addr) (m c:Nat) (news:List Value) (hx:a.eval x= .slice (some J) m c) (hl:news.length=m*size) (B:∀j u,news[j]? =some u->w.cell? (J.add j)=some u) (hm:0<m)
  (L:n+m<=maxLen) (A:(n+m)*bytes<=140737488355328)
  (h:∀c' w',w'.ownsRow w.heap.size e size (.slice (some ⟨w.heap.size,0,none⟩) (n+m) c') (n+m) (U++news)->Below w.heap.size w w'->K (a.put o.dst (.slice (some ⟨w.heap.size,0,none⟩) (n+m) c')) w'):o.wp P a w K Q:=by
 obtain⟨c',w',hr,Y,h3⟩:=y0p (P:=P) (w:=w) t o.type e i z size bytes ht hi hz I N R b n U O J m c news hl B hm L A;unfold Oper.wp execOp;simp only[ho,resolve,invoke,builtin,Sem.run_bind,Sem.run_pure,Result.andThen_ok,List.map_toArray,List.map_cons,List.map_nil,hs,hx,hr];exact h c' w' Y h3
end
theorem q3R(a:Option Addr)(n c:Nat)(A:a=none->n=0/\c=0)(J:n<=1000000)(I:n<=c)(w:World):
  Calls prog 39 #[.slice a n c] w fun e w'=>e= .returned (.slice a n n)/\Below w.heap.size w w':=by
 cases a with
 | none=>
  obtain⟨rfl,rfl⟩:=A rfl;go_enter func39,ntmps39;go_wp2;go_ret;exact⟨rfl,Below.refl _ _⟩
 | some ad=>
  have B:(n:Int)<=c:=by omega
  go_enter func39,ntmps39;go_wp2;go_ret;exact⟨rfl,Below.refl _ _⟩
structure ClS (W:World) (N n:Nat) (xs:List Value) (D:Nat->Bool) (v:Nat->Value) (w':World):Prop where
 low:Below W.heap.size W w'
 made:D 6=true->∃g,v 6= .slice (some ⟨g,0,none⟩) 1 1/\W.heap.size<=g/\w'.heap[g]? =some (.cells #[.int .i64 N] 3 (0,0))
 app:D 7=true->∃g c,v 7= .slice (some ⟨g,0,none⟩) (n+1) c/\W.heap.size<=g/\w'.ownsRow W.heap.size 3 1 (.slice (some ⟨g,0,none⟩) (n+1) c) (n+1) (xs++ [.int .i64 N])
theorem ClS.call{W w' A:World}{N n:Nat}{L:List Value}{D:Nat->Bool}{v:Nat->Value}(h:ClS W N n L D v w')(k:Nat)(O:k≠6)(R:k≠7)(hb:Below w'.heap.size w' A):ClS W N n L (mark D k) v A:=
 ⟨h.low.trans (hb.mono h.low.size),(fun e=>by
  rw[q9 O]at e;obtain⟨g,I,J,B⟩:=h.made e;exact⟨g,I,J,(hb.block g (Array.getElem?_eq_some_iff.1 B).1).trans B⟩),fun e=>by
  rw[q9 R]at e;obtain⟨g,c,I,J,B⟩:=h.app e;exact⟨g,c,I,J,ownsRow_below B hb (Nat.le_refl _)⟩⟩
theorem ClS.make{W w':World}{N n:Nat}{A:List Value}{D:Nat->Bool}{v:Nat->Value}(h:ClS W N n A D v w')(B:D 7=false):ClS W N n A (mark D 6) (z2O v 6 (.slice (some ⟨w'.heap.size,0,none⟩) 1 1)) (w'.alloc (.cells #[.int .i64 N] 3)):=
 ⟨h.low.trans ((q5 w' _).mono h.low.size),(fun _=>⟨w'.heap.size,z0p _ _ _,h.low.size,j8 _ _⟩),fun e=>by rw[q9 (by decide),B]at e;cases e⟩
theorem z0t.toBelow{w w':World}(h:z0t (fun _=>False) w w'):Below w.heap.size w w':=⟨h.os,h.tape,h.output,h.size,fun k A=>h.block k A fun e=>e⟩
theorem y4Q{b:z0j}{id:Nat}{t:Int}(h:z6K b id t=0)(B:0<(z0g b id).cur.st.length):y1e (z0g b id).cur<t:=by
 unfold z6K at h;split at h
 ·split at h
  ·cases h
  ·rename_i A;unfold z6k at A;rw[if_pos B]at A;simp only[true_and]at A;omega
 ·contradiction
theorem y5V{b:z0j}{id:Nat}{t:Int}(h:z6K b id t=0):z3A b id=0:=by
 unfold z6K at h;split at h
 ·assumption
 ·contradiction
theorem y7I(A:List z1d)(x:z1d):z0m z0h (A++ [x])=x.e:=by simp[z0m]
def z8u(b:z0j)(id:Nat)(s:z1c):z0j:=b.set id (z5f (z0g b id) (z2T (z0g b id).cur s) (decide ((z0g b id).cur.st.length+1=b.size)))
def y8C(bb mb B:Nat)(S:Nat->Prop)(b:z0j)(id:Nat)(s:z1c)(w:World)(e:Ending)(w':World):Prop:=
 (z6K b id s.t≠0/\e= .returned (.int .u16 (z6K b id s.t:Nat))/\Below w.heap.size w w')\/
 (z6K b id s.t=0/\e= .returned (.int .u16 0)/\∃E' S',z0q w' bb mb E' (z8u b id s) B S'/\z0t S w w'/\∀k,S' k->S k\/w.heap.size<=k)
theorem q4H(bb mb B:Nat)(E:List (Int×z0C))(b:z0j)(S:Nat->Prop)(id:Nat)(hid:id<4294967296)(t:Int)(v:Nat)(hs:z1c.Ok ⟨t,v⟩)(aR:(z0g b id).done.length<=1000000000)(cV:(z0g b id).cur.st.length<b.size)(w:World)(h:z0q w bb mb E b B S)(hT:z1u w):
  Calls prog 18 #[.pointer (some ⟨bb,0,none⟩),.int .u32 id,.agg #[.int .i64 t,.int .u64 (v:Nat)]] w (y8C bb mb B S b id ⟨t,v⟩ w):=by
 have c9:=z7 ((Loc.start w).new (.cells #[.int .i64 t,.int .u64 (v:Nat)] 71));have H:=z7 h;have HM:=z7 (q5o bb mb B E b S id hid t v aR _ (h.low c9.o.low));have HT:=z7 hT;by_cases hm:z6K b id t=0
 ·rw[hm]at HM;have dV:=z7 (fun w1 (hb:z0q w1 bb mb E b B S)=>z9e bb mb B E b S id hid w1 hb);have aU:=z7 hm;have HS:=z7 hs;have e1:=z7 cV;have bU:=z7 aR;clear h hT hm hs cV aR;go_enter func18,ntmps18;go_wp2_with fail;refine HM.o.mono ?_;rintro e w1 ⟨rfl,hb⟩;have a7:=z7 (c9.o.call hb);clear hb;go_wp2_with fail;refine(dV.o _ (H.o.low a7.o.low)).mono ?_;rintro e w2 ⟨X,rfl,hX,cL,hb,hw⟩;have dW:=z7 (a7.o.call hb);have e9:=z7 hX;have aE:=z7 cL;have bI:=z7 hw;have e0:=z7 (z7D X (by have:=bU.o;rw[<-cL,X.done_len]at this;exact this) w2 hX);clear hb hX cL hw;go_wp2_with fail;refine e0.o.mono ?_;rintro e w3 ⟨rfl,hb⟩;have d1:=z7 (dW.o.call hb);have bJ:=z7 (e9.o.low hb);clear hb;obtain⟨o,ho⟩:=zN (X.done.length*11);rw[<-ho];have HO:=z7 ho;clear ho;have lg:=bJ.o.lts X.g (.inr (.inl rfl));obtain⟨en,el,ed,has,prev,lead,width,hE⟩:∃en el ed has prev lead width,(⟨en,el,ed,⟨has,prev,lead,width⟩⟩:z1M)=z0m z0h X.cur.p.st:=⟨_,_,_,_,_,_,_,rfl⟩;obtain⟨pn,bS⟩:=zN X.cur.p.st.length;obtain⟨bl,cN⟩:=zN X.cur.b.length;obtain⟨N,hN⟩:=zN X.cur.p.l.length;have hv:(X.cur.vals false).toArray= #[.slice X.cur.a bl X.cur.c,.int .i64 (N:Nat),.slice X.cur.ea pn X.cur.ec,.int .i64 (en:Nat),.int .i64 el,.int .i64 ed,.bool has,.int .u64 (prev:Nat),.int .u8 (lead:Nat),.int .u8 (width:Nat),.bool false]:=by
   unfold z1r.vals;rw[<-hE,<-bS,<-cN,<-hN]
  have cU:=bJ.o.lastAt HO.o;rw[hv]at cU;have d2:=z7 cU;have HE:=z7 hE;have aV:=z7 bS;have dY:=z7 cN;have e3:=z7 hN;clear cU hE bS cN hN hv;go_upto_region 6 with(refine z0J rfl 100 _ rfl X.g o rfl _ d2.o z3j z0S ?_)
  obtain⟨W4,bO,dA⟩:=((z0K.of (S:=fun _=>False) d1.o).new (.cells #[.slice X.cur.a bl X.cur.c,.int .i64 (N:Nat),.slice X.cur.ea pn X.cur.ec,.int .i64 (en:Nat),.int .i64 el,.int .i64 ed,.bool has,.int .u64 (prev:Nat),.int .u8 (lead:Nat),.int .u8 (width:Nat),.bool false] 100)).named;rw[<-bO];have d6:Hid (z0D W4 X):=z7 (by rw[bO];exact bJ.o.low (q5 _ _));have a2:=z7 dA;obtain⟨p,hp⟩:=zN w3.heap.size;rw[<-hp]at a2 ⊢;have e5:Hid (z1u W4):=z7 (by rw[bO];exact(HT.o.low d1.o.low).low (q5 _ _));have bC:Hid (∀k,X.In k->k<p):=z7 fun k A=>by rw[hp];exact bJ.o.lts k A
  clear dA bO hp;have aJ:=d6.o.cur;have eE:en<=1099511627776:=by
   have h2:=aJ.n;rw[<-HE.o]at h2;have h3:=aJ.ok.len;have h4:en=X.cur.p.st.length:=h2;omega
  have dE:0<en->el<t:=fun h0=>by
   have h2:=aJ.n;rw[<-HE.o]at h2;have h3:=y4Q aU.o (by rw[<-aE.o];show 0<X.cur.p.st.length;have h4:en=X.cur.p.st.length:=h2;omega);rw[<-aE.o]at h3;unfold y1e at h3;have h5:X.ser.cur=X.cur.p:=rfl;rw[h5,<-HE.o]at h3;exact h3
  have a4:=z7 (q5y X.cur.a bl X.cur.c X.cur.p.l X.cur.b en el ed has prev lead width t v (by rw[HE.o];exact(z3C aJ.ok.rd).1) HS.o dE eE W4 (by rw[dY.o];exact aJ.rd.now) (by have:=aJ.ok.bits;omega) e5.o);rw[<-e3.o]at a4;obtain⟨y0,y1,y2,y3,y4,y5,y6,y7,y8,y9,a9,yf⟩:=z0o (a2.o.get 0 rfl);obtain⟨z0,z1,zf⟩:=z0i (a2.o.get 1 rfl);have l0:=a2.o.lt 0 rfl;have l1:=a2.o.lt 1 rfl;obtain⟨CW,cH⟩:=zN (z3a ⟨en,el,ed,⟨has,prev,lead,width⟩⟩ ⟨t,v⟩);rw[<-cH]at a4;obtain⟨cl,⟨aH,aG,aF,⟨a3,U,R,I⟩⟩⟩:=CW;obtain⟨l',cT⟩:=zN (X.cur.p.l++cl);unfold y0U at a4;simp only at a4;rw[<-cT]at a4;have dZ:=z7 cH;have d0:=z7 cT;clear aJ cH cT;go_wp2_with fail;refine a4.o.mono ?_;rintro e w5 ⟨a',n',c',b',rfl,bZ,rfl,b7,hb⟩;have cA:=z7 (a2.o.call hb);have d7:=z7 (d6.o.low hb);have aM:=z7 bZ;have c8:=z7 b7;obtain⟨y0,y1,y2,y3,y4,y5,y6,y7,y8,y9,a9,yf⟩:=z0o (cA.o.get 0 rfl);have l0:=cA.o.lt 0 rfl;clear a4 hb bZ b7 z0 z1 zf;go_upto_region 7 with fail
  have bM:z0K (fun _=>False) w [(p,.cells #[.slice a' b'.length c',.int .i64 (l'.length:Nat),.slice X.cur.ea pn X.cur.ec,.int .i64 aH,.int .i64 aG,.int .i64 aF,.bool a3,.int .u64 U,.int .u8 R,.int .u8 I,.bool false] 100 (0,0)),(w.heap.size,.cells #[.int .i64 t,.int .u64 (v:Nat)] 71 (0,0))] ((w5.setCells p 0 [.slice a' b'.length c',.int .i64 (l'.length:Nat)]).setCells p 3 [.int .i64 aH,.int .i64 aG,.int .i64 aF,.bool a3,.int .u64 U,.int .u8 R,.int .u8 I]):=
   z0K.lay 0 (z0K.lay 0 cA.o 0 [.slice a' b'.length c',.int .i64 (l'.length:Nat)] rfl rfl rfl rfl) 3 _ rfl rfl rfl rfl
  obtain⟨W6,cI,bM⟩:=bM.named;have e6:z0t (fun k=>k=p) w5 W6:=by
   rw[cI];exact(z0t.setCells (S:=fun k=>k=p) rfl _ _ _).trans (z0t.setCells (S:=fun k=>k=p) rfl _ _ _) fun k h=> .inl h
  refine z0G cI ?_;have aY:=z7 bM;have aD:=z7 (d7.o.keep (fun k A=>e6.block k (d7.o.lts k A) (by have:=bC.o k A;omega)) e6.size);have cE:=z7 (j7 aM.o fun k A=>e6.block k (aM.o.lt k A).2 (by have:=(aM.o.lt k A).1;have:=a2.o.lt 0 rfl;omega));have eZ:=z7 e6;clear bM cI e6 y0 y1 y2 y3 y4 y5 y6 y7 y8 y9 a9 yf l0 l1;have cS:Hid (∀w',Below W6.heap.size W6 w'->Rd w' (.slice X.cur.ea pn pn) 1 pn (z2p (z1p X.cur.p.st))):=z7 fun w' hb=>by
   have L:=(aD.o.low hb).cur.ends.now;rw[<-aV.o]at L;refine⟨L.1,?_⟩;rcases L.2 with⟨h2,h3⟩|⟨ad,cp,h2,h3⟩
   ·simp only[Value.slice.injEq]at h2;exact .inl ⟨by rw[h2.1,h2.2.1],h3⟩
   ·simp only[Value.slice.injEq,true_and]at h2;exact .inr ⟨ad,pn,by rw[h2.1],h3⟩
  obtain⟨iS,eG,dR,dS,dT⟩:=info_parts y4M;have bS:pn<=24:=by rw[aV.o];exact aD.o.cur.ok.len
  have dF:X.cur.ea=none->pn=0/\X.cur.ec=0:=fun e=>by
   have L:=aD.o.cur.ends.now.2;rw[<-aV.o,e]at L;rcases L with⟨L,h2⟩|⟨ad,c,L, -⟩
   ·simp only[Value.slice.injEq,true_and]at L;exact L
   ·simp at L
  have dG:pn<=X.cur.ec:=by rw[aV.o];exact aD.o.cur.cap
  have cR:=z7 (q3R X.cur.ea pn X.cur.ec dF (by omega) dG);refine q6 9 63 (fun D v w'=>ClS W6 l'.length pn (z2p (z1p X.cur.p.st)) D v w') ⟨(Below.refl _ _).drew,(fun e=>by cases e),fun e=>by cases e⟩ ?_;simp only[z0v];have cO:Hid (∀w',Below W6.heap.size W6 w'->p<w'.heap.size/\w'.cell? ⟨p,1,none⟩=some (.int .i64 (l'.length:Nat))/\w'.cell? ⟨p,2,none⟩=some (.slice X.cur.ea pn X.cur.ec)):=z7 fun w' hb=>by
   have L:=(aY.o.call hb).get 0 rfl;obtain⟨y0,y1,y2,y3,y4,y5,y6,y7,y8,y9,a9,yf⟩:=z0o L;exact⟨(aY.o.call hb).lt 0 rfl,y1,y2⟩
  iterate 2 (refine q8.rl (e:=?_) (fun D v w h=>⟨h.low,h.made,h.app⟩) (fun D v w' hD J=>?_) ?_;rotate_left;(obtain⟨lp,q1,q2⟩:=cO.o w' J.low;clear J hD;go_simp;try with_reducible rfl);go_simp)
  refine q8.ca (.slice X.cur.ea pn pn) (fun D v w' hD J=>?_) ?_
  ·have HZ:=z7 J;clear J hD;go_simp;go_at_call 39;refine(cR.o w').mono ?_;rintro e eM ⟨rfl,hb⟩;exact⟨rfl,HZ.o.call 2 (by decide) (by decide) hb⟩
  go_simp;iterate 3 (refine q8.rl (e:=?_) (fun D v w h=>⟨h.low,h.made,h.app⟩) (fun D v w' hD J=>?_) ?_;rotate_left;(obtain⟨lp,q1,q2⟩:=cO.o w' J.low;clear J hD;go_simp;try with_reducible rfl);go_simp)
  refine q8.re (fun D v w' hD J=>?_) ?_
  ·have e4:=z7 (J.make (hD.post 7 _ rfl (by kernel_rfl)));clear J hD;go_simp;exact e4.o
  go_simp;refine q8.re (fun D v w' hD J=>?_) ?_
  ·obtain⟨g,e6,eF,aL⟩:=J.made (hD.pre 6 (by kernel_rfl));have HZ:=z7 J;have eL:=cS.o w' J.low;clear J hD;refine y0M _ _ 94 rfl 3 iS _ 1 8 underlying94 eG dR dS dT rfl X.cur.ea pn _ rfl eL ⟨g,0,none⟩ 1 1 [.int .i64 (l'.length:Nat)] e6 rfl (fun j u hu=>?_) (by decide) (by unfold maxLen;omega) (by omega) ?_
   ·rw[y0y,Nat.zero_add,cell_of_row w' g j _ _ _ aL];simpa using hu
   ·intro c' eM L h2;refine⟨_,rfl,⟨HZ.o.low.trans (h2.mono HZ.o.low.size),(fun e=>?_),fun e=>⟨_,c',z0p _ _ _,HZ.o.low.size,z0c L HZ.o.low.size⟩⟩,trivial⟩;exact⟨g,by rw[z0d (by decide)];exact e6,eF,(h2.block g (Array.getElem?_eq_some_iff.1 aL).1).trans aL⟩
  go_simp;iterate 1 (refine q8.rl (e:=?_) (fun D v w h=>⟨h.low,h.made,h.app⟩) (fun D v w' hD J=>?_) ?_;rotate_left;(obtain⟨lp,q1,q2⟩:=cO.o w' J.low;clear J hD;go_simp;try with_reducible rfl);go_simp)
  refine q8.fin (fun vv w7 J=>?_);obtain⟨g7,c7,dO,dH,bE⟩:=J.app rfl;rw[dO];have cB:=z7 (aY.o.call J.low);have d8:=z7 (aD.o.low J.low);have aB:=z7 (ownsRow_below cE.o J.low (Nat.le_refl _));have aA:=z7 bE;obtain⟨y0,y1,y2,y3,y4,y5,y6,y7,y8,y9,a9,yf⟩:=z0o (cB.o.get 0 rfl);have l0:=cB.o.lt 0 rfl;have dD:=z7 dH;clear J dO bE dH;go_upto_region 8 with fail
  have bN:z0K (fun _=>False) w [(p,.cells #[.slice a' b'.length c',.int .i64 (l'.length:Nat),.slice (some ⟨g7,0,none⟩) (pn+1) c7,.int .i64 aH,.int .i64 aG,.int .i64 aF,.bool a3,.int .u64 U,.int .u8 R,.int .u8 I,.bool false] 100 (0,0)),(w.heap.size,.cells #[.int .i64 t,.int .u64 (v:Nat)] 71 (0,0))] (w7.setCells p 2 [.slice (some ⟨g7,0,none⟩) (pn+1) c7]):=
   z0K.lay 0 cB.o 2 _ rfl rfl rfl rfl
  obtain⟨W8,cJ,bN⟩:=bN.named;refine z0G cJ ?_;have e8:z0t (fun k=>k=p) w7 W8:=by rw[cJ];exact z0t.setCells (S:=fun k=>k=p) rfl _ _ _
  have f3:Hid (∀k,w3.heap.size<=k->k≠p->True):=z7 fun _ _ _=>trivial;have aZ:=z7 bN;have e7:=z7 (d8.o.keep (fun k A=>e8.block k (d8.o.lts k A) (by have:=bC.o k A;omega)) e8.size);have eT:=a2.o.lt 0 rfl;have cF:=z7 (j7 aB.o fun k A=>e8.block k (aB.o.lt k A).2 (by have:=(aB.o.lt k A).1;omega));have eU:=aY.o.lt 0 rfl;have bH:=z7 (j7 aA.o fun k A=>e8.block k (aA.o.lt k A).2 (by have:=(aA.o.lt k A).1;omega));have eD:=z7 e8;have bT:Hid (∀w',Below W8.heap.size W8 w'->z0q w' bb mb E b B S):=z7 fun w' hb=>H.o.low (aZ.o.low.toBelow.trans (hb.mono aZ.o.low.size));clear bN cJ e8 y0 y1 y2 y3 y4 y5 y6 y7 y8 y9 a9 yf l0;obtain⟨aX,b8⟩:=zN (decide (pn+1=b.size));have eW:((pn:Int)+1==(b.size:Int))=aX:=by
   rw[b8];by_cases h:pn+1=b.size
   ·rw[decide_eq_true h,beq_iff_eq];omega
   ·rw[decide_eq_false h];exact beq_false_of_ne (by omega)
  have cD:=z7 b8;clear b8;refine q6 9 63 (fun D v w'=>Below W8.heap.size W8 w') (Below.refl _ _).drew ?_;simp only[z0v];iterate 9 (refine q8.rd (e:=?_) (fun D v w' hD J=>?_) ?_;rotate_left;(obtain⟨y0,y1,y2,y3,y4,y5,y6,y7,y8,y9,a9,yf⟩:=z0o ((aZ.o.call J).get 0 rfl);have l0:=(aZ.o.call J).lt 0 rfl;have cM:=bT.o w' J;obtain⟨b0,b1,b2,bf⟩:=cM.cells;have lb:=(cM.lo bb cM.own.1).2;clear J hD;go_simp;try with_reducible rfl);go_simp)
  refine q8.fin (fun vv w9 J=>?_);have cC:=z7 (aZ.o.call J);have d9:=z7 (e7.o.low J);have aC:=z7 (ownsRow_below cF.o J (Nat.le_refl _));have a5:=z7 (ownsRow_below bH.o J (Nat.le_refl _));have eO:Hid (∀w',Below w9.heap.size w9 w'->z0q w' bb mb E b B S):=z7 fun w' hb=>bT.o w' (J.trans (hb.mono J.size));obtain⟨y0,y1,y2,y3,y4,y5,y6,y7,y8,y9,a9,yf⟩:=z0o (cC.o.get 0 rfl);have l0:=cC.o.lt 0 rfl;clear J;go_upto_region 9 with fail
  have aN:z0K (fun _=>False) w [(p,.cells #[.slice a' b'.length c',.int .i64 (l'.length:Nat),.slice (some ⟨g7,0,none⟩) (pn+1) c7,.int .i64 aH,.int .i64 aG,.int .i64 aF,.bool a3,.int .u64 U,.int .u8 R,.int .u8 I,.bool aX] 100 (0,0)),(w.heap.size,.cells #[.int .i64 t,.int .u64 (v:Nat)] 71 (0,0))] (w9.setCells p 10 [.bool aX]):=
   z0K.lay 0 cC.o 10 _ rfl rfl rfl rfl
  obtain⟨bL,b4,aN⟩:=aN.named;refine z0G b4 ?_;have aW:z0t (fun k=>k=p) w9 bL:=by rw[b4];exact z0t.setCells (S:=fun k=>k=p) rfl _ _ _
  have b5:=d9.o.keep (fun k A=>aW.block k (d9.o.lts k A) (by have:=bC.o k A;omega)) aW.size;have a6:=j7 aC.o fun k A=>aW.block k (aC.o.lt k A).2 (by have:=(aC.o.lt k A).1;omega);have a0:=j7 a5.o fun k A=>aW.block k (a5.o.lt k A).2 (by have:=(a5.o.lt k A).1;omega);have c5:X.ser.cur=X.cur.p:=rfl;have bR:z3a (z0m z0h X.cur.p.st) ⟨t,v⟩=(cl,⟨aH,aG,aF,⟨a3,U,R,I⟩⟩):=by rw[<-HE.o];exact dZ.o.symm
  have cY:(z2T X.cur.p ⟨t,v⟩).l=l':=by unfold z2T;simp only[bR];exact d0.o.symm
  have dN:z0m z0h (z2T X.cur.p ⟨t,v⟩).st=⟨aH,aG,aF,⟨a3,U,R,I⟩⟩:=by unfold z2T;simp only[bR,y7I]
  have aT:(z2T X.cur.p ⟨t,v⟩).st.length=pn+1:=by unfold z2T;rw[aV.o];simp
  have aS:z2p (z1p (z2T X.cur.p ⟨t,v⟩).st)=z2p (z1p X.cur.p.st)++ [.int .i64 (l'.length:Nat)]:=by
   unfold z2T z2p z1p;simp only[bR,d0.o,List.map_append,List.map_cons,List.map_nil,List.length_append]
  have bG:((⟨a',c',b',some ⟨g7,0,none⟩,c7,z2T X.cur.p ⟨t,v⟩⟩:z1r).vals aX).toArray= #[.slice a' b'.length c',.int .i64 (l'.length:Nat),.slice (some ⟨g7,0,none⟩) (pn+1) c7,.int .i64 aH,.int .i64 aG,.int .i64 aF,.bool a3,.int .u64 U,.int .u8 R,.int .u8 I,.bool aX]:=by
   unfold z1r.vals;simp only[cY,dN,aT]
  have bY:(z2T X.cur.p ⟨t,v⟩).Ok:=q3v b5.cur.ok (by
   have L:=e1.o;rw[<-aE.o,c5]at L;have h2:=H.o.size.2;omega) HS.o (fun h0=>by
   have h3:=y4Q aU.o (by rw[<-aE.o];exact h0);rw[<-aE.o]at h3;exact h3)
  have c6:z1r.Ok (fun k=>(Value.slice a' b'.length c').ownBlock=some k\/k=g7) bL ⟨a',c',b',some ⟨g7,0,none⟩,c7,z2T X.cur.p ⟨t,v⟩⟩:=by
   refine⟨fun w' A=>?_,fun w' A=>?_,bY,by show(z2T X.cur.p ⟨t,v⟩).st.length<=c7;rw[aT];exact(z1O a0).1⟩
   ·show z0r w' a' b'.length c' (z2T X.cur.p ⟨t,v⟩).l b';rw[cY];exact z5l (j7 a6 fun k h=>A k (.inl h)) rfl c8.o
   ·show Rd w' (.slice (some ⟨g7,0,none⟩) (z2T X.cur.p ⟨t,v⟩).st.length c7) 1 (z2T X.cur.p ⟨t,v⟩).st.length (z2p (z1p (z2T X.cur.p ⟨t,v⟩).st));rw[aT,aS];exact z0e (j7 a0 fun k h=>A k (.inr (by simp only[Value.ownBlock,Option.some.injEq]at h;exact h.symm)))
  have b3:∀k,((Value.slice a' b'.length c').ownBlock=some k\/k=g7)->p<k/\k<bL.heap.size:=fun k A=>by
   rcases A with A|rfl
   ·have L:=(aM.o.lt k A).1;have h2:=a2.o.lt 0 rfl;exact⟨by omega,(a6.lt k A).2⟩
   ·have h2:=aY.o.lt 0 rfl;exact⟨by have:=dD.o;omega,(a0.lt k rfl).2⟩
  have dJ:=z7 (y8z X ⟨a',c',b',some ⟨g7,0,none⟩,c7,z2T X.cur.p ⟨t,v⟩⟩ aX _ (by have:=bU.o;rw[<-aE.o,X.done_len]at this;exact this) bL b5 c6 (fun k A=>⟨(b3 k A).2,by have:=bC.o X.sb (.inl rfl);have:=(b3 k A).1;omega,by have:=bC.o X.g (.inr (.inl rfl));have:=(b3 k A).1;omega⟩) (by show 0<(z2T X.cur.p ⟨t,v⟩).st.length;omega));rw[bG]at dJ;have O:=z7 aN;have d4:=z7 b3;have dX:=z7 (H.o.low O.o.low.toBelow);clear aN b4 aW b5 a6 a0 c5 bR cY dN aT aS bG bY c6 b3 y0 y1 y2 y3 y4 y5 y6 y7 y8 y9 a9 yf;have dL:=O.o.get 0 rfl;go_wp2_with (refine z0J rfl 100 _ rfl p 0 rfl _ (z1X dL) z3j z0S ?_);refine dJ.o.mono ?_;rintro e dU ⟨rfl,X',bW,bF,dB,bB,b9⟩;have d5:=z7 dB;have cG:=z7 bF;have cW:=z7 b9;have a8:=z7 bB;have aO:∀k,S k->(∀Y,z0P (id:Int) E=some Y->¬Y.In k)->dU.heap[k]? =w.heap[k]? :=fun k A hn=>by
   have eH:=(H.o.lo k A).2;have eI:=O.o.low.size;refine(bB.block k (by omega) fun e=>?_).trans (O.o.low.block k eH fun e=>e);have b6:X.In k:=by
    rcases e with rfl|rfl
    ·exact .inr (.inl rfl)
    ·exact .inl rfl
   rcases bI.o with hw|⟨-,hw⟩
   ·exact hn X hw b6
   ·have:=hw k b6;have:=a7.o.low.size;omega
  have cZ:=z7 aO;have cX:∀Y,z0P (id:Int) E=some Y->¬Y.In bb/\¬Y.In mb:=fun Y hY=>⟨fun A=>((H.o.each _ (z1z hY)).2 bb A).2.1 rfl,fun A=>((H.o.each _ (z1z hY)).2 mb A).2.2 rfl⟩;have aI:=(aO bb H.o.own.1 fun Y hY=>(cX Y hY).1).trans H.o.blk;have bA:z9P dU mb E:=H.o.map.same (aO mb H.o.own.2 fun Y hY=>(cX Y hY).2);obtain⟨b0,b1,b2,bf⟩:=cells3 aI;have lb:=(Array.getElem?_eq_some_iff.1 aI).1;have e2:=z7 bA;rw[<-bW];have eC:E.length<maxLen:=by have:=H.o.few;unfold maxLen;omega
  clear dB bF b9 bB aO aI bA bW;go_wp2_with (at_mapUpdate;refine z3U z5a rfl _ _ _ 120 rfl 92 underlying120 rfl e2.o eC (id:Int) rfl (z8E hid) X' rfl rfl ?_;intro eN bX bV bD;have d3:=z7 bX;have a1:=z7 bV;have eR:=z7 bD;clear bX bV bD);go_ret;have dM:∀k,X'.In k->k≠mb:=fun k A e=>by
   subst e;have f0:=(H.o.lo k H.o.own.2).2;rcases cW.o k A with L|L|L
   ·rcases bI.o with hw|⟨-,hw⟩
    ·exact(cX X hw).2 L
    ·have:=hw k L;have:=a7.o.low.size;omega
   ·have:=(d4.o k L).1;have:=a2.o.ge 0 rfl;omega
   ·have:=O.o.low.size;omega
  have dC:z0D eN X':=d5.o.keep (fun k A=>a1.o.block k (d5.o.lts k A) fun e=>dM k A (by simpa using e)) a1.o.size;have eX:=a8.o.size;have eV:=O.o.low.size;have eY:=a1.o.size;obtain⟨S',eA,eB⟩:=H.o.upd id X' dC d3.o (by omega) (fun k A=>by
   rcases cW.o k A with L|L|L
   ·rcases bI.o with hw|⟨-,hw⟩
    ·exact .inl ⟨X,hw,L⟩
    ·have:=hw k L;have:=a7.o.low.size;exact .inr (by omega)
   ·have:=(d4.o k L).1;have:=a2.o.ge 0 rfl;exact .inr (by omega)
   ·exact .inr (by omega)) (fun k A eJ hn=>(a1.o.block k (by have:=(H.o.lo k A).2;omega) fun e=>eJ (by simpa using e)).trans (cZ.o k A hn)) (fun hn=>by
   have L:=y5V aU.o;unfold z3A at L;split at L
   ·cases L
   ·rename_i hr;have eS:b.all.length=E.length:=(by rw[H.o.all];simp);have dI:z0P (id:Int) b.all=none:=(by rw[H.o.all,z8N,hn];rfl);have:¬b.most<=b.all.length:=fun h=>hr ⟨dI,h⟩;omega)
  refine .inr ⟨aU.o,rfl,z1B z4p (id:Int) X' E,S',?_,?_,eB⟩
  ·have:z8u b id ⟨t,v⟩=b.set id X'.ser:=by
    unfold z8u;rw[cG.o,<-aE.o,cD.o,aV.o];rfl
   rw[this];exact eA
  ·refine⟨a1.o.os.trans (a8.o.os.trans O.o.low.os),a1.o.tape.trans (a8.o.tape.trans O.o.low.tape),a1.o.output.trans (a8.o.output.trans O.o.low.output),by omega,fun k A hn=>?_⟩;refine(a1.o.block k (by omega) fun e=>hn (by rw[show k=mb by simpa using e];exact H.o.own.2)).trans ((a8.o.block k (by omega) fun e=>?_).trans (O.o.low.block k A fun e=>e));have b6:X.In k:=by
    rcases e with rfl|rfl
    ·exact .inr (.inl rfl)
    ·exact .inl rfl
   rcases bI.o with hw|⟨-,hw⟩
   ·exact hn ((H.o.each _ (z1z hw)).2 k b6).1
   ·have:=hw k b6;have:=a7.o.low.size;omega
 ·have aU:=z7 hm;have f2:((z6K b id t:Int) !=0)=true:=by rw[bne_iff_ne];omega
  clear h hT hm hs cV aR;go_enter func18,ntmps18;go_wp2_with fail;refine HM.o.mono ?_;rintro e w1 ⟨rfl,hb⟩;have a7:=z7 (c9.o.call hb);clear hb;go_wp2;go_ret;exact .inl ⟨aU.o,rfl,a7.o.low⟩

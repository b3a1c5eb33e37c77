/-
  The walk of a series' grow.
-/
import Derived.Test.YtfcnapnopdomhaaGreatDoorZBkMBkABkCBkD
namespace Go.Proofs.YtfcnapnopdomhaaGreatDoor
set_option linter.unusedSimpArgs false
set_option linter.unusedVariables false
set_option maxRecDepth 100000
set_option maxHeartbeats 12800000
open Go.RowKit Go.Maps
def z0C.put(X:z0C)(x:z1g)(T':Nat→Prop):z0C:=⟨X.sb,X.g,X.cap,fun k=>X.T k∨T' k,X.done,x⟩
theorem z0v.setLast{w w':World}{X:z0C}{x:z1g}{T':Nat→Prop}(h:z0v w X)(hx:x.Ok T' w)(hT:∀k,T' k→k<w.heap.size∧k≠X.sb∧k≠X.g)(hw:w'=w.setCells X.g (X.done.length*11) (x.vals false)):
  z0v w' (X.put x T')∧z0s (fun k=>k=X.g) w w':=by
 subst hw;have ho:z0s (fun k=>k=X.g) w (w.setCells X.g (X.done.length*11) (x.vals false)):=z0s.setCells (S:=fun k=>k=X.g) rfl _ _ _;have hk:∀k,k<w.heap.size→k≠X.g→(w.setCells X.g (X.done.length*11) (x.vals false)).heap[k]? =w.heap[k]? :=fun k hk hn=>ho.block k hk hn;have hs:(w.setCells X.g (X.done.length*11) (x.vals false)).heap.size=w.heap.size:=size_setCells _ _ _;have hTk:∀k,X.T k→(w.setCells X.g (X.done.length*11) (x.vals false)).heap[k]? =w.heap[k]? :=fun k hT=>hk k (h.lt k hT) (fun e=>h.far.2 (e▸hT));have hTk':∀k,T' k→(w.setCells X.g (X.done.length*11) (x.vals false)).heap[k]? =w.heap[k]? :=fun k hT'=>hk k (hT k hT').1 (hT k hT').2.2;refine ⟨⟨?_,?_,h.ne,⟨fun e=>?_,fun e=>?_⟩,fun k e=>?_,fun y hy=>⟨((h.done y hy).1.next hTk).mono fun k hk=> .inl hk,(h.done y hy).2⟩,(hx.next hTk').mono fun k hk=> .inr hk⟩,ho⟩
 ·exact (hk X.sb (h.lts _ (.inl rfl)) h.ne).trans h.blk
 ·have h1:=z6m (x.vals false) (X.done.length*11) _ _ h.row;have h2:=z7I (x.vals false) (X.done.flatMap fun x=>x.vals true) (X.cur.vals false) rfl;rw [z7d] at h2;unfold z0C.cells at h1;rw [h2] at h1;exact h1
 ·rcases e with e | e
  ·exact h.far.1 e
  ·exact (hT _ e).2.1 rfl
 ·rcases e with e | e
  ·exact h.far.2 e
  ·exact (hT _ e).2.2 rfl
 ·rw [hs];rcases e with e | e
  ·exact h.lt k e
  ·exact (hT k e).1
theorem z0v.lastAt{w:World}{X:z0C}(h:z0v w X){o:Nat}(ho:o=X.done.length*11):∀j v,(X.cur.vals false).toArray[j]? =some v→w.cell? ⟨X.g,o+j,none⟩=some v:=fun j v hv=>by
 subst ho;exact h.at (by simpa using hv)
theorem z0v.lastSome{w:World}{X:z0C}(h:z0v w X){o:Nat}(ho:o=X.done.length*11):∀j,j<11→(w.cell? ⟨X.g,o+j,none⟩).isSome=true:=fun j hj=>by
 have:j<(X.cur.vals false).length:=hj;rw [h.lastAt ho j _ (by rw [List.getElem?_toArray];exact List.getElem?_eq_getElem this)];rfl
theorem z3k:(Tryz.prog.underlying 141).map z7q=some true:=by kernel_rfl
theorem y7X:(Tryz.prog.info? 141).map (fun i=>(i.zero,i.size,i.bytes))=some (some (.agg #[.slice none 0 0, .int .i64 0, .slice none 0 0, .int .i64 0, .int .i64 0, .int .i64 0, .bool false, .int .u64 0, .int .u8 0, .int .u8 0, .bool false]),11,112):=by kernel_rfl
theorem z0Q:(Tryz.prog.info? 141).map (·.size)=some 11:=by kernel_rfl
theorem z1g.one(x:z1g)(cl:Bool):(x.vals cl).toArray.all (·.oneCell')=true:=by simp [z1g.vals,Value.oneCell']
theorem y4C(X:z0C)(x:z1g)(T':Nat→Prop)(hn:X.done.length≤1000000000)(w:World)(h:z0v w X)(hx:x.Ok T' w)(hT:∀k,T' k→k<w.heap.size∧k≠X.sb∧k≠X.g):
  Calls Tryz.prog 84 #[.pointer (some ⟨X.sb,0,none⟩), .agg (x.vals false).toArray] w fun e w'=>e= .returned (.tuple #[])∧z0v w' (X.put x T')∧z0s (fun k=>k=X.g) w w':=by
 have HL0:=z7 ((Loc.start w).new (.cells (x.vals false).toArray 141));have HS:=z7 (h.low HL0.out.low);have HLA:=z7 (z7h X hn);obtain ⟨o,ho⟩:∃o,o=X.done.length*11:=⟨_,rfl⟩;rw [←ho] at HLA;have HO:=z7 ho;have HX:=z7 hx;have HT:=z7 hT;have HLT:=z7 (h.lts X.g (.inr (.inl rfl)));clear h hx hT ho hn;go_enter Tryz.func84,Tryz.ntmps84;go_wp2_with fail;obtain ⟨w1,hw1,hL1⟩:=HL0.out.named;rw [←hw1] at HS ⊢;have HL1:=z7 hL1;clear hL1 hw1;refine q6 4 29 (by kernel_rfl) (by kernel_rfl) rfl (by kernel_rfl) (fun D v w'=>Below w1.heap.size w1 w') (fun _=>undef) (Below.refl _ _).drew ?_;simp only [List.take_succ_cons,List.take_zero,List.drop_succ_cons,List.drop_zero];iterate 1 (refine q8.rd (e:=?_) (fun D v w' hD hS=>?_) ?_;rotate_left;(skip;clear hS hD;first | (go_simp;done) | (go_simp;with_reducible rfl));go_simp)
 refine q8.call (.pointer (some ⟨X.g,o,none⟩)) (fun v=>by rfl) (fun D v w' hD hS=>?_) ?_;(focus (have HZ:=z7 hS;clear hS hD;skip;go_simp;go_at_call 81;refine (HLA.out w' (HS.out.low HZ.out)).mono ?_;rintro e w'' ⟨rfl,hb⟩;exact ⟨rfl,HZ.out.trans (hb.mono HZ.out.size)⟩));go_simp;refine q8.read (.agg (x.vals false).toArray) (fun v=>by rfl) (fun D v w h=>h) (fun D v w' hD hS=>z1M _ _ rfl _ 0 rfl _ (z2a ((HL1.out.call hS).get 0 rfl)) z3k z0Q) ?_;go_simp;iterate 1 (refine q8.rd (e:=?_) (fun D v w' hD hS=>?_) ?_;rotate_left;(have l2:=(HS.out.low hS).lts X.g (.inr (.inl rfl));clear hS hD;first | (go_simp;done) | (go_simp;with_reducible rfl));go_simp)
 refine q8.fin (fun v w2 hS=>?_);have HL2:=z7 (HL1.out.call hS);have HS2:=z7 (HS.out.low hS);clear hS;refine z0h rfl _ _ _ rfl X.g o rfl (x.vals false).toArray rfl (HS2.out.lastSome HO.out) HS2.out.row.frozenAt z0Q (x.one false) ?_;obtain ⟨w3,hw3⟩:∃w3,w3=w2.setCells X.g o (x.vals false).toArray.toList:=⟨_,rfl⟩;have h3:=HS2.out.setLast (w':=w3) (HX.out.next fun k hk=>HL2.out.low.block k (HT.out k hk).1) (fun k hk=>⟨by have:=(HT.out k hk).1;have:=HL2.out.low.size;omega,(HT.out k hk).2⟩) (by rw [hw3,HO.out]);have hg:w3.heap[w.heap.size]? =some (.cells (x.vals false).toArray 141 (0,0)):=(h3.2.block _ (HL2.out.lt 0 rfl) (fun e=>by have:=HLT.out;omega)).trans (HL2.out.get 0 rfl);rw [←hw3];have H3:=z7 h3;clear h3 hw3;obtain ⟨x0,x1,x2,x3,x4,x5,x6,x7,x8,x9,x10,xf⟩:=z0q hg;have l3:=(Array.getElem?_eq_some_iff.1 hg).1;clear hg;go_wp2
 go_end0
 exact ⟨rfl,H3.out.1,(z0s.of_below HL2.out.low).trans H3.out.2 fun k hk=> .inl hk⟩
theorem y4o(l:List z1h)(p:z1h):z3B (l++ [p])=z9X p∧z5g (l++ [p])=true:=by
 unfold z3B z5g;simp
theorem y3c(X:z0C)(x:z1g)(T':Nat→Prop)(hn:X.done.length≤1000000000)(w:World)(h:z0v w X)(hx:x.Ok T' w)(hT:∀k,T' k→k<w.heap.size∧k≠X.sb∧k≠X.g)(h0:0<x.p.st.length):
  Calls Tryz.prog 84 #[.pointer (some ⟨X.sb,0,none⟩), .agg (x.vals true).toArray] w fun e w'=>e= .returned (.tuple #[])∧∃g' cap',z0v w' ⟨X.sb,g',cap',fun k=>X.T k∨T' k,X.done++ [x],z1y⟩∧z0s (fun k=>k=X.g∨k=X.sb) w w'∧(g'=X.g∨w.heap.size≤g'):=by
 obtain ⟨iP,hiP,hpz,hps,hpb⟩:=info_parts y7X;have HL0:=z7 ((Loc.start w).new (.cells (x.vals true).toArray 141));have HS:=z7 (h.low HL0.out.low);have HLA:=z7 (z7h X hn);have HNN:=z7 hn;obtain ⟨o,ho⟩:∃o,o=X.done.length*11:=⟨_,rfl⟩;rw [←ho] at HLA;have HO:=z7 ho;have HX:=z7 hx;have HT:=z7 hT;have HLT:=z7 (And.intro (h.lts X.sb (.inl rfl)) (h.lts X.g (.inr (.inl rfl))));clear h hx hT ho hn;go_enter Tryz.func84,Tryz.ntmps84;go_wp2_with fail;obtain ⟨w1,hw1,hL1⟩:=HL0.out.named;rw [←hw1] at HS ⊢;have HL1:=z7 hL1;clear hL1 hw1;refine q6 4 29 (by kernel_rfl) (by kernel_rfl) rfl (by kernel_rfl) (fun D v w'=>Below w1.heap.size w1 w') (fun _=>undef) (Below.refl _ _).drew ?_;simp only [List.take_succ_cons,List.take_zero,List.drop_succ_cons,List.drop_zero];iterate 1 (refine q8.rd (e:=?_) (fun D v w' hD hS=>?_) ?_;rotate_left;(skip;clear hS hD;first | (go_simp;done) | (go_simp;with_reducible rfl));go_simp)
 refine q8.call (.pointer (some ⟨X.g,o,none⟩)) (fun v=>by rfl) (fun D v w' hD hS=>?_) ?_;(focus (have HZ:=z7 hS;clear hS hD;skip;go_simp;go_at_call 81;refine (HLA.out w' (HS.out.low HZ.out)).mono ?_;rintro e w'' ⟨rfl,hb⟩;exact ⟨rfl,HZ.out.trans (hb.mono HZ.out.size)⟩));go_simp;refine q8.read (.agg (x.vals true).toArray) (fun v=>by rfl) (fun D v w h=>h) (fun D v w' hD hS=>z1M _ _ rfl _ 0 rfl _ (z2a ((HL1.out.call hS).get 0 rfl)) z3k z0Q) ?_;go_simp;iterate 1 (refine q8.rd (e:=?_) (fun D v w' hD hS=>?_) ?_;rotate_left;(have l2:=(HS.out.low hS).lts X.g (.inr (.inl rfl));clear hS hD;first | (go_simp;done) | (go_simp;with_reducible rfl));go_simp)
 refine q8.fin (fun v w2 hS=>?_);have HL2:=z7 (HL1.out.call hS);have HS2:=z7 (HS.out.low hS);clear hS;refine z0h rfl _ _ _ rfl X.g o rfl (x.vals true).toArray rfl (HS2.out.lastSome HO.out) HS2.out.row.frozenAt z0Q (x.one true) ?_;obtain ⟨w3,hw3⟩:∃w3,w3=w2.setCells X.g o (x.vals true).toArray.toList:=⟨_,rfl⟩;have ho3:z0s (fun k=>k=X.g) w2 w3:=by rw [hw3];exact z0s.setCells (S:=fun k=>k=X.g) rfl _ _ _
 have hg:w3.heap[w.heap.size]? =some (.cells (x.vals true).toArray 141 (0,0)):=(ho3.block _ (HL2.out.lt 0 rfl) (fun e=>by have:=HLT.out.2;omega)).trans (HL2.out.get 0 rfl);have hrow3:w3.ownsRow 0 141 11 (.slice (some ⟨X.g,0,none⟩) (X.done.length+1) X.cap) (X.done.length+1) ((X.done++ [x]).flatMap fun x=>x.vals true):=by
  have h1:=z6m (x.vals true) (X.done.length*11) _ _ HS2.out.row;have h2:=z7I (x.vals true) (X.done.flatMap fun x=>x.vals true) (X.cur.vals false) rfl;rw [z7d] at h2;unfold z0C.cells at h1;rw [h2,←HO.out] at h1;rw [List.flatMap_append,List.flatMap_singleton,hw3];exact h1
 have hsb3:w3.heap[X.sb]? =some (.cells #[.slice (some ⟨X.g,0,none⟩) (X.done.length+1) X.cap, .int .i64 (z3B X.ser.done), .bool (z5g X.ser.done)] 158 (0,0)):=(ho3.block _ (HS2.out.lts X.sb (.inl rfl)) HS2.out.ne).trans HS2.out.blk;rw [←hw3];have HR3:=z7 hrow3;have HO3:=z7 ho3;have HSB:=z7 hsb3;obtain ⟨x0,x1,x2,x3,x4,x5,x6,x7,x8,x9,x10,xf⟩:=z0q hg;obtain ⟨s0,s1,s2,sf⟩:=cells3 hsb3;have l3:=(Array.getElem?_eq_some_iff.1 hg).1;have l4:=(Array.getElem?_eq_some_iff.1 hsb3).1;have hne:¬w.heap.size=X.sb:=by have:=HLT.out.1;omega
 clear hg hw3 hrow3 ho3 hsb3;go_upto_region 4 with fail
 obtain ⟨w4,hw4⟩:∃w4,w4=(w3.setCell ⟨X.sb,1,none⟩ (.int .i64 (z0l z0e x.p.st).last)).setCell ⟨X.sb,2,none⟩ (.bool true):=⟨_,rfl⟩;rw [←hw4];have hsb4:w4.heap[X.sb]? =some (.cells #[.slice (some ⟨X.g,0,none⟩) (X.done.length+1) X.cap, .int .i64 (z0l z0e x.p.st).last, .bool true] 158 (0,0)):=by
  rw [hw4,j9 (j9 HSB.out 1 _) 2 _];rfl
 have hk4:∀k,k≠X.sb→w4.heap[k]? =w3.heap[k]? :=fun k hk=>by rw [hw4,q7 hk,q7 hk]
 have hs4:w4.heap.size=w3.heap.size:=by rw [hw4];simp [World.setCell]
 have HO4:Hid (z0s (fun k=>k=X.g∨k=X.sb) w2 w4):=z7 (by
  rw [hw4];exact (HO3.out.mono fun k hk=> .inl (.inl hk)).trans ((z0s.setCell (S:=fun k=>k=X.g∨k=X.sb) _ _ (.inr rfl)).trans (z0s.setCell (S:=fun k=>k=X.g∨k=X.sb) _ _ (.inr rfl)) fun k h=> .inl h) fun k h=> .inl h)
 have HR4:Hid (w4.ownsRow 0 141 11 (.slice (some ⟨X.g,0,none⟩) (X.done.length+1) X.cap) (X.done.length+1) ((X.done++ [x]).flatMap fun x=>x.vals true)):=z7 (j7 HR3.out fun b hb=>by
  simp only [Value.ownBlock,Option.some.injEq] at hb;exact hk4 b (by rw [←hb];exact HS2.out.ne.symm))
 obtain ⟨s0,s1,s2,sf⟩:=cells3 hsb4;have l4:=(Array.getElem?_eq_some_iff.1 hsb4).1;have HSB4:=z7 hsb4;have hg4:X.g<w4.heap.size:=(HR4.out.lt X.g rfl).2;obtain ⟨n,hn⟩:∃n,n=X.done.length+1:=⟨_,rfl⟩;have hn1:n≤1000000001:=by rw [hn];have:=HNN.out;omega
 rw [←hn] at HR4 s0;have HN:=z7 hn;have HS4:=z7 hs4;clear hs4 hsb4 hw4 hk4 x0 x1 x2 x3 x4 x5 x6 x7 x8 x9 x10 xf hne hn;have HRD:Hid (Rd (w4.alloc (.cells #[.slice none 0 0, .int .i64 0, .slice none 0 0, .int .i64 0, .int .i64 0, .int .i64 0, .bool false, .int .u64 0, .int .u8 0, .int .u8 0, .bool false] 141)) (.slice (some ⟨w4.heap.size,0,none⟩) 1 1) 11 1 (z1y.vals false)):=z7 (z3C _ _ _ 1 11 (by decide) rfl);have HR5:=z7 (HR4.out.alloc (.cells #[.slice none 0 0, .int .i64 0, .slice none 0 0, .int .i64 0, .int .i64 0, .int .i64 0, .bool false, .int .u64 0, .int .u8 0, .int .u8 0, .bool false] 141));go_wp2_with (at_builtin;go_loud (refine z2l rfl _ _ 156 rfl 0 141 iP _ 11 112 Tryz.underlying156 hiP hpz hps hpb rfl (by decide) (some ⟨X.g,0,none⟩) n X.cap _ rfl HR5.out _ 1 (z1y.vals false) rfl HRD.out (by decide) (by simp [y3k,Value.oneCell']) (by unfold maxLen;omega) (by omega) (Nat.zero_le _) ?_;intro g5 c5 w5 h5 hg5 hb5;(have H5:=z7 h5;have HG5:=z7 hg5;have HB5:=z7 hb5;have hsb5:=(hg5.block X.sb (by simp;omega) (fun e=>by simp only [Value.ownBlock,Option.some.injEq] at e;exact HS2.out.ne e)).trans ((heap_alloc_old w4 _ l4).trans HSB4.out);obtain ⟨t0,t1,t2,tf⟩:=cells3 hsb5;have l5:=(Array.getElem?_eq_some_iff.1 hsb5).1;have HSB5:=z7 hsb5;clear hsb5 h5 hg5 hb5)))
 go_end0
 obtain ⟨w6,hw6⟩:∃w6,w6=w5.setCell ⟨X.sb,0,none⟩ (.slice (some ⟨g5,0,none⟩) (n+1) c5):=⟨_,rfl⟩;rw [←hw6];have hs2w4:=HO4.out.size;have o45:z0s (fun k=>k=X.g∨k=X.sb) w4 w5:=((z0s.of_below (q5 w4 _)).trans (z0s.grown (S:=fun k=>k=X.g∨k=X.sb) HG5.out fun k hk=>by simp only [Value.ownBlock,Option.some.injEq] at hk;exact .inl hk.symm) fun k hk=> .inl hk);have o26:z0s (fun k=>k=X.g∨k=X.sb) w2 w6:=by
  rw [hw6];exact (HO4.out.trans o45 fun k hk=> .inl hk).trans (z0s.setCell (S:=fun k=>k=X.g∨k=X.sb) _ _ (.inr rfl)) fun k hk=> .inl hk
 have hg5:g5=X.g∨w4.heap.size<g5:=by
  rcases HB5.out with e | e
  ·simp only [Value.ownBlock,Option.some.injEq] at e;exact .inl e.symm
  ·rw [e];right;simp
 have hne5:g5≠X.sb:=by
  rcases hg5 with e | e
  ·rw [e];exact HS2.out.ne.symm
  ·omega
 have hT2:∀k,X.T k∨T' k→w6.heap[k]? =w2.heap[k]? :=fun k hk=>o26.block k (by
   rcases hk with hk | hk
   ·exact HS2.out.lt k hk
   ·exact Nat.lt_of_lt_of_le (HT.out k hk).1 HL2.out.low.size) (by
   rintro (rfl | rfl)
   ·rcases hk with hk | hk
    ·exact HS2.out.far.2 hk
    ·exact (HT.out _ hk).2.2 rfl
   ·rcases hk with hk | hk
    ·exact HS2.out.far.1 hk
    ·exact (HT.out _ hk).2.1 rfl)
 have hser:(X.done++ [x]).map z1g.p=X.done.map z1g.p++ [x.p]:=by rw [List.map_append];rfl
 have hah:=y4o (X.done.map z1g.p) x.p;have hlen:(X.done++ [x]).length+1=n+1:=by rw [HN.out,List.length_append,List.length_singleton]
 refine ⟨rfl,g5,c5,⟨?_,?_,hne5.symm,⟨fun e=>?_,fun e=>?_⟩,fun k hk=>?_,fun y hy=>?_,y1N _ _⟩,(z0s.of_below HL2.out.low).trans o26 fun k hk=> .inl hk,?_⟩
 ·show w6.heap[X.sb]? =some (.cells #[.slice (some ⟨g5,0,none⟩) ((X.done++ [x]).length+1) c5, .int .i64 (z3B ((X.done++ [x]).map z1g.p)), .bool (z5g ((X.done++ [x]).map z1g.p))] 158 (0,0));rw [hw6,j9 HSB5.out 0 _,hser,hah.1,hah.2,hlen];rfl
 ·show w6.ownsRow 0 141 11 (.slice (some ⟨g5,0,none⟩) ((X.done++ [x]).length+1) c5) ((X.done++ [x]).length+1) _;rw [hlen];refine j7 H5.out fun b hb=>?_;simp only [Value.ownBlock,Option.some.injEq] at hb;rw [hw6];exact q7 (by rw [←hb];exact hne5)
 ·rcases e with e | e
  ·exact HS2.out.far.1 e
  ·exact (HT.out _ e).2.1 rfl
 ·have hlt:g5<w2.heap.size:=by
   rcases e with e | e
   ·exact HS2.out.lt _ e
   ·exact Nat.lt_of_lt_of_le (HT.out _ e).1 HL2.out.low.size
  rcases hg5 with e5 | e5
  ·rcases e with e | e
   ·exact HS2.out.far.2 (e5▸e)
   ·exact (HT.out _ e).2.2 e5
  ·omega
 ·have:k<w2.heap.size:=by
   rcases hk with hk | hk
   ·exact HS2.out.lt _ hk
   ·exact Nat.lt_of_lt_of_le (HT.out _ hk).1 HL2.out.low.size
  have:=o26.size;omega
 ·rcases List.mem_append.1 hy with hy | hy
  ·exact ⟨((HS2.out.done y hy).1.mono fun k hk=> .inl hk).next hT2,(HS2.out.done y hy).2⟩
  ·rw [List.mem_singleton] at hy;subst hy;exact ⟨((HX.out.next fun k hk=>HL2.out.low.block k (HT.out k hk).1).mono fun k hk=> .inr hk).next hT2,h0⟩
 ·rcases hg5 with e | e
  ·exact .inl e
  ·have:=HL2.out.low.size;exact .inr (by omega)
theorem y6T(X:z0C)(x:z1g)(cl:Bool)(T':Nat→Prop)(hn:X.done.length≤1000000000)(w:World)(h:z0v w X)(hx:x.Ok T' w)(hT:∀k,T' k→k<w.heap.size∧k≠X.sb∧k≠X.g)(h0:0<x.p.st.length):
  Calls Tryz.prog 84 #[.pointer (some ⟨X.sb,0,none⟩), .agg (x.vals cl).toArray] w fun e w'=>e= .returned (.tuple #[])∧∃X':z0C,X'.sb=X.sb∧X'.ser=z6E X.ser x.p cl∧z0v w' X'∧z0s (fun k=>k=X.g∨k=X.sb) w w'∧(∀k,X'.In k→X.In k∨T' k∨w.heap.size≤k):=by
 cases cl with
 | false=>
  refine (y4C X x T' hn w h hx hT).mono ?_;rintro e w' ⟨rfl,h1,h2⟩;refine ⟨rfl,X.put x T',rfl,rfl,h1,h2.mono fun k hk=> .inl (.inl hk),fun k hk=>?_⟩;rcases hk with hk | hk | hk | hk
  ·exact .inl (.inl hk)
  ·exact .inl (.inr (.inl hk))
  ·exact .inl (.inr (.inr hk))
  ·exact .inr (.inl hk)
 | true=>
  refine (y3c X x T' hn w h hx hT h0).mono ?_;rintro e w' ⟨rfl,g',cap',h1,h2,h3⟩;refine ⟨rfl,⟨X.sb,g',cap',fun k=>X.T k∨T' k,X.done++ [x],z1y⟩,rfl,?_,h1,h2,fun k hk=>?_⟩
  ·show z1o.mk ((X.done++ [x]).map z1g.p) z2e=_;rw [List.map_append];rfl
  ·rcases hk with hk | hk | hk | hk
   ·exact .inl (.inl hk)
   ·rcases h3 with e | e
    ·exact .inl (.inr (.inl (hk.trans e)))
    ·exact .inr (.inr (by rw [show k=g' from hk];exact e))
   ·exact .inl (.inr (.inr hk))
   ·exact .inr (.inl hk)
section
variable {α β:Type}
theorem y1I(f:α→β)(x:Int×α):∀E:List (Int×α),(mins z4A x E).map (fun p=>(p.1,f p.2))=mins z4A (x.1,f x.2) (E.map fun p=>(p.1,f p.2))
 | []=>rfl
 | y::r=>by
  unfold mins;rw [List.map_cons];simp only;split
  ·rw [List.map_cons,List.map_cons]
  ·rw [List.map_cons,y1I f x r]
theorem y7P(f:α→β)(k:Int)(v:α)(E:List (Int×α)):(z1r z4A k v E).map (fun p=>(p.1,f p.2))=z1r z4A k (f v) (E.map fun p=>(p.1,f p.2)):=by
 unfold z1r;rw [y1I]
 congr 1
 unfold z1Z;rw [List.filter_map];rfl
def z8h(E:List (Int×α)):Prop:=E.Pairwise fun p q=>p.1≠q.1
theorem z8h.same{E:List (Int×α)}(h:z8h E){p q:Int×α}(hp:p∈E)(hq:q∈E)(e:p.1=q.1):p=q:=by
 induction E with
 | nil=>cases hp
 | cons y r ih=>
  obtain ⟨h1,h2⟩:=List.pairwise_cons.1 h;rcases List.mem_cons.1 hp with rfl | hp'
  ·rcases List.mem_cons.1 hq with rfl | hq'
   ·rfl
   ·exact absurd e (h1 q hq')
  ·rcases List.mem_cons.1 hq with rfl | hq'
   ·exact absurd e.symm (h1 p hp')
   ·exact ih h2 hp' hq'
theorem z8h.get{E:List (Int×α)}(h:z8h E){k:Int}{v:α}(hp:(k,v)∈E):z0H k E=some v:=by
 cases hg:z0H k E with
 | none=>exact absurd rfl (z7c hg _ hp)
 | some u=>
  have:=h.same hp (z1w hg) rfl;rw [Prod.mk.injEq] at this;rw [this.2]
theorem z8h.mins{x:Int×α}:∀{E:List (Int×α)},z8h E→(∀p∈E,p.1≠x.1)→z8h (Go.Proofs.YtfcnapnopdomhaaGreatDoor.mins z4A x E)
 | [],_,_=>List.pairwise_singleton _ _
 | y::r,h,hx=>by
  obtain ⟨h1,h2⟩:=List.pairwise_cons.1 h;unfold Go.Proofs.YtfcnapnopdomhaaGreatDoor.mins;split
  ·exact List.pairwise_cons.2 ⟨fun q hq=>(hx q hq).symm,h⟩
  ·refine List.pairwise_cons.2 ⟨fun q hq=>?_,z8h.mins h2 fun p hp=>hx p (List.mem_cons_of_mem _ hp)⟩;rcases (y0l z4A x q r).1 hq with rfl | hq
   ·exact hx y List.mem_cons_self
   ·exact h1 q hq
theorem z8h.put{E:List (Int×α)}(h:z8h E)(k:Int)(v:α):z8h (z1r z4A k v E):=by
 unfold z1r;refine z8h.mins (List.Pairwise.filter _ h) fun p hp=>?_;exact ((z4o k p E).1 hp).2
theorem y7Y{E:List (Int×α)}{k:Int}(h:z0H k E=none):z1Z k E=E:=List.filter_eq_self.2 fun p hp=>by simpa using z7c h p hp
theorem q0F{E:List (Int×α)}(h:z8h E)(k:Int)(v:α):(z1r z4A k v E).length=if z0H k E=none then E.length+1 else E.length:=by
 unfold z1r;rw [z5x];split
 ·rename_i hg;rw [y7Y hg]
 ·rename_i hg;cases hg2:z0H k E with
  | none=>exact absurd hg2 hg
  | some u=>
   have hm:=z1w hg2;have hp:((k,u)::z1Z k E).Perm E:=by
    clear hg hg2
    induction E with
    | nil=>cases hm
    | cons y r ih=>
     obtain ⟨g1,g2⟩:=List.pairwise_cons.1 h;unfold z1Z;rw [List.filter_cons];rcases List.mem_cons.1 hm with rfl | hr
     ·have e:(r.filter fun q=>decide (q.1≠k))=r:=List.filter_eq_self.2 fun q hq=>by simpa using (g1 q hq).symm
      rw [if_neg (by simp),e]
     ·have hne:y.1≠k:=g1 _ hr;rw [if_pos (by simpa using hne)];exact (List.Perm.swap y _ _).trans ((ih g2 hr).cons y)
   have:=hp.length_eq;simpa using this
end
theorem z3u.uniq{w:World}{mb:Nat}{E:List (Int×z0C)}(h:y5d w mb E):z8h E:=(z3u.mok h z6j).1.1
def z0m.set(b:z0m)(id:Nat)(s:z1o):z0m:=⟨b.most,b.size,z1r z4A (id:Int) s b.all⟩
theorem z0r.upd{w w':World}{bb mb B:Nat}{E:List (Int×z0C)}{b:z0m}{S:Nat→Prop}(h:z0r w bb mb E b B S)(id:Nat)(X':z0C)(hX':z0v w' X')(hmap:y5d w' mb (z1r z4A (id:Int) X' E))(hs:w.heap.size≤w'.heap.size)
  (hin:∀k,X'.In k→(∃X,z0H (id:Int) E=some X∧X.In k)∨w.heap.size≤k)
  (hoth:∀k,S k→k≠mb→(∀X,z0H (id:Int) E=some X→¬X.In k)→w'.heap[k]? =w.heap[k]?) (hroom:z0H (id:Int) E=none→E.length<b.most):
  ∃S',z0r w' bb mb (z1r z4A (id:Int) X' E) (b.set id X'.ser) B S'∧∀k,S' k→S k∨w.heap.size≤k:=by
 have hU:=h.map.uniq;have hXin:∀X,z0H (id:Int) E=some X→∀k,X.In k→S k∧k≠bb∧k≠mb:=fun X hX k hk=>(h.each _ (z1w hX)).2 k hk;have hold:∀p∈E,p.1≠(id:Int)→∀k,p.2.In k→w'.heap[k]? =w.heap[k]? :=fun p hp hne k hk=>hoth k ((h.each p hp).2 k hk).1 ((h.each p hp).2 k hk).2.2 fun X hX hXk=>h.apart p hp _ (z1w hX) hne k hk hXk;have hlow:∀k,X'.In k→k≠bb∧k≠mb∧B≤k∧k<w'.heap.size:=fun k hk=>by
  refine ⟨?_,?_,?_,hX'.lts k hk⟩<;>rcases hin k hk with ⟨X,hX,hXk⟩ | hge
  ·exact (hXin X hX k hXk).2.1
  ·have:=(h.lo bb h.own.1).2;omega
  ·exact (hXin X hX k hXk).2.2
  ·have:=(h.lo mb h.own.2).2;omega
  ·exact (h.lo k (hXin X hX k hXk).1).1
  ·have:=(h.lo bb h.own.1);omega
 refine ⟨fun k=>S k∨X'.In k,⟨?_,hmap,h.ne,⟨.inl h.own.1, .inl h.own.2⟩,fun p hp=>?_,fun p hp q hq hne k hk hk'=>?_,fun k hk=>?_,?_,⟨?_,h.few.2⟩,h.size⟩,fun k hk=>?_⟩
 ·refine (hoth bb h.own.1 h.ne fun X hX hk=>?_).trans h.blk;exact (hXin X hX bb hk).2.1 rfl
 ·rcases (z3m z4A _ _ p E).1 hp with rfl | ⟨hp,hne⟩
  ·exact ⟨hX',fun k hk=>⟨.inr hk,(hlow k hk).1,(hlow k hk).2.1⟩⟩
  ·exact ⟨(h.each p hp).1.keep (hold p hp hne) hs,fun k hk=>⟨.inl ((h.each p hp).2 k hk).1,((h.each p hp).2 k hk).2⟩⟩
 ·have key:∀r∈E,r.1≠(id:Int)→r.2.In k→¬X'.In k:=fun r hr hrn hrk hXk=>by
   rcases hin k hXk with ⟨X,hX,hXk⟩ | hge
   ·exact h.apart r hr _ (z1w hX) hrn k hrk hXk
   ·have:=(h.lo k ((h.each r hr).2 k hrk).1).2;omega
  rcases (z3m z4A _ _ p E).1 hp with rfl | ⟨hp,hn1⟩
  ·rcases (z3m z4A _ _ q E).1 hq with rfl | ⟨hq,hn2⟩
   ·exact hne rfl
   ·exact key q hq hn2 hk' hk
  ·rcases (z3m z4A _ _ q E).1 hq with rfl | ⟨hq,hn2⟩
   ·exact key p hp hn1 hk hk'
   ·exact h.apart p hp q hq hne k hk hk'
 ·rcases hk with hk | hk
  ·exact ⟨(h.lo k hk).1,Nat.lt_of_lt_of_le (h.lo k hk).2 hs⟩
  ·exact ⟨(hlow k hk).2.2.1,(hlow k hk).2.2.2⟩
 ·show z1r z4A (id:Int) X'.ser b.all=_;rw [h.all,←y7P]
 ·show (z1r z4A (id:Int) X' E).length≤b.most;rw [q0F hU];have:=h.few.1;split
  ·rename_i hg;have:=hroom hg;omega
  ·exact this
 ·rcases hk with hk | hk
  ·exact .inl hk
  ·rcases hin k hk with ⟨X,hX,hXk⟩ | hge
   ·exact .inl (hXin X hX k hXk).1
   ·exact .inr hge
section
variable {P:Program} {w:World} {a:Act} {o:Oper} {K:Act→World→Prop} {Q:Exit→Act→World→Prop}
theorem z9w(t ty e:TypeId)(i:TypeInfo)(z:Value)(size bytes:Nat)(ht:P.underlying t=some (.slice e))(hi:P.info? e=some i)(hz:i.zero=some z)
  (hsize:i.size=size) (hby:i.bytes=bytes) (hzs:z.cells.size=size)
  (b:Option Addr) (n:Nat) (xs:List Value) (hxs:Rd w (.slice b n n) size n xs)
  (ad:Addr) (m c:Nat) (news:List Value) (hl:news.length=m*size) (hnews:∀j u,news[j]? =some u→w.cell? (ad.add j)=some u) (hm:0<m)
  (h63:n+m≤maxLen) (hbytes:(n+m)*bytes≤140737488355328):
  ∃c' w',(Builtin.append_ #[t,t] ty #[.slice b n n, .slice (some ad) m c]).run P w= .ok (.slice (some ⟨w.heap.size,0,none⟩) (n+m) c') w'∧w'.ownsRow w.heap.size e size (.slice (some ⟨w.heap.size,0,none⟩) (n+m) c') (n+m) (xs++news)∧Below w.heap.size w w':=by
 subst hsize;subst hby;have hsmall:n+m≤9223372036854775807:=by simp only [maxLen] at h63;omega
 have hlen:(xs++news).length=(n+m)*i.size:=by rw [List.length_append,hxs.1,hl,Nat.add_mul]
 have grown:∀(old:Nat),old<n+m→
   (w.drew.alloc (.cells (xs.toArray++news.toArray++Builtin.zeroCells z.cells (grownCap w (n+m) old e - (n+m))) e)).ownsRow w.heap.size e i.size
    (.slice (some ⟨w.heap.size,0,none⟩) (n+m) (grownCap w (n+m) old e)) (n+m) (xs++news)∧
   Below w.heap.size w (w.drew.alloc (.cells (xs.toArray++news.toArray++Builtin.zeroCells z.cells (grownCap w (n+m) old e - (n+m))) e)):=by
  intro old ho;have hge:=grownCap_ge w (n+m) old e;have hcm:grownCap w (n+m) old e≤maxLen:=grownCap_le_maxLen w (n+m) old e h63;refine ⟨⟨hlen, .inr ⟨w.heap.size,_,_,rfl,Nat.le_refl _,heap_alloc_new w.drew _,hge,hcm,?_,?_⟩⟩,(q5 w.drew _).trans (Below.refl _ _) |>fun h=>⟨h.os,h.tape,h.output,h.size,h.block⟩⟩
  ·simp only [Array.size_append,List.size_toArray,size_zeroCells,hzs,hxs.1,hl,←Nat.add_mul]
   congr 1
   omega
  ·simp only [Array.toList_append,List.append_assoc];rw [←List.append_assoc,←hlen];exact List.take_left
 rcases hxs.2 with ⟨he,hn0⟩ | ⟨ad2,c2,he,hc⟩
 ·simp only [Value.slice.injEq] at he;obtain ⟨rfl,rfl, -⟩:=he;have hx:xs= []:=List.eq_nil_of_length_eq_zero (by simpa using hxs.1);subst hx;obtain ⟨g1,g2⟩:=grown 0 (by omega);refine ⟨_,_,?_,g1,g2⟩;have:=run_append_nil (P:=P) w t ty e i z ht hi hz ad m c news hl hnews hm (by omega) (by have hb:=hbytes;simp only [Nat.zero_add] at hb;omega);simpa using this
 ·simp only [Value.slice.injEq,true_and] at he;obtain ⟨rfl,rfl⟩:=he;obtain ⟨g1,g2⟩:=grown n (by omega);exact ⟨_,_,run_append_grow (P:=P) w t ty e i z ht hi hz ad2 n n xs hxs.1 hc ad m c news hl hnews (by omega) (by omega) (growslice_fits (by omega) hbytes),g1,g2⟩
theorem y0r(s x:Operand)(t:TypeId)
  (ho:o.op= .call {callee:= .builtin .append,args:= #[s,x],argTypes:= #[t,t]})
  (e:TypeId) (i:TypeInfo) (z:Value) (size bytes:Nat) (ht:P.underlying t=some (.slice e)) (hi:P.info? e=some i) (hz:i.zero=some z)
  (hsize:i.size=size) (hby:i.bytes=bytes) (hzs:z.cells.size=size)
  (b:Option Addr) (n:Nat) (xs:List Value) (hs:a.eval s= .slice b n n) (hxs:Rd w (.slice b n n) size n xs)
  (ad:Addr) (m c:Nat) (news:List Value) (hx:a.eval x= .slice (some ad) m c) (hl:news.length=m*size) (hnews:∀j u,news[j]? =some u→w.cell? (ad.add j)=some u) (hm:0<m)
  (h63:n+m≤maxLen) (hbytes:(n+m)*bytes≤140737488355328)
  (h:∀c' w',w'.ownsRow w.heap.size e size (.slice (some ⟨w.heap.size,0,none⟩) (n+m) c') (n+m) (xs++news)→Below w.heap.size w w'→K (a.put o.dst (.slice (some ⟨w.heap.size,0,none⟩) (n+m) c')) w'):o.wp P a w K Q:=by
 obtain ⟨c',w',hr,h2,h3⟩:=z9w (P:=P) (w:=w) t o.type e i z size bytes ht hi hz hsize hby hzs b n xs hxs ad m c news hl hnews hm h63 hbytes;unfold Oper.wp execOp;simp only [ho,resolve,invoke,builtin,Sem.run_bind,Sem.run_pure,Result.andThen_ok,List.map_toArray,List.map_cons,List.map_nil,hs,hx,hr];exact h c' w' h2 h3
end
end Go.Proofs.YtfcnapnopdomhaaGreatDoor

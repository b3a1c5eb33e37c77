/-
  Walks over package frame: Decode of bytes whose sum is right.
-/
import Derived.Test.YtfcnapnopdomhaaGreatDoorZFrDFrEFrG
namespace Go.Proofs.YtfcnapnopdomhaaGreatDoor
set_option linter.unusedSimpArgs false
set_option linter.unusedVariables false
set_option maxRecDepth 100000
set_option maxHeartbeats 12800000
open Go.RowKit
def WD(w5:World)(b8:Bool)(k:Int):World:=if b8 then (w5.alloc (.cells #[.int .i64 k] 3)).alloc (.cells (z0a z0O (.slice none 0 0)) 50) else w5.alloc (.cells #[.int .i64 k] 3)
theorem WD.below(w5:World)(b8:Bool)(k:Int):Below w5.heap.size w5 (WD w5 b8 k):=by
 cases b8
 ·exact q5 _ _
 ·exact (q5 _ _).alloc (by simp) _
theorem WD.q(w5:World)(b8:Bool)(k:Int):(WD w5 b8 k).heap[w5.heap.size]? =some (.cells #[.int .i64 k] 3 (0,0)):=by
 cases b8
 ·exact j8 _ _
 ·exact (heap_alloc_old _ _ (by simp)).trans (j8 _ _)
theorem WD.set(w5:World)(b8:Bool)(k m:Int):(WD w5 b8 k).setCell ⟨w5.heap.size,0,none⟩ (.int .i64 m)=WD w5 b8 m:=by
 have h:∀b8,((WD w5 b8 k).setCell ⟨w5.heap.size,0,none⟩ (.int .i64 m)).heap=(WD w5 b8 m).heap:=by
  intro b8;apply Array.ext_getElem?;intro j;by_cases e:j=w5.heap.size
  ·subst e;rw [j9 (WD.q w5 b8 k),WD.q];rfl
  ·rw [q7 e];cases b8
   ·simp only [WD,Bool.false_eq_true,if_false];show (w5.heap.push _)[j]? =(w5.heap.push _)[j]?;rw [Array.getElem?_push,Array.getElem?_push,if_neg e,if_neg e]
   ·simp only [WD,if_true];show ((w5.heap.push _).push _)[j]? =((w5.heap.push _).push _)[j]?;rw [Array.getElem?_push,Array.getElem?_push,Array.getElem?_push,Array.getElem?_push,if_neg e,if_neg e];simp
 have h1:=h b8;cases b8;all_goals
  simp only [WD,Bool.false_eq_true,if_false,if_true] at h1 ⊢;exact congrArg (fun hp=>({w5 with heap:=hp}:World)) h1
theorem z2j.set{w:World}{r o:Nat}{g g':Fr}{x x' v:Value}(h:z2j w r g x)(he:z0a g' x'=(z0a g x).setIfInBounds o v):z2j (w.setCell ⟨r,o,none⟩ v) r g' x':=by
 unfold z2j at h ⊢;rw [j9 h,←he]
structure RS (w5:World) (k:Int) (g:Fr) (x:Value) (W:World):Prop where
 q:W.heap[w5.heap.size]? =some (.cells #[.int .i64 k] 3 (0,0))
 f:z2j W (w5.heap.size+1) g x
 low:Below w5.heap.size w5 W
theorem RS.qc{w5 W:World}{k:Int}{g:Fr}{x:Value}(h:RS w5 k g x W):W.cell? ⟨w5.heap.size,0,none⟩=some (.int .i64 k)∧W.frozen? ⟨w5.heap.size,0,none⟩=false∧∀o,W.frozen? ⟨w5.heap.size+1,o,none⟩=false:=
 ⟨by simp [World.cell?,h.q],by simp [World.frozen?,h.q],fun o=>by simp [World.frozen?,show W.heap[w5.heap.size+1]? =_ from h.f]⟩
theorem RS.setQ{w5 W:World}{k m:Int}{g:Fr}{x:Value}(h:RS w5 k g x W):RS w5 m g x (W.setCell ⟨w5.heap.size,0,none⟩ (.int .i64 m)):=
 ⟨by rw [j9 h.q];rfl,(q7 (by omega)).trans h.f,h.low.setCell (Nat.le_refl _) _⟩
theorem RS.setF{w5 W:World}{k:Int}{g g':Fr}{x x' v:Value}{o:Nat}(h:RS w5 k g x W)(he:z0a g' x'=(z0a g x).setIfInBounds o v):RS w5 k g' x' (W.setCell ⟨w5.heap.size+1,o,none⟩ v):=
 ⟨(q7 (by omega)).trans h.q,h.f.set he,h.low.setCell (by simp) _⟩
theorem RS.store{w5 W:World}{k:Int}{g:Fr}{x:Value}(h:RS w5 k g x W)(g':Fr)(x':Value):RS w5 k g' x' (W.setCells (w5.heap.size+1) 0 (z0a g' x').toList):=
 ⟨(z0T (by omega) _ _ _).trans h.q,h.f.store g' x',z3L h.low h.low.size (by omega) _⟩
theorem RS.to{w5 W W':World}{k:Int}{g:Fr}{x:Value}(h:RS w5 k g x W)(hb:Below W.heap.size W W'):RS w5 k g x W':=
 ⟨(hb.block _ (Array.getElem?_eq_some_iff.1 h.q).1).trans h.q,h.f.low hb,h.low.trans (hb.mono h.low.size)⟩
theorem RdB.drop'{w:World}{ad:Addr}{c:Nat}{l:List UInt8}(h:RdB w (.slice (some ad) l.length c) l)(k:Nat)(hk:k≤l.length)(c':Nat):RdB w (.slice (some (ad.add k)) (l.length - k) c') (l.drop k):=by
 obtain ⟨h1,⟨he,hz⟩ | ⟨ad2,c2,he,hc⟩⟩:=h
 ·cases he
 ·simp only [Value.slice.injEq,Option.some.injEq,true_and] at he;obtain ⟨rfl,rfl⟩:=he;refine ⟨by simp [z0b], .inr ⟨ad.add k,c',by simp,fun j u hu=>?_⟩⟩;rw [addr_add_add];refine hc (k+j) u ?_;simpa [z0b] using hu
theorem RS.next{w5 W:World}{p c k:Nat}{a:Option Addr}{b:List UInt8}{g:Fr}{x:Value}(h:RS w5 k g x W)(hp:p<w5.heap.size)(p0:w5.cell? ⟨p,0,none⟩=some (.slice a b.length c))(hx:RdB w5 (.slice a b.length c) b)
  (hl:b.length≤4096) (hc:b.length≤c) (hc2:c≤9223372036854775807) (hk:k+4≤b.length):
  Calls Tryz.prog 108 #[.pointer (some ⟨w5.heap.size,0,none⟩), .pointer (some ⟨p,0,none⟩)] W fun e w'=>e= .returned (.int .u32 (num b k:Nat))∧RS w5 ((k:Int)+4) g x w':=by
 obtain ⟨h1,h2,_⟩:=h.qc;refine (y6k w5.heap.size p (by omega) a c k b W (hx.low (h.setQ (m:=(k:Int)+4)).low) hl hc hc2 hk h1 h2 ((h.low.cell (p:=⟨p,0,none⟩) hp).trans p0)).mono ?_;rintro e w' ⟨rfl,rfl⟩;exact ⟨rfl,h.setQ⟩
theorem y2w(a:Option Addr)(c:Nat)(b:List UInt8)(w:World)(hx:RdB w (.slice a b.length c) b)(h1:44≤b.length)(h2:b.length≤4096)(hc:b.length≤c)(hc2:c≤9223372036854775807)(hs:unB (b.drop (b.length - 4))=z2A (b.take (b.length - 4))):
  Calls Tryz.prog 53 #[.slice a b.length c] w (Told w (goF b) (goE b)):=by
 have HX:=z7 hx;have HS:=z7 hs;clear hx hs;have i0:(0:Int)≤(b.length:Int) - 4:=by omega
 have i1:(b.length:Int) - 4≤b.length:=by omega
 go_enter Tryz.func53,Tryz.ntmps53;go_wp2;go_quiet (fail)
 have hx1:RdB (((w.alloc (.cells #[.slice a b.length c] 46)).alloc (.cells #[.int .u8 0, .int .u32 0, .int .u32 0, .int .u32 0, .int .u32 0, .int .u32 0, .int .u32 0, .bool false, .int .u64 0, .slice none 0 0, .int .i64 0] 50)).drewN nq) (.slice a b.length c) b:=
  HX.out.low (z0k ((q5 _ _).alloc (by simp) _))
 have hr1:z2j (((w.alloc (.cells #[.slice a b.length c] 46)).alloc (.cells #[.int .u8 0, .int .u32 0, .int .u32 0, .int .u32 0, .int .u32 0, .int .u32 0, .int .u32 0, .bool false, .int .u64 0, .slice none 0 0, .int .i64 0] 50)).drewN nq) (w.heap.size+1) z0O (.slice none 0 0):=by
  exact z2W (w:=w.alloc (.cells #[.slice a b.length c] 46)) _ (by simp)
 have hp1:(((w.alloc (.cells #[.slice a b.length c] 46)).alloc (.cells #[.int .u8 0, .int .u32 0, .int .u32 0, .int .u32 0, .int .u32 0, .int .u32 0, .int .u32 0, .bool false, .int .u64 0, .slice none 0 0, .int .i64 0] 50)).drewN nq).heap[w.heap.size]? =some (.cells #[.slice a b.length c] 46 (0,0)):=
  (heap_alloc_old _ _ (by simp)).trans (j8 w _)
 have hb1:Below w.heap.size w (((w.alloc (.cells #[.slice a b.length c] 46)).alloc (.cells #[.int .u8 0, .int .u32 0, .int .u32 0, .int .u32 0, .int .u32 0, .int .u32 0, .int .u32 0, .bool false, .int .u64 0, .slice none 0 0, .int .i64 0] 50)).drewN nq):=
  z0k ((q5 _ _).alloc (by simp) _)
 generalize ((w.alloc (.cells #[.slice a b.length c] 46)).alloc (.cells #[.int .u8 0, .int .u32 0, .int .u32 0, .int .u32 0, .int .u32 0, .int .u32 0, .int .u32 0, .bool false, .int .u64 0, .slice none 0 0, .int .i64 0] 50)).drewN nq=W1 at hx1 hr1 hp1 hb1
 have hd:=hx1.drop (b.length - 4) (by omega) (c - (b.length - 4));have e:b.length - (b.length - 4)=(b.drop (b.length - 4)).length:=by simp
 rw [e] at hd;have HD:=z7 hd;have HE:=z7 e;have HX1:=z7 hx1;have HR1:=z7 hr1;have HP1:=z7 hp1;have HB1:=z7 hb1;have hrl:=hr1.lt;clear hd e hx1 hr1 hp1 hb1;go_wp2_with fail;rw [HE.out];refine (y6e _ _ (b.drop (b.length - 4)) _ HD.out (by simp;omega) (by simp;omega) (by omega)).mono ?_;rintro e w' ⟨rfl,rfl⟩;rw [show (b.drop (b.length - 4)).take 4=b.drop (b.length - 4) from List.take_of_length_le (by simp;omega)];go_wp2_with fail;refine (z7Q W1).mono ?_;rintro e w2 ⟨rfl,hT,hb2,hlt⟩;have hcs:=y9Y (Below.refl _ W1) hT hb2;obtain ⟨tb,htb⟩:∃tb,tb=W1.heap.size:=⟨_,rfl⟩;rw [←htb] at hcs hlt ⊢;have HC:=z7 hcs;clear hT hb2 hcs HE HD htb;have hx2:=z7 (HX1.out.take (b.length - 4) (by omega) (by omega));have hln:Hid ((b.take (b.length - 4)).length=b.length - 4):=z7 (by simp);go_wp2_with fail;refine (z6S tb false _ (b.take (b.length - 4)) _ _ (HC.out.alloc _).tab (z2W _ (by simp)) (by omega) (fun w' hc=>(HC.out.alloc _).rd hc hx2.out) (by have:=hln.out;omega)).mono ?_;rintro e w5 ⟨rfl,hT5,hc5⟩;have hb5:=((HC.out.alloc _).sum hT5 hc5).low;have HX5:=z7 (HX1.out.low hb5);have HR5:=z7 (HR1.out.low hb5);have HP5:Hid (w5.heap[w.heap.size]? =some (.cells #[.slice a b.length c] 46 (0,0))):=z7 ((hb5.block _ (by omega)).trans HP1.out);have HB5:Hid (Below w.heap.size w w5):=z7 (HB1.out.trans (hb5.mono HB1.out.size));have hrl5:=HR5.out.lt;clear hT5 hc5 hb5 HC HX1 HR1 HP1 HB1 hx2 hln hlt hrl;obtain ⟨c0,c1,c2,c3,c4,c5,c6,c7,c8,c9,c10⟩:=HR5.out.cells
 have zf:∀o,w5.frozen? ⟨w.heap.size+1,o,none⟩=false:=fun o=>by simp [World.frozen?,show w5.heap[w.heap.size+1]? =_ from HR5.out]
 have ht:((unB (b.drop (b.length - 4)):Int) !=(z2A (b.take (b.length - 4)):Int))=false:=by rw [bne_eq_false_iff_eq];have:=HS.out;omega
 clear c0 c1 c2 c3 c4 c5 c6 c7 c8 c9 c10;have hmf:∀(fn:Fn) (first cap:Array Value) (w:World),(Instr.makeFunc fn first cap).run Tryz.prog w= .ok (.func fn first cap) w:=fun _ _ _ _=>rfl;have p0:w5.cell? ⟨w.heap.size,0,none⟩=some (.slice a b.length c):=by simp [World.cell?,HP5.out]
 obtain ⟨bb,off,c',he,hc2',hbb⟩:=HX5.out.at (k:=2) (by omega);simp only [Value.slice.injEq,true_and] at he;obtain ⟨rfl,rfl⟩:=he;have hbl2:(2:Int)<b.length:=by omega
 have hbb5:bb<w5.heap.size:=hbb;have hp5:w.heap.size<w5.heap.size:=by omega
 have pA:∀b8 k,(WD w5 b8 k).cell? ⟨w.heap.size,0,none⟩=some (.slice (some ⟨bb,off,none⟩) b.length c):=fun b8 k=>((WD.below w5 b8 k).cell (p:=⟨w.heap.size,0,none⟩) hp5).trans p0;have bA:∀b8 k,(WD w5 b8 k).cell? ⟨bb,off+2,none⟩=some (.int .u8 (b[2].toNat:Nat)):=fun b8 k=>((WD.below w5 b8 k).cell (p:=⟨bb,off+2,none⟩) hbb).trans hc2';have XA:Hid (∀b8 k,RdB (WD w5 b8 k) (.slice (some ⟨bb,off,none⟩) b.length c) b):=z7 fun b8 k=>HX5.out.low (WD.below w5 b8 k);have NX:Hid (∀(b8:Bool) (k:Nat),k+4≤b.length→Calls Tryz.prog 108 #[.pointer (some ⟨w5.heap.size,0,none⟩), .pointer (some ⟨w.heap.size,0,none⟩)] (WD w5 b8 k).drew fun e w'=>e= .returned (.int .u32 (num b k:Nat))∧w'=(WD w5 b8 ((k:Int)+4)).drew):=z7 fun b8 k hk=>by
  have hq:=WD.q w5 b8 k;refine (y6k w5.heap.size w.heap.size (by omega) (some ⟨bb,off,none⟩) c k b (WD w5 b8 k).drew ?_ h2 hc hc2 hk (by rw [World.cell?_drew];simp [World.cell?,hq]) (by rw [World.frozen?_drew];simp [World.frozen?,hq]) (by rw [World.cell?_drew];exact pA b8 k)).mono ?_
  ·have h:=XA.out b8 ((k:Int)+4);rw [←WD.set w5 b8 k] at h;exact h
  ·rintro e w' ⟨rfl,rfl⟩;exact ⟨rfl,congrArg World.drew (WD.set w5 b8 k _)⟩
 go_wp2;refine q6 9 96 (by kernel_rfl) (by kernel_rfl) rfl (by kernel_rfl)
  (fun D _ w'=>w'=(WD w5 (D 8) (if D 6 then 11 else if D 4 then 7 else 3)).drew) (fun _=>undef) rfl ?_
 simp only [List.take_succ_cons,List.take_zero,List.drop_succ_cons,List.drop_zero];iterate 4 (refine q8.rd (e:=?_) (fun D v w' hD hS=>?_) ?_;rotate_left;(subst hS;first | (go_simp;done) | (go_simp;with_reducible rfl));go_simp)
 refine q8.call (.int .u32 (num b 3:Nat)) (fun v=>by rfl) (fun D v w' hD hS=>?_) ?_
 ·have d4:D 4=false:=hD.self;have d6:D 6=false:=hD.post 6 _ rfl (by kernel_rfl);simp only [d4,d6,Bool.false_eq_true,if_false] at hS;subst hS;go_simp;go_at_call 108;refine (NX.out (D 8) 3 (by omega)).mono ?_;rintro e w'' ⟨rfl,rfl⟩;have m8:mark D 4 8=D 8:=rfl;have m6:mark D 4 6=false:=d6;have m4:mark D 4 4=true:=rfl;go_simp
 iterate 1 (refine q8.rd (e:=?_) (fun D v w' hD hS=>?_) ?_;rotate_left;(subst hS;first | (go_simp;done) | (go_simp;with_reducible rfl));go_simp)
 refine q8.call (.int .u32 (num b 7:Nat)) (fun v=>by rfl) (fun D v w' hD hS=>?_) ?_
 ·have d6:D 6=false:=hD.self;have d4:D 4=true:=hD.pre 4 (by kernel_rfl);simp only [d4,d6,Bool.false_eq_true,if_false,if_true] at hS;subst hS;go_simp;go_at_call 108;refine (NX.out (D 8) 7 (by omega)).mono ?_;rintro e w'' ⟨rfl,rfl⟩;have m8:mark D 6 8=D 8:=rfl;have m6:mark D 6 6=true:=rfl;go_simp
 iterate 1 (refine q8.rd (e:=?_) (fun D v w' hD hS=>?_) ?_;rotate_left;(subst hS;first | (go_simp;done) | (go_simp;with_reducible rfl));go_simp)
 refine q8.call (.pointer (some ⟨w5.heap.size+1,0,none⟩)) (fun v=>by rfl) (fun D v w' hD hS=>?_) ?_
 ·have d8:D 8=false:=hD.self;have m8:mark D 8 8=true:=rfl;have m6:mark D 8 6=D 6:=rfl;have m4:mark D 8 4=D 4:=rfl;rw [d8] at hS;subst hS;unfold WD;go_simp;rfl
 refine q8.fin (fun v w' hS=>?_);have hS2:w'=(WD w5 true 11).drew:=hS;subst hS2;have hR0:RS w5 11 z0O (.slice none 0 0) (WD w5 true 11).drew:=⟨WD.q w5 true 11,z2W (w:=w5.alloc (.cells #[.int .i64 11] 3)) _ (by simp),⟨(WD.below w5 true 11).os,(WD.below w5 true 11).tape,(WD.below w5 true 11).output,(WD.below w5 true 11).size,(WD.below w5 true 11).block⟩⟩;obtain ⟨c0,c1,c2,c3,c4,c5,c6,c7,c8,c9,c10⟩:=hR0.f.cells;obtain ⟨cq,fq,ff⟩:=hR0.qc;have HR0:=z7 hR0;clear hS hR0 pA bA XA NX
 generalize (WD w5 true 11).drew=W8 at*
 unfold z0O at c0 c1 c2 c3 c4 c5 c6 c7 c8 c10;simp only at c0 c1 c2 c3 c4 c5 c6 c7 c8 c10;have hS1:=fun k (W:World) (g:Fr) (x:Value) (h:RS w5 (k:Nat) g x W) (hk:k+4≤b.length)=>h.next hp5 p0 HX5.out h2 hc hc2 hk
 have NX:=z7 hS1;clear hS1;have hb27:b.length>27:=by omega
 obtain ⟨bb',off',c'',he,hc27,_⟩:=HX5.out.at (k:=27) hb27;simp only [Value.slice.injEq,Option.some.injEq,Addr.mk.injEq,and_true,true_and] at he;obtain ⟨⟨rfl,rfl⟩,rfl⟩:=he
 generalize hk0:b[2]=y2 at*
 generalize hk27:b[27]=y27 at*
 have HK0:=z7 hk0;have HK27:=z7 hk27;clear hk0 hk27;obtain ⟨g1,hg1⟩:∃g1:Fr,g1={z0O with kind:=y2.toNat,epoch:=num b 3,series:=num b 7}:=⟨_,rfl⟩;have hR1:=HR0.out.store g1 (.slice none 0 0);rw [hg1] at hR1;have HR1:=z7 hR1;clear hR1 hg1;go_wp2_with fail;refine (NX.out 11 _ _ _ (by exact HR1.out) (by omega)).mono ?_;rintro e W9 ⟨rfl,hR⟩;have HR:=z7 hR;clear hR HR1 HR0 cq fq ff c0 c1 c2 c3 c4 c5 c6 c7 c8 c9 c10;go_wp2_with fail;refine (NX.out 15 _ _ _ (by exact HR.out) (by omega)).mono ?_;rintro e W10 ⟨rfl,hR⟩;have HR2:=z7 hR;clear hR HR;go_wp2_with fail;refine (NX.out 19 _ _ _ (by exact HR2.out) (by omega)).mono ?_;rintro e W11 ⟨rfl,hR⟩;obtain ⟨c0,c1,c2,c3,c4,c5,c6,c7,c8,c9,c10⟩:=hR.f.cells;obtain ⟨cq,fq,ff⟩:=hR.qc;have HR:=z7 hR;clear hR HR2;go_wp2_with fail;refine (NX.out 23 _ {z0O with kind:=y2.toNat,epoch:=num b 3,series:=num b 7,chunk:=num b 11,bits:=num b 15,cnt:=num b 19} (.slice none 0 0) (by exact ((HR.out.setF (o:=3) (g':={z0O with kind:=y2.toNat,epoch:=num b 3,series:=num b 7,chunk:=num b 11}) (by rfl)).setF (o:=4) (g':={z0O with kind:=y2.toNat,epoch:=num b 3,series:=num b 7,chunk:=num b 11,bits:=num b 15}) (by rfl)).setF (o:=5) (by rfl)) (by omega)).mono ?_;rintro e W12 ⟨rfl,hR⟩;clear c0 c1 c2 c3 c4 c5 c6 c7 c8 c9 c10 cq fq ff HR;obtain ⟨c0,c1,c2,c3,c4,c5,c6,c7,c8,c9,c10⟩:=hR.f.cells;obtain ⟨cq,fq,ff⟩:=hR.qc;have b27:=(hR.low.cell (p:=⟨bb,off+27,none⟩) hbb).trans hc27;have p12:=(hR.low.cell (p:=⟨w.heap.size,0,none⟩) hp5).trans p0
 have nbq:∀o o',(⟨bb,o,none⟩:Addr)≠⟨w5.heap.size+1,o',none⟩:=fun o o' h=>by have:=congrArg Addr.block h;simp at this;omega
 have HR:=z7 hR;have HNB:=z7 nbq;clear hR nbq;go_wp2_with fail;refine (NX.out 28 _ {z0O with kind:=y2.toNat,epoch:=num b 3,series:=num b 7,chunk:=num b 11,bits:=num b 15,cnt:=num b 19,count:=num b 23,closed:=((y27.toNat:Int)==1)} (.slice none 0 0) (by exact ((HR.out.setF (o:=6) (g':={z0O with kind:=y2.toNat,epoch:=num b 3,series:=num b 7,chunk:=num b 11,bits:=num b 15,cnt:=num b 19,count:=num b 23}) (by rfl)).setF (o:=7) (by rfl)).setQ) (by omega)).mono ?_;rintro e W13 ⟨rfl,hR⟩;clear c0 c1 c2 c3 c4 c5 c6 c7 c8 c9 c10 cq fq ff HR b27 p12;have HR:=z7 hR;clear hR;go_wp2_with fail;refine (NX.out 32 _ _ _ (by exact HR.out) (by omega)).mono ?_;rintro e W14 ⟨rfl,hR⟩;obtain ⟨c0,c1,c2,c3,c4,c5,c6,c7,c8,c9,c10⟩:=hR.f.cells;obtain ⟨cq,fq,ff⟩:=hR.qc;have p14:=(hR.low.cell (p:=⟨w.heap.size,0,none⟩) hp5).trans p0;have n28:num b 28<4294967296:=y0J (by simp;omega);have n32:num b 32<4294967296:=y0J (by simp;omega);have n36:num b 36<4294967296:=y0J (by simp;omega);have hor:bits .or .u64 ((num b 28:Int)*4294967296) (num b 32:Int)=((num b 28*4294967296+num b 32:Nat):Int):=by
  have:=u64_or_nat (num b 28*4294967296) (num b 32) (by omega) (by omega);rw [nat_join 32 _ _ (by omega) (by omega)] at this;simpa using this
 have HOR:=z7 hor;clear HR hor;have HR:=z7 hR;clear hR;go_wp2;rw [HOR.out];have hR15:=HR.out.setF (o:=8) (v:= .int .u64 ((num b 28*4294967296+num b 32:Nat):Int)) (g':={z0O with kind:=y2.toNat,epoch:=num b 3,series:=num b 7,chunk:=num b 11,bits:=num b 15,cnt:=num b 19,count:=num b 23,closed:=((y27.toNat:Int)==1),sum:=num b 28*4294967296+num b 32}) (x':= .slice none 0 0) (by rfl);obtain ⟨g4,hg4⟩:∃g4:Fr,g4={z0O with kind:=y2.toNat,epoch:=num b 3,series:=num b 7,chunk:=num b 11,bits:=num b 15,cnt:=num b 19,count:=num b 23,closed:=((y27.toNat:Int)==1),sum:=num b 28*4294967296+num b 32}:=⟨_,rfl⟩;rw [←hg4] at hR15;have HG4:=z7 hg4;clear hg4 c0 c1 c2 c3 c4 c5 c6 c7 c8 c9 c10 cq fq ff HR p14
 generalize W14.setCell ⟨w5.heap.size+1,8,none⟩ (.int .u64 ((num b 28*4294967296+num b 32:Nat):Int))=W15 at hR15 ⊢
 have HR15:=z7 hR15;clear hR15;obtain ⟨L4,hL4⟩:∃L4,L4=b.length - 4:=⟨_,rfl⟩;have HL4:=z7 hL4;have l1:L4≤c:=by omega
 have l2:40≤L4:=by omega
 have l3:L4≤4092:=by omega
 have l4:L4<b.length:=by omega
 have hwr:IntKind.i64.wrap ((b.length:Int) - 4)=(L4:Int):=by rw [IntKind.wrap_i64];omega
 have hc40:(c=40)=False:=by simp;omega
 have hmx:max (L4:Int) 0=(L4:Int):=by omega
 have q1:(0:Int)≤(L4:Int):=by omega
 have q2:(L4:Int)≤(c:Int):=by omega
 have q3:(40:Int)≤(L4:Int):=by omega
 obtain ⟨m,hm⟩:∃m,m=L4 - 40:=⟨_,rfl⟩;have hmb:((b.take L4).drop 40).length=m:=by simp;omega
 have HM:=z7 hm;have HMB:=z7 hmb;have hm4:m≤4096:=by omega
 have hwr':=z7 hwr;have hc40':=z7 hc40;have hmx':=z7 hmx;clear hL4 hwr hc40 hmx;have PL:Hid (∀W,Below w5.heap.size w5 W→W.cell? ⟨w.heap.size,0,none⟩=some (.slice (some ⟨bb,off,none⟩) b.length c)):=z7 fun W hW=>(hW.cell (p:=⟨w.heap.size,0,none⟩) hp5).trans p0;have CUT:Hid (∀W,Below w5.heap.size w5 W→∀cc,RdB W (.slice (some ⟨bb,off+40,none⟩) (L4 - 40) cc) ((b.take L4).drop 40)):=z7 fun W hW cc=>by
  have h0:=(HX5.out.low hW).take L4 (by omega) (by omega);obtain ⟨bt,hbt⟩:∃bt,bt=b.take L4:=⟨_,rfl⟩;have e1:bt.length=L4:=by rw [hbt];simp;omega
  rw [←hbt] at h0 ⊢;rw [←e1] at h0 ⊢;have h3:=h0.drop' 40 (by omega) cc;simpa [Addr.add] using h3
 clear hm hmb;have hw36:IntKind.i64.wrap (num b 36:Int)=(num b 36:Int):=by rw [IntKind.wrap_i64];omega
 have hwr:=hwr'.out;have hc40:=hc40'.out;have hmx:=hmx'.out;refine q6 11 96 (by kernel_rfl) (by kernel_rfl) rfl (by kernel_rfl)
  (fun D v w'=>RS w5 (if D 1 then 40 else 36) g4 (.slice none 0 0) w'∧(D 8=true→∃a' c',v 8= .slice a' m c'∧RdB w' (.slice a' m c') ((b.take L4).drop 40)∧∀k,(Value.slice a' m c').ownBlock=some k→w5.heap.size+2≤k)∧(D 9=true→D 8=true∧v 9= .agg #[v 8, .int .i64 (num b 36:Nat)])) (fun _=>undef) ⟨⟨HR15.out.q,HR15.out.f,HR15.out.low.drew⟩,by simp,by simp⟩ ?_
 simp only [List.take_succ_cons,List.take_zero,List.drop_succ_cons,List.drop_zero];iterate 1 (refine q8.rd (e:=?_) (fun D v w' hD hS=>?_) ?_;rotate_left;(have hp:=PL.out _ hS.1.low;clear hS;first | (go_simp;done) | (go_simp;with_reducible rfl));go_simp)
 refine q8.call (.int .u32 (num b 36:Nat)) (fun v=>by rfl) (fun D v w' hD hS=>?_) ?_
 ·have d1:D 1=false:=hD.self;have d8:D 8=false:=hD.post 8 _ rfl (by kernel_rfl);have d9:D 9=false:=by
   cases h:D 9 with
   | false=>rfl
   | true=>have:=(hS.2.2 h).1;rw [d8] at this;cases this
  simp only [d1,Bool.false_eq_true,if_false] at hS;have hS1:=z7 hS.1;clear hS;go_simp;go_at_call 108;refine (NX.out 36 _ _ _ (by exact hS1.out) (by omega)).mono ?_;rintro e w'' ⟨rfl,hR⟩;have m1:mark D 1 1=true:=rfl;have m8:mark D 1 8=false:=d8;have m9:mark D 1 9=false:=d9;refine ⟨rfl,hR,fun h=>?_,fun h=>?_⟩
  ·rw [m8] at h;cases h
  ·rw [m9] at h;cases h
 go_simp;iterate 6 (refine q8.rd (e:=?_) (fun D v w' hD hS=>?_) ?_;rotate_left;(have hp:=PL.out _ hS.1.low;clear hS;first | (go_simp;done) | (go_simp;with_reducible rfl));go_simp)
 refine q8.rel (fun v=>by rfl) (fun D v w' hD hS=>?_) ?_
 ·have d8:D 8=false:=hD.self;have d9:D 9=false:=hD.post 9 _ rfl (by kernel_rfl);have hS1:=z7 hS.1;have hcut:=CUT.out _ hS.1.low (c - 40);have e1:L4 - 40=((b.take L4).drop 40).length:=by rw [HMB.out,HM.out]
  rw [e1] at hcut;have HCUT:=z7 hcut;have HE1:=z7 e1;clear hS hcut e1;go_simp;go_at_call 109;rw [HE1.out];refine (y4K _ _ _ _ HCUT.out (by rw [HMB.out];omega)).mono ?_;rintro e w'' ⟨a',c',rfl,ho,hb⟩;have hrd:=z0d ho;rw [HMB.out] at hrd ⊢;have hge:∀k,(Value.slice a' m c').ownBlock=some k→w5.heap.size+2≤k:=fun k hk=>Nat.le_trans hS1.out.f.lt (by rw [HMB.out] at ho;exact (ho.lt k hk).1);refine ⟨?_,fun _=>⟨a',c',rfl,?_,hge⟩,fun h=>?_⟩
  ·exact hS1.out.to hb
  ·show Rd _ _ 1 _ _;rw [HMB.out];exact hrd
  ·have m9:mark D 8 9=false:=d9;rw [m9] at h;cases h
 go_simp;refine q8.rel (fun v=>by rfl) (fun D v w' hD hS=>?_) ?_
 ·have d8:D 8=true:=hD.pre 8 (by kernel_rfl);obtain ⟨h1',h2',h3'⟩:=hS;obtain ⟨a',c',h8,hrd,hge⟩:=h2' d8;rw [h8];have H1:=z7 h1';have HRD:=z7 hrd;have H8:=z7 h8;have HGE:=z7 hge;clear h1' h2' h3' hrd h8 hge;go_simp;exact ⟨H1.out,fun _=>⟨a',c',H8.out,HRD.out,HGE.out⟩,fun _=>⟨d8,congrArg (fun z=>Value.agg #[z, .int .i64 (num b 36:Nat)]) H8.out.symm⟩⟩
 go_simp;iterate 1 (refine q8.rd (e:=?_) (fun D v w' hD hS=>?_) ?_;rotate_left;(have hp:=PL.out _ hS.1.low;clear hS;first | (go_simp;done) | (go_simp;with_reducible rfl));go_simp)
 refine q8.fin (fun v w' hS=>?_);obtain ⟨h1',h2',h3'⟩:=hS;obtain ⟨a',c',h8,hrd,hge⟩:=h2' rfl;have h9:=(h3' rfl).2;rw [h8] at h9;rw [h8,h9];have hR:RS w5 40 g4 (.slice none 0 0) w':=h1';obtain ⟨c0,c1,c2,c3,c4,c5,c6,c7,c8,c9,c10⟩:=hR.f.cells;obtain ⟨cq,fq,ff⟩:=hR.qc;have HR:=z7 hR;have HRD:=z7 hrd;have HGE:=z7 hge;clear h1' h2' h3' hrd h8 h9 hR hwr hc40 hmx hw36 hge;go_wp2;have hFe:fieldsB b={g4 with b:=(b.take L4).drop 40,n:=(num b 36:Nat)}:=by
  have e2:b.getD 2 0=y2:=by rw [←HK0.out];simp [List.getD,List.getElem?_eq_getElem (show 2<b.length by omega)]
  have e27:b.getD 27 0=y27:=by rw [←HK27.out];simp [List.getD,List.getElem?_eq_getElem (show 27<b.length by omega)]
  have ecl:((y27.toNat:Int)==1)=(y27.toNat==1):=by rw [Bool.eq_iff_iff];simp;omega
  rw [HG4.out,HL4.out];unfold fieldsB;rw [e2,e27];simp only [z0O,ecl]
 obtain ⟨F,hF⟩:∃F,F=fieldsB b:=⟨_,rfl⟩;rw [←hF] at hFe;have hFb:F.b=(b.take L4).drop 40:=by rw [hFe]
 have hok:F.Ok:=by
  have hn:∀k,k+4≤b.length→num b k<4294967296:=fun k hk=>y0J (by simp;omega);rw [hF];exact ⟨(b.getD 2 0).toNat_lt,hn 3 (by omega),hn 7 (by omega),hn 11 (by omega),hn 15 (by omega),hn 19 (by omega),hn 23 (by omega),by simp only [fieldsB];omega,by simp only [fieldsB];omega,by simp only [fieldsB];omega⟩
 have hR16:=(HR.out.setF (o:=9) (v:= .slice a' m c') (g':={g4 with b:=(b.take L4).drop 40}) (x':= .slice a' m c') (by rfl)).setF (o:=10) (v:= .int .i64 (num b 36:Nat)) (g':=F) (x':= .slice a' m c') (by rw [hFe];rfl);have hrd16:RdB ((w'.setCell ⟨w5.heap.size+1,9,none⟩ (.slice a' m c')).setCell ⟨w5.heap.size+1,10,none⟩ (.int .i64 (num b 36:Nat))) (.slice a' m c') F.b:=by
  refine Rd.kept ?_ fun k hk _=>(q7 (by have:=HGE.out k hk;omega)).trans (q7 (by have:=HGE.out k hk;omega));have h0:=HRD.out;rw [←hFb] at h0;exact h0
 have hlb:F.b.length=m:=by rw [hFb];exact HMB.out
 subst hlb
 generalize ((w'.setCell ⟨w5.heap.size+1,9,none⟩ (.slice a' F.b.length c')).setCell ⟨w5.heap.size+1,10,none⟩ (.int .i64 (num b 36:Nat)))=W16 at hR16 hrd16 ⊢
 clear c0 c1 c2 c3 c4 c5 c6 c7 c8 c9 c10 cq fq ff HR HRD hFe hFb HMB HM CUT HG4 HR15 HOR NX w';have hR16':RS w5 40 F (.slice a' F.b.length c') W16.drew:=⟨hR16.q,hR16.f,hR16.low.drew⟩;have hrd16':=hrd16.low (w':=W16.drew) ((Below.refl _ _).drew);clear hR16 hrd16;have HR16:=z7 hR16';have HRD16:=z7 hrd16';have HOK:=z7 hok;have HFE:=z7 hF;clear hR16' hrd16' hok hF;have hZ0:∀W,Below w5.heap.size w5 W→z2j W (w.heap.size+1) z0O (.slice none 0 0)∧Below w.heap.size w W∧(∀o,W.frozen? ⟨w.heap.size+1,o,none⟩=false):=fun W hW=>by
  have h:=HR5.out.low hW;exact ⟨h,HB5.out.trans (hW.mono HB5.out.size),fun o=>by simp [World.frozen?,show W.heap[w.heap.size+1]? =_ from h]⟩
 have HZ0:=z7 hZ0;clear hZ0;by_cases hm:z1D F=true
 case neg=>
  have hm0:z1D F=false:=by simpa using hm
  have HM0:=z7 hm0;clear hm hm0;refine q6 10 96 (by kernel_rfl) (by kernel_rfl) rfl (by kernel_rfl)
   (fun D v w'=>RS w5 40 F (.slice a' F.b.length c') w'∧RdB w' (.slice a' F.b.length c') F.b) (fun _=>undef) ⟨HR16.out,HRD16.out⟩ ?_
  simp only [List.take_succ_cons,List.take_zero,List.drop_succ_cons,List.drop_zero];refine q8.rd (e:=?_) (fun D v w' hD hS=>?_) ?_;rotate_left;· (obtain ⟨c0,c1,c2,c3,c4,c5,c6,c7,c8,c9,c10⟩:=hS.1.f.cells;clear hS;first | (go_simp;done) | (go_simp;with_reducible rfl))
  go_simp;refine q8.call (.bool false) (fun v=>by rfl) (fun D v w' hD hS=>?_) ?_
  ·have HS1:=z7 hS.1;have HS2:=z7 hS.2;clear hS;go_simp;go_at_call 110;refine (y2F F a' c' _ HOK.out (by omega) HS2.out).mono ?_;rintro e w'' ⟨rfl,hb⟩;rw [HM0.out];exact ⟨rfl,HS1.out.to hb,HS2.out.low hb⟩
  go_simp;iterate 2 (refine q8.rd (e:=?_) (fun D v w' hD hS=>?_) ?_;rotate_left;(clear hS;first | (go_simp;done) | (go_simp;with_reducible rfl));go_simp)
  iterate 5 (refine q8.skip (fun v=>by rfl) (fun D v w h=>h) ?_;go_simp)
  iterate 1 (refine q8.rd (e:=?_) (fun D v w' hD hS=>?_) ?_;rotate_left;(clear hS;first | (go_simp;done) | (go_simp;with_reducible rfl));go_simp)
  refine q8.fin (fun v w' hS=>?_);obtain ⟨hz1,hz2,hz3⟩:=HZ0.out w' hS.1.low;obtain ⟨c0,c1,c2,c3,c4,c5,c6,c7,c8,c9,c10⟩:=hz1.cells;unfold z0O at c0 c1 c2 c3 c4 c5 c6 c7 c8 c10;simp only at c0 c1 c2 c3 c4 c5 c6 c7 c8 c10;have HZ1:=z7 hz1;have HZ2:=z7 hz2;clear hS hz1 hz2;have hg:goF b=z0O∧goE b=70:=by unfold goF goE y5V;rw [←HFE.out,HM0.out];exact ⟨rfl,rfl⟩
  have HG:=z7 hg;clear hg;go_wp2;refine bodyPost_ret (z5p _ (w.heap.size+1) 70 z0O (.slice none 0 0) _ (by simp) (by simp) (HZ1.out.store z0O (.slice none 0 0))) rfl ?_;show Told w (goF b) (goE b) _ _;rw [HG.out.1,HG.out.2];exact ⟨none,0,rfl,RdB.nil _,z3L (w':=w') (r:=w.heap.size+1) (o:=0) HZ2.out (by have:=HZ2.out.size;omega) (by omega) (z0a z0O (.slice none 0 0)).toList,fun k hk=>by cases hk⟩
 have HM1:=z7 hm;clear hm;obtain ⟨q,hq⟩:∃q,q=(z0w F==b):=⟨_,rfl⟩;have HQ:=z7 hq;clear hq;refine q6 10 96 (by kernel_rfl) (by kernel_rfl) rfl (by kernel_rfl)
  (fun D v w'=>RS w5 40 F (.slice a' F.b.length c') w'∧RdB w' (.slice a' F.b.length c') F.b∧(D 5=true→∃a5 c5,v 5= .slice a5 (z0w F).length c5∧RdB w' (.slice a5 (z0w F).length c5) (z0w F))) (fun _=>undef) ⟨HR16.out,HRD16.out,by simp⟩ ?_
 simp only [List.take_succ_cons,List.take_zero,List.drop_succ_cons,List.drop_zero];refine q8.rd (e:=?_) (fun D v w' hD hS=>?_) ?_;rotate_left;· (obtain ⟨c0,c1,c2,c3,c4,c5,c6,c7,c8,c9,c10⟩:=hS.1.f.cells;clear hS;first | (go_simp;done) | (go_simp;with_reducible rfl))
 go_simp;refine q8.call (.bool true) (fun v=>by rfl) (fun D v w' hD hS=>?_) ?_
 ·have HS1:=z7 hS.1;have HS2:=z7 hS.2.1;have HS3:=z7 hS.2.2;clear hS;go_simp;go_at_call 110;refine (y2F F a' c' _ HOK.out (by omega) HS2.out).mono ?_;rintro e w'' ⟨rfl,hb⟩;rw [HM1.out];refine ⟨rfl,HS1.out.to hb,HS2.out.low hb,fun h=>?_⟩;obtain ⟨a5,c5,h5,h6⟩:=HS3.out h;exact ⟨a5,c5,h5,h6.low hb⟩
 go_simp;iterate 2 (refine q8.rd (e:=?_) (fun D v w' hD hS=>?_) ?_;rotate_left;(clear hS;first | (go_simp;done) | (go_simp;with_reducible rfl));go_simp)
 refine q8.rd (e:=?_) (fun D v w' hD hS=>?_) ?_;rotate_left;· (obtain ⟨c0,c1,c2,c3,c4,c5,c6,c7,c8,c9,c10⟩:=hS.1.f.cells;clear hS;first | (go_simp;done) | (go_simp;with_reducible rfl))
 go_simp;refine q8.rel (fun v=>by rfl) (fun D v w' hD hS=>?_) ?_
 ·have HS1:=z7 hS.1;have HS2:=z7 hS.2.1;have HS3:=z7 hS.2.2;clear hS;go_simp;go_at_call 112;refine (y3j F a' c' _ HOK.out (by omega) HS2.out).mono ?_;rintro e w'' ⟨a5,c5,rfl,ho,hb⟩;exact ⟨HS1.out.to hb,HS2.out.low hb,fun _=>⟨a5,c5,rfl,z0d ho⟩⟩
 go_simp;refine q8.rd (e:=?_) (fun D v w' hD hS=>?_) ?_;rotate_left;· (have hp:=PL.out _ hS.1.low;clear hS;first | (go_simp;done) | (go_simp;with_reducible rfl))
 go_simp;refine q8.call (.bool q) (fun v=>by rfl) (fun D v w' hD hS=>?_) ?_
 ·have d5:D 5=true:=hD.pre 5 (by kernel_rfl);obtain ⟨h1',h2',h3'⟩:=hS;obtain ⟨a5,c5,h8,hrd⟩:=h3' d5;rw [h8];have hx5:=HX5.out.low h1'.low;have H1:=z7 h1';have H2:=z7 h2';have HRD:=z7 hrd;have H8:=z7 h8;have HX6:=z7 hx5;clear h1' h2' h3' hrd h8 hx5;go_simp;go_at_call 111;refine (y3r _ _ (z0w F) b _ HRD.out HX6.out).mono ?_;rintro e w'' ⟨rfl,rfl⟩;rw [←HQ.out];exact ⟨rfl,H1.out,H2.out,fun _=>⟨a5,c5,by first | exact H8.out | exact ⟨rfl,rfl⟩,HRD.out⟩⟩
 go_simp;iterate 2 (refine q8.rd (e:=?_) (fun D v w' hD hS=>?_) ?_;rotate_left;(clear hS;first | (go_simp;done) | (go_simp;with_reducible rfl));go_simp)
 refine q8.fin (fun v w' hS=>?_);obtain ⟨hz1,hz2,hz3⟩:=HZ0.out w' hS.1.low;obtain ⟨c0,c1,c2,c3,c4,c5,c6,c7,c8,c9,c10⟩:=hz1.cells;unfold z0O at c0 c1 c2 c3 c4 c5 c6 c7 c8 c10;simp only at c0 c1 c2 c3 c4 c5 c6 c7 c8 c10;obtain ⟨d0,d1,d2,d3,d4,d5,d6,d7,d8,d9,d10⟩:=hS.1.f.cells;have HZ1:=z7 hz1;have HZ2:=z7 hz2;have HSR:=z7 hS.2.1;have hsz:=hz1.lt;clear hS hz1 hz2;cases q with
 | false=>
  have hg:goF b=z0O∧goE b=70:=by unfold goF goE y5V;rw [←HFE.out,←HQ.out,HM1.out];exact ⟨rfl,rfl⟩
  have HG:=z7 hg;clear hg;go_wp2;refine bodyPost_ret (z5p _ (w.heap.size+1) 70 z0O (.slice none 0 0) _ (by simp) (by simp) (HZ1.out.store z0O (.slice none 0 0))) rfl ?_;show Told w (goF b) (goE b) _ _;rw [HG.out.1,HG.out.2];exact ⟨none,0,rfl,RdB.nil _,z3L (w':=w') (r:=w.heap.size+1) (o:=0) HZ2.out (by have:=HZ2.out.size;omega) (by omega) (z0a z0O (.slice none 0 0)).toList,fun k hk=>by cases hk⟩
 | true=>
  have hg:goF b=F∧goE b=0:=by unfold goF goE y5V;rw [←HFE.out,←HQ.out,HM1.out];exact ⟨rfl,rfl⟩
  have HG:=z7 hg;clear hg;go_wp2;refine bodyPost_ret (z5p _ (w.heap.size+1) 0 F (.slice a' F.b.length c') _ (by simp) (by simp) (HZ1.out.store F (.slice a' F.b.length c'))) rfl ?_;show Told w (goF b) (goE b) _ _;rw [HG.out.1,HG.out.2];refine ⟨a',c',rfl,?_,z3L (w':=w') (r:=w.heap.size+1) (o:=0) HZ2.out (by have:=HZ2.out.size;omega) (by omega) (z0a F (.slice a' F.b.length c')).toList,fun k hk=>by have:=HGE.out k hk;have:=HB5.out.size;omega⟩;have hfin:RdB (w'.setCells (w.heap.size+1) 0 (z0a F (.slice a' F.b.length c')).toList) (.slice a' F.b.length c') F.b:=
   Rd.kept HSR.out fun k hk _=>z0T (by have:=HGE.out k hk;omega) _ _ _
  exact hfin
end Go.Proofs.YtfcnapnopdomhaaGreatDoor

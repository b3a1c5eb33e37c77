/-
  A receiver in memory; the walks of New, Answer.
-/
import Derived.Test.YtfcnapnopdomhaaGreatDoorZBkL
namespace Go.Proofs.YtfcnapnopdomhaaGreatDoor
set_option linter.unusedSimpArgs false
set_option linter.unusedVariables false
set_option maxRecDepth 100000
set_option maxHeartbeats 12800000
open Go.RowKit Go.Maps
def z0L(w:World)(rb bb ep:Nat):Prop:=w.heap[rb]? =some (.cells #[.pointer (some ⟨bb,0,none⟩), .int .u32 (ep:Nat)] 198 (0,0))
theorem z0L.low{w w':World}{rb bb ep:Nat}(h:z0L w rb bb ep)(hb:Below w.heap.size w w'):z0L w' rb bb ep:=(hb.block rb (Array.getElem?_eq_some_iff.1 h).1).trans h
theorem z0L.lt{w:World}{rb bb ep:Nat}(h:z0L w rb bb ep):rb<w.heap.size:=(Array.getElem?_eq_some_iff.1 h).1
theorem z0L.cells{w:World}{rb bb ep:Nat}(h:z0L w rb bb ep):w.cell? ⟨rb,0,none⟩=some (.pointer (some ⟨bb,0,none⟩))∧w.cell? ⟨rb,1,none⟩=some (.int .u32 (ep:Nat))∧∀j,w.frozen? ⟨rb,j,none⟩=false:=z0g h
theorem q2A(bb:Nat)(w:World):Calls Tryz.prog 41 #[.pointer (some ⟨bb,0,none⟩)] w fun e w'=>∃rb,e= .returned (.pointer (some ⟨rb,0,none⟩))∧z0L w' rb bb 0∧w.heap.size≤rb∧Below w.heap.size w w':=by
 go_enter Tryz.func41,Tryz.ntmps41;go_wp2;go_ret;exact ⟨w.heap.size,rfl,j8 _ _,Nat.le_refl _,q5 _ _⟩
def z5i(b:z0m)(kind ep id:Nat):Fr:=⟨kind,ep,id,(z1U (z0f b id)).1,(z1U (z0f b id)).2.1,(z1U (z0f b id)).2.2,0,false,(z8c (z0f b id) (z1U (z0f b id))).1, [],0⟩
theorem y1M(rb bb mb B ep:Nat)(E:List (Int×z0C))(b:z0m)(S:Nat→Prop)(kind id:Nat)(hid:id<4294967296)(hfew:(z0f b id).done.length≤1000000000)(w:World)(h:z0r w bb mb E b B S)(hok:(z0f b id).Ok)(hr:z0L w rb bb ep):
  Calls Tryz.prog 97 #[.pointer (some ⟨rb,0,none⟩), .int .u8 kind, .int .u32 id] w fun e w'=>e= .returned (frV (z5i b kind ep id) (.slice none 0 0))∧Below w.heap.size w w':=by
 have HL0:=z7 ((Loc.start w).new (.cells z1Q 50));have H:=z7 h;have HR:=z7 hr;have hb:=hok.cur.bits;have h24:=hok.cur.len;obtain ⟨⟨DC,EB,EC⟩,hDE⟩:∃e,e=z1U (z0f b id):=⟨_,rfl⟩;have hDE':=hDE;unfold z1U at hDE';simp only [Prod.mk.injEq] at hDE';have hEnd:=z7 (fun w' h'=>y2L bb mb B E b S id hid hfew w' h');have hSum:=z7 (fun w' h'=>y5B bb mb B E b S id hid DC EB EC (by omega) (by omega) (by omega) hfew w' h');obtain ⟨⟨SM,SE⟩,hSM⟩:∃r,r=z8c (z0f b id) (DC,EB,EC):=⟨_,rfl⟩;rw [←hSM] at hSum;rw [←hDE] at hEnd;have hans:Hid (z5i b kind ep id=⟨kind,ep,id,DC,EB,EC,0,false,SM, [],0⟩):=z7 (by unfold z5i;rw [←hDE,←hSM]);clear h hr hok hfew hDE hDE' hSM hb h24;go_enter Tryz.func97,Tryz.ntmps97;go_upto_region 1 with fail
 refine q6 14 34 (by kernel_rfl) (by kernel_rfl) rfl (by kernel_rfl) (fun D v w'=>AlS (w.alloc (.cells z1Q 50)) 13 50 z1Q D v w') (fun _=>undef) (AlS.start _ _ _ _) ?_;simp only [List.take_succ_cons,List.take_zero,List.drop_succ_cons,List.drop_zero];iterate 11 (refine q8.read (e:=?_) (fun v=>by rfl) (fun D v w h=>⟨h.low,h.made⟩) (fun D v w' hD hS=>?_) ?_;rotate_left;(obtain ⟨r0,r1,rf⟩:=((HR.out.low HL0.out.low).low hS.low).cells;have lr:=((HR.out.low HL0.out.low).low hS.low).lt;clear hS hD;first | (go_simp;done) | (go_simp;with_reducible rfl));go_simp)
 refine q8.call (z3D (DC,EB,EC)) (fun v=>by rfl) (fun D v w' hD hS=>?_) ?_
 ·have HZ:=z7 hS;clear hS hD;go_simp;go_at_call 14;refine (hEnd.out w' ((H.out.low HL0.out.low).low HZ.out.low)).mono ?_;rintro e w'' ⟨rfl,hb⟩;exact ⟨rfl,HZ.out.call 11 (by decide) hb⟩
 go_simp;iterate 1 (refine q8.read (e:=?_) (fun v=>by rfl) (fun D v w h=>⟨h.low,h.made⟩) (fun D v w' hD hS=>?_) ?_;rotate_left;(skip;clear hS hD;first | (go_simp;done) | (go_simp;with_reducible rfl));go_simp)
 refine q8.rel (fun v=>by rfl) (fun D v w' hD hS=>?_) ?_
 ·have HS2:=z7 hS.make;clear hS hD;go_simp;exact HS2.out
 go_simp;refine q8.fin (fun v w5 hS=>?_);obtain ⟨g,hv,hge,hgc⟩:=hS.made rfl;rw [hv];have hL5:=HL0.out.call hS.low;have hL5':=(z0E.of (S:=fun _=>False) hL5).cons hgc (by have:=HL0.out.low.size;omega) (fun q hq=>by have:=HL0.out.lts hq;omega);have HL5:=z7 hL5';clear hS hv hge hgc hL5 hL5';have hsm:=z7 (z0y (HL5.out.get 0 rfl) (n:=11) rfl);have hfz:=z7 (z0B (HL5.out.get 0 rfl));go_upto_region 2 with (refine z0h rfl 50 _ _ rfl g 0 rfl #[.int .u8 kind, .int .u32 ep, .int .u32 id, .int .u32 DC, .int .u32 EB, .int .u32 EC, .int .u32 0, .bool false, .int .u64 0, .slice none 0 0, .int .i64 0] rfl hsm.out hfz.out z0z (by simp [Value.oneCell']) ?_)
 have hL6:=HL5.out.lay (K':= [(g, .cells #[.int .u8 kind, .int .u32 ep, .int .u32 id, .int .u32 DC, .int .u32 EB, .int .u32 EC, .int .u32 0, .bool false, .int .u64 0, .slice none 0 0, .int .i64 0] 50 (0,0)),(w.heap.size, .cells z1Q 50 (0,0))]) 0 0 [.int .u8 kind, .int .u32 ep, .int .u32 id, .int .u32 DC, .int .u32 EB, .int .u32 EC, .int .u32 0, .bool false, .int .u64 0, .slice none 0 0, .int .i64 0] rfl rfl rfl rfl;obtain ⟨w6,hw6,hL6⟩:=hL6.named;refine z0D hw6 ?_;have HL6:=z7 hL6.toLoc;clear hL6 hw6 HL5 hsm hfz;obtain ⟨f0,f1,f2,f3,f4,f5,f6,f7,f8,f9,f10,ff⟩:=z0q (HL6.out.get 0 rfl);have l1:=HL6.out.lt 0 rfl;obtain ⟨r0,r1,rf⟩:=(HR.out.low HL6.out.low).cells;have lr:=(HR.out.low HL6.out.low).lt;have hne:rb≠g:=by have:=HR.out.lt;have:=HL6.out.ge 0 rfl;omega
 have hR6:=z7 (HR.out.low HL6.out.low);have H6:=z7 (H.out.low HL6.out.low);have hBg:∀k,S k→k≠g:=fun k hk e=>by have:=(H.out.lo k hk).2;have:=HL6.out.ge 0 rfl;omega
 have HBG:=z7 hBg;clear hBg f0 f1 f2 f3 f4 f5 f6 f7 f8 f9 f10 ff l1 r0 r1 rf lr;refine q6 13 34 (by kernel_rfl) (by kernel_rfl) rfl (by kernel_rfl) (fun D v w'=>z5D w6 g 50 #[.int .u8 kind, .int .u32 ep, .int .u32 id, .int .u32 DC, .int .u32 EB, .int .u32 EC, .int .u32 0, .bool false, .int .u64 0, .slice none 0 0, .int .i64 0] #[.int .u8 kind, .int .u32 ep, .int .u32 id, .int .u32 DC, .int .u32 EB, .int .u32 EC, .int .u32 0, .bool false, .int .u64 (SM:Nat), .slice none 0 0, .int .i64 0] 12 D w') (fun _=>undef) (z5D.start (HL6.out.get 0 rfl)) ?_;simp only [List.take_succ_cons,List.take_zero,List.drop_succ_cons,List.drop_zero];iterate 7 (refine q8.read (e:=?_) (fun v=>by rfl) (fun D v w h=>h.other _ (by decide) (Below.refl _ _)) (fun D v w' hD hS=>?_) ?_;rotate_left;(have hrb:=(hS.low.block rb hR6.out.lt hne).trans hR6.out;obtain ⟨r0,r1,rf⟩:=z0L.cells (w:=w') hrb;have lr:=z0L.lt (w:=w') hrb;have lg:=hS.lt;have g3:=hS.cell 3 rfl rfl;have g4:=hS.cell 4 rfl rfl;have g5:=hS.cell 5 rfl rfl;clear hrb;clear hS hD;first | (go_simp;done) | (go_simp;with_reducible rfl));go_simp)
 refine q8.call (.tuple #[.int .u64 (SM:Nat), .int .u16 (SE:Nat)]) (fun v=>by rfl) (fun D v w' hD hS=>?_) ?_
 ·have HZ:=z7 hS;have HB':=z7 (H6.out.keep (fun k hk=>HZ.out.low.block k (H6.out.lo k hk).2 (HBG.out k hk)) HZ.out.low.size);clear hS hD;go_simp;go_at_call 47;refine (hSum.out w' HB'.out).mono ?_;rintro e w'' ⟨rfl,hb⟩;exact ⟨rfl,HZ.out.other 7 (by decide) hb⟩
 go_simp;iterate 4 (refine q8.read (e:=?_) (fun v=>by rfl) (fun D v w h=>h.other _ (by decide) (Below.refl _ _)) (fun D v w' hD hS=>?_) ?_;rotate_left;(have lg:=hS.lt;clear hS hD;first | (go_simp;done) | (go_simp;with_reducible rfl));go_simp)
 refine q8.call undef (fun v=>by rfl) (fun D v w' hD hS=>?_) ?_
 ·have HZ:=z7 hS;have d:=z7 hD.self;have lg:=hS.lt;obtain ⟨u8,c8⟩:=Option.isSome_iff_exists.1 (hS.some rfl (j:=8) (by simp));have z8:=hS.frz 8;clear hS hD;go_simp;exact HZ.out.set d.out 8 _ rfl
 go_simp;refine q8.fin (fun v w7 hS=>?_);have hb7:w7.heap[g]? =some (.cells #[.int .u8 kind, .int .u32 ep, .int .u32 id, .int .u32 DC, .int .u32 EB, .int .u32 EC, .int .u32 0, .bool false, .int .u64 (SM:Nat), .slice none 0 0, .int .i64 0] 50 (0,0)):=hS.b;have hne2:w.heap.size≠g:=fun e=>by have:=HL6.out.nodup;rw [←e] at this;simp at this
 have hz7:=(hS.low.block _ (HL6.out.lt 1 rfl) hne2).trans (HL6.out.get 1 rfl);have hlow7:Below w.heap.size w w7:=HL6.out.low.trans (hS.low.below HL6.out.low.size (fun k hk=>by have:=HL6.out.ge 0 rfl;omega));have HB7:=z7 hb7;have HZ7:=z7 hz7;have HLOW:=z7 hlow7;have hs7:=z7 (z0y hz7 (n:=11) rfl);have hf7:=z7 (z0B hz7);clear hS hb7 hz7 hlow7 hSum hEnd;go_wp2_with (first | refine z0N rfl 50 _ rfl g 0 rfl _ (z2a HB7.out) z1H z0z ?_ | refine z0h rfl 50 _ _ rfl w.heap.size 0 rfl #[.int .u8 kind, .int .u32 ep, .int .u32 id, .int .u32 DC, .int .u32 EB, .int .u32 EC, .int .u32 0, .bool false, .int .u64 (SM:Nat), .slice none 0 0, .int .i64 0] rfl hs7.out hf7.out z0z (by simp [Value.oneCell']) ?_);refine bodyPost_ret (q2v rfl rfl (z0I _ 0 _ _ HZ7.out (by simp)) z1H z0z) rfl ?_;rw [hans.out];exact ⟨rfl,HLOW.out.trans (z0s.below (z0s.setCells (S:=fun k=>k=w.heap.size) rfl _ 0 _) HLOW.out.size (fun k hk=>by omega))⟩
def z4d(b:z0m)(f:Fr):Nat:=
 if f.kind≠3∧z5E f=z1U (z0f b f.series) then (if (z8c (z0f b f.series) (z1U (z0f b f.series))).1≠f.sum then 2 else 0)
 else if f.chunk<(z1U (z0f b f.series)).1 then 1
 else if (z1U (z0f b f.series)).1<f.chunk then 2
 else if f.count<(z1U (z0f b f.series)).2.2 then 1
 else if f.count=(z1U (z0f b f.series)).2.2∧f.kind≠3 then 1
 else if f.kind=3 then 0 else 2
theorem y8D(rb bb mb B ep:Nat)(E:List (Int×z0C))(b:z0m)(S:Nat→Prop)(f:Fr)(a:Option Addr)(n c:Nat)(hf:f.Ok)(hfew:(z0f b f.series).done.length≤1000000000)(w:World)(h:z0r w bb mb E b B S)(hok:(z0f b f.series).Ok)(hr:z0L w rb bb ep):
  Calls Tryz.prog 114 #[.pointer (some ⟨rb,0,none⟩),frV f (.slice a n c)] w fun e w'=>e= .returned (.int .u8 (z4d b f:Nat))∧Below w.heap.size w w':=by
 have HL0:=z7 ((Loc.start w).new (.cells (z0a f (.slice a n c)) 50));have H:=z7 h;have HR:=z7 hr;have hb:=hok.cur.bits;have h24:=hok.cur.len;obtain ⟨⟨DC,EB,EC⟩,hDE⟩:∃e,e=z1U (z0f b f.series):=⟨_,rfl⟩;have hDE':=hDE;unfold z1U at hDE';simp only [Prod.mk.injEq] at hDE';have hid:=hf.series;have hEnd:=z7 (fun w' h'=>y2L bb mb B E b S f.series hid hfew w' h');have hSum:=z7 (fun w' h'=>y5B bb mb B E b S f.series hid DC EB EC (by omega) (by omega) (by omega) hfew w' h');obtain ⟨⟨SM,SE⟩,hSM⟩:∃r,r=z8c (z0f b f.series) (DC,EB,EC):=⟨_,rfl⟩;rw [←hSM] at hSum;rw [←hDE] at hEnd;have hJ:Hid (z4d b f=if f.kind≠3∧(f.chunk,f.bits,f.cnt)=(DC,EB,EC) then (if SM≠f.sum then 2 else 0) else if f.chunk<DC then 1 else if DC<f.chunk then 2 else if f.count<EC then 1 else if f.count=EC∧f.kind≠3 then 1 else if f.kind=3 then 0 else 2):=z7 (by unfold z4d z5E;rw [←hDE,←hSM]);obtain ⟨J,hJJ⟩:∃j,j=z4d b f:=⟨_,rfl⟩;rw [←hJJ] at hJ ⊢;have hfk:=hf.kind;clear h hr hok hfew hDE hDE' hSM hb h24 hf hJJ;obtain ⟨kind,epoch,series,ck,pb,pc,cnt,closed,sum,fb,fn⟩:=f;unfold frV z0a;unfold z0a at HL0;simp only at HL0 hEnd hSum hJ hid hfk ⊢;go_enter Tryz.func114,Tryz.ntmps114;obtain ⟨f0,f1,f2,f3,f4,f5,f6,f7,f8,f9,f10,ff⟩:=z0q (HL0.out.get 0 rfl);go_upto_region 1 with fail
 refine q6 8 74 (by kernel_rfl) (by kernel_rfl) rfl (by kernel_rfl) (fun D v w'=>AlS (w.alloc (.cells #[.int .u8 kind, .int .u32 epoch, .int .u32 series, .int .u32 ck, .int .u32 pb, .int .u32 pc, .int .u32 cnt, .bool closed, .int .u64 sum, .slice a n c, .int .i64 fn] 50)) 7 42 #[.int .u32 0, .int .u32 0, .int .u32 0] D v w') (fun _=>undef) (AlS.start _ _ _ _) ?_;simp only [List.take_succ_cons,List.take_zero,List.drop_succ_cons,List.drop_zero];clear f0 f1 f2 f3 f4 f5 f6 f7 f8 f9 f10 ff;iterate 6 (refine q8.read (e:=?_) (fun v=>by rfl) (fun D v w h=>⟨h.low,h.made⟩) (fun D v w' hD hS=>?_) ?_;rotate_left;(obtain ⟨r0,r1,rf⟩:=((HR.out.low HL0.out.low).low hS.low).cells;have lr:=((HR.out.low HL0.out.low).low hS.low).lt;obtain ⟨f0,f1,f2,f3,f4,f5,f6,f7,f8,f9,f10,ff⟩:=z0q ((HL0.out.call hS.low).get 0 rfl);have lf:=(HL0.out.call hS.low).lt 0 rfl;clear hS hD;first | (go_simp;done) | (go_simp;with_reducible rfl));go_simp)
 refine q8.call (z3D (DC,EB,EC)) (fun v=>by rfl) (fun D v w' hD hS=>?_) ?_
 ·have HZ:=z7 hS;clear hS hD;go_simp;go_at_call 14;refine (hEnd.out w' ((H.out.low HL0.out.low).low HZ.out.low)).mono ?_;rintro e w'' ⟨rfl,hb⟩;exact ⟨rfl,HZ.out.call 6 (by decide) hb⟩
 go_simp;refine q8.rel (fun v=>by rfl) (fun D v w' hD hS=>?_) ?_
 ·have HS2:=z7 hS.make;clear hS hD;go_simp;exact HS2.out
 go_simp;refine q8.fin (fun v w5 hS=>?_);obtain ⟨g,hv,hge,hgc⟩:=hS.made rfl;rw [hv];have hL5:=HL0.out.call hS.low;have hL5':=(z0E.of (S:=fun _=>False) hL5).cons hgc (by have:=HL0.out.low.size;omega) (fun q hq=>by have:=HL0.out.lts hq;omega);have HL5:=z7 hL5';clear hS hv hge hgc hL5 hL5' hEnd;have hsm:=z7 (z0y (HL5.out.get 0 rfl) (n:=3) rfl);have hfz:=z7 (z0B (HL5.out.get 0 rfl));go_upto_region 2 with (refine z0h rfl 42 _ _ rfl g 0 rfl #[.int .u32 DC, .int .u32 EB, .int .u32 EC] rfl hsm.out hfz.out z2K (by simp [Value.oneCell']) ?_)
 have hL6:=HL5.out.lay (K':= [(g, .cells #[.int .u32 DC, .int .u32 EB, .int .u32 EC] 42 (0,0)),(w.heap.size, .cells #[.int .u8 kind, .int .u32 epoch, .int .u32 series, .int .u32 ck, .int .u32 pb, .int .u32 pc, .int .u32 cnt, .bool closed, .int .u64 sum, .slice a n c, .int .i64 fn] 50 (0,0))]) 0 0 [.int .u32 DC, .int .u32 EB, .int .u32 EC] rfl rfl rfl rfl;obtain ⟨w6,hw6,hL6⟩:=hL6.named;refine z0D hw6 ?_;have HL6:=z7 hL6.toLoc;clear hL6 hw6 HL5 hsm hfz;obtain ⟨f0,f1,f2,f3,f4,f5,f6,f7,f8,f9,f10,ff⟩:=z0q (HL6.out.get 1 rfl);obtain ⟨p0,p1,p2,pf⟩:=cells3 (HL6.out.get 0 rfl);have l1:=HL6.out.lt 1 rfl;have l0:=HL6.out.lt 0 rfl;have hlow6:=HL6.out.low;have HLOW:=z7 hlow6;clear hlow6;by_cases hk:kind=3
 ·subst hk;go_wp2_with fail;all_goals (go_ret;refine ⟨?_,HLOW.out⟩;have hj:=hJ.out;clear hJ HL0 H HR hSum HL6 hL6 HLOW f0 f1 f2 f3 f4 f5 f6 f7 f8 f9 f10 ff p0 p1 p2 pf;rw [hj];try simp only [beq_iff_eq,beq_eq_false_iff_ne,bne_iff_ne,bne_eq_false_iff_eq,ne_eq,Int.natCast_inj,Int.ofNat_inj] at*;first | (simp [*];done) | (simp_all;done) | ((repeat' split)<;>omega))
 ·have hk3:((kind:Int)==3)=false:=beq_false_of_ne (by omega);obtain ⟨isE,hisE⟩:∃e,e=decide ((ck,pb,pc)=(DC,EB,EC)):=⟨_,rfl⟩;have HE:=z7 hisE.symm;clear hisE;cases isE with
  | false=>
   have hne:¬((ck,pb,pc)=(DC,EB,EC)):=of_decide_eq_false HE.out;have HNE:=z7 hne;clear hne;go_wp2_with (refine z2F (by rfl) (.bool false) (z4g _ _ _ rfl (ck,pb,pc) (DC,EB,EC) rfl rfl false HE.out) ?_);all_goals (go_ret;refine ⟨?_,HLOW.out⟩;have hj:=hJ.out;rw [if_neg (fun h=>HNE.out h.2)] at hj;clear HNE HE hJ HL0 H HR hSum HL6 hL6 HLOW f0 f1 f2 f3 f4 f5 f6 f7 f8 f9 f10 ff p0 p1 p2 pf;rw [hj];try simp only [beq_iff_eq,beq_eq_false_iff_ne,bne_iff_ne,bne_eq_false_iff_eq,ne_eq,Int.natCast_inj,Int.ofNat_inj] at*;first | (simp [*];done) | (simp_all;done) | ((repeat' split)<;>omega))
  | true=>
   go_upto_region 4 with (refine z2F (by rfl) (.bool true) (z4g _ _ _ rfl (ck,pb,pc) (DC,EB,EC) rfl rfl true HE.out) ?_)
   clear f0 f1 f2 f3 f4 f5 f6 f7 f8 f9 f10 ff p0 p1 p2 pf l0 l1;refine q6 13 74 (by kernel_rfl) (by kernel_rfl) rfl (by kernel_rfl) (fun D v w'=>Below w6.heap.size w6 w') (fun _=>undef) (Below.refl _ _).drew ?_;simp only [List.take_succ_cons,List.take_zero,List.drop_succ_cons,List.drop_zero];iterate 7 (refine q8.rd (e:=?_) (fun D v w' hD hS=>?_) ?_;rotate_left;(have HL7:=HL6.out.call hS;obtain ⟨f0,f1,f2,f3,f4,f5,f6,f7,f8,f9,f10,ff⟩:=z0q (HL7.get 1 rfl);have l1:=HL7.lt 1 rfl;obtain ⟨p0,p1,p2,pf⟩:=cells3 (HL7.get 0 rfl);have l0:=HL7.lt 0 rfl;obtain ⟨r0,r1,rf⟩:=(HR.out.low HL7.low).cells;have lr:=(HR.out.low HL7.low).lt;clear HL7;clear hS hD;first | (go_simp;done) | (go_simp;with_reducible rfl));go_simp)
   refine q8.call (.tuple #[.int .u64 (SM:Nat), .int .u16 (SE:Nat)]) (fun v=>by rfl) (fun D v w' hD hS=>?_) ?_;(focus (have HZ:=z7 hS;clear hS hD;skip;go_simp;go_at_call 47;refine (hSum.out w' (H.out.low (HL6.out.call HZ.out).low)).mono ?_;rintro e w'' ⟨rfl,hb⟩;exact ⟨rfl,HZ.out.trans (hb.mono HZ.out.size)⟩));go_simp;iterate 5 (refine q8.rd (e:=?_) (fun D v w' hD hS=>?_) ?_;rotate_left;(skip;clear hS hD;first | (go_simp;done) | (go_simp;with_reducible rfl));go_simp)
   refine q8.fin (fun v w7 hS=>?_);have HL7:=z7 (HL6.out.call hS);obtain ⟨f0,f1,f2,f3,f4,f5,f6,f7,f8,f9,f10,ff⟩:=z0q (HL7.out.get 1 rfl);have l1:=HL7.out.lt 1 rfl;clear hS;have HL7w:=z7 HL7.out.low;go_wp2_with fail;all_goals (go_ret;refine ⟨?_,HL7w.out⟩;have hj:=hJ.out;rw [if_pos ⟨hk,of_decide_eq_true HE.out⟩] at hj;clear HE hJ HL0 H HR hSum HL6 HL7 HL7w hL6 HLOW f0 f1 f2 f3 f4 f5 f6 f7 f8 f9 f10 ff;rw [hj];try simp only [beq_iff_eq,beq_eq_false_iff_ne,bne_iff_ne,bne_eq_false_iff_eq,ne_eq,Int.natCast_inj,Int.ofNat_inj] at*;first | (simp [*];done) | (simp_all;done) | ((repeat' split)<;>omega))
abbrev Bs:=List UInt8
structure FsS where
 room:Int
 files:List (Bs×Bs)
 waits:List (Bs×Bs)
 left:Option Int
 halted:Bool
def z2N(k:Bs):Lit:= .string k
def named(k:Bs):Bool:=decide (1≤k.length)&&decide (k.length≤16)
def pieces(k:Bs)(L:List (Bs×Bs)):Bs:=(L.filter fun p=>decide (p.1=k)).flatMap (·.2)
def total(L:List (Bs×Bs)):Nat:=(L.map fun p=>p.2.length).sum
def FsS.used(s:FsS):Nat:=total s.files+total s.waits
def FsS.has(s:FsS)(k:Bs):Bool:=(z0H k s.files).isSome
def FsS.get(s:FsS)(k:Bs):Bs:=(z0H k s.files).getD []++pieces k s.waits
def FsS.go(s:FsS):Bool:=decide (s.left≠some 0)
def FsS.went(s:FsS):FsS:=match s.left with
 | none=>s
 | some n=>if n=0 then {s with halted:=true} else {s with left:=some (n - 1)}
def z0R(k:Bs)(L:List (Bs×Bs)):List (Bs×Bs):=L.filter fun p=>decide (p.1≠k)
def z6q(room:Int):FsS:=⟨room, [], [],none,false⟩
def z1R(s:FsS)(k:Bs):Int×FsS:=
 if named k=false then (1,s) else if s.has k then (81,s) else if 8≤s.files.length then (3,s)
 else (0,if s.go then {s.went with files:=z1r z2N k [] s.files} else s.went)
def z1j(s:FsS)(k b:Bs):Int×FsS:=
 if s.has k=false then (80,s) else if b.length=0 then (0,s) else if s.room - s.used<b.length then (82,s)
 else (0,if s.go then {s.went with waits:=s.waits++ [(k,b)]} else s.went)
def z2f(s:FsS)(k:Bs):Int×FsS:=
 if s.has k=false then (80,s) else (0,if s.go then {s.went with files:=z1r z2N k (s.get k) s.files,waits:=z0R k s.waits} else s.went)
def z5a(s:FsS)(k:Bs)(n:Int):Int×FsS:=
 if s.has k=false then (80,s) else if n<0∨(s.get k).length<n then (1,s)
 else (0,if s.go then {s.went with files:=z1r z2N k ((s.get k).take n.toNat) s.files,waits:=z0R k s.waits} else s.went)
def z2Q(s:FsS)(k:Bs):Int×FsS:=
 if s.has k=false then (80,s) else (0,if s.go then {s.went with files:=z1Z k s.files,waits:=z0R k s.waits} else s.went)
structure FsS.Ok (s:FsS):Prop where
 room0:0≤s.room
 room1:s.room≤1048576
 used:(s.used:Int)≤s.room
 few:s.files.length≤8
 names:∀p∈s.files,named p.1=true
 piece:∀p∈s.waits,p.2≠ []∧s.has p.1=true
 left0:∀n,s.left=some n→0≤n∧n≤9223372036854775807
theorem z6h(L R:List (Bs×Bs)):total (L++R)=total L+total R:=by simp [total]
theorem z1n(p:Bs×Bs)(L:List (Bs×Bs)):total (p::L)=p.2.length+total L:=by simp [total]
theorem y5F{L R:List (Bs×Bs)}(h:L.Perm R):total L=total R:=by
 unfold total;exact (h.map _).sum_nat
theorem z9c{κ ν:Type}(kl:κ→Lit)(x:κ×ν):∀E:List (κ×ν),(mins kl x E).Perm (x::E)
 | []=>List.Perm.refl _
 | y::r=>by
  unfold mins;split
  ·exact List.Perm.refl _
  ·exact ((z9c kl x r).cons y).trans (List.Perm.swap x y r)
theorem z6s(f:Bs×Bs→Bool)(L:List (Bs×Bs)):total (L.filter f)≤total L:=by
 induction L with
 | nil=>simp
 | cons p L ih=>
  rw [List.filter_cons];split
  ·rw [z1n,z1n];omega
  ·rw [z1n];omega
theorem z7u(k:Bs)(L:List (Bs×Bs)):(pieces k L).length=total (L.filter fun p=>decide (p.1=k)):=by
 unfold pieces total
 induction L.filter fun p=>decide (p.1=k) with
 | nil=>rfl
 | cons p M ih=>simp [ih]
theorem z9v(k:Bs)(L:List (Bs×Bs)):total L=total (L.filter fun p=>decide (p.1=k))+total (z0R k L):=by
 unfold z0R
 induction L with
 | nil=>rfl
 | cons p L ih=>
  by_cases h:p.1=k
  ·rw [List.filter_cons,if_pos (by simpa using h),List.filter_cons,if_neg (by simpa using h),z1n,z1n,ih];omega
  ·rw [List.filter_cons,if_neg (by simpa using h),List.filter_cons,if_pos (by simpa using h),z1n,z1n,ih];omega
theorem y0a{k v:Bs}{L:List (Bs×Bs)}(h:z0H k L=some v):v.length+total (z1Z k L)≤total L:=by
 induction L with
 | nil=>cases h
 | cons p L ih=>
  unfold z0H at h ih;unfold z1Z at ih ⊢;rw [List.find?_cons] at h;rw [List.filter_cons,z1n];by_cases e:p.1=k
  ·simp only [e,decide_true,Option.map_some,Option.some.injEq] at h;subst h;rw [if_neg (by simpa using e)];have:=z6s (fun p=>decide (p.1≠k)) L;omega
  ·simp only [e,decide_false] at h;rw [if_pos (by simpa using e),z1n];have:=ih h;omega
theorem z7Z(k:Bs)(L:List (Bs×Bs)):total (z1Z k L)≤total L:=z6s _ L
theorem z4X(k v:Bs)(L:List (Bs×Bs)):total (z1r z2N k v L)=v.length+total (z1Z k L):=by
 unfold z1r;rw [y5F (z9c z2N (k,v) (z1Z k L)),z1n]
theorem z9m{κ ν:Type} [DecidableEq κ](k:κ)(E:List (κ×ν)):(z1Z k E).length≤E.length:=List.length_filter_le _ _
theorem z6F{κ ν:Type} [DecidableEq κ](kl:κ→Lit)(k:κ)(v:ν)(E:List (κ×ν)):(z1r kl k v E).length≤E.length+1:=by
 unfold z1r;rw [z5x];have:=z9m k E;omega
theorem z9D{κ ν:Type} [DecidableEq κ]{k:κ}{E:List (κ×ν)}(h:(z0H k E).isSome=true):(z1Z k E).length+1≤E.length:=by
 unfold z0H at h;rw [Option.isSome_map,List.find?_isSome] at h;obtain ⟨p,hp,hk⟩:=h;unfold z1Z
 induction E with
 | nil=>cases hp
 | cons y r ih=>
  rw [List.filter_cons];by_cases e:y.1=k
  ·rw [if_neg (by simpa using e)];have:=List.length_filter_le (fun q:κ×ν=>decide (q.1≠k)) r;simp;simpa using this
  ·rw [if_pos (by simpa using e)];rcases List.mem_cons.1 hp with rfl | hp
   ·exact absurd (by simpa using hk) e
   ·have:=ih hp;simp at this ⊢;omega
theorem z5B{κ ν:Type} [DecidableEq κ](kl:κ→Lit)(k:κ)(v:ν)(E:List (κ×ν)):z0H k (z1r kl k v E)=some v:=by
 unfold z1r z0H;have:∀L:List (κ×ν),(∀p∈L,p.1≠k)→(mins kl (k,v) L).find? (fun p=>decide (p.1=k))=some (k,v):=by
  intro L
  induction L with
  | nil=>intro _;simp [mins]
  | cons y r ih=>
   intro h;unfold mins;split
   ·simp
   ·rw [List.find?_cons];have:decide (y.1=k)=false:=by simpa using h y (by simp)
    rw [this];exact ih fun p hp=>h p (by simp [hp])
 rw [this _ fun p hp=>((z4o k p E).1 hp).2];rfl
theorem z3Q{κ ν:Type} [DecidableEq κ](kl:κ→Lit){k k':κ}(hne:k'≠k)(v:ν)(E:List (κ×ν)):z0H k' (z1r kl k v E)=z0H k' E:=by
 unfold z1r z0H z1Z;have h1:∀L:List (κ×ν),(mins kl (k,v) L).find? (fun p=>decide (p.1=k'))=L.find? fun p=>decide (p.1=k'):=by
  intro L
  induction L with
  | nil=>simp [mins,Ne.symm hne]
  | cons y r ih=>
   unfold mins;split
   ·rw [List.find?_cons];simp [Ne.symm hne]
   ·rw [List.find?_cons,List.find?_cons,ih]
 rw [h1]
 congr 1
 rw [List.find?_filter]
 congr 1
 funext p
 by_cases e:p.1=k'
 ·simp [e,hne]
 ·simp [e]
theorem y0m{κ ν:Type} [DecidableEq κ]{k k':κ}(hne:k'≠k)(E:List (κ×ν)):z0H k' (z1Z k E)=z0H k' E:=by
 unfold z0H z1Z
 congr 1
 rw [List.find?_filter]
 congr 1
 funext p
 by_cases e:p.1=k'
 ·simp [e,hne]
 ·simp [e]
theorem z5Q(s:FsS)(k:Bs):(s.get k).length+total (z1Z k s.files)+total (z0R k s.waits)≤s.used:=by
 unfold FsS.get FsS.used;rw [List.length_append,z7u];have h1:=z9v k s.waits;cases h:z0H k s.files with
 | none=>
  have:=z7Z k s.files;simp;omega
 | some v=>
  have:=y0a h;simp;omega
theorem y6V{κ ν μ:Type}(kl:κ→Lit)(g:ν→μ)(x:κ×ν):∀E:List (κ×ν),(mins kl x E).map (fun p=>(p.1,g p.2))=mins kl (x.1,g x.2) (E.map fun p=>(p.1,g p.2))
 | []=>rfl
 | y::r=>by
  unfold mins;simp only [List.map_cons];split
  ·rfl
  ·rw [List.map_cons,y6V kl g x r]
theorem y6H{κ ν μ:Type} [DecidableEq κ](g:ν→μ)(k:κ)(E:List (κ×ν)):(z1Z k E).map (fun p=>(p.1,g p.2))=z1Z k (E.map fun p=>(p.1,g p.2)):=by
 unfold z1Z;rw [List.filter_map];rfl
theorem q1k{κ ν μ:Type} [DecidableEq κ](kl:κ→Lit)(g:ν→μ)(k:κ)(v:ν)(E:List (κ×ν)):(z1r kl k v E).map (fun p=>(p.1,g p.2))=z1r kl k (g v) (E.map fun p=>(p.1,g p.2)):=by
 unfold z1r;rw [y6V,y6H]
theorem y6P{κ ν μ:Type} [DecidableEq κ](g:ν→μ)(k:κ)(E:List (κ×ν)):z0H k (E.map fun p=>(p.1,g p.2))=(z0H k E).map g:=by
 unfold z0H;rw [List.find?_map,Option.map_map,Option.map_map];rfl
theorem FsS.Ok.went{s:FsS}(h:s.Ok):s.went.Ok:=by
 unfold FsS.went;cases hl:s.left with
 | none=>exact h
 | some n=>
  dsimp only;split
  ·exact ⟨h.room0,h.room1,h.used,h.few,h.names,h.piece,by rw [←hl];exact h.left0⟩
  ·have:=h.left0 n hl;exact ⟨h.room0,h.room1,h.used,h.few,h.names,h.piece,fun m hm=>by simp only [Option.some.injEq] at hm;omega⟩
theorem z2J(s:FsS):s.went.room=s.room∧s.went.files=s.files∧s.went.waits=s.waits:=by
 unfold FsS.went;cases s.left with
 | none=>exact ⟨rfl,rfl,rfl⟩
 | some n=>dsimp only;split<;>exact ⟨rfl,rfl,rfl⟩
theorem z9N{s:FsS}(h:s.Ok)(F W:List (Bs×Bs))(hu:total F+total W≤s.used)(hf:F.length≤8)(hn:∀p∈F,named p.1=true)(hw:∀p∈W,p.2≠ []∧(z0H p.1 F).isSome=true):({s.went with files:=F,waits:=W}:FsS).Ok:=by
 have h1:=h.went;obtain ⟨e1,e2,e3⟩:=z2J s;refine ⟨h1.room0,h1.room1,?_,hf,hn,hw,h1.left0⟩;show ((total F+total W:Nat):Int)≤s.went.room;rw [e1];have:=h.used;omega
theorem z2z:(Tryz.prog.underlying 125).map z7q=some true:=by kernel_rfl
theorem z0X:(Tryz.prog.info? 125).map (·.size)=some 12:=by kernel_rfl
theorem y2P{w:World}{b:Nat}{x0 x1 x2 x3 x4 x5 x6 x7 x8 x9 x10 x11:Value}{t:TypeId}(h:w.heap[b]? =some (.cells #[x0,x1,x2,x3,x4,x5,x6,x7,x8,x9,x10,x11] t (0,0))):w.cell? ⟨b,0,none⟩=some x0∧w.cell? ⟨b,1,none⟩=some x1∧w.cell? ⟨b,2,none⟩=some x2∧w.cell? ⟨b,3,none⟩=some x3∧w.cell? ⟨b,4,none⟩=some x4∧w.cell? ⟨b,5,none⟩=some x5∧w.cell? ⟨b,6,none⟩=some x6∧w.cell? ⟨b,7,none⟩=some x7∧w.cell? ⟨b,8,none⟩=some x8∧w.cell? ⟨b,9,none⟩=some x9∧w.cell? ⟨b,10,none⟩=some x10∧w.cell? ⟨b,11,none⟩=some x11∧∀j,w.frozen? ⟨b,j,none⟩=false:=by
 refine ⟨?_,?_,?_,?_,?_,?_,?_,?_,?_,?_,?_,?_,?_⟩<;>simp [World.cell?,World.frozen?,h]
def z2H(f:Fr)(sl:Value):Array Value:= #[.int .u8 4, .int .u32 0, .int .u32 f.series, .int .i64 0, .int .u64 0, .int .u32 f.chunk, .int .u32 f.bits, .int .u32 f.cnt, .int .u32 f.count, .bool f.closed,sl, .int .i64 f.n]
def pcV(f:Fr)(sl:Value):Value:= .agg (z2H f sl)
def ofF(f:Fr):Fr:=⟨0,0,f.series,f.chunk,f.bits,f.cnt,f.count,f.closed,0,f.b,f.n⟩
theorem q3b{f:Fr}(h:f.Ok):(ofF f).Ok:={h with kind:=(by decide:0<256),epoch:=(by decide:0<4294967296),sum:=(by decide:0<18446744073709551616)}
theorem y3M(b:z0m)(f:Fr)(l:List Bool):z3G b (ofF f) l=z3G b f l∧takeB b (ofF f) l=takeB b f l:=⟨rfl,rfl⟩
theorem q3I(f:Fr)(a:Option Addr)(n c:Nat)(w:World):
  Calls Tryz.prog 96 #[pcV f (.slice a n c)] w fun e w'=>e= .returned (frV (ofF f) (.slice a n c))∧Below w.heap.size w w':=by
 have HL0:=z7 (((Loc.start w).new (.cells (z2H f (.slice a n c)) 125)).new' (.cells z1Q 50) (n:=w.heap.size+1) (by simp));obtain ⟨kind,epoch,series,ck,pb,pc,cnt,closed,sum,fb,fn⟩:=f;unfold frV z0a ofF pcV z2H;unfold z2H at HL0;simp only at HL0 ⊢;have hs7:=z7 (z0y (HL0.out.get 0 rfl) (n:=11) rfl);have hf7:=z7 (z0B (HL0.out.get 0 rfl));obtain ⟨f0,f1,f2,f3,f4,f5,f6,f7,f8,f9,f10,f11,ff⟩:=y2P (HL0.out.get 1 rfl);have l1:=HL0.out.lt 1 rfl;go_enter Tryz.func96,Tryz.ntmps96;go_wp2_with (refine z0h rfl 50 _ _ rfl (w.heap.size+1) 0 rfl #[.int .u8 0, .int .u32 0, .int .u32 series, .int .u32 ck, .int .u32 pb, .int .u32 pc, .int .u32 cnt, .bool closed, .int .u64 0, .slice a n c, .int .i64 fn] rfl hs7.out hf7.out z0z (by simp [Value.oneCell']) ?_);refine bodyPost_ret (q2v rfl rfl (z0I _ 0 _ _ (HL0.out.get 0 rfl) (by simp)) z1H z0z) rfl ?_;exact ⟨rfl,HL0.out.low.trans (z0s.below (z0s.setCells (S:=fun k=>k=w.heap.size+1) rfl _ 0 _) HL0.out.low.size (fun k hk=>by omega))⟩
theorem z0r.serOk{w:World}{bb mb B:Nat}{E:List (Int×z0C)}{b:z0m}{S:Nat→Prop}(h:z0r w bb mb E b B S)(id:Nat):(z0f b id).Ok:=by
 rw [h.get id];cases hm:z0H (id:Int) E with
 | none=>exact y7q
 | some X=>exact (h.each _ (z1w hm)).1.ok
theorem z5V(b:z0m)(id:Nat)(s:z1o)(i:Nat):z0f (b.set id s) i=if i=id then s else z0f b i:=by
 unfold z0f z0m.set;simp only;split
 ·rename_i h;subst h;rw [z5B];rfl
 ·rename_i h;rw [z3Q z4A (by omega)]
theorem y0G(s:z1o)(p:z1h)(cl:Bool):(z6E s p cl).done.length≤s.done.length+1:=by
 unfold z6E;split<;>simp
theorem y2h(b:z0m)(f:Fr)(l:List Bool)(h:(z0f b f.series).done.length<1000000000):(z0f (takeB b f l) f.series).done.length≤1000000000:=by
 obtain ⟨p,hp⟩:∃p,p=(z0Z b (z0f b f.series) f l).2:=⟨_,rfl⟩;unfold takeB;rw [z5V,if_pos rfl,←hp];obtain ⟨s,hs⟩:∃s,s=z0f b f.series:=⟨_,rfl⟩;rw [←hs] at h ⊢;exact Nat.le_trans (y0G s p f.closed) (Nat.succ_le_of_lt h)
def y2n(rb bb mb B ep:Nat)(S:Nat→Prop)(b:z0m)(f:Fr)(l:List Bool)(w:World)(e:Ending)(w':World):Prop:=
 (z3G b f l≠0∧e= .returned (.tuple #[.slice none 0 0, .int .u16 (z3G b f l:Nat)])∧Below w.heap.size w w')∨
 (z3G b f l=0∧∃g E' S',e= .returned (.tuple #[.slice (some ⟨g,0,none⟩) 1 1, .int .u16 0])∧w'.heap[g]? =some (.cells (z0a (z5i (takeB b f l) 4 ep f.series) (.slice none 0 0)) 50 (0,0))∧w.heap.size≤g∧z0r w' bb mb E' (takeB b f l) B S'∧z0s S w w'∧∀k,S' k→S k∨w.heap.size≤k)
theorem q3D(rb bb mb B ep:Nat)(E:List (Int×z0C))(b:z0m)(S:Nat→Prop)(f:Fr)(a:Option Addr)(n c:Nat)(l:List Bool)(hf:f.Ok)(hfn:f.n=(l.length:Nat))(hfb:n=f.b.length)(hl:l.length≤1000000)(hfew:(z0f b f.series).done.length<1000000000)(w:World)(h:z0r w bb mb E b B S)(hr:z0L w rb bb ep)(hrS:¬S rb)(hl':z0o w a n c l f.b)(hT:z1m w):
  Calls Tryz.prog 43 #[.pointer (some ⟨rb,0,none⟩),pcV f (.slice a n c)] w (y2n rb bb mb B ep S b f l w):=by
 have HL0:=z7 ((Loc.start w).new (.cells (z2H f (.slice a n c)) 125));have H:=z7 h;have HR:=z7 hr;have HRS:=z7 hrS;have HBT:=z7 hl';have HT:=z7 hT;have HOF:=z7 (fun w'=>q3I f a n c w');have HTK:=z7 (fun w' h1 (h2:z0o w' a n c l f.b) h3=>q1N bb mb B E b S (ofF f) a n c l (q3b hf) hfn hfb hl (by have h9:(z0f b f.series).done.length<1000000000:=hfew;exact Nat.le_of_lt h9) w' h1 h2 h3);have hid:=hf.series;have hfw:=y2h b f l hfew;have HAN:=z7 (fun w' E' S' (h1:z0r w' bb mb E' (takeB b f l) B S') (h3:z0L w' rb bb ep)=>y1M rb bb mb B ep E' (takeB b f l) S' 4 f.series hid hfw w' h1 (h1.serOk _) h3);obtain ⟨er,her⟩:∃er,er=z3G b f l:=⟨_,rfl⟩;obtain ⟨bt,hbt⟩:∃bt,bt=takeB b f l:=⟨_,rfl⟩;have HTK2:=HTK.out;unfold y3b at HTK2;rw [(y3M b f l).1,(y3M b f l).2,←her,←hbt] at HTK2;have HTK:=z7 HTK2;rw [←hbt] at HAN;unfold y2n;rw [←her,←hbt];clear hfw h hr hrS hl' hT hf hfn hfb hl hfew HTK2 her hbt;obtain ⟨o,ho⟩:∃o,o=ofF f:=⟨_,rfl⟩;rw [←ho] at HTK HOF;obtain ⟨af,haf⟩:∃af,af=z5i bt 4 ep f.series:=⟨_,rfl⟩;rw [←haf] at HAN ⊢;obtain ⟨kind,epoch,series,ck,pb,pc,cnt,closed,sum,fb,fn⟩:=f;unfold pcV z2H at HOF ⊢;unfold z2H at HL0;simp only at HL0 HOF HAN hid ⊢;clear ho haf;obtain ⟨f0,f1,f2,f3,f4,f5,f6,f7,f8,f9,f10,f11,ff⟩:=y2P (HL0.out.get 0 rfl);have l1:=HL0.out.lt 0 rfl;go_enter Tryz.func43,Tryz.ntmps43;go_upto_region 3 with fail
 clear f0 f1 f2 f3 f4 f5 f6 f7 f8 f9 f10 f11 ff l1;obtain ⟨W,hW,hL⟩:=HL0.out.named;refine z0D hW ?_;have HL:=z7 hL;clear hL hW;refine q6 6 25 (by kernel_rfl) (by kernel_rfl) rfl (by kernel_rfl) (fun D v w'=>Below W.heap.size W w') (fun _=>undef) (Below.refl _ _).drew ?_;simp only [List.take_succ_cons,List.take_zero,List.drop_succ_cons,List.drop_zero];iterate 4 (refine q8.rd (e:=?_) (fun D v w' hD hS=>?_) ?_;rotate_left;(obtain ⟨r0,r1,rf⟩:=(HR.out.low (HL.out.call hS).low).cells;have lr:=(HR.out.low (HL.out.call hS).low).lt;clear hS hD;first | (go_simp;done) | (go_simp;with_reducible rfl));go_simp)
 refine q8.read (pcV ⟨kind,epoch,series,ck,pb,pc,cnt,closed,sum,fb,fn⟩ (.slice a n c)) (fun v=>by rfl) (fun D v w h=>h) (fun D v w' hD hS=>z1M _ _ rfl w.heap.size 0 rfl _ (z2a ((HL.out.call hS).get 0 rfl)) z2z z0X) ?_;go_simp;refine q8.call (frV o (.slice a n c)) (fun v=>by rfl) (fun D v w' hD hS=>?_) ?_;(focus (have HZ:=z7 hS;clear hS hD;unfold pcV z2H;go_simp;go_at_call 96;refine (HOF.out w').mono ?_;rintro e w'' ⟨rfl,hb⟩;exact ⟨rfl,HZ.out.trans (hb.mono HZ.out.size)⟩));go_simp;refine q8.fin (fun v w3 hS=>?_);have HL3:=z7 (HL.out.call hS);have h3:=z7 (H.out.low HL3.out.low);have b3:=z7 (HBT.out.low HL3.out.low);have t3:=z7 (HT.out.low HL3.out.low);clear hS;go_wp2_with fail;refine (HTK.out w3 h3.out b3.out t3.out).mono ?_;rintro e w4 ⟨rfl,⟨hne,hb⟩ | ⟨h0,E',S',hB,hO,hS'⟩⟩
 ·have d:((er:Int)==0)=false:=beq_false_of_ne (by omega);have hlow:=(HL3.out.call hb).low;have HNE:=z7 hne;have HLOW:=z7 hlow;clear hne hb hlow HTK HAN HOF;go_wp2;go_ret2;exact .inl ⟨HNE.out,rfl,HLOW.out⟩
 ·have d:((er:Int)==0)=true:=by rw [h0];rfl
  have HL4:=z7 ((z0E.of (S:=S) HL3.out).turn hO (fun k hk=>(H.out.lo k hk).2));have HR4:=z7 (show z0L w4 rb bb ep from (HL4.out.old HR.out.lt HRS.out).trans HR.out);have HB:=z7 hB;have HS':=z7 hS';have H0:=z7 h0;have HL3s:=z7 HL3.out.low.size;have ha4:=z7 (HAN.out w4 E' S' hB HR4.out);obtain ⟨f0,f1,f2,f3,f4,f5,f6,f7,f8,f9,f10,f11,ff⟩:=y2P (HL4.out.get 0 rfl);have l1:=HL4.out.lt 0 rfl;clear h0 hB hO hS' HTK HAN HOF HL3 h3 b3 t3 HL;unfold frV z0a at ha4;go_wp2_with (refine ha4.out.mono ?_;rintro e w5 ⟨rfl,hb⟩;have HB5:=z7 hb;clear hb);go_ret2;have hlow:Below w4.heap.size w4 (w5.alloc (.cells (z0a af (.slice none 0 0)) 50)):=HB5.out.trans ((q5 w5 _).mono HB5.out.size);refine .inr ⟨H0.out,w5.heap.size,E',S',rfl,j8 _ _,Nat.le_trans HL4.out.low.size HB5.out.size,HB.out.low hlow,HL4.out.low.trans (S':=fun _=>False) (z0s.of_below hlow) (fun _ h=>h.elim),fun k hk=>?_⟩;rcases HS'.out k hk with h | h
  ·exact .inl h
  ·exact .inr (Nat.le_trans HL3s.out h)
end Go.Proofs.YtfcnapnopdomhaaGreatDoor

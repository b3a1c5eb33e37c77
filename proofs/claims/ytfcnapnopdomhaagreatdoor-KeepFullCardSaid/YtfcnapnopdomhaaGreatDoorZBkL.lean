/-
  What a book's Cut tells (plain), and its walk.
-/
import Derived.Test.YtfcnapnopdomhaaGreatDoorZRoBBkK
import Derived.Deep.CutBlock
namespace Go.Proofs.YtfcnapnopdomhaaGreatDoor
set_option linter.unusedSimpArgs false
set_option linter.unusedVariables false
set_option maxRecDepth 100000
set_option maxHeartbeats 12800000
open Go.RowKit Go.Maps
def z6z(E:List Nat)(pb:Nat)(most:Int):Nat→Nat→Nat
 | 0,n=>n
 | f+1,n=>if n<E.length∧((E.getD n 0:Nat):Int) - pb≤most then z6z E pb most f (n+1) else n
theorem z7F(E:List Nat)(pb:Nat)(most:Int):∀(f n:Nat),n≤E.length→n≤z6z E pb most f n∧z6z E pb most f n≤E.length
 | 0,n,h=>⟨Nat.le_refl _,h⟩
 | f+1,n,h=>by
  unfold z6z;split
  ·rename_i hc;have:=z7F E pb most f (n+1) hc.1;omega
  ·exact ⟨Nat.le_refl _,h⟩
def y2s(x:z1h)(pb pc:Nat)(most:Int):Nat:=z6z (z1i x.st) pb most (x.st.length - (pc+1)) (pc+1)
structure y3a where
 err:Nat
 series:Nat
 p:Nat×Nat×Nat
 count:Nat
 closed:Bool
 bits:List Bool
 sum:Nat
 dest:Nat×Nat×Nat
def z5A(s:z1o)(id:Nat)(p:Nat×Nat×Nat)(most:Int):y3a:=
 match z4n s p with
 | none=>⟨122,0,(0,0,0),0,false, [],0,(0,0,0)⟩
 | some (x,cl)=>
  if p=z1U s then ⟨0,0,(0,0,0),0,false, [],0,p⟩
  else
   ⟨0,id,p,y2s x p.2.1 p.2.2 most,cl&&decide (y2s x p.2.1 p.2.2 most=x.st.length),(x.l.drop p.2.1).take (toP x (y2s x p.2.1 p.2.2 most) - p.2.1),z3b 0 (x.l.take p.2.1),
    if (cl&&decide (y2s x p.2.1 p.2.2 most=x.st.length))=true then (p.1+1,0,0) else (p.1,toP x (y2s x p.2.1 p.2.2 most),y2s x p.2.1 p.2.2 most)⟩
def y3a.fr(r:y3a)(b:List UInt8):Fr:=⟨0,0,r.series,r.p.1,r.p.2.1,r.p.2.2,r.count,r.closed,r.sum,b,(r.bits.length:Nat)⟩
def y6z(r:y3a)(w:World)(e:Ending)(w':World):Prop:=
 ∃a c b,e= .returned (.tuple #[frV (r.fr b) (.slice a b.length c),z3D r.dest, .int .u16 (r.err:Nat)])∧w'.ownsRow w.heap.size 5 1 (.slice a b.length c) b.length (z0b b)∧z0U b r.bits∧Below w.heap.size w w'
theorem z7K(st:List z0V):(z1i st).length=st.length:=by unfold z1i;rw [List.length_map]
theorem y2H{p:z1h}(h:p.Ok):toP p p.st.length=p.l.length:=by
 have h1:=(z3n h.rd).2.2.1;unfold toP z5F at*;cases hs:p.st.getLast? with
 | none=>
  rw [List.getLast?_eq_none_iff] at hs;rw [hs] at h1 ⊢;simpa using h1
 | some x=>
  rw [hs] at h1;have hne:p.st≠ []:=fun e=>by rw [e] at hs;cases hs
  have hpos:0<p.st.length:=List.length_pos_iff.2 hne;rw [if_neg (by omega)];unfold z1i;rw [List.getElem?_map,←List.getLast?_eq_getElem?,hs];simpa using h1
theorem y4M{p:z1h}(h:p.Ok){n m:Nat}(hnm:n≤m)(hm:m≤p.st.length):toP p n≤toP p m:=by
 unfold toP;by_cases h0:n=0
 ·rw [if_pos h0];exact Nat.zero_le _
 ·rw [if_neg h0,if_neg (by omega)];by_cases e:n=m
  ·rw [e];exact Nat.le_refl _
  ·have hp:=(z3n h.rd).2.2.2.2;have h1:n - 1<p.st.length:=by omega
   have h2:m - 1<p.st.length:=by omega
   have h3:=(List.pairwise_iff_getElem.1 hp (n - 1) (m - 1) h1 h2 (by omega)).1;unfold z1i;rw [List.getElem?_map,List.getElem?_map,List.getElem?_eq_getElem h1,List.getElem?_eq_getElem h2];show p.st[n - 1].at_≤p.st[m - 1].at_;omega
theorem y8N(p:z1h)(n:Nat):toP p (n+1)=(z1i p.st).getD n 0:=by
 unfold toP;rw [if_neg (by omega),Nat.add_sub_cancel,List.getD_eq_getElem?_getD]
theorem y1O{s:z1o}(hs:s.Ok){p:Nat×Nat×Nat}{x:z1h}{cl:Bool}(h:z4n s p=some (x,cl))(hne:p≠z1U s):p.2.2<x.st.length:=by
 obtain ⟨h1,h2,h3,h4⟩:=z7P h;refine Nat.lt_of_le_of_ne h2 fun e=>?_;cases cl with
 | true=>exact h3 ⟨rfl,e⟩
 | false=>
  have hk:p.1=s.done.length∧x=s.cur:=by
   unfold z1o.parts at h1;by_cases hlt:p.1<s.done.length
   ·rw [List.getElem?_append_left (by simpa using hlt),List.getElem?_map,List.getElem?_eq_getElem hlt] at h1;simp at h1
   ·rw [List.getElem?_append_right (by simp;omega)] at h1;simp only [List.length_map] at h1;by_cases e0:p.1 - s.done.length=0
    ·rw [e0] at h1;simp only [List.getElem?_cons_zero,Option.some.injEq,Prod.mk.injEq,and_true] at h1;exact ⟨by omega,h1.symm⟩
    ·rw [List.getElem?_eq_none (by simp;omega)] at h1;cases h1
  refine hne ?_;obtain ⟨p1,p2,p3⟩:=p;simp only at hk e h4;rw [e,hk.2,y2H hs.cur] at h4;unfold z1U;rw [hk.1,←h4,e,hk.2]
def q3G(B:Nat)(L:List Bool)(p:Array Value)(w:World):Prop:=∃a b c,p= #[.slice a b.length c, .int .i64 (L.length:Nat)]∧w.ownsRow B 5 1 (.slice a b.length c) b.length (z0b b)∧z0U b L
theorem z1H:(Tryz.prog.underlying 50).map z7q=some true:=by kernel_rfl
theorem z0z:(Tryz.prog.info? 50).map (·.size)=some 11:=by kernel_rfl
theorem z7n:(Tryz.prog.underlying 42).map z7q=some true:=by kernel_rfl
theorem z2K:(Tryz.prog.info? 42).map (·.size)=some 3:=by kernel_rfl
abbrev z1Q:Array Value:= #[.int .u8 0, .int .u32 0, .int .u32 0, .int .u32 0, .int .u32 0, .int .u32 0, .int .u32 0, .bool false, .int .u64 0, .slice none 0 0, .int .i64 0]
theorem y0n:z1Q.all (·.oneCell')=true:=by simp [Value.oneCell']
theorem q2F(bb mb B:Nat)(E:List (Int×z0C))(b:z0m)(S:Nat→Prop)(id:Nat)(hid:id<4294967296)(ck pb pc:Nat)(h1:ck<4294967296)(h2:pb<4294967296)(h3:pc<4294967296)(most:Int)(hm: -9223372036854775808≤most∧most≤9223372036854775807)(hfew:(z0f b id).done.length≤1000000000)(w:World)(h:z0r w bb mb E b B S):
  Calls Tryz.prog 15 #[.pointer (some ⟨bb,0,none⟩), .int .u32 id,z3D (ck,pb,pc), .int .i64 most] w (y6z (z5A (z0f b id) id (ck,pb,pc) most) w):=by
 have HL0:=z7 ((((Loc.start w).new (.cells #[.int .u32 ck, .int .u32 pb, .int .u32 pc] 42)).new' (.cells z1Q 50) (n:=w.heap.size+1) (by simp)).new' (.cells #[.int .u32 0, .int .u32 0, .int .u32 0] 42) (n:=w.heap.size+1+1) (by simp));have H:=z7 h;have HFEW:=z7 hfew;have HAT:=z7 (z9q bb mb B E b S id hid _ (h.low HL0.out.low));have HSUM:=z7 (fun w' h'=>y5B bb mb B E b S id hid ck pb pc h1 h2 h3 hfew w' h');clear h hfew;go_enter Tryz.func15,Tryz.ntmps15;go_wp2_with fail;refine HAT.out.mono ?_;rintro e w1 ⟨X,rfl,hX,hXs,hb,hwh⟩;have HXne:Hid (∀k,X.In k→k<w.heap.size∨w.heap.size+1+1<k):=z7 fun k hk=>by
  rcases hwh with h | ⟨-,h⟩
  ·exact .inl (H.out.lo k ((H.out.each _ (z1w h)).2 k hk).1).2
  ·have:=h k hk;have h0:((w.alloc (.cells #[.int .u32 ck, .int .u32 pb, .int .u32 pc] 42)).alloc (.cells z1Q 50)).heap.size=w.heap.size+1+1:=by simp
   simp at this;exact .inr (by omega)
 clear hwh;have HL1:=z7 (HL0.out.call hb);have HX1:=z7 hX;have HXS:=z7 hXs;obtain ⟨p0,p1,p2,pf⟩:=cells3 (HL1.out.get 2 rfl);have l0:=HL1.out.lt 2 rfl;have hxf:X.done.length≤1000000000:=by have:=HFEW.out;rw [←hXs,X.done_len] at this;exact this
 have hpt:=z7 (y6R X hxf ck pb pc h1 h2 h3 w1 hX);clear hb hX hXs;go_wp2_with fail;refine hpt.out.mono ?_;rintro e w2 ⟨⟨hno,rfl⟩ | ⟨x,cl,hxc,hps,hpc,rfl⟩,hb⟩
 ·have HL2:=z7 (HL1.out.call hb);have HCS:Hid (z5A (z0f b id) id (ck,pb,pc) most=⟨122,0,(0,0,0),0,false, [],0,(0,0,0)⟩):=z7 (by unfold z5A;rw [←HXS.out,hno]);clear hno hb p0 p1 p2 pf;obtain ⟨q0,q1,q2,qf⟩:=cells3 (HL2.out.get 0 rfl);have l1:=HL2.out.lt 0 rfl;go_upto_region 4 with fail
  obtain ⟨W3,hW3,hL3⟩:=((z0E.of (S:=fun _=>False) HL2.out).lay (K':= [(w.heap.size+1+1, .cells #[.int .u32 0, .int .u32 0, .int .u32 0] 42 (0,0)),(w.heap.size+1, .cells z1Q 50 (0,0)),(w.heap.size, .cells #[.int .u32 ck, .int .u32 pb, .int .u32 pc] 42 (0,0))]) 1 0 z1Q.toList rfl rfl rfl rfl).named;have HL3:=z7 hL3;have HW3:=z7 hW3;have hs1:=z7 (z0y (HL2.out.get 1 rfl) (n:=11) rfl);have hf1:=z7 (z0B (HL2.out.get 1 rfl));have hs2:=z7 (z0y (HL3.out.get 0 rfl) (n:=3) rfl);have hf2:=z7 (z0B (HL3.out.get 0 rfl));clear hL3 hW3 q0 q1 q2 qf;go_wp2_with (first | (refine z0h rfl 50 _ _ rfl (w.heap.size+1) 0 rfl z1Q rfl hs1.out hf1.out z0z y0n ?_;refine z8G HW3.out ?_) | (refine z0h rfl 42 _ _ rfl (w.heap.size+1+1) 0 rfl #[.int .u32 0, .int .u32 0, .int .u32 0] rfl hs2.out hf2.out z2K (by simp [Value.oneCell']) ?_));have hL4:=HL3.out.lay (K':= [(w.heap.size+1+1, .cells #[.int .u32 0, .int .u32 0, .int .u32 0] 42 (0,0)),(w.heap.size+1, .cells z1Q 50 (0,0)),(w.heap.size, .cells #[.int .u32 ck, .int .u32 pb, .int .u32 pc] 42 (0,0))]) 0 0 [.int .u32 0, .int .u32 0, .int .u32 0] rfl rfl rfl rfl;refine bodyPost_ret (z9I rfl rfl (hL4.get 1 rfl) z1H z0z rfl (hL4.get 0 rfl) z7n z2K) rfl ?_;rw [HCS.out];exact ⟨none,0, [],rfl,World.ownsRow_nil _ _ _ _,z0U.nil,hL4.low.toBelow⟩
 ·have HL2:=z7 (HL1.out.call hb);have HX2:=z7 (HX1.out.low hb);have HXC:=z7 hxc;have HPS:=z7 hps;have hend:=z7 (fun w' h'=>y5n X hxf w' h');obtain ⟨⟨D,EB,EC⟩,hDE⟩:∃e,e=z1U X.ser:=⟨_,rfl⟩;rw [←hDE] at hend;obtain ⟨isE,hisE⟩:∃isE,isE=decide ((ck,pb,pc)=(D,EB,EC)):=⟨_,rfl⟩;have HE:=z7 hisE.symm;have HDE:=z7 hDE;clear hxc hps hb p0 p1 p2 pf l0 hpt hDE hisE;go_upto_region 5 with fail
  refine q6 5 119 (by kernel_rfl) (by kernel_rfl) rfl (by kernel_rfl) (fun D v w'=>Below w2.heap.size w2 w') (fun _=>undef) (Below.refl _ _).drew ?_;simp only [List.take_succ_cons,List.take_zero,List.drop_succ_cons,List.drop_zero];iterate 2 (refine q8.rd (e:=?_) (fun D v w' hD hS=>?_) ?_;rotate_left;(obtain ⟨p0,p1,p2,pf⟩:=cells3 ((HL2.out.call hS).get 2 rfl);have l0:=(HL2.out.call hS).lt 2 rfl;clear hS hD;first | (go_simp;done) | (go_simp;with_reducible rfl));go_simp)
  refine q8.call (z3D (D,EB,EC)) (fun v=>by rfl) (fun D v w' hD hS=>?_) ?_;(focus (have HZ:=z7 hS;clear hS hD;skip;go_simp;go_at_call 45;refine (hend.out w' (HX2.out.low HZ.out)).mono ?_;rintro e w'' ⟨rfl,hb⟩;exact ⟨rfl,HZ.out.trans (hb.mono HZ.out.size)⟩));go_simp;refine q8.read (.bool isE) (fun v=>by rfl) (fun D v w h=>h) (fun _ v w' hD hS=>z4g _ _ _ rfl (ck,pb,pc) (D,EB,EC) rfl rfl isE HE.out) ?_;go_simp;iterate 1 (refine q8.rd (e:=?_) (fun D v w' hD hS=>?_) ?_;rotate_left;(skip;clear hS hD;first | (go_simp;done) | (go_simp;with_reducible rfl));go_simp)
  refine q8.fin (fun v w3 hS=>?_);have HL3:=z7 (HL2.out.call hS);have HX3:=z7 (HX2.out.low hS);clear hS hend;cases isE with
  | true=>
   have HCS:Hid (z5A (z0f b id) id (ck,pb,pc) most=⟨0,0,(0,0,0),0,false, [],0,(ck,pb,pc)⟩):=z7 (by
    unfold z5A;rw [←HXS.out,HPS.out];simp only;rw [if_pos];rw [←HDE.out];exact of_decide_eq_true HE.out)
   go_upto_region 6 with fail
   refine q6 5 119 (by kernel_rfl) (by kernel_rfl) rfl (by kernel_rfl) (fun D v w'=>z5z w3 (w.heap.size+1) (w.heap.size+1+1) 50 42 z1Q z1Q #[.int .u32 0, .int .u32 0, .int .u32 0] #[.int .u32 ck, .int .u32 pb, .int .u32 pc] 2 3 D w') (fun _=>undef) (z5z.start (HL3.out.get 1 rfl) (HL3.out.get 0 rfl)) ?_;simp only [List.take_succ_cons,List.take_zero,List.drop_succ_cons,List.drop_zero];have hg12:¬(w.heap.size+1=w.heap.size+1+1):=by omega
   have hp3:Hid (∀w',z0s (fun k=>k=w.heap.size+1∨k=w.heap.size+1+1) w3 w'→w'.heap[w.heap.size]? =some (.cells #[.int .u32 ck, .int .u32 pb, .int .u32 pc] 42 (0,0))):=z7 fun w' ho=>(ho.block _ (HL3.out.lt 2 rfl) (by omega)).trans (HL3.out.get 2 rfl);iterate 2 (refine q8.read (e:=?_) (fun v=>by rfl) (fun D v w h=>h.other _ (by decide) (by decide) (Below.refl _ _)) (fun D v w' hD hS=>?_) ?_;rotate_left;(obtain ⟨p0,p1,p2,pf⟩:=cells3 (hp3.out w' hS.low);have l0:=(Array.getElem?_eq_some_iff.1 (hp3.out w' hS.low)).1;clear hS hD;first | (go_simp;done) | (go_simp;with_reducible rfl));go_simp)
   refine q8.call undef (fun v=>by rfl) (fun D v w' hD hS=>?_) ?_
   ·exact z1N _ _ _ rfl (w.heap.size+1) 0 rfl z1Q rfl (hS.size1 rfl) (z0B hS.b1) z0z y0n ⟨undef,rfl,rfl,hS.st1 hg12 (by decide) rfl⟩
   go_simp;refine q8.call undef (fun v=>by rfl) (fun D v w' hD hS=>?_) ?_
   ·exact z1N _ _ _ rfl (w.heap.size+1+1) 0 rfl #[.int .u32 ck, .int .u32 pb, .int .u32 pc] rfl (hS.size2 rfl) (z0B hS.b2) z2K (by simp [Value.oneCell']) ⟨undef,rfl,rfl,hS.st2 hg12 (by decide) rfl⟩
   go_simp;iterate 1 (refine q8.read (e:=?_) (fun v=>by rfl) (fun D v w h=>h.other _ (by decide) (by decide) (Below.refl _ _)) (fun D v w' hD hS=>?_) ?_;rotate_left;(skip;clear hS hD;first | (go_simp;done) | (go_simp;with_reducible rfl));go_simp)
   refine q8.fin (fun v w4 hS=>?_);have hb1:=hS.b1;have hb2:=hS.b2;have hlow:=hS.low;simp only [show decide (2<5)=true from rfl,show decide (3<5)=true from rfl,if_true] at hb1 hb2;have HB1:=z7 hb1;have HB2:=z7 hb2;have HLW:=z7 hlow;clear hS hb1 hb2 hlow;go_wp2;refine bodyPost_ret (z9I rfl rfl HB1.out z1H z0z rfl HB2.out z7n z2K) rfl ?_;rw [HCS.out];exact ⟨none,0, [],rfl,World.ownsRow_nil _ _ _ _,z0U.nil,HL3.out.low.trans (HLW.out.below HL3.out.low.size (fun k hk=>by omega))⟩
  | false=>
   have hXo:=HX3.out.ok;have hmore:=y1O hXo HPS.out (by rw [←HDE.out];exact of_decide_eq_false HE.out);have hok:=(HX3.out.partOk HXC.out).1;have hx24:=hok.ok.len;obtain ⟨pn,hpn⟩:∃pn,pn=x.p.st.length:=⟨_,rfl⟩;obtain ⟨EN,hEN⟩:∃EN,EN=z1i x.p.st:=⟨_,rfl⟩;have hENl:EN.length=pn:=by rw [hEN,hpn,z7K]
   simp only at hmore;rw [←hpn] at hmore hx24;have HPN:=z7 hpn;have HEN:=z7 hEN;have hNle:Hid (∀n,n<pn→EN.getD n 0≤3504):=z7 fun n hn=>by rw [hEN,←y8N];exact q0I hok.ok _
   have hcells:Hid (∀w',Below w3.heap.size w3 w'→X.g<w'.heap.size∧w'.cell? ⟨X.g,ck*11+2,none⟩=some (.slice x.ea pn x.ec)∧w'.cell? ⟨X.g,ck*11+3+7,none⟩=some (.bool cl)):=z7 fun w' hb=>by
    have h1:=HX3.out.low hb;exact ⟨h1.lts X.g (.inr (.inl rfl)),by rw [hpn];exact h1.partAt HXC.out rfl 2 _ rfl,h1.partAt HXC.out rfl 10 _ rfl⟩
   have hends:Hid (∀w',Below w3.heap.size w3 w'→∀n,n<pn→∃ad,x.ea=some ad∧w'.cell? (ad.add n)=some (.int .i64 ((EN.getD n 0:Nat):Int))):=z7 fun w' hb n hn=>by
    have h1:=((HX3.out.low hb).partOk HXC.out).1.ends.now;rw [←hpn,←hEN] at h1;rcases h1.2 with ⟨-,h2⟩ | ⟨ad,cp,h2,h3⟩
    ·omega
    ·simp only [Value.slice.injEq,true_and] at h2;refine ⟨ad,h2.1,h3 n _ ?_⟩;unfold z2h;rw [List.getElem?_map,List.getElem?_eq_getElem (by omega),List.getD_eq_getElem?_getD,List.getElem?_eq_getElem (by omega)];rfl
   obtain ⟨M,hM⟩:∃M,M=y2s x.p pb pc most:=⟨_,rfl⟩;have hM0:z6z EN pb most (pn - (pc+1)) (pc+1)=M:=by rw [hM];unfold y2s;rw [hEN,hpn]
   have HM:=z7 hM;have hw1:IntKind.i64.wrap (pc:Int)=(pc:Int):=by rw [IntKind.wrap_i64];omega
   have hw2:IntKind.i64.wrap ((pc:Int)+1)=((pc:Int)+1):=by rw [IntKind.wrap_i64];omega
   have hpbw:IntKind.i64.wrap (pb:Int)=(pb:Int):=by rw [IntKind.wrap_i64];omega
   obtain ⟨p0,p1,p2,pf⟩:=cells3 (HL3.out.get 2 rfl);have l0:=HL3.out.lt 2 rfl;clear hXo hok hpn hEN hM
   go_upto_block 1 with fail
   go_cut [13] (fun nv wx=>nv= .int .i64 (M:Nat)∧Hid (Below w3.heap.size w3 wx))
   case first=>
    go_wp2_with fail;go_loopw [13] (fun nv wr=>∃n:Nat,nv= .int .i64 (n:Nat)∧z6z EN pb most (pn - n) n=M∧pc+1≤n∧n≤pn∧Hid (Below w3.heap.size w3 wr)) (fun nv _=>match nv with | .int _ y=>pn - y.toNat | _=>0)
    case atStart=>exact ⟨pc+1,rfl,hM0,Nat.le_refl _,by omega,z7 (Below.refl _ _)⟩
    case round=>
     obtain ⟨n,rfl,hG,hn1,hn2,hb⟩:=hrel;obtain ⟨lg,c2,c10⟩:=hcells.out wr hb.out;clear p0 p1 p2 pf l0;obtain ⟨p0,p1,p2,pf⟩:=cells3 ((HL3.out.call hb.out).get 2 rfl);have l0:=(HL3.out.call hb.out).lt 2 rfl;have hdn:=z7 hb;by_cases hnl:n<pn
     ·obtain ⟨ad,hea,hce⟩:=hends.out wr hb.out n hnl;have lad:=World.block_lt_of_cell? _ _ hce;have hTl:=hNle.out n hnl;obtain ⟨T,hT⟩:∃T,T=EN.getD n 0:=⟨_,rfl⟩;rw [←hT] at hce hTl;rw [hea] at c2;have d1:decide ((n:Int)<(pn:Int))=true:=decide_eq_true (by omega);have hin:(0:Int)≤n∧(n:Int)<pn:=by omega
      have hws:IntKind.i64.wrap ((T:Int) - (pb:Int))=(T:Int) - (pb:Int):=by rw [IntKind.wrap_i64];omega
      have hwk:IntKind.i64.wrap ((n:Int)+1)=((n+1:Nat):Int):=z0n (by omega) (by omega);have HG:=z7 hG;have HT:=z7 hT;have HENL:=z7 hENl;clear hea hT hG hENl hb;by_cases hle:(T:Int) - (pb:Int)≤most
      ·have d2:decide ((T:Int) - (pb:Int)≤most)=true:=decide_eq_true hle;have hf:z6z EN pb most (pn - (n+1)) (n+1)=M:=by
        have h9:=HG.out;rw [show pn - n=(pn - (n+1))+1 by omega,z6z,if_pos ⟨by rw [HENL.out];exact hnl,by rw [←HT.out];exact hle⟩] at h9;exact h9
       have HF:=z7 hf;clear hf;go_wp2_with fail;go_quiet (fail)
       go_wp2;exact ⟨⟨n+1,rfl,HF.out,by omega,by omega,z7 (z0k hdn.out.out)⟩,by show pn - ((n+1:Nat):Int).toNat<pn - (n:Int).toNat;omega⟩
      ·have d2:decide ((T:Int) - (pb:Int)≤most)=false:=decide_eq_false hle;have hf:n=M:=by
        have h9:=HG.out;rw [show pn - n=(pn - (n+1))+1 by omega,z6z,if_neg (by rintro ⟨-,h⟩;rw [←HT.out] at h;exact hle h)] at h9;exact h9
       have HF:=z7 hf;clear hf;go_wp2_with fail;go_quiet (fail)
       go_wp2;go_meet
       exact ⟨by rw [HF.out],z7 (z0k hdn.out.out)⟩
     ·have d1:decide ((n:Int)<(pn:Int))=false:=decide_eq_false (by omega);have hf:n=M:=by
       have e0:pn - n=0:=by omega
       rw [e0,z6z] at hG;exact hG
      have HF:=z7 hf;clear hf hG hb;go_wp2_with fail;go_quiet (fail)
      go_wp2;go_meet
      exact ⟨by rw [HF.out],z7 (z0k hdn.out.out)⟩
   case rest=>
    obtain ⟨rfl,hb4⟩:=hcut;have hM:=z7F EN pb most (pn - (pc+1)) (pc+1) (by omega);rw [hM0,hENl] at hM;have HL4:=z7 (HL3.out.call hb4.out);have HX4:=z7 (HX3.out.low hb4.out);have HB4:=z7 (H.out.low HL4.out.low);obtain ⟨cd,hcd⟩:∃cd,cd=(cl&&decide (M=pn)):=⟨_,rfl⟩;have hwM:IntKind.u32.wrap (M:Int)=(M:Int):=by rw [IntKind.wrap_u32];omega
    have hcl4:Hid (∀w',Below wc.heap.size wc w'→X.g<w'.heap.size∧w'.cell? ⟨X.g,ck*11+2,none⟩=some (.slice x.ea pn x.ec)∧w'.cell? ⟨X.g,ck*11+3+7,none⟩=some (.bool cl)):=z7 fun w' hb=>hcells.out w' (hb4.out.trans (hb.mono hb4.out.size));have HCD:=z7 hcd;clear hcd hb4 p0 p1 p2 pf l0 hM0 hENl hends hcells hw1 hw2;go_upto_region 10 with fail
    go_cut [14] (fun u wx=>Hid (∃g,u= .pointer (some ⟨g,0,none⟩)∧Loc w [(g, .cells #[.int .u8 0, .int .u32 0, .int .u32 id, .int .u32 ck, .int .u32 pb, .int .u32 pc, .int .u32 (M:Nat), .bool cd, .int .u64 0, .slice none 0 0, .int .i64 0] 50 (0,0)),(w.heap.size+1+1, .cells #[.int .u32 0, .int .u32 0, .int .u32 0] 42 (0,0)),(w.heap.size+1, .cells z1Q 50 (0,0)),(w.heap.size, .cells #[.int .u32 ck, .int .u32 pb, .int .u32 pc] 42 (0,0))] wx∧Below wc.heap.size wc wx∧wc.heap.size≤g))
    case first=>
     cases cl with
     | false=>
      have hcf:cd=false:=by rw [HCD.out];rfl
      have HCF:=z7 hcf;clear hcf;refine q6 19 119 (by kernel_rfl) (by kernel_rfl) rfl (by kernel_rfl) (fun D v w'=>AlS wc 18 50 z1Q D v w') (fun _=>undef) (AlS.start _ _ _ _) ?_;simp only [List.take_succ_cons,List.take_zero,List.drop_succ_cons,List.drop_zero];iterate 9 (refine q8.read (e:=?_) (fun v=>by rfl) (fun D v w h=>⟨h.low,h.made⟩) (fun D v w' hD hS=>?_) ?_;rotate_left;(obtain ⟨p0,p1,p2,pf⟩:=cells3 ((HL4.out.call hS.low).get 2 rfl);have l0:=(HL4.out.call hS.low).lt 2 rfl;obtain ⟨lg,c2,c10⟩:=hcl4.out w' hS.low;clear hS hD;first | (go_simp;done) | (go_simp;with_reducible rfl));go_simp)
      iterate 7 (refine q8.skip (fun v=>by rfl) (fun D v w h=>⟨h.low,h.made⟩) ?_;go_simp)
      iterate 2 (refine q8.read (e:=?_) (fun v=>by rfl) (fun D v w h=>⟨h.low,h.made⟩) (fun D v w' hD hS=>?_) ?_;rotate_left;(skip;clear hS hD;first | (go_simp;done) | (go_simp;with_reducible rfl));go_simp)
      refine q8.rel (fun v=>by rfl) (fun D v w' hD hS=>?_) ?_
      ·have HS2:=z7 hS.make;clear hS hD;go_simp;exact HS2.out
      go_simp;refine q8.fin (fun v w5 hS=>?_);obtain ⟨g,hv,hge,hgc⟩:=hS.made rfl;rw [hv];have hL5:=HL4.out.call hS.low;have hL5':=(z0E.of (S:=fun _=>False) hL5).cons hgc (by have:=HL4.out.low.size;omega) (fun q hq=>by have:=HL4.out.lts hq;omega);have HL5:=z7 hL5';have HLOW:=z7 hS.low;have HGE:=z7 hge;clear hS hv hge hgc hL5 hL5';have hsm:=z7 (z0y (HL5.out.get 0 rfl) (n:=11) rfl);have hfz:=z7 (z0B (HL5.out.get 0 rfl));go_wp2_with (refine z0h rfl 50 _ _ rfl g 0 rfl #[.int .u8 0, .int .u32 0, .int .u32 id, .int .u32 ck, .int .u32 pb, .int .u32 pc, .int .u32 (M:Nat), .bool false, .int .u64 0, .slice none 0 0, .int .i64 0] rfl hsm.out hfz.out z0z (by simp [Value.oneCell']) ?_);go_meet
      rw [HCF.out];exact z7 ⟨g,rfl,(HL5.out.lay (K':= [(g, .cells #[.int .u8 0, .int .u32 0, .int .u32 id, .int .u32 ck, .int .u32 pb, .int .u32 pc, .int .u32 (M:Nat), .bool false, .int .u64 0, .slice none 0 0, .int .i64 0] 50 (0,0)),(w.heap.size+1+1, .cells #[.int .u32 0, .int .u32 0, .int .u32 0] 42 (0,0)),(w.heap.size+1, .cells z1Q 50 (0,0)),(w.heap.size, .cells #[.int .u32 ck, .int .u32 pb, .int .u32 pc] 42 (0,0))]) 0 0 [.int .u8 0, .int .u32 0, .int .u32 id, .int .u32 ck, .int .u32 pb, .int .u32 pc, .int .u32 (M:Nat), .bool false, .int .u64 0, .slice none 0 0, .int .i64 0] rfl rfl rfl rfl).toLoc,z0s.below ((z0s.of_below (S:=fun k=>k=g) HLOW.out).trans (z0s.setCells (S:=fun k=>k=g) rfl _ 0 _) fun k hk=> .inl hk) (Nat.le_refl _) (fun k hk=>by have:=HGE.out;omega),HGE.out⟩
     | true=>
      have HD3:=z7 (show decide (M=pn)=cd by rw [HCD.out,Bool.true_and]);refine q6 19 119 (by kernel_rfl) (by kernel_rfl) rfl (by kernel_rfl) (fun D v w'=>AlS wc 18 50 z1Q D v w') (fun _=>undef) (AlS.start _ _ _ _) ?_;simp only [List.take_succ_cons,List.take_zero,List.drop_succ_cons,List.drop_zero];iterate 9 (refine q8.read (e:=?_) (fun v=>by rfl) (fun D v w h=>⟨h.low,h.made⟩) (fun D v w' hD hS=>?_) ?_;rotate_left;(obtain ⟨p0,p1,p2,pf⟩:=cells3 ((HL4.out.call hS.low).get 2 rfl);have l0:=(HL4.out.call hS.low).lt 2 rfl;obtain ⟨lg,c2,c10⟩:=hcl4.out w' hS.low;clear hS hD;first | (go_simp;done) | (go_simp;with_reducible rfl));go_simp)
      iterate 6 (refine q8.read (e:=?_) (fun v=>by rfl) (fun D v w h=>⟨h.low,h.made⟩) (fun D v w' hD hS=>?_) ?_;rotate_left;(obtain ⟨p0,p1,p2,pf⟩:=cells3 ((HL4.out.call hS.low).get 2 rfl);have l0:=(HL4.out.call hS.low).lt 2 rfl;obtain ⟨lg,c2,c10⟩:=hcl4.out w' hS.low;clear hS hD;first | (go_simp;done) | (go_simp;with_reducible rfl));go_simp)
      refine q8.read (.bool cd) (fun v=>by rfl) (fun D v w h=>⟨h.low,h.made⟩) (fun D v w' hD hS=>?_) ?_
      ·clear hS hD;go_simp;rw [←HD3.out,Bool.eq_iff_iff];simp only [beq_iff_eq,decide_eq_true_eq];omega
      go_simp;iterate 2 (refine q8.read (e:=?_) (fun v=>by rfl) (fun D v w h=>⟨h.low,h.made⟩) (fun D v w' hD hS=>?_) ?_;rotate_left;(skip;clear hS hD;first | (go_simp;done) | (go_simp;with_reducible rfl));go_simp)
      refine q8.rel (fun v=>by rfl) (fun D v w' hD hS=>?_) ?_
      ·have HS2:=z7 hS.make;clear hS hD;go_simp;exact HS2.out
      go_simp;refine q8.fin (fun v w5 hS=>?_);obtain ⟨g,hv,hge,hgc⟩:=hS.made rfl;rw [hv];have hL5:=HL4.out.call hS.low;have hL5':=(z0E.of (S:=fun _=>False) hL5).cons hgc (by have:=HL4.out.low.size;omega) (fun q hq=>by have:=HL4.out.lts hq;omega);have HL5:=z7 hL5';have HLOW:=z7 hS.low;have HGE:=z7 hge;clear hS hv hge hgc hL5 hL5';have hsm:=z7 (z0y (HL5.out.get 0 rfl) (n:=11) rfl);have hfz:=z7 (z0B (HL5.out.get 0 rfl));go_wp2_with (refine z0h rfl 50 _ _ rfl g 0 rfl #[.int .u8 0, .int .u32 0, .int .u32 id, .int .u32 ck, .int .u32 pb, .int .u32 pc, .int .u32 (M:Nat), .bool cd, .int .u64 0, .slice none 0 0, .int .i64 0] rfl hsm.out hfz.out z0z (by simp [Value.oneCell']) ?_);go_meet
      exact z7 ⟨g,rfl,(HL5.out.lay (K':= [(g, .cells #[.int .u8 0, .int .u32 0, .int .u32 id, .int .u32 ck, .int .u32 pb, .int .u32 pc, .int .u32 (M:Nat), .bool cd, .int .u64 0, .slice none 0 0, .int .i64 0] 50 (0,0)),(w.heap.size+1+1, .cells #[.int .u32 0, .int .u32 0, .int .u32 0] 42 (0,0)),(w.heap.size+1, .cells z1Q 50 (0,0)),(w.heap.size, .cells #[.int .u32 ck, .int .u32 pb, .int .u32 pc] 42 (0,0))]) 0 0 [.int .u8 0, .int .u32 0, .int .u32 id, .int .u32 ck, .int .u32 pb, .int .u32 pc, .int .u32 (M:Nat), .bool cd, .int .u64 0, .slice none 0 0, .int .i64 0] rfl rfl rfl rfl).toLoc,z0s.below ((z0s.of_below (S:=fun k=>k=g) HLOW.out).trans (z0s.setCells (S:=fun k=>k=g) rfl _ 0 _) fun k hk=> .inl hk) (Nat.le_refl _) (fun k hk=>by have:=HGE.out;omega),HGE.out⟩
    case rest=>
     obtain ⟨g,rfl,hL5,hb5,hgeg⟩:=hcut;have HL5:=z7 hL5;have HXg:Hid (∀k,X.In k→k≠g):=z7 fun k hk e=>by have:=HX4.out.lts k hk;omega
     have HX5:=z7 (HX4.out.low hb5);have hcl5:Hid (∀w',Below wc.heap.size wc w'→X.g<w'.heap.size∧w'.cell? ⟨X.g,ck*11+2,none⟩=some (.slice x.ea pn x.ec)∧w'.cell? ⟨X.g,ck*11+3+7,none⟩=some (.bool cl)):=z7 fun w' hb=>hcl4.out w' (hb5.trans (hb.mono hb5.size));have hsum:=HSUM.out wc (H.out.low HL5.out.low);obtain ⟨SM,hSM⟩:∃SM,SM=z3b 0 (x.p.l.take pb):=⟨_,rfl⟩;have hss:z8c (z0f b id) (ck,pb,pc)=(SM,0):=by unfold z8c;rw [←HXS.out,HPS.out,hSM]
     rw [hss] at hsum;have HS:=z7 hsum;have HSM:=z7 hSM;obtain ⟨f0,f1,f2,f3,f4,f5,f6,f7,f8,f9,f10,ff⟩:=z0q (HL5.out.get 0 rfl);obtain ⟨p0,p1,p2,pf⟩:=cells3 (HL5.out.get 3 rfl);have l0:=HL5.out.lt 3 rfl;have l1:=HL5.out.lt 0 rfl;clear hL5 hb5 hsum hSM hss hcl4 hgeg;go_wp2_with fail;refine HS.out.mono ?_;rintro e w6 ⟨rfl,hb⟩;have HL6:=z7 (HL5.out.call hb);have HX6:=z7 (HX5.out.low hb);have hcl6:Hid (∀w',Below w6.heap.size w6 w'→X.g<w'.heap.size∧w'.cell? ⟨X.g,ck*11+2,none⟩=some (.slice x.ea pn x.ec)∧w'.cell? ⟨X.g,ck*11+3+7,none⟩=some (.bool cl)):=z7 fun w' hb'=>hcl5.out w' (hb.trans (hb'.mono hb.size));clear hb f0 f1 f2 f3 f4 f5 f6 f7 f8 f9 f10 ff p0 p1 p2 pf l0 l1 hcl5;obtain ⟨f0,f1,f2,f3,f4,f5,f6,f7,f8,f9,f10,ff⟩:=z0q (HL6.out.get 0 rfl);have l1:=HL6.out.lt 0 rfl;go_upto_region 12 with fail
     have hL7:=(z0E.of (S:=fun _=>False) HL6.out).lay (K':= [(g, .cells #[.int .u8 0, .int .u32 0, .int .u32 id, .int .u32 ck, .int .u32 pb, .int .u32 pc, .int .u32 (M:Nat), .bool cd, .int .u64 (SM:Nat), .slice none 0 0, .int .i64 0] 50 (0,0)),(w.heap.size+1+1, .cells #[.int .u32 0, .int .u32 0, .int .u32 0] 42 (0,0)),(w.heap.size+1, .cells z1Q 50 (0,0)),(w.heap.size, .cells #[.int .u32 ck, .int .u32 pb, .int .u32 pc] 42 (0,0))]) 0 8 [.int .u64 (SM:Nat)] rfl rfl rfl rfl;obtain ⟨w7,hw7,hL7⟩:=hL7.named;refine z0D hw7 ?_;have o67:z0s (fun k=>k=g) w6 w7:=by rw [hw7];exact z0s.setCells (S:=fun k=>k=g) rfl _ _ _
     have hX7:=HX6.out.keep (fun k hk=>o67.block k (HX6.out.lts k hk) (HXg.out k hk)) o67.size;have HL7:=z7 hL7;have HX7:=z7 hX7;obtain ⟨T2,hT2⟩:∃T2,T2=toP x.p M:=⟨_,rfl⟩;have hMl:M≤x.p.st.length:=by have:=HPN.out;omega
     have hto:=z7 (fun w' h'=>q2u X ck x cl HXC.out _ rfl M hMl w' h');have hok7:=(hX7.partOk HXC.out).1;have hps:=z7P HPS.out;have hTle:T2≤x.p.l.length:=by rw [hT2];exact z9M hok7.ok M
     have hpT:pb≤T2:=by
      have h9:=hps.2.2.2;simp only at h9;rw [hT2,←h9];exact y4M hok7.ok (by omega) hMl
     have hxl:=hok7.ok.bits;obtain ⟨N,hN⟩:∃N,N=x.p.l.length:=⟨_,rfl⟩;obtain ⟨bl,hbl⟩:∃bl,bl=x.b.length:=⟨_,rfl⟩;have hcutb:=z7 (fun w' (h':z0v w' X)=>q0m x.a bl x.c x.p.l x.b pb T2 w' (by rw [hbl];exact ((h'.partOk HXC.out).1).rd.now) (by omega) hpT hTle);obtain ⟨L,hL⟩:∃L,L=(x.p.l.drop pb).take (T2 - pb):=⟨_,rfl⟩;rw [←hN,←hL] at hcutb;rw [←hT2] at hto;have HT2:=z7 hT2;have HLL:=z7 hL;have HN:=z7 hN;have HBL:=z7 hbl;have hT2l:T2≤3504:=by omega
     have hwM2:IntKind.i64.wrap (M:Int)=(M:Int):=by rw [IntKind.wrap_i64];omega
     have hgl:=HL7.out.lt 0 rfl;have hpl7:Hid (∀w',z0s (fun k=>k=g) w7 w'→z0v w' X∧w'.heap[w.heap.size]? =some (.cells #[.int .u32 ck, .int .u32 pb, .int .u32 pc] 42 (0,0))):=z7 fun w' ho=>⟨HX7.out.keep (fun k hk=>ho.block k (HX7.out.lts k hk) (HXg.out k hk)) ho.size,(ho.block _ (HL7.out.lt 3 rfl) (fun e=>by have:=HL7.out.nodup;rw [e] at this;simp at this)).trans (HL7.out.get 3 rfl)⟩;clear hL7 hw7 o67 hX7 hok7 hps hTle hxl hT2 hL hN hbl hMl f0 f1 f2 f3 f4 f5 f6 f7 f8 f9 f10 ff l1 hcl6;refine q6 16 119 (by kernel_rfl) (by kernel_rfl) rfl (by kernel_rfl) (fun D v w'=>CfS w7 10 2 (.int .u16 0) (q3G (w.heap.size+1+1+1) L) g 50 [.int .u8 0, .int .u32 0, .int .u32 id, .int .u32 ck, .int .u32 pb, .int .u32 pc, .int .u32 (M:Nat), .bool cd, .int .u64 (SM:Nat), .slice none 0 0, .int .i64 0] 9 D v w') (fun _=>undef) (CfS.start (HL7.out.get 0 rfl)) ?_;simp only [List.take_succ_cons,List.take_zero,List.drop_succ_cons,List.drop_zero]
     iterate 9 (refine q8.read (e:=?_) (fun v=>by rfl) (fun D v w h=>h.other _ (by decide) (by decide) (by decide) (by decide) (Below.refl _ _)) (fun D v w' hD hS=>?_) ?_;rotate_left;(obtain ⟨hXw,hpw⟩:=hpl7.out w' hS.low;obtain ⟨p0,p1,p2,pf⟩:=cells3 hpw;have l0:=(Array.getElem?_eq_some_iff.1 hpw).1;have lg:=hXw.lts X.g (.inr (.inl rfl));have c0:=hXw.partAt HXC.out rfl 0 (.slice x.a bl x.c) (by rw [HBL.out];rfl);have c1:=hXw.partAt HXC.out rfl 1 (.int .i64 (N:Nat)) (by rw [HN.out];rfl);simp only [Nat.add_zero] at c0;clear hXw hpw;clear hS hD;first | (go_simp;done) | (go_simp;with_reducible rfl));go_simp)
     refine q8.call (.int .i64 (T2:Nat)) (fun v=>by rfl) (fun D v w' hD hS=>?_) ?_
     ·have HZ:=z7 hS;have HXw:=z7 (hpl7.out w' hS.low).1;clear hS hD;go_simp;go_at_call 49;refine (hto.out w' HXw.out).mono ?_;rintro e w'' ⟨rfl,rfl⟩;exact ⟨rfl,HZ.out.other 9 (by decide) (by decide) (by decide) (by decide) (Below.refl _ _)⟩
     go_simp;refine q8.rel (fun v=>by rfl) (fun D v w' hD hS=>?_) ?_
     ·have HZ:=z7 hS;have HXw:=z7 (hpl7.out w' hS.low).1;have d10:=z7 hD.self;clear hS hD;go_simp;go_at_call 48;refine (hcutb.out w' HXw.out).mono ?_;rintro e w'' ⟨a',n',c',b',rfl,hrow,rfl,hbt,hb⟩;exact HZ.out.call d10.out hb #[.slice a' b'.length c', .int .i64 (L.length:Nat)] (fun k=>(Value.slice a' b'.length c').ownBlock=some k) rfl (by simp [Value.oneCell']) (fun w3 hk=>⟨a',b',c',rfl,z0i (j7 hrow fun k hk2=>hk k hk2) (by have:=HZ.out.low.size;have:=HL7.out.lt 1 rfl;omega),hbt⟩) (fun k hk=>hrow.lt k hk)
     go_simp;refine q8.rel (fun v=>by rfl) (fun D v w' hD hS=>?_) ?_;(focus (have d:=hD.pre 10 (by kernel_rfl);have HS2:=z7 (hS.move d);clear hS hD;go_simp;exact HS2.out));go_simp;refine q8.rel (fun v=>by rfl) (fun D v w' hD hS=>?_) ?_;(focus (obtain ⟨d,hm⟩:=hS.m (hD.pre 11 (by kernel_rfl));obtain ⟨p,F,hp, -⟩:=hS.c d;have HS2:=z7 (hS.ext d hp (hD.post 15 _ rfl (by kernel_rfl)));rw [hp] at hm;clear hS hD hp;go_simp;exact HS2.out));go_simp;refine q8.read (.int .u16 0) (fun v=>by rfl) (fun D v w h=>h.other 13 (by decide) (by decide) (by decide) (by decide) (Below.refl _ _)) (fun D v w' hD hS=>?_) ?_;(focus (obtain ⟨d,hm⟩:=hS.m (hD.pre 11 (by kernel_rfl));obtain ⟨p,F,hp, -⟩:=hS.c d;rw [hp] at hm;clear hS hD hp;go_simp));go_simp;refine q8.read (e:=?_) (fun v=>by rfl) (fun D v w h=>h.other 14 (by decide) (by decide) (by decide) (by decide) (Below.refl _ _)) (fun D v w' hD hS=>?_) ?_;rotate_left;(skip;clear hS hD;first | (go_simp;done) | (go_simp;with_reducible rfl));go_simp;refine q8.call undef (fun v=>by rfl) (fun D v w' hD hS=>?_) ?_;(focus (have d5:D 15=false:=hD.self;obtain ⟨d,he⟩:=hS.e (hD.pre 12 (by kernel_rfl));obtain ⟨p,F,hp,hps,hpo, -⟩:=hS.c d;have hv:=he p hp;refine z1N _ _ _ rfl g 9 rfl p hv (fun j hj=>z0y (hS.b0 d5) rfl (9+j) (by rw [hps] at hj;simp;omega) |>fun h=>by rw [Nat.zero_add] at h;exact h) (z0B (hS.b0 d5)) (by rw [hps];exact y1y) hpo ?_;exact ⟨undef,rfl,rfl,hS.store hgl d d5 hv (by rw [hps];simp)⟩));go_simp;refine q8.fin (fun v w8 hS=>?_)
     obtain ⟨p,F,hp, -, -,hR, -⟩:=hS.c rfl;obtain ⟨p',hp',hgc⟩:=hS.b1 rfl;have hv12:=(hS.e rfl).2 p hp;rw [hv12] at hp';simp only [Value.agg.injEq] at hp';subst hp';obtain ⟨a9,b9,c9,rfl,hrow,hbits⟩:=hR.now;have hlow78:=hS.low;obtain ⟨hX8,hpl8⟩:=hpl7.out w8 hlow78;have hne1:g≠w.heap.size+1+1∧g≠w.heap.size+1:=by
      have:=HL7.out.nodup;simp at this;omega
     have HZ8:=z7 ((hlow78.block _ (HL7.out.lt 2 rfl) (fun e=>hne1.2 e.symm)).trans (HL7.out.get 2 rfl));have HP8:=z7 ((hlow78.block _ (HL7.out.lt 1 rfl) (fun e=>hne1.1 e.symm)).trans (HL7.out.get 1 rfl));have hlow8:Hid (Below w.heap.size w w8):=z7 (HL7.out.low.toBelow.trans (hlow78.below HL7.out.low.size (fun k hk=>by have:=HL7.out.ge 0 rfl;omega)));have hg8:w8.heap[g]? =some (.cells #[.int .u8 0, .int .u32 0, .int .u32 id, .int .u32 ck, .int .u32 pb, .int .u32 pc, .int .u32 (M:Nat), .bool cd, .int .u64 (SM:Nat), .slice a9 b9.length c9, .int .i64 (L.length:Nat)] 50 (0,0)):=hgc;have HROW:=z7 hrow;have HBITS:=z7 hbits;have hg12:¬(w.heap.size+1=w.heap.size+1+1):=by omega
     have hst8:Hid (∀w',z0s (fun k=>k=w.heap.size+1∨k=w.heap.size+1+1) w8 w'→z0v w' X∧w'.heap[g]? =some (.cells #[.int .u8 0, .int .u32 0, .int .u32 id, .int .u32 ck, .int .u32 pb, .int .u32 pc, .int .u32 (M:Nat), .bool cd, .int .u64 (SM:Nat), .slice a9 b9.length c9, .int .i64 (L.length:Nat)] 50 (0,0))∧w'.heap[w.heap.size]? =some (.cells #[.int .u32 ck, .int .u32 pb, .int .u32 pc] 42 (0,0))):=z7 fun w' ho=>
      ⟨hX8.keep (fun k hk=>ho.block k (hX8.lts k hk) (fun e=>by have:=HXne.out k hk;omega)) ho.size,(ho.block g (Array.getElem?_eq_some_iff.1 hg8).1 (fun e=>e.elim hne1.2 hne1.1)).trans hg8,(ho.block _ (Array.getElem?_eq_some_iff.1 hpl8).1 (by omega)).trans hpl8⟩
     have hfar:Hid (∀k,(Value.slice a9 b9.length c9).ownBlock=some k→¬(k=w.heap.size+1∨k=w.heap.size+1+1)):=z7 fun k hk=>by have:=(hrow.lt k hk).1;omega
     have hckb:ck≤1000000000:=by
      have:=(List.getElem?_eq_some_iff.1 HXC.out).1;rw [X.parts_len] at this;omega
     have hwc1:IntKind.u32.wrap ((ck:Int)+1)=((ck:Int)+1):=by rw [IntKind.wrap_u32];omega
     have hwT:IntKind.u32.wrap (T2:Int)=(T2:Int):=by rw [IntKind.wrap_u32];omega
     obtain ⟨g0,g1,g2,g3,g4,g5,g6,g7,g8',g9,g10,gf⟩:=z0q hg8;have lgg:=(Array.getElem?_eq_some_iff.1 hg8).1;clear hS hp hR hgc hv12 hlow78 hX8 hpl8 hrow hbits hne1 hg8;have HCUT:Hid (z5A (z0f b id) id (ck,pb,pc) most=⟨0,id,(ck,pb,pc),M,cd,L,SM,if cd=true then (ck+1,0,0) else (ck,T2,M)⟩):=z7 (by
      unfold z5A;rw [←HXS.out,HPS.out];simp only;rw [if_neg (by rw [←HDE.out];exact of_decide_eq_false HE.out),←HM.out,←HPN.out,←HCD.out,←HT2.out,←HLL.out,←HSM.out])
     cases cd with
     | true=>
      have HCS:Hid (z5A (z0f b id) id (ck,pb,pc) most=⟨0,id,(ck,pb,pc),M,true,L,SM,(ck+1,0,0)⟩):=z7 HCUT.out;go_upto_region 14 with fail
      refine q6 8 119 (by kernel_rfl) (by kernel_rfl) rfl (by kernel_rfl) (fun D v w'=>z5z w8 (w.heap.size+1) (w.heap.size+1+1) 50 42 z1Q #[.int .u8 0, .int .u32 0, .int .u32 id, .int .u32 ck, .int .u32 pb, .int .u32 pc, .int .u32 (M:Nat), .bool true, .int .u64 (SM:Nat), .slice a9 b9.length c9, .int .i64 (L.length:Nat)] #[.int .u32 0, .int .u32 0, .int .u32 0] #[.int .u32 ((ck:Int)+1), .int .u32 0, .int .u32 0] 5 6 D w') (fun _=>undef) (z5z.start HZ8.out HP8.out) ?_;simp only [List.take_succ_cons,List.take_zero,List.drop_succ_cons,List.drop_zero];refine q8.read (.agg #[.int .u8 0, .int .u32 0, .int .u32 id, .int .u32 ck, .int .u32 pb, .int .u32 pc, .int .u32 (M:Nat), .bool true, .int .u64 (SM:Nat), .slice a9 b9.length c9, .int .i64 (L.length:Nat)]) (fun v=>by rfl) (fun D v w h=>h.other _ (by decide) (by decide) (Below.refl _ _)) (fun D v w' hD hS=>z1M _ _ rfl g 0 rfl _ (z2a (hst8.out w' hS.low).2.1) z1H z0z) ?_;go_simp;iterate 4 (refine q8.read (e:=?_) (fun v=>by rfl) (fun D v w h=>h.other _ (by decide) (by decide) (Below.refl _ _)) (fun D v w' hD hS=>?_) ?_;rotate_left;(obtain ⟨hXw,hgw,hpw⟩:=hst8.out w' hS.low;obtain ⟨p0,p1,p2,pf⟩:=cells3 hpw;have l0:=(Array.getElem?_eq_some_iff.1 hpw).1;have lgg:=(Array.getElem?_eq_some_iff.1 hgw).1;clear hXw;clear hS hD;first | (go_simp;done) | (go_simp;with_reducible rfl));go_simp)
      refine q8.call undef (fun v=>by rfl) (fun D v w' hD hS=>?_) ?_
      ·exact z1N _ _ _ rfl (w.heap.size+1) 0 rfl #[.int .u8 0, .int .u32 0, .int .u32 id, .int .u32 ck, .int .u32 pb, .int .u32 pc, .int .u32 (M:Nat), .bool true, .int .u64 (SM:Nat), .slice a9 b9.length c9, .int .i64 (L.length:Nat)] rfl (hS.size1 rfl) (z0B hS.b1) z0z (by simp [Value.oneCell']) ⟨undef,rfl,rfl,hS.st1 hg12 (by decide) rfl⟩
      go_simp;refine q8.call undef (fun v=>by rfl) (fun D v w' hD hS=>?_) ?_
      ·exact z1N _ _ _ rfl (w.heap.size+1+1) 0 rfl #[.int .u32 ((ck:Int)+1), .int .u32 0, .int .u32 0] rfl (hS.size2 rfl) (z0B hS.b2) z2K (by simp [Value.oneCell']) ⟨undef,rfl,rfl,hS.st2 hg12 (by decide) rfl⟩
      go_simp;iterate 1 (refine q8.read (e:=?_) (fun v=>by rfl) (fun D v w h=>h.other _ (by decide) (by decide) (Below.refl _ _)) (fun D v w' hD hS=>?_) ?_;rotate_left;(skip;clear hS hD;first | (go_simp;done) | (go_simp;with_reducible rfl));go_simp)
      refine q8.fin (fun v w9 hS=>?_);have hb1:=hS.b1;have hb2:=hS.b2;have hlow:=hS.low;simp only [show decide (5<8)=true from rfl,show decide (6<8)=true from rfl,if_true] at hb1 hb2;have HB1:=z7 hb1;have HB2:=z7 hb2;have HLW:=z7 hlow;clear hS hb1 hb2 hlow;go_wp2;refine bodyPost_ret (z9I rfl rfl HB1.out z1H z0z rfl HB2.out z7n z2K) rfl ?_;rw [HCS.out];refine ⟨a9,c9,b9,?_,z0i (j7 HROW.out fun k hk=>HLW.out.block k (HROW.out.lt k hk).2 (hfar.out k hk)) (by omega),HBITS.out,hlow8.out.trans (HLW.out.below hlow8.out.size (fun k hk=>by omega))⟩;rfl
     | false=>
      have HCS:Hid (z5A (z0f b id) id (ck,pb,pc) most=⟨0,id,(ck,pb,pc),M,false,L,SM,(ck,T2,M)⟩):=z7 HCUT.out;go_upto_region 15 with fail
      refine q6 13 119 (by kernel_rfl) (by kernel_rfl) rfl (by kernel_rfl) (fun D v w'=>z5z w8 (w.heap.size+1) (w.heap.size+1+1) 50 42 z1Q #[.int .u8 0, .int .u32 0, .int .u32 id, .int .u32 ck, .int .u32 pb, .int .u32 pc, .int .u32 (M:Nat), .bool false, .int .u64 (SM:Nat), .slice a9 b9.length c9, .int .i64 (L.length:Nat)] #[.int .u32 0, .int .u32 0, .int .u32 0] #[.int .u32 (ck:Nat), .int .u32 (T2:Nat), .int .u32 (M:Nat)] 10 11 D w') (fun _=>undef) (z5z.start HZ8.out HP8.out) ?_;simp only [List.take_succ_cons,List.take_zero,List.drop_succ_cons,List.drop_zero];refine q8.read (.agg #[.int .u8 0, .int .u32 0, .int .u32 id, .int .u32 ck, .int .u32 pb, .int .u32 pc, .int .u32 (M:Nat), .bool false, .int .u64 (SM:Nat), .slice a9 b9.length c9, .int .i64 (L.length:Nat)]) (fun v=>by rfl) (fun D v w h=>h.other _ (by decide) (by decide) (Below.refl _ _)) (fun D v w' hD hS=>z1M _ _ rfl g 0 rfl _ (z2a (hst8.out w' hS.low).2.1) z1H z0z) ?_;go_simp;iterate 4 (refine q8.read (e:=?_) (fun v=>by rfl) (fun D v w h=>h.other _ (by decide) (by decide) (Below.refl _ _)) (fun D v w' hD hS=>?_) ?_;rotate_left;(obtain ⟨hXw,hgw,hpw⟩:=hst8.out w' hS.low;obtain ⟨p0,p1,p2,pf⟩:=cells3 hpw;have l0:=(Array.getElem?_eq_some_iff.1 hpw).1;have lgg:=(Array.getElem?_eq_some_iff.1 hgw).1;clear hXw;clear hS hD;first | (go_simp;done) | (go_simp;with_reducible rfl));go_simp)
      refine q8.call (.int .i64 (T2:Nat)) (fun v=>by rfl) (fun D v w' hD hS=>?_) ?_
      ·have HZ:=z7 hS;have HXw:=z7 (hst8.out w' hS.low).1;clear hS hD;go_simp;go_at_call 49;refine (hto.out w' HXw.out).mono ?_;rintro e w'' ⟨rfl,rfl⟩;exact ⟨rfl,HZ.out.other 5 (by decide) (by decide) (Below.refl _ _)⟩
      go_simp;iterate 4 (refine q8.read (e:=?_) (fun v=>by rfl) (fun D v w h=>h.other _ (by decide) (by decide) (Below.refl _ _)) (fun D v w' hD hS=>?_) ?_;rotate_left;(skip;clear hS hD;first | (go_simp;done) | (go_simp;with_reducible rfl));go_simp)
      refine q8.call undef (fun v=>by rfl) (fun D v w' hD hS=>?_) ?_
      ·exact z1N _ _ _ rfl (w.heap.size+1) 0 rfl #[.int .u8 0, .int .u32 0, .int .u32 id, .int .u32 ck, .int .u32 pb, .int .u32 pc, .int .u32 (M:Nat), .bool false, .int .u64 (SM:Nat), .slice a9 b9.length c9, .int .i64 (L.length:Nat)] rfl (hS.size1 rfl) (z0B hS.b1) z0z (by simp [Value.oneCell']) ⟨undef,rfl,rfl,hS.st1 hg12 (by decide) rfl⟩
      go_simp;refine q8.call undef (fun v=>by rfl) (fun D v w' hD hS=>?_) ?_
      ·exact z1N _ _ _ rfl (w.heap.size+1+1) 0 rfl #[.int .u32 (ck:Nat), .int .u32 (T2:Nat), .int .u32 (M:Nat)] rfl (hS.size2 rfl) (z0B hS.b2) z2K (by simp [Value.oneCell']) ⟨undef,rfl,rfl,hS.st2 hg12 (by decide) rfl⟩
      go_simp;iterate 1 (refine q8.read (e:=?_) (fun v=>by rfl) (fun D v w h=>h.other _ (by decide) (by decide) (Below.refl _ _)) (fun D v w' hD hS=>?_) ?_;rotate_left;(skip;clear hS hD;first | (go_simp;done) | (go_simp;with_reducible rfl));go_simp)
      refine q8.fin (fun v w9 hS=>?_);have hb1:=hS.b1;have hb2:=hS.b2;have hlow:=hS.low;simp only [show decide (10<13)=true from rfl,show decide (11<13)=true from rfl,if_true] at hb1 hb2;have HB1:=z7 hb1;have HB2:=z7 hb2;have HLW:=z7 hlow;clear hS hb1 hb2 hlow;go_wp2;refine bodyPost_ret (z9I rfl rfl HB1.out z1H z0z rfl HB2.out z7n z2K) rfl ?_;rw [HCS.out];refine ⟨a9,c9,b9,?_,z0i (j7 HROW.out fun k hk=>HLW.out.block k (HROW.out.lt k hk).2 (hfar.out k hk)) (by omega),HBITS.out,hlow8.out.trans (HLW.out.below hlow8.out.size (fun k hk=>by omega))⟩;rfl
end Go.Proofs.YtfcnapnopdomhaaGreatDoor

/-
  The walk of keep's Open where the journal has no notes; Book.
-/
import Derived.Test.YtfcnapnopdomhaaGreatDoorZKeE
namespace Go.Proofs.YtfcnapnopdomhaaGreatDoor
set_option linter.unusedSimpArgs false
set_option linter.unusedVariables false
set_option maxRecDepth 100000
set_option maxHeartbeats 12800000
open Go.RowKit Go.Maps
abbrev y5i (s b c wi t d:Int):Array Value:= #[.int .i64 s, .int .i64 b, .int .i64 c, .int .i64 wi, .int .i64 t, .int .i64 d]
theorem y6o(sb:Nat)(s:FsS)(F:List Nat)(ns nc:Nat)(b wi t d:Int)(hR:y5z ns b nc wi t d)(h1:(z2t s z2o).1=0)(h2:(z2t s z2o).2.2= [])(w:World)(h:z1p w sb s F)(ok:s.Ok)(hdb:z1m w)(hdF:0∉F):
  Calls Tryz.prog 12 #[.pointer (some ⟨sb,0,none⟩), .agg (y5i ns b nc wi t d)] w fun e w'=>∃kb rb bb tb mb B E S F',e= .returned (.tuple #[.pointer (some ⟨kb,0,none⟩), .int .u16 0])∧KIn w' kb rb bb tb mb sb B E S F' ⟨ns,nc, []⟩ 0 (z2t s z2o).2.1∧Chg F F' w w'∧(∀x,S x→w.heap.size≤x)∧w.heap.size≤rb∧w.heap.size≤kb∧w.heap.size≤tb∧w.heap.size≤bb:=by
 have HL0:=z7 ((z0E.start (fun k=>k∈F) w).new (.cells (y5i ns b nc wi t d) 30));have hb0:=q5 w (.cells (y5i ns b nc wi t d) 30);have hns:1≤ns∧ns≤64:=by have:=hR.s;omega
 have hnc:1≤nc∧nc≤24:=by have:=hR.c;omega
 have hO:=fun w' (hb:Below w.heap.size w w')=>q1F sb s F z2o (by decide) w' (h.low hb) ok;have hok2:=y8h ok z2o;have HFt:=h.lt;obtain ⟨⟨e1,s1,L⟩,hT⟩:∃r,r=z2t s z2o:=⟨_,rfl⟩;have hO2:=hO;unfold z3r at hO2;rw [←hT] at hO2 h1 h2 hok2 ⊢;simp only at h1 h2 hO2 hok2 ⊢;subst h1 h2;have HOP:=z7 hO2;have HRI:=z7 (fun w'=>q0U ns b nc wi t d hR w');have HNEW:=z7 (fun w'=>y9N ns nc hns hnc w');have HB0:=z7 hb0;have HDB:=z7 hdb;have HOK:=z7 hok2;clear h ok hdb hO hO2 hT hb0 hok2 hR;obtain ⟨c0,c1,c2,c3,c4,c5,cf⟩:=y0k (HL0.out.get 0 rfl);have l0:=HL0.out.lt 0 rfl;go_enter Tryz.func12,Tryz.ntmps12;go_wp2_with fail;refine (HRI.out _).mono ?_;rintro e w1 ⟨rfl,hb1⟩;have HL1:=z7 (HL0.out.call hb1);have hb01:Below w.heap.size w w1:=HB0.out.trans (hb1.mono HB0.out.size);have HOP1:=z7 (HOP.out w1 hb01);have HB1:=z7 hb01;clear hb1 hb01 c0 c1 c2 c3 c4 c5 cf l0;go_wp2_with fail;refine HOP1.out.mono ?_;rintro e w2 ⟨F2,hF2,hC2,⟨hne, -⟩ | ⟨-,tb,a,cc,xs,rfl,hTB,hge,hnF, -,hxs, -⟩⟩
 ·exact absurd rfl hne
 have hx0:xs= []:=by simpa using hxs
 subst hx0;have hL2:=HL1.out.go (S':=fun k=>k∈F) hC2.only (fun k hk=> .inl hk) (fun q hq hm=>by have h1:=HFt _ hm;have h2:=(HL1.out.blk q hq).2;omega);have HL2:=z7 hL2;have HF2:=z7 hF2;have HC2:=z7 hC2;have HTB:=z7 hTB;have HGE:=z7 hge;have HNF:=z7 hnF;obtain ⟨c0,c1,c2,c3,c4,c5,cf⟩:=y0k (HL2.out.get 0 rfl);have l0:=HL2.out.lt 0 rfl;clear hL2 hF2 hC2 hTB hge hnF hxs HOP HOP1;go_wp2_with fail;refine (HNEW.out _).mono ?_;rintro e w3 ⟨bb,mb,S,rfl,hbk,hb3⟩;have HBK:=z7 hbk;have HB3:=z7 hb3;clear hbk hb3;go_wp2_with fail;refine (q2A bb _).mono ?_;rintro e w4 ⟨rb,rfl,hrb,hge4,hb4⟩;have HRB:=z7 hrb;have HGE4:=z7 hge4;have HB4:=z7 hb4;clear hrb hge4 hb4;go_wp2_with fail;obtain ⟨W5,hW5⟩:∃W,W=w4.alloc (.cells #[.pointer (some ⟨rb,0,none⟩), .pointer (some ⟨bb,0,none⟩), .pointer (some ⟨tb,0,none⟩)] 109):=⟨_,rfl⟩;refine z0D hW5 ?_;have hb25:Below w2.heap.size w2 W5:=by
  rw [hW5];exact (HB3.out.trans (HB4.out.mono HB3.out.size)).trans ((q5 w4 _).mono (Nat.le_trans HB3.out.size HB4.out.size))
 have hb45:Below w4.heap.size w4 W5:=by rw [hW5];exact q5 w4 _
 have hb35:Below w3.heap.size w3 W5:=HB4.out.trans (hb45.mono HB4.out.size);have hs1:w.heap.size≤w1.heap.size:=HB1.out.size;have hs2:w1.heap.size≤w2.heap.size:=HC2.out.size;have hs3:w2.heap.size≤w3.heap.size:=HB3.out.size;have hs4:w3.heap.size≤w4.heap.size:=HB4.out.size;have hF2lt:∀x∈F2,x<w2.heap.size:=fun x hx=>HF2.out.lt x hx;have htl:tb<w2.heap.size:=HTB.out.lt;have hS3:∀x,S x→w2.heap.size≤x∧x<w3.heap.size:=fun x hx=>HBK.out.lo x hx;have hrb4:rb<w4.heap.size:=HRB.out.lt;have hgF2:∀x∈F2,x∈F∨w1.heap.size≤x:=HC2.out.fresh;have hdl:=HDB.out.lt;have hdb2:z1m w2:=(HDB.out.low HB1.out).only HC2.out.only hdF;have K5:KIn W5 w4.heap.size rb bb tb mb sb w2.heap.size [] S F2 ⟨ns,nc, []⟩ 0 s1:=by
  refine ⟨by rw [hW5];exact j8 _ _,HRB.out.low hb45,HBK.out.low hb35,HTB.out.low hb25,HF2.out.low hb25,HOK.out,hdb2.low hb25,by omega,by have:=HGE4.out;omega,fun hm=>?_,fun hm=>?_,HNF.out,fun hm=>?_,fun hm=>?_,fun hm=>?_,fun x hx hs=>?_,?_,fun hm=>?_,fun hm=>?_⟩
  ·have:=hF2lt _ hm;omega
  ·have:=hF2lt _ hm;have:=HGE4.out;omega
  ·have:=(hS3 _ hm).2;omega
  ·have:=(hS3 _ hm).2;have:=HGE4.out;omega
  ·have:=(hS3 _ hm).1;omega
  ·have:=hF2lt x hx;have:=(hS3 x hs).1;omega
  ·have:=HGE4.out;omega
  ·have:=(hS3 _ hm).1;omega
  ·rcases hgF2 _ hm with e | e
   ·exact hdF e
   ·omega
 have HK5:=z7 K5;have HC5:=z7 (show Chg F F2 w W5 from ((Chg.of_below HB1.out).trans HC2.out).trans (Chg.of_below hb25));have HS3:=z7 hS3;clear K5 hb25 hb45 hb35 hF2lt hS3 hgF2 hdb2 hW5 c0 c1 c2 c3 c4 c5 cf l0 HL2 HL1 HL0;go_loopw [40] (fun kv wr=>kv= .int .i64 0∧wr=W5) (fun _ _=>0)
 case atStart=>exact ⟨rfl,rfl⟩
 case round=>
  obtain ⟨rfl,rfl⟩:=hrel;go_wp2;go_ret2;refine ⟨w4.heap.size,rb,bb,tb,mb,w2.heap.size, [],S,F2,rfl,HK5.out,HC5.out,fun x hx=>?_,?_,?_,?_,?_⟩
  ·have:=(HS3.out x hx).1;omega
  ·have:=HGE4.out;omega
  ·omega
  ·have:=HGE.out;omega
  ·have:=(HS3.out bb HBK.out.own.1).1;omega
theorem z9J(kb rb bb tb:Nat)(w:World)(h:z2M w kb rb bb tb):Calls Tryz.prog 13 #[.pointer (some ⟨kb,0,none⟩)] w fun e w'=>e= .returned (.pointer (some ⟨bb,0,none⟩))∧w'=w:=by
 obtain ⟨k0,k1,k2,kf⟩:=h.cells;have hl:=h.lt;clear h;go_enter Tryz.func13,Tryz.ntmps13;go_wp2;go_ret;exact ⟨rfl,rfl⟩
theorem q0B(rb bb ep:Nat)(w:World)(h:z0L w rb bb ep):Calls Tryz.prog 36 #[.pointer (some ⟨rb,0,none⟩)] w fun e w'=>e= .returned (.int .u32 (ep:Nat))∧w'=w:=by
 obtain ⟨r0,r1,rf⟩:=h.cells;have hl:=h.lt;clear h;go_enter Tryz.func36,Tryz.ntmps36;go_wp2;go_ret;exact ⟨rfl,rfl⟩
theorem filter_one(a:Int):∀(l:List Int),l.Pairwise (·≠·)→l.length≤(l.filter fun x=>decide (x≠a)).length+1
 | [],_=>by simp
 | x::l,h=>by
  obtain ⟨h1,h2⟩:=List.pairwise_cons.1 h;rw [List.filter_cons];split
  ·have:=filter_one a l h2;simp only [List.length_cons];omega
  ·rename_i hx;have hxa:x=a:=by simpa using hx
   have:l.filter (fun y=>decide (y≠a))=l:=List.filter_eq_self.2 fun y hy=>by
    have:=h1 y hy;rw [hxa] at this;simp only [ne_eq,decide_not,Bool.not_eq_true',decide_eq_false_iff_not];exact fun e=>this e.symm
   rw [this];simp
theorem q0L:∀(n:Nat) (l:List Int),l.Pairwise (·≠·)→(∀x∈l,0≤x∧x<n)→l.length≤n
 | 0,l,h,hb=>by
  cases l with
  | nil=>simp
  | cons x l=>have:=hb x List.mem_cons_self;omega
 | n+1,l,h,hb=>by
  have h1:=filter_one (n:Int) l h;have h2:=q0L n (l.filter fun x=>decide (x≠(n:Int))) (h.sublist List.filter_sublist) (fun x hx=>by
   rw [List.mem_filter] at hx;have h3:=hb x hx.1;have h4:x≠(n:Int):=of_decide_eq_true hx.2;omega)
  omega
theorem q1q(b:z0m)(hd:b.all.Pairwise fun p q=>p.1≠q.1)(hk:∀p∈b.all,0≤p.1∧p.1<64)(hm:b.most=64){id:Nat}(hid:id<64):z3q b id=0:=by
 unfold z3q;rw [if_neg];rintro ⟨h1,h2⟩;have h3:=z7c h1;have h4:=q0L 64 ((id:Int)::b.all.map Prod.fst) (by
  rw [List.pairwise_cons];refine ⟨fun y hy=>?_,?_⟩
  ·obtain ⟨p,hp,rfl⟩:=List.mem_map.1 hy;exact fun e=>h3 p hp e.symm
  ·rw [List.pairwise_map];exact hd) (fun x hx=>by
  rcases List.mem_cons.1 hx with rfl | hx
  ·omega
  ·obtain ⟨p,hp,rfl⟩:=List.mem_map.1 hx;exact hk p hp)
 rw [List.length_cons,List.length_map] at h4;omega
theorem y9W(b:z0m)(id:Nat)(s:z1o)(hid:id<64)(hk:∀p∈b.all,0≤p.1∧p.1<64):∀p∈(b.set id s).all,0≤p.1∧p.1<64:=fun p hp=>by
 unfold z0m.set at hp;rcases (z3m z4A (id:Int) s p b.all).1 hp with rfl | ⟨h, -⟩
 ·exact ⟨by show (0:Int)≤id;omega,by show (id:Int)<64;omega⟩
 ·exact hk p h
structure y7b (ab kb:z0m):Prop where
 front:∀id,z4y (z0f kb id) (z0f ab id)
 most:kb.most=64
 size:kb.size=24
 keys:∀p∈kb.all,0≤p.1∧p.1<64
theorem y7b.start(ab:z0m)(ha:∀id,(z0f ab id).Ok):y7b ab ⟨64,24, []⟩:=⟨fun id=>y3A (ha id),rfl,rfl,fun p hp=>by cases hp⟩
def z5r(r:y3a)(b:List UInt8):Fr:=⟨2,0,r.series,r.p.1,r.p.2.1,r.p.2.2,r.count,r.closed,r.sum,b,(r.bits.length:Nat)⟩
theorem q2d{ab kb:z0m}(h:y7b ab kb)(ha:∀id,(z0f ab id).Ok)(hr:∀id,y1G (z0f ab id))(hd:kb.all.Pairwise fun p q=>p.1≠q.1){id:Nat}(hid:id<64)(most:Int)(b:List UInt8)
  (hb:z0U b (z5A (z0f ab id) id (z1U (z0f kb id)) most).bits) (hc:(z5A (z0f ab id) id (z1U (z0f kb id)) most).count≠0):
  z3j kb 0 (z5r (z5A (z0f ab id) id (z1U (z0f kb id)) most) b) (z5A (z0f ab id) id (z1U (z0f kb id)) most).bits=(0,0,0)∧
  y7b ab (takeB kb (z5r (z5A (z0f ab id) id (z1U (z0f kb id)) most) b) (z5A (z0f ab id) id (z1U (z0f kb id)) most).bits):=by
 obtain ⟨herr,hz | ⟨st,hst⟩⟩:=y2b (ha id) (hr id) (h.front id) id most
 ·exact absurd hz hc
 obtain ⟨r,hre⟩:∃r,r=z5A (z0f ab id) id (z1U (z0f kb id)) most:=⟨_,rfl⟩;rw [←hre] at hb hc hst ⊢;clear herr hre;have hroom:=q1q kb hd h.keys h.most hid;have hbr:z0Z kb (z0f kb id) (z5r r b) r.bits=(0,⟨(z0f kb id).cur.l++r.bits,st⟩):=y0Z (z5r r b) hst hroom (by rw [h.size];exact Nat.le_refl _) rfl rfl rfl;have hser:(z5r r b).series=id:=hst.series;have hx:=(h.front id).ok (ha id);have hj:z4d kb (z5r r b)=0:=by
  unfold z4d;rw [hser,if_pos ⟨by show 2≠3;decide,by show r.p=_;exact hst.p⟩,y2a hx,if_neg];show ¬(z3b 0 (z0f kb id).cur.l≠r.sum);rw [hst.sum];simp
 have hte:z3G kb (z5r r b) r.bits=0:=by
  unfold z3G;rw [hser,hbr]
 have hp:=hst.p;have hmay:(z5r r b).cnt<(z5r r b).count∧0<r.bits.length∧(z5r r b).b.length≤500:=by
  refine ⟨?_,hst.bits0,?_⟩
  ·show r.p.2.2<r.count;rw [hp];exact hst.more
  ·show b.length≤500;have:=hb.len;have:=hst.bits1;omega
 refine ⟨?_,?_⟩
 ·unfold z3j;rw [if_neg (by show ¬(2<1∨3<2);omega),if_neg (by show ¬(0<0);omega),hj,if_neg (by decide),if_neg (by decide),if_neg]
  ·rfl
  ·rintro (g | g)
   ·exact g hmay
   ·exact g hte
 ·have htb:takeB kb (z5r r b) r.bits=kb.set id (z6E (z0f kb id) ⟨(z0f kb id).cur.l++r.bits,st⟩ r.closed):=by
   unfold takeB;rw [hser,hbr];rfl
  rw [htb];refine ⟨fun i=>?_,h.most,h.size,y9W kb id _ hid h.keys⟩;rw [z5V];split
  ·rename_i e;rw [e];exact hst.grow
  ·exact h.front i
theorem z7y{k v:Bs}:∀{L:List (Bs×Bs)},L.Pairwise (fun p q=>p.1≠q.1)→z0H k L=some v→v.length+total (z1Z k L)=total L
 | [],_,h=>by cases h
 | p::L,hd,h=>by
  obtain ⟨h1,h2⟩:=List.pairwise_cons.1 hd;unfold z0H at h;rw [List.find?_cons] at h;by_cases hk:p.1=k
  ·simp only [hk,decide_true,Option.map_some,Option.some.injEq] at h;have h3:z1Z k (p::L)=L:=by
    unfold z1Z;rw [List.filter_cons,if_neg (by simp [hk]),List.filter_eq_self.2 fun q hq=>by
     have:=h1 q hq;rw [hk] at this;simp only [ne_eq,decide_not,Bool.not_eq_true',decide_eq_false_iff_not];exact fun e=>this e.symm]
   rw [h3,z1n,h]
  ·simp only [hk,decide_false] at h;have h3:z1Z k (p::L)=p::z1Z k L:=by
    unfold z1Z;rw [List.filter_cons,if_pos (by simp [hk])]
   have h4:=z7y h2 (k:=k) (v:=v) h;rw [h3,z1n,z1n];omega
theorem y7k{s:FsS}{k:Bs}(hd:s.files.Pairwise fun p q=>p.1≠q.1)(hh:s.has k=true)(hl:s.left=none):(z2f s k).1=0∧(z2f s k).2.used=s.used∧(z2f s k).2.room=s.room∧(z2f s k).2.left=none∧(z2f s k).2.has k=true:=by
 have hgo:s.go=true:=by unfold FsS.go;rw [hl];rfl
 have hw:s.went=s:=by unfold FsS.went;rw [hl]
 have hs:z2f s k=(0,{s with files:=z1r z2N k (s.get k) s.files,waits:=z0R k s.waits}):=by
  unfold z2f;rw [hh,hgo,hw];rfl
 rw [hs];refine ⟨rfl,?_,rfl,hl,?_⟩
 ·show total (z1r z2N k (s.get k) s.files)+total (z0R k s.waits)=total s.files+total s.waits;obtain ⟨v,hv⟩:=Option.isSome_iff_exists.1 (show (z0H k s.files).isSome=true from hh);have h1:=z7y hd hv;have h2:=z9v k s.waits;have h3:=z7u k s.waits;have h4:(s.get k).length=v.length+(pieces k s.waits).length:=by unfold FsS.get;rw [hv,List.length_append];rfl
  rw [z4X];omega
 ·show (z0H k (z1r z2N k (s.get k) s.files)).isSome=true;rw [z5B];rfl
theorem q3i{s:FsS}(ok:s.Ok)(hd:s.files.Pairwise fun p q=>p.1≠q.1)(hh:s.has z2o=true)(hl:s.left=none)(n:List UInt8)(hn:n.length≤600):
  ((wrS s n).1=0∧s.used<(wrS s n).2.used∧(wrS s n).2.room=s.room∧(wrS s n).2.left=none∧(wrS s n).2.has z2o=true)∨((wrS s n).1=82∧wrS s n=(82,s)):=by
 have hgo:s.go=true:=by unfold FsS.go;rw [hl];rfl
 have hw:s.went=s:=by unfold FsS.went;rw [hl]
 have hpos:(z3d n).length≠0:=by unfold z3d;simp
 have ha:z2n s z2o n=z1j s z2o (z3d n):=by unfold z2n;rw [if_neg (by omega)]
 by_cases hr:s.room - s.used<(z3d n).length
 ·right
  have h1:z1j s z2o (z3d n)=(82,s):=by unfold z1j;rw [if_neg (by rw [hh];simp),if_neg hpos,if_pos hr]
  have h2:wrS s n=(82,s):=by unfold wrS;rw [ha,h1];exact if_pos (show (82:Int)≠0 by decide)
  exact ⟨by rw [h2],h2⟩
 ·left
  have h1:z1j s z2o (z3d n)=(0,{s with waits:=s.waits++ [(z2o,z3d n)]}):=by unfold z1j;rw [if_neg (by rw [hh];simp),if_neg hpos,if_neg hr,hgo,hw];rfl
  have h2:wrS s n=z2f {s with waits:=s.waits++ [(z2o,z3d n)]} z2o:=by unfold wrS;rw [ha,h1];exact if_neg (show ¬((0:Int)≠0) by decide)
  have h3:=y7k (s:={s with waits:=s.waits++ [(z2o,z3d n)]}) (k:=z2o) hd hh hl;rw [h2];refine ⟨h3.1,?_,h3.2.2.1,h3.2.2.2.1,h3.2.2.2.2⟩;rw [h3.2.1];show total s.files+total s.waits<total s.files+total (s.waits++ [(z2o,z3d n)]);rw [z6h,z1n];show _<_+(_+((z3d n).length+_));omega
def z8E(s:z1o):List z1K:=s.parts.flatMap fun x=>z3f x.1.st
theorem z4w(a b:List z1K):z1b (a++b)=z1b a++z1b b:=by unfold z1b;rw [List.flatMap_append]
theorem y2e{α β:Type}(f:α→List β)(l:List α)(k:Nat)(a:α)(h:l[k]? =some a):(l.take (k+1)).flatMap f=(l.take k).flatMap f++f a:=by
 rw [List.take_add_one,h,List.flatMap_append,Option.toList_some,List.flatMap_singleton]
theorem z1o.parts_small{s:z1o}(h:s.Ok):∀x∈s.parts,x.1.Ok:=fun x hx=>by
 unfold z1o.parts at hx;rw [List.mem_append,List.mem_map,List.mem_singleton] at hx;rcases hx with ⟨y,hy,rfl⟩ | rfl
 ·exact (h.done y hy).1
 ·exact h.cur
theorem y6d{s:z1o}(h:s.Ok):∀k,((s.parts.take k).flatMap fun x=>z3f x.1.st).length≤k*24:=by
 intro k;have key:∀(l:List (z1h×Bool)),(∀x∈l,x.1.Ok)→(l.flatMap fun x=>z3f x.1.st).length≤l.length*24:=by
  intro l
  induction l with
  | nil=>intro _;exact Nat.le_refl _
  | cons x r ih=>
   intro hl;rw [List.flatMap_cons,List.length_append,List.length_cons];have h1:=ih fun y hy=>hl y (List.mem_cons_of_mem _ hy);have h2:=(hl x List.mem_cons_self).len;have h3:(z3f x.1.st).length=x.1.st.length:=by unfold z3f;rw [List.length_map]
   omega
 have h1:=key (s.parts.take k) fun x hx=>z1o.parts_small h x (List.mem_of_mem_take hx);have h2:(s.parts.take k).length≤k:=by rw [List.length_take];omega
 have:(s.parts.take k).length*24≤k*24:=Nat.mul_le_mul_right _ h2;omega
theorem z6g(l:List z1K):∀u∈z1b l,u.oneCell'=true:=fun u hu=>by
 unfold z1b at hu;obtain ⟨s, -,h⟩:=List.mem_flatMap.1 hu;simp only [List.mem_cons,List.not_mem_nil,or_false] at h;rcases h with rfl | rfl<;>rfl
def y4P(s:z1o)(w:World)(e:Ending)(w':World):Prop:=
 ∃a n c,e= .returned (.slice a n c)∧w'.ownsRow w.heap.size 113 2 (.slice a n c) n (z1b (z8E s))∧n=(z8E s).length∧Below w.heap.size w w'
theorem y5m(bb mb B:Nat)(E:List (Int×z0C))(b:z0m)(S:Nat→Prop)(id:Nat)(hid:id<4294967296)(hfew:(z0f b id).done.length≤1000000000)(w:World)(h:z0r w bb mb E b B S)(hT:z1m w):
  Calls Tryz.prog 21 #[.pointer (some ⟨bb,0,none⟩), .int .u32 id] w (y4P (z0f b id) w):=by
 obtain ⟨iS,hiS,hyS0,hyS1,hyS2⟩:=info_parts z9Z;have HAT:=z7 (z9q bb mb B E b S id hid w h);have HFEW:=z7 hfew;have HT:=z7 hT;clear h hfew hT;go_enter Tryz.func21,Tryz.ntmps21;go_wp2_with fail;refine HAT.out.mono ?_;rintro e w1 ⟨X,rfl,hX,hXs,hb, -⟩;have HX:=z7 hX;have HXS:=z7 hXs;have HB:=z7 hb;have hfx:X.done.length≤1000000000:=by have:=HFEW.out;rw [←hXs,X.done_len] at this;exact this
 have hso:=hX.ok;have hpl:=X.parts_len;obtain ⟨s0,s1,s2,sf⟩:=hX.cells;have ls:=hX.lts X.sb (.inl rfl);obtain ⟨n,hn⟩:∃n,n=X.done.length:=⟨_,rfl⟩;rw [←hn] at s0 hfx hpl;have HSO:=z7 hso;have HPL:=z7 hpl;have HLOW0:=z7 hb;clear hX hXs hb hn hso hpl;go_wp2_with fail;go_loopw [5,18] (fun ov kv wr=>∃(k m:Nat) (a:Option Addr) (c:Nat),ov= .slice a m c∧kv= .int .i64 (k:Nat)∧k≤n+1∧Hid (wr.ownsRow w1.heap.size 113 2 (.slice a m c) m (z1b ((X.ser.parts.take k).flatMap fun x=>z3f x.1.st)))∧Hid (m=((X.ser.parts.take k).flatMap fun x=>z3f x.1.st).length)∧Hid (Below w1.heap.size w1 wr)) (fun _ kv _=>match kv with | .int _ y=>n+1 - y.toNat | _=>0)
 case atStart=>exact ⟨0,0,none,0,rfl,rfl,Nat.zero_le _,z7 (World.ownsRow_nil _ _ _ _),z7 rfl,z7 (Below.refl _ _)⟩
 case round=>
  obtain ⟨k,m,a,c,rfl,rfl,hk,hrow,hm,hlow⟩:=hrel;by_cases hkn:k<n+1
  ·have d1:decide ((k:Int)<(n:Int)+1)=true:=decide_eq_true (by omega);obtain ⟨⟨x,cl⟩,hxc⟩:∃y,X.parts[k]? =some y:=⟨_,List.getElem?_eq_getElem (by have:=HPL.out;omega)⟩;have hXr:=HX.out.low hlow.out;have lg:=hXr.lts X.g (.inr (.inl rfl));have hok:=(hXr.partOk hxc).1;have hc:=z7 (hXr.partAt hxc rfl);have hin:(0:Int)≤k∧(k:Int)<(n:Int)+1:=by omega
   have HXC:=z7 hxc;have HOK:=z7 hok;have hlb:=HLOW0.out.trans (hlow.out.mono HLOW0.out.size);have HTr:=z7 (HT.out.low hlb);clear hXr hok hxc hlb;obtain ⟨bl,hbl⟩:∃z,z=x.b.length:=⟨_,rfl⟩;obtain ⟨N,hN⟩:∃z,z=x.p.l.length:=⟨_,rfl⟩;obtain ⟨W2,hW2,hL2⟩:=((Loc.start wr).new (.cells (x.vals cl).toArray 141)).named;have HL2:=z7 hL2;have hall:=z7 (q0H x.a bl x.c x.p.l x.b W2 (by rw [hbl];exact (HOK.out.rd.now).low hL2.low) (by have:=HOK.out.ok.bits;omega) (HTr.out.low hL2.low));rw [←hN] at hall;have HBL:=z7 hbl;have HN:=z7 hN;have HROW2:Hid (W2.ownsRow w1.heap.size 113 2 (.slice a m c) m (z1b ((X.ser.parts.take k).flatMap fun x=>z3f x.1.st))):=z7 (by rw [hW2];exact hrow.out.alloc _);have HW2:=z7 hW2;clear hL2 hbl hN hW2;go_upto_region 5 with (first | refine z0N rfl 141 _ rfl X.g (k*11) rfl _ hc.out z3k z0Q ?_ | (refine z0h rfl 141 _ _ rfl wr.heap.size 0 rfl (x.vals cl).toArray rfl (by exact z0y (j8 wr _) rfl) (by exact z0B (j8 wr _)) z0Q (x.one cl) ?_;rw [z5e _ _ _ _ (by rfl)]))
   refine z0D HW2.out ?_;have c0:=z2a (HL2.out.get 0 rfl) 0 (.slice x.a bl x.c) (by rw [HBL.out];rfl);have c1:=z2a (HL2.out.get 0 rfl) 1 (.int .i64 (N:Nat)) (by rw [HN.out];rfl);simp only [Nat.zero_add] at c0 c1;have l2:=HL2.out.lt 0 rfl;clear hc;go_wp2_with fail;refine hall.out.mono ?_;rintro e w3 ⟨⟨st,av,cv,hst,rfl,hrow3⟩ | ⟨hno,rfl⟩,hb3⟩
   ·obtain rfl:st=x.p.st:=by
     have:=HOK.out.ok.rd;rw [hst] at this;exact Option.some.inj this
    have HROW3:=z7 hrow3;have HL3:=z7 (HL2.out.call hb3);have HOUT3:=z7 (ownsRow_below HROW2.out hb3 (Nat.le_refl _));obtain ⟨pn,hpn⟩:∃z,z=x.p.st.length:=⟨_,rfl⟩;rw [←hpn] at HROW3 ⊢;have HPN:=z7 hpn;have hpn24:pn≤24:=by rw [hpn];exact HOK.out.ok.len
    clear hst hrow3 hb3 hpn c0 c1 l2 hall;go_upto_region 6 with fail
    obtain ⟨w4,hw4,hL4⟩:=(HL3.out.new (.cells #[.int .i64 ((z0l z0e x.p.st).n:Nat), .int .i64 (z0l z0e x.p.st).last, .int .i64 (z0l z0e x.p.st).delta, .bool (z0l z0e x.p.st).val.has, .int .u64 ((z0l z0e x.p.st).val.prev:Nat), .int .u8 ((z0l z0e x.p.st).val.lead:Nat), .int .u8 ((z0l z0e x.p.st).val.width:Nat)] 139)).named;refine z0D hw4 ?_;have hb4:Below w3.heap.size w3 w4:=by rw [hw4];exact q5 _ _
    have HOUT4:=z7 (ownsRow_below HOUT3.out hb4 (Nat.le_refl _));have HSRC:=z7 (z0d (ownsRow_below HROW3.out hb4 (Nat.le_refl _)));have HL4:=z7 hL4;have hml:m≤24*1000000001:=by
     have h1:=y6d HSO.out k;have h2:=hm.out;have h3:k≤1000000001:=by omega
     have:k*24≤1000000001*24:=Nat.mul_le_mul_right _ h3;omega
    have hbase:Hid (w1.heap.size≤w4.heap.size):=z7 (by have:=hlow.out.size;have:=hL4.low.size;omega);have hwk:IntKind.i64.wrap ((k:Int)+1)=((k+1:Nat):Int):=z0n (by omega) (by omega);clear hw4 hb4 hL4;go_wp2_with (at_builtin;refine z1J rfl _ _ 38 rfl w1.heap.size 113 iS _ 2 16 Tryz.underlying38 hiS hyS0 hyS1 hyS2 rfl (by decide) (.slice a m c) m _ rfl HOUT4.out _ pn _ rfl HSRC.out (z6g _) (by unfold maxLen;omega) (by omega) hbase.out ?_;intro v5 w5 h5 hg5 hv5 hb5;obtain ⟨a5,c5,rfl⟩:=z2c h5;(have H5:=z7 h5;have HG5:=z7 hg5;clear h5 hg5 hv5 hb5));have hpx:Hid (X.ser.parts[k]? =some (x.p,cl)):=z7 (by rw [X.parts_ser,List.getElem?_map,HXC.out];rfl);refine ⟨⟨k+1,m+pn,a5,c5,rfl,rfl,by omega,?_,?_,?_⟩,by show n+1 - ((k+1:Nat):Int).toNat<n+1 - (k:Int).toNat;omega⟩
    ·rw [y2e _ _ _ _ hpx.out,z4w];exact z7 H5.out
    ·rw [y2e _ _ _ _ hpx.out,List.length_append];refine z7 ?_;rw [←hm.out,HPN.out];show _=m+(z3f x.p.st).length;unfold z3f;rw [List.length_map]
    ·exact z7 ((hlow.out.trans (HL4.out.low.mono hlow.out.size)).grown HG5.out hbase.out (fun j hj=>(HOUT4.out.lt j hj).1))
   ·exact absurd hno (by rw [HOK.out.ok.rd];simp)
  ·have d1:decide ((k:Int)<(n:Int)+1)=false:=decide_eq_false (by omega);obtain rfl:k=n+1:=by omega
   go_wp2;go_ret;have hall:X.ser.parts.take (n+1)=X.ser.parts:=List.take_of_length_le (by rw [X.parts_ser,List.length_map];have:=HPL.out;omega);have h1:=hrow.out;have h2:=hm.out;rw [hall] at h1 h2;rw [←HXS.out];exact ⟨a,m,c,rfl,z0i h1 HLOW0.out.size,h2,HLOW0.out.trans (hlow.out.mono HLOW0.out.size)⟩
def knF:Fr:=⟨2,1,5,0,0,0,1,false,0,List.replicate 16 0,128⟩
def knL:List Bool:=List.replicate 128 false
def knS:FsS:=(z2t (z6q 9000) z2o).2.1
def knK:Int×List Bs×z0m×Nat×FsS:=tkS ⟨2,4, []⟩ 0 knS knF knL
theorem y6x:(z2t (z6q 9000) z2o).1=0∧(z2t (z6q 9000) z2o).2.2= []:=by decide+kernel
theorem q0P:z1D knF=true:=by decide+kernel
theorem q1v:z3j ⟨2,4, []⟩ 0 knF knL=(0,0,1):=by decide+kernel
theorem y8C:(wrS knS (z3c knF knL)).1=0:=by decide+kernel
theorem q2N:z3j (takeB ⟨2,4, []⟩ knF knL) 1 knF knL=(0,4,1):=by decide+kernel
theorem q3l:(z8E (z0f (takeB ⟨2,4, []⟩ knF knL) 5)).length=1:=by decide+kernel
theorem q3Q:knK=(0, [z6K (z5i (takeB ⟨2,4, []⟩ knF knL) 4 1 5)],takeB ⟨2,4, []⟩ knF knL,1,(wrS knS (z3c knF knL)).2):=by
 unfold knK tkS;rw [q1v];simp only;rw [if_neg (by simp),if_neg (by simp),if_neg (by rw [y8C];simp)];rfl
theorem q3w:tkS (takeB ⟨2,4, []⟩ knF knL) 1 (wrS knS (z3c knF knL)).2 knF knL=(0, [z6K (z5i (takeB ⟨2,4, []⟩ knF knL) 4 1 5)],takeB ⟨2,4, []⟩ knF knL,1,(wrS knS (z3c knF knL)).2):=by
 unfold tkS;rw [q2N];simp only;rw [if_neg (by simp),if_pos (by simp)];rfl
theorem q1P:(z0f (takeB ⟨2,4, []⟩ knF knL) 5).done.length≤1:=by decide+kernel
theorem q2w:knF.Ok:=⟨by decide,by decide,by decide,by decide,by decide,by decide,by decide,by decide,by decide,by decide⟩
theorem y6y:z0U knF.b knL:=by
 have h0:knF.b.length=16:=rfl;have h00:knL.length=128:=by unfold knL;simp
 refine ⟨by rw [h0,h00],fun i hi=>?_⟩;have h1:knF.b=List.replicate 16 0:=rfl;have h2:knL=List.replicate 128 false:=rfl;unfold q0S;rw [h1,h2,List.getD_eq_getElem?_getD,List.getD_eq_getElem?_getD,List.getElem?_replicate,List.getElem?_replicate];split<;>split<;>simp
theorem q2a:y5z (2:Nat) 9000 (4:Nat) 500 10 9000:=⟨by omega,by omega,by omega,by omega,by omega,by omega⟩
theorem q2k(w:World):(Instr.makeSlice 46 (.int .i64 16) (.int .i64 16)).run Tryz.prog w= .ok (.slice (some ⟨w.heap.size,0,none⟩) 16 16) (w.alloc (.cells #[.int .u8 0, .int .u8 0, .int .u8 0, .int .u8 0, .int .u8 0, .int .u8 0, .int .u8 0, .int .u8 0, .int .u8 0, .int .u8 0, .int .u8 0, .int .u8 0, .int .u8 0, .int .u8 0, .int .u8 0, .int .u8 0] 5)):=by kernel_rfl
theorem q3v:tkS ⟨2,4, []⟩ 0 (z2t (z6q 9000) z2o).2.1 knF knL=knK:=by unfold knK knS;rfl
theorem q2f:(z0f ⟨2,4, []⟩ knF.series).done.length<1000000000:=by
 have h:z0f ⟨2,4, []⟩ knF.series=z7T:=rfl;rw [h];exact (by decide:0<1000000000)
theorem q3u:knF.n=((knL.length:Nat):Int):=by
 have h:knL.length=128:=by unfold knL;simp
 rw [h];rfl
theorem y1K{B:Nat}{w:World}{a:Option Addr}{m c:Nat}{xs:List (Value×List UInt8)}{bs:List UInt8}(h:z0F B w (.slice a m c) xs)(hx:xs.map Prod.snd= [bs])(hm:m=xs.length):∃g y yn yc,a=some ⟨g,0,none⟩∧m=1∧g<w.heap.size∧w.cell? ⟨g,0,none⟩=some (.slice y yn yc)∧RdB w (.slice y yn yc) bs:=by
 match xs,hx with
 | [x],hx=>
  simp only [List.map_cons,List.map_nil,List.cons.injEq,and_true] at hx;subst hm;rcases h.row.2 with ⟨-,e⟩ | ⟨g,cap,cur,e, -,hc, -, -, -,ht⟩
  ·simp at e
  ·simp only [Value.slice.injEq] at e;have hent:=h.ent x List.mem_cons_self;obtain ⟨y,yc,hy⟩:=z2c hent;refine ⟨g,y,x.2.length,yc,e.1,rfl,(Array.getElem?_eq_some_iff.1 hc).1,?_,?_⟩
   ·rw [←hy];rcases (z0d h.row).2 with ⟨-,e2⟩ | ⟨ad,cp,e2,e3⟩
    ·simp at e2
    ·simp only [Value.slice.injEq] at e2;have h4:=e3 0 x.1 rfl;have had:ad=⟨g,0,none⟩:=by have:=e2.1;rw [e.1] at this;exact (Option.some.inj this).symm
     rw [had] at h4;have hadd:(⟨g,0,none⟩:Addr).add 0=⟨g,0,none⟩:=by unfold Addr.add;split<;>simp_all
     rwa [hadd] at h4
   ·rw [←hy,←hx];exact z0d hent
theorem q1a.db{w:World}{kb bb sb:Nat}{b:z0m}{ep:Nat}{s:FsS}{U:Nat→Prop}(h:q1a w kb bb sb b ep s U):z1m w:=by
 obtain ⟨rb,tb,mb,B,E,S,F,hK, -⟩:=h;exact hK.db
structure KnS (W:World) (n:Nat) (D:Nat→Bool) (v:Nat→Value) (w':World):Prop where
 low:Below W.heap.size W w'
 smp:D 30=true→∃a c,v 30= .slice a n c
theorem KnS.read{W w':World}{n:Nat}{D:Nat→Bool}{v:Nat→Value}(h:KnS W n D v w')(k:Nat)(hk:k≠30):KnS W n (mark D k) v w':=⟨h.low,by rw [q9 hk];exact h.smp⟩
theorem y9d(w:World)(hdb:z1m w):Calls Tryz.prog 9 #[] w fun e w'=>e= .returned (.bool true)∧Below w.heap.size w w':=by
 have HNEW:=z7 (fun w'=>y9O 9000 (by omega) (by omega) w');have HDB:=z7 hdb;clear hdb;go_enter Tryz.func9,Tryz.ntmps9;go_wp2_with fail;refine (HNEW.out w).mono ?_;rintro e w1 ⟨sb,F,rfl,hF,hFge,hb1⟩;have hdl:=HDB.out.lt;have HOP:=z7 (y6o sb (z6q 9000) F 2 4 9000 500 10 9000 q2a y6x.1 y6x.2 w1 hF (y3H (by omega) (by omega)) (HDB.out.low hb1) (fun hm=>by have:=hFge _ hm;omega));have HF:=z7 hF;have HFge:=z7 hFge;have HB1:=z7 hb1;clear hF hFge hb1;go_wp2_with fail;refine HOP.out.mono ?_;rintro e w2 ⟨kb,rb,bb,tb,mb,B,E,S,F2,rfl,hK,hC,hS,hrb,hkb,htb,hbb⟩;have hb2:Below w.heap.size w w2:=HB1.out.trans (hC.below HB1.out.size HFge.out);have hU:∀x,KU rb S F2 x→w.heap.size≤x:=fun x hx=>by
  have hs1:=HB1.out.size;rcases hx with h | h | h
  ·omega
  ·have:=hS x h;omega
  ·rcases hC.fresh x h with e | e
   ·exact HFge.out x e
   ·omega
 have HK:=z7 hK;have HB2:=z7 hb2;have HU:=z7 hU;have hBook:=z7 (z9J kb rb bb tb w2 hK.k);clear hK hb2 hU hC hS hrb hkb htb hbb HOP;have hmk:=q2k;have hal:Below w2.heap.size w2 (w2.alloc (.cells #[.int .u8 0, .int .u8 0, .int .u8 0, .int .u8 0, .int .u8 0, .int .u8 0, .int .u8 0, .int .u8 0, .int .u8 0, .int .u8 0, .int .u8 0, .int .u8 0, .int .u8 0, .int .u8 0, .int .u8 0, .int .u8 0] 5)):=q5 _ _;have hrd:RdB (w2.alloc (.cells #[.int .u8 0, .int .u8 0, .int .u8 0, .int .u8 0, .int .u8 0, .int .u8 0, .int .u8 0, .int .u8 0, .int .u8 0, .int .u8 0, .int .u8 0, .int .u8 0, .int .u8 0, .int .u8 0, .int .u8 0, .int .u8 0] 5)) (.slice (some ⟨w2.heap.size,0,none⟩) 16 16) knF.b:=z3C _ _ _ 16 1 (by decide) rfl;have HEN:=z7 (z6C knF (some ⟨w2.heap.size,0,none⟩) 16 _ q2w (by decide) hrd q0P);obtain ⟨Z16,hZ16⟩:∃z,z=(#[.int .u8 0, .int .u8 0, .int .u8 0, .int .u8 0, .int .u8 0, .int .u8 0, .int .u8 0, .int .u8 0, .int .u8 0, .int .u8 0, .int .u8 0, .int .u8 0, .int .u8 0, .int .u8 0, .int .u8 0, .int .u8 0]:Array Value):=⟨_,rfl⟩;rw [←hZ16] at HEN hal hmk;have HAL:=z7 hal;clear hal hrd hZ16;go_wp2_with (refine hBook.out.mono ?_;rintro e w' ⟨rfl,hew⟩;cases hew.symm);refine HEN.out.mono ?_;rintro e w3 ⟨a3,m3,c3,rfl,⟨hm3,hrow3⟩,hb3⟩;have hcap3:=z1C hrow3;have hK3:=(HK.out.low HAL.out).low hb3;have hx3:RdB w3 (.slice a3 m3 c3) (z0w knF):=by have h9:=z0d hrow3;unfold RdB;rw [←hm3];exact h9
 have hdec:=y1r q2w q0P;have hlk:knL.length≤1000000:=by unfold knL;simp
 have hT1:=y2I kb rb bb tb mb sb B 0 E S F2 ⟨2,4, []⟩ _ a3 m3 c3 (z0w knF) knF knL hm3 hcap3.1 hcap3.2 hdec.1 hdec.2 (by decide) q3u y6y hlk (by omega) q2f w3 hK3 hx3;rw [q3v,q3Q] at hT1;have hT1':=hT1;obtain ⟨bs,hbs⟩:∃bs,bs=z6K (z5i (takeB ⟨2,4, []⟩ knF knL) 4 1 5):=⟨_,rfl⟩;obtain ⟨b1,hb1'⟩:∃b1,b1=takeB ⟨2,4, []⟩ knF knL:=⟨_,rfl⟩;obtain ⟨s1,hs1⟩:∃s1,s1=(wrS knS (z3c knF knL)).2:=⟨_,rfl⟩;have hk2:tkS b1 1 s1 knF knL=(0, [bs],b1,1,s1):=by
  rw [hbs,hb1',hs1];exact q3w
 rw [←hbs,←hb1',←hs1] at hT1';have HT1:=z7 hT1';have HK3:=z7 hK3;have HX3:=z7 hx3;have HM3:=z7 hm3;have HROW3:=z7 hrow3;have hb03:Below w.heap.size w w3:=HB2.out.trans ((HAL.out.trans (hb3.mono HAL.out.size)).mono HB2.out.size);have HB03:=z7 hb03;have hs23:w2.heap.size≤w3.heap.size:=Nat.le_trans HAL.out.size hb3.size;have hfar3:∀j,(Value.slice a3 m3 c3).ownBlock=some j→w2.heap.size≤j:=fun j hj=>by have h1:=(hrow3.lt j hj).1;have h2:=HAL.out.size;omega
 have HFAR3:=z7 hfar3;have HB1':=z7 hb1';have HK2:=z7 hk2;have HCAP:=z7 hcap3;have HDEC:=z7 hdec;clear hT1 hT1' hK3 hx3 hm3 hrow3 hb03 hb3 hfar3 hmk hbs hb1' hs1 hk2 hcap3 hdec;go_wp2_with fail;refine HT1.out.mono ?_;rintro e w4 ⟨U4,hK4,hO4,hU4,⟨hne, -⟩ | ⟨-,a4,m4,c4,x4,rfl,hm4,hN4,hX4,hF4⟩⟩
 ·exact absurd rfl hne
 simp only at hK4 hX4;obtain ⟨rb4,tb4,mb4,B4,E4,S4,F4,hK4,rfl⟩:=hK4;have hx4:RdB w4 (.slice a3 m3 c3) (z0w knF):=Rd.kept HX3.out fun j hj hjl=>hO4.block j hjl fun hu=>by have h1:=HFAR3.out j hj;have h2:=HK.out.lt hu;omega
 have hdone:(z0f b1 5).done.length≤1:=by rw [HB1'.out];exact q1P
 have hT2:=y2I kb rb4 bb tb4 mb4 sb B4 1 E4 S4 F4 b1 s1 a3 m3 c3 (z0w knF) knF knL HM3.out HCAP.out.1 HCAP.out.2 HDEC.out.1 HDEC.out.2 (by decide) q3u y6y hlk (by omega) (by show (z0f b1 5).done.length<_;omega) w4 hK4 hx4;rw [HK2.out] at hT2;have HT2:=z7 hT2;have hU04:∀x,KU rb4 S4 F4 x→w.heap.size≤x:=fun x hx=>by
  rcases hU4 x hx with h | h
  ·exact HU.out x h
  ·have:=HB03.out.size;omega
 have hb04:Below w.heap.size w w4:=HB03.out.trans (hO4.below HB03.out.size HU.out);have HB04:=z7 hb04;have HU04:=z7 hU04;have HN4:=z7 hN4;have HX4:=z7 hX4;have HF4:=z7 hF4;have HM4:=z7 hm4;have HDONE:=z7 hdone;clear hK4 hO4 hU4 hm4 hN4 hX4 hF4 hx4 hT2 hU04 hb04 hdone HT1;go_wp2_with fail;refine HT2.out.mono ?_;rintro e w5 ⟨U5,hK5,hO5,hU5,⟨hne, -⟩ | ⟨-,a5,m5,c5,x5,rfl,hm5,hN5,hX5,hF5⟩⟩
 ·exact absurd rfl hne
 simp only at hK5 hX5;obtain ⟨rb5,tb5,mb5,B5,E5,S5,F5,hK5,rfl⟩:=hK5;have hN4':z0F w3.heap.size w5 (.slice a4 m4 c4) x4:=⟨j7 HN4.out.row fun j hj=>hO5.block j (HN4.out.row.lt j hj).2 fun hu=>HF4.out j (.inl hj) hu,fun x hx=>j7 (HN4.out.ent x hx) fun j hj=>hO5.block j ((HN4.out.ent x hx).lt j hj).2 fun hu=>HF4.out j (.inr ⟨x,hx,hj⟩) hu⟩;obtain ⟨g4,y4,yn4,yc4,rfl,rfl,hg4,hc4,hr4⟩:=y1K hN4' HX4.out HM4.out;obtain ⟨g5,y5,yn5,yc5,rfl,rfl,hg5,hc5,hr5⟩:=y1K hN5 hX5 hm5;have hb05:Below w.heap.size w w5:=HB04.out.trans (hO5.below HB04.out.size HU04.out);have HB05:=z7 hb05;have HK5:=z7 hK5;have HC:=z7 (fun w' (hb:Below w5.heap.size w5 w')=>(⟨Nat.lt_of_lt_of_le hg4 hb.size,(hb.cell (p:=⟨g4,0,none⟩) hg4).trans hc4,Nat.lt_of_lt_of_le hg5 hb.size,(hb.cell (p:=⟨g5,0,none⟩) hg5).trans hc5,hr4.low hb,hr5.low hb⟩:g4<w'.heap.size∧w'.cell? ⟨g4,0,none⟩=some (.slice y4 yn4 yc4)∧g5<w'.heap.size∧w'.cell? ⟨g5,0,none⟩=some (.slice y5 yn5 yc5)∧RdB w' (.slice y4 yn4 yc4) bs∧RdB w' (.slice y5 yn5 yc5) bs));have hsm:(z8E (z0f b1 5)).length=1:=by rw [HB1'.out];exact q3l
 have HSMP:=z7 (fun w' (hk:KIn w' kb rb5 bb tb5 mb5 sb B5 E5 S5 F5 b1 1 s1)=>y5m bb mb5 B5 E5 b1 S5 5 (by omega) (by have:=HDONE.out;omega) w' hk.bk hk.db);have HSM:=z7 hsm;clear hK5 hO5 hU5 hm5 hN5 hX5 hF5 hN4' hg4 hc4 hr4 hg5 hc5 hr5 hb05 hsm HT2 HNEW;go_wp2_with fail;refine q6 43 91 (by kernel_rfl) (by kernel_rfl) rfl (by kernel_rfl) (fun D v w'=>KnS w5 1 D v w') (fun _=>undef) ⟨(Below.refl _ _).drew,fun e=>by cases e⟩ ?_;simp only [List.take_succ_cons,List.take_zero,List.drop_succ_cons,List.drop_zero];iterate 29 (refine q8.read (e:=?_) (fun v=>by rfl) (fun D v w h=>h.read _ (by decide)) (fun D v w' hD hS=>?_) ?_;rotate_left;(obtain ⟨l4,d4,l5,d5,r4,r5⟩:=HC.out w' hS.low;have v1:=z6b bs _ _ r4;have v2:=z6b bs _ _ r5;clear r4 r5;clear hS hD;first | (go_simp;done) | (go_simp;with_reducible rfl));go_simp)
 refine q8.call (.pointer (some ⟨bb,0,none⟩)) (fun v=>by rfl) (fun D v w' hD hS=>?_) ?_
 ·have HZ:=z7 hS;have hcall:=z7 (z9J kb rb5 bb tb5 w' (HK5.out.low hS.low).k);clear hS hD;go_simp;go_at_call 13;refine hcall.out.mono ?_;rintro e w'' ⟨rfl,hew⟩;cases hew.symm;exact ⟨rfl,HZ.out.read 29 (by decide)⟩
 go_simp;refine q8.rel (fun v=>by rfl) (fun D v w' hD hS=>?_) ?_
 ·have HZ:=z7 hS;have hcall:=z7 (HSMP.out w' (HK5.out.low hS.low));clear hS hD;go_simp;go_at_call 21;refine hcall.out.mono ?_;rintro e w'' ⟨a,n,c,rfl, -,hn,hb⟩;have hn1:n=1:=by rw [hn,HSM.out]
  subst hn1;exact ⟨HZ.out.low.trans (hb.mono HZ.out.low.size),fun _=>⟨a,c,z0p _ _ _⟩⟩
 go_simp;refine q8.read (.int .i64 1) (fun v=>by rfl) (fun D v w h=>h.read _ (by decide)) (fun D v w' hD hS=>?_) ?_
 ·obtain ⟨a,c,hv⟩:=hS.smp (hD.pre 30 (by kernel_rfl));clear hS hD;go_simp
 go_simp;iterate 4 (refine q8.read (e:=?_) (fun v=>by rfl) (fun D v w h=>h.read _ (by decide)) (fun D v w' hD hS=>?_) ?_;rotate_left;(skip;clear hS hD;first | (go_simp;done) | (go_simp;with_reducible rfl));go_simp)
 iterate 3 (refine q8.read (e:=?_) (fun v=>by rfl) (fun D v w h=>h.read _ (by decide)) (fun D v w' hD hS=>?_) ?_;rotate_left;(have hk':=(HK5.out.low hS.low).k;obtain ⟨k0,k1,k2,kf⟩:=hk'.cells;have lk:=hk'.lt;clear hk';clear hS hD;first | (go_simp;done) | (go_simp;with_reducible rfl));go_simp)
 refine q8.call (.int .u32 (1:Nat)) (fun v=>by rfl) (fun D v w' hD hS=>?_) ?_
 ·have HZ:=z7 hS;have hcall:=z7 (q0B rb5 bb 1 w' (HK5.out.low hS.low).r);clear hS hD;go_simp;go_at_call 36;refine hcall.out.mono ?_;rintro e w'' ⟨rfl,hew⟩;cases hew.symm;exact ⟨rfl,HZ.out.read 39 (by decide)⟩
 go_simp;iterate 3 (refine q8.read (e:=?_) (fun v=>by rfl) (fun D v w h=>h.read _ (by decide)) (fun D v w' hD hS=>?_) ?_;rotate_left;(skip;clear hS hD;first | (go_simp;done) | (go_simp;with_reducible rfl));go_simp)
 refine q8.fin (fun v w6 hS=>?_);have HB6:=z7 (HB05.out.trans (hS.low.mono HB05.out.size));clear hS;go_wp2;go_ret;exact ⟨rfl,HB6.out⟩
structure FrL where
 kind:Nat
 epoch:Nat
 series:Nat
 p:Nat×Nat×Nat
 count:Nat
 closed:Bool
 sum:Nat
 bits:List Bool
def FrL.fr(r:FrL)(b:List UInt8):Fr:=⟨r.kind,r.epoch,r.series,r.p.1,r.p.2.1,r.p.2.2,r.count,r.closed,r.sum,b,(r.bits.length:Nat)⟩
structure FrC where
 r:FrL
 a:Option Addr
 c:Nat
 b:List UInt8
def FrC.v(x:FrC):Value:=frV (x.r.fr x.b) (.slice x.a x.b.length x.c)
def FrC.cells(x:FrC):List Value:=(z0a (x.r.fr x.b) (.slice x.a x.b.length x.c)).toList
theorem FrC.one(x:FrC):∀u∈x.cells,u.oneCell'=true:=fun u hu=>by
 unfold FrC.cells z0a at hu;simp only [List.mem_cons,List.not_mem_nil,or_false] at hu;rcases hu with rfl | rfl | rfl | rfl | rfl | rfl | rfl | rfl | rfl | rfl | rfl<;>rfl
structure FrC.Ok (w:World) (B:Nat) (x:FrC):Prop where
 row:w.ownsRow B 5 1 (.slice x.a x.b.length x.c) x.b.length (z0b x.b)
 bits:z0U x.b x.r.bits
structure z4Z (w:World) (B:Nat) (a:Option Addr) (n c:Nat) (xs:List FrC):Prop where
 row:w.ownsRow B 50 11 (.slice a n c) n (xs.flatMap FrC.cells)
 len:n=xs.length
 each:∀x∈xs,x.Ok w B
theorem FrC.Ok.below{w w':World}{B C:Nat}{x:FrC}(h:x.Ok w B)(hb:Below C w w')(hC:w.heap.size≤C):x.Ok w' B:=⟨ownsRow_below h.row hb hC,h.bits⟩
theorem z4Z.low{w w':World}{B:Nat}{a:Option Addr}{n c:Nat}{xs:List FrC}(h:z4Z w B a n c xs)(hb:Below w.heap.size w w'):z4Z w' B a n c xs:=
 ⟨ownsRow_below h.row hb (Nat.le_refl _),h.len,fun x hx=>(h.each x hx).below hb (Nat.le_refl _)⟩
theorem z4Z.base{w:World}{B B':Nat}{a:Option Addr}{n c:Nat}{xs:List FrC}(h:z4Z w B a n c xs)(hB:B'≤B):z4Z w B' a n c xs:=
 ⟨z0i h.row hB,h.len,fun x hx=>⟨z0i (h.each x hx).row hB,(h.each x hx).bits⟩⟩
theorem z4Z.nil(w:World)(B:Nat):z4Z w B none 0 0 []:=⟨World.ownsRow_nil _ _ _ _,rfl,fun x hx=>by cases hx⟩
theorem z8n{w:World}{B B' e e' s s' n n' k:Nat}{v v':Value}{xs xs':List Value}(h:w.ownsRow B e s v n xs)(h':w.ownsRow B' e' s' v' n' xs')(he:e≠e')(hk:v.ownBlock=some k):v'.ownBlock≠some k:=by
 intro hk';rcases h.2 with ⟨rfl, -⟩ | ⟨g,cap,cur,rfl, -,hg, -⟩
 ·cases hk
 ·rcases h'.2 with ⟨rfl, -⟩ | ⟨g',cap',cur',rfl, -,hg', -⟩
  ·cases hk'
  ·simp only [Value.ownBlock,Option.some.injEq] at hk hk';subst hk;subst hk';rw [hg] at hg';simp only [Option.some.injEq,Obj.cells.injEq] at hg';exact he hg'.2.1
theorem z4Z.snoc{w w':World}{B:Nat}{a a':Option Addr}{n c c':Nat}{xs:List FrC}{x:FrC}(h:z4Z w B a n c xs)(hx:x.Ok w B)(hg:w.grownBy w' (Value.slice a n c).ownBlock)(hrow:w'.ownsRow B 50 11 (.slice a' (n+1) c') (n+1) (xs.flatMap FrC.cells++x.cells)):z4Z w' B a' (n+1) c' (xs++ [x]):=by
 have hk:∀y:FrC,y.Ok w B→y.Ok w' B:=fun y hy=>⟨j7 hy.row fun k hk=>hg.block k (hy.row.lt k hk).2 fun e=>z8n hy.row h.row (by decide) hk e.symm,hy.bits⟩;refine ⟨by rw [List.flatMap_append,List.flatMap_singleton];exact hrow,by rw [List.length_append,List.length_singleton,h.len],fun y hy=>?_⟩;rcases List.mem_append.1 hy with hy | hy
 ·exact hk y (h.each y hy)
 ·rw [List.mem_singleton] at hy;subst hy;exact hk _ hx
end Go.Proofs.YtfcnapnopdomhaaGreatDoor

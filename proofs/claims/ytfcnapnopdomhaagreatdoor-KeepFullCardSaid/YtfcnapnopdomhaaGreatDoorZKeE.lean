/-
  The walk of keep's Take (a frame that is read, but for a hello).
-/
import Derived.Test.YtfcnapnopdomhaaGreatDoorZKeCKpMKeD
namespace Go.Proofs.YtfcnapnopdomhaaGreatDoor
set_option linter.unusedSimpArgs false
set_option linter.unusedVariables false
set_option maxRecDepth 100000
set_option maxHeartbeats 12800000
open Go.RowKit Go.Maps
theorem q1u(b:z0m)(ep:Nat)(f:Fr)(l:List Bool):(z3j b ep f l).2.1<6:=by
 unfold z3j
 repeat' split
 all_goals simp
theorem y7N(b:z0m)(ep:Nat)(f:Fr)(l:List Bool)(h1:(z3j b ep f l).1=0)(h2:(z3j b ep f l).2.1=0):(f.cnt<f.count∧0<l.length∧f.b.length≤500)∧z3G b f l=0∧(z3j b ep f l).2.2=f.epoch:=by
 unfold z3j at h1 h2 ⊢;split at h1
 ·cases h1
 ·rename_i c1;rw [if_neg c1] at h2 ⊢;split at h1
  ·cases h1
  ·rename_i c2;rw [if_neg c2] at h2 ⊢;split at h1
   ·rename_i c3;rw [if_pos c3] at h2;cases h2
   ·rename_i c3;rw [if_neg c3] at h2 ⊢;split at h1
    ·rename_i c4;rw [if_pos c4] at h2;cases h2
    ·rename_i c4;rw [if_neg c4] at h2 ⊢;split at h1
     ·cases h1
     ·rename_i c5;rw [if_neg c5];refine ⟨Classical.byContradiction fun h=>c5 (.inl h),Classical.byContradiction fun h=>c5 (.inr h),rfl⟩
theorem y9S{s:FsS}(h:s.Ok)(n:List UInt8):(wrS s n).2.Ok:=by
 unfold wrS;split
 ·exact z6M h _ _
 ·exact y7B (z6M h _ _) _
theorem y2I(kb rb bb tb mb sb B ep:Nat)(E:List (Int×z0C))(S:Nat→Prop)(F:List Nat)(b:z0m)(s:FsS)(a:Option Addr)(n c:Nat)(bs:List UInt8)(f:Fr)(l:List Bool)(hn:n=bs.length)(hc:n≤c)(hc2:c≤9223372036854775807)(hd:y0V bs=0)(hdf:z9x bs=f)(hkind:f.kind≠1)(hfn:f.n=(l.length:Nat))(hbits:z0U f.b l)(hl:l.length≤1000000)(hep:ep<4294967296)(hfew:(z0f b f.series).done.length<1000000000)(w:World)(h:KIn w kb rb bb tb mb sb B E S F b ep s)(hx:RdB w (.slice a n c) bs):
  Calls Tryz.prog 18 #[.pointer (some ⟨kb,0,none⟩), .slice a n c] w (q2T kb bb sb (tkS b ep s f l) (KU rb S F) w):=by
 have hf:f.Ok:=by rw [←hdf];exact q3m bs
 have HDC:=z7 (y8i a c bs w (by rw [←hn];exact hx) (by omega) (by omega) hc2);rw [hd,hdf,←hn] at HDC;obtain ⟨⟨r1,ak,ep'⟩,hR⟩:∃R,R=z3j b ep f l:=⟨_,rfl⟩;obtain ⟨N0,hN0⟩:∃N,N=w.heap.size:=⟨_,rfl⟩;obtain ⟨K,hK⟩:∃K,K=tkS b ep s f l:=⟨_,rfl⟩;have hK2:=hK;unfold tkS at hK2;rw [←hR] at hK2;simp only at hK2;rw [←hK];obtain ⟨fl,hfl⟩:∃fl,fl=f.b.length:=⟨_,rfl⟩;have HDC2:=HDC.out;unfold Told at HDC2;rw [←hfl] at HDC2;have HDC:=z7 HDC2;clear HDC2;have H:=z7 h;have HKE:=z7 hK2;have HRE:=z7 hR;have HF:=z7 hf;have HFN:=z7 hfn;have HBI:=z7 hbits;have HN0:=z7 hN0;have HFL:=z7 hfl;have hrl:=h.r.lt;have hkl:=h.k.lt;clear h hx hd hdf hn hc hc2 hR hK hK2 hf hfn hbits hN0 hfl;go_enter Tryz.func18,Tryz.ntmps18;go_wp2_with fail;refine HDC.out.mono ?_;rintro e w1 ⟨a1,c1,rfl,hrd1,hb1,hfar1⟩;obtain ⟨C,hC⟩:∃C,C=z0a f (.slice a1 fl c1):=⟨_,rfl⟩;have hC11:C.size=11:=by rw [hC];rfl
 have hCo:C.all (·.oneCell')=true:=by rw [hC];unfold z0a;simp [Value.oneCell']
 have hfv:frV f (.slice a1 fl c1)= .agg C:=by rw [hC];rfl
 have hfs:(Tryz.prog.info? 50).map (·.size)=some C.size:=by rw [hC11];exact z0z
 rw [hfv];have HC:=z7 hC;have HFV:=z7 hfv;have HRD:=z7 hrd1;have HB1:=z7 hb1;have HFAR:=z7 hfar1;clear hC hfv hrd1 hb1 hfar1;go_upto_region 4 with (refine z0h rfl 50 _ _ rfl w1.heap.size 0 rfl C rfl (fun j hj=>by exact z0y (j8 w1 _) (n:=C.size) (by rw [hC11];rfl) j hj) (by exact z0B (j8 w1 _)) hfs hCo ?_;rw [z5e _ _ _ _ (by rw [Array.length_toList,hC11];rfl)])
 have hbW:Below w.heap.size w (w1.alloc (.cells C 50)):=HB1.out.trans ((q5 w1 _).mono HB1.out.size);obtain ⟨W,hW,hLW⟩:=(((z0E.start (KU rb S F) w).go (S':=fun _=>False) (z0s.of_below HB1.out) (fun _ h=>h.elim) (fun p hp=>by cases hp)).new (.cells C 50)).named;refine z0D hW ?_;rw [←hW] at hbW;obtain ⟨p6,hp6⟩:∃p,p=w1.heap.size:=⟨_,rfl⟩;rw [←hp6] at hLW ⊢;have hKW:=H.out.low hbW;have hbiW:z0o W a1 fl c1 l f.b:=⟨by rw [hW];exact HRD.out.low (q5 w1 _),HFL.out,HBI.out⟩;have hfarW:∀(w':World),z0s (fun k=>k=rb) W w'→z0o w' a1 fl c1 l f.b:=fun w' ho=>⟨Rd.kept hbiW.rd fun k hk hkl=>ho.block k hkl (fun e=>by have:=HFAR.out k hk;omega),hbiW.len,hbiW.bits⟩;obtain ⟨p,Bo,x,P,HCASE,hp12,hpo,HLA⟩:=y9g b f a1 fl c1 rb bb W.heap.size (r1,ak,ep');have HLOOK:=z7 (fun w' (h1:z0r w' bb mb E b B S) (h2:z0L w' rb bb ep) (h4:z0o w' a1 fl c1 l f.b) (h5:z1m w') (h6:∀w'',z0s (fun k=>k=rb) w' w''→z1m w'') (h7:∀w'',z0s (fun k=>k=rb) w' w''→z0o w'' a1 fl c1 l f.b)=>q1C rb bb mb B ep E b S f a1 fl c1 l HF.out HFN.out HFL.out hl (Nat.le_of_lt hfew) hkind w' h1 h2 H.out.rS h4 h5 h6 h7);have HL2:=HLOOK.out;rw [←HRE.out,HFV.out] at HL2;have HLOOK:=z7 HL2;have HLW:=z7 hLW;have HKW:=z7 hKW;have HFW:=z7 hfarW;have HLA:=z7 HLA;have HCASE:=z7 HCASE;have hrW:=hKW.r.lt;have hkW:=hKW.k.lt;have hszW:=hbW.size;have HBW:=z7 hbW;have hfz:=z7 (show (Tryz.prog.info? 125).map (·.size)=some p.size by rw [hp12];exact z0X);clear hW hLW hp6 hKW hbiW hfarW HL2 hbW
 refine q6 16 58 (by kernel_rfl) (by kernel_rfl) rfl (by kernel_rfl) (fun D v w'=>LkS W rb p (.bool Bo) (.int .u16 x) P D v w') (fun _=>undef) (LkS.start _ _ _ _ _ _) ?_;simp only [List.take_succ_cons,List.take_zero,List.drop_succ_cons,List.drop_zero];iterate 4 (refine q8.read (e:=?_) (fun v=>by rfl) (fun D v w h=>h.read _ (by decide) (by decide) (by decide) (by decide) (by decide) (by decide)) (fun D v w' hD hS=>?_) ?_;rotate_left;(have hkb:z2M w' kb rb bb tb:=(hS.low.block kb hkW H.out.kr).trans HKW.out.k;obtain ⟨k0,k1,k2,kf⟩:=hkb.cells;have lk:=hkb.lt;clear hkb;clear hS hD;first | (go_simp;done) | (go_simp;with_reducible rfl));go_simp)
 refine q8.read (.agg C) (fun v=>by rfl) (fun D v w h=>h.read _ (by decide) (by decide) (by decide) (by decide) (by decide) (by decide)) (fun D v w' hD hS=>z1M _ _ rfl p6 0 rfl _ (z2a ((hS.low.block p6 (HLW.out.lt 0 rfl) (fun e=>by have:=HLW.out.ge 0 rfl;omega)).trans (HLW.out.get 0 rfl))) z1H hfs) ?_;go_simp;refine q8.rel (fun v=>by rfl) (fun D v w' hD hS=>?_) ?_
 ·have d5:=z7 hD.self;have hlow:=hS.low;have hbk:=HKW.out.bk.only hlow (fun k hk e=>H.out.rS (by subst e;exact hk));have hrc:z0L w' rb bb ep:=(hS.q0 d5.out).trans HKW.out.r;have hdb:=HKW.out.db.only hlow H.out.dr;have hbi:=HFW.out w' hlow;have hcall:=z7 (HLOOK.out w' hbk hrc hbi hdb (fun w'' ho=>hdb.only ho H.out.dr) (fun w'' ho=>HFW.out w'' (hlow.trans ho fun _ h=> .inl h)));have HZ:=z7 hS;have hsz:=hlow.size;clear hS hD hlow hbk hrc hdb hbi;go_simp;go_at_call 54;refine hcall.out.mono ?_;intro e w'' ht;obtain ⟨sl,G,rfl,ho,hP,hG⟩:=HLA.out w' e w'' hsz (by omega) ht;exact HZ.out.call d5.out hrW ho sl G hP hG
 go_simp;refine q8.rel (fun v=>by rfl) (fun D v w' hD hS=>?_) ?_
 ·have d:=hD.pre 5 (by kernel_rfl);have HS2:=z7 (hS.move d);clear hS hD;go_simp;exact HS2.out
 go_simp;refine q8.read (.agg p) (fun v=>by rfl) (fun D v w h=>h.read _ (by decide) (by decide) (by decide) (by decide) (by decide) (by decide)) (fun D v w' hD hS=>?_) ?_
 ·obtain ⟨d,hm⟩:=hS.m (hD.pre 6 (by kernel_rfl));obtain ⟨sl,G,hp, -⟩:=hS.c d;rw [hp] at hm;clear hS hD hp;go_simp
 go_simp;refine q8.read (.bool Bo) (fun v=>by rfl) (fun D v w h=>h.read _ (by decide) (by decide) (by decide) (by decide) (by decide) (by decide)) (fun D v w' hD hS=>?_) ?_
 ·obtain ⟨d,hm⟩:=hS.m (hD.pre 6 (by kernel_rfl));obtain ⟨sl,G,hp, -⟩:=hS.c d;rw [hp] at hm;clear hS hD hp;go_simp
 go_simp;refine q8.rel (fun v=>by rfl) (fun D v w' hD hS=>?_) ?_
 ·obtain ⟨d,hm⟩:=hS.m (hD.pre 6 (by kernel_rfl));obtain ⟨sl,G,hp, -⟩:=hS.c d;have d14:D 14=false:=hD.post 14 _ rfl (by kernel_rfl);have HS2:=z7 (hS.ext d (u:=sl) (by rw [hp];rfl) d14);rw [hp] at hm;clear hS hD hp;go_simp;exact HS2.out
 go_simp;refine q8.read (.int .u16 x) (fun v=>by rfl) (fun D v w h=>h.read _ (by decide) (by decide) (by decide) (by decide) (by decide) (by decide)) (fun D v w' hD hS=>?_) ?_
 ·obtain ⟨d,hm⟩:=hS.m (hD.pre 6 (by kernel_rfl));obtain ⟨sl,G,hp, -⟩:=hS.c d;rw [hp] at hm;clear hS hD hp;go_simp
 go_simp;refine q8.rel (fun v=>by rfl) (fun D v w' hD hS=>?_) ?_
 ·have d12:D 12=false:=hD.post 12 _ rfl (by kernel_rfl);have HS2:=z7 (hS.make hrW d12);clear hS hD;go_simp;exact HS2.out
 go_simp;refine q8.call undef (fun v=>by rfl) (fun D v w' hD hS=>?_) ?_
 ·have d5:=hD.pre 5 (by kernel_rfl);have d11:=hD.pre 11 (by kernel_rfl);have d12:D 12=false:=hD.self;obtain ⟨g,hg, -,hgc⟩:=hS.al d11;rw [d12] at hgc;refine z1N _ _ _ rfl g 0 hg p rfl (fun j hj=>z0y hgc (n:=12) rfl j (by omega)) (z0B hgc) hfz.out hpo ?_;exact ⟨undef,rfl,rfl,hS.store hrW d5 d11 d12 hg hp12⟩
 go_simp;iterate 1 (refine q8.read (e:=?_) (fun v=>by rfl) (fun D v w h=>h.read _ (by decide) (by decide) (by decide) (by decide) (by decide) (by decide)) (fun D v w' hD hS=>?_) ?_;rotate_left;(skip;clear hS hD;first | (go_simp;done) | (go_simp;with_reducible rfl));go_simp)
 refine q8.rel (fun v=>by rfl) (fun D v w' hD hS=>?_) ?_
 ·have d:=hD.pre 9 (by kernel_rfl);have HS2:=z7 (hS.asg d);clear hS hD;go_simp;exact HS2.out
 go_simp;iterate 1 (refine q8.read (e:=?_) (fun v=>by rfl) (fun D v w h=>h.read _ (by decide) (by decide) (by decide) (by decide) (by decide) (by decide)) (fun D v w' hD hS=>?_) ?_;rotate_left;(skip;clear hS hD;first | (go_simp;done) | (go_simp;with_reducible rfl));go_simp)
 refine q8.fin (fun v w5 hS=>?_);obtain ⟨g8,hv11,hg8,hgc8⟩:=hS.al rfl;have hb8:w5.heap[g8]? =some (.cells p 125 (0,0)):=hgc8;obtain ⟨sl,G,hv5,hP, -⟩:=hS.c rfl;have hv14:v 14=sl:=by
  have h1:=(hS.a rfl).2;have h2:=(hS.e rfl).2;rw [h1,h2,hv5];rfl
 rw [hv11,hv14];have hlow:=hS.low;have hLW5:=(HLW.out.go (S':=fun k=>k=rb) hlow (fun k hk=> .inl (.inl hk)) (fun q hq e=>by
  simp only [List.mem_singleton] at hq;subst hq;have:=HLW.out.ge 0 rfl;have e':p6=rb:=e;omega))
 have hLW5:=hLW5.cons hb8 (by omega) (fun q hq=>by
  simp only [List.mem_singleton] at hq;subst hq;have:=HLW.out.lt 0 rfl;show p6≠g8;omega)
 have hK5:z0L w5 rb bb ep'→KIn w5 kb rb bb tb mb sb B E S F b ep' s:=fun hr=>H.out.upd hLW5.low hr (HKW.out.bk.only hlow (fun k hk e=>H.out.rS (by subst e;exact hk))) (HKW.out.fs.same (fun k hk=>hlow.block k (HKW.out.fs.lt k hk) (fun e=>H.out.rF (by subst e;exact hk))) hlow.size) H.out.ok (fun _ h=> .inl h) (fun _ h=> .inl h) H.out.sF;have hbi5:=HFW.out w5 hlow;have HLW5:=z7 hLW5;have HK5:=z7 hK5;have HBI5:=z7 hbi5;have HPN:=z7 hP.now;have hsz5:=hLW5.low.size;clear hS hv11 hv14 hv5 hP hgc8 hb8 hlow hLW5 hK5 hbi5 HLOOK HLA HKW HFW;rcases HCASE.out with ⟨h1,rfl,rfl,rfl,rfl⟩ | ⟨h1,h2,rfl,rfl,rfl,rfl⟩ | ⟨h1,h2,rfl,rfl,rfl,rfl⟩
 ·have hPN:=HPN.out;simp only at hPN h1;obtain ⟨hr5,rfl⟩:=hPN;have hd:((r1:Int)==0)=false:=beq_false_of_ne (by omega);have hKv:K=((r1:Int), [],b,ep',s):=by rw [HKE.out,if_pos h1]
  have HKV:=z7 hKv;have H1:=z7 h1;have HR5:=z7 hr5;clear hKv h1 hr5 HCASE HPN;go_wp2;go_ret2;rw [HKV.out];exact ⟨KU rb S F,⟨rb,tb,mb,B,E,S,F,HK5.out HR5.out,rfl⟩,HLW5.out.low,fun x h=> .inl h, .inl ⟨by simpa using H1.out,rfl⟩⟩
 ·have hPN:=HPN.out;simp only at hPN h1 h2;obtain ⟨hr5,g,rfl,hgc,hge⟩:=hPN;have hKv:K=(0, [z6K (z5i b ak f.epoch f.series)],b,ep',s):=by rw [HKE.out,if_neg (by simp [h1]),if_pos h2]
  have hA:=y9j (b:=b) (k:=ak) (ep:=f.epoch) (id:=f.series) (by have:=q1u b ep f l;rw [←HRE.out] at this;exact Nat.lt_trans this (by decide)) HF.out.epoch HF.out.series (H.out.bk.serOk _) (Nat.le_of_lt hfew);have hga:=z7 (y4O g 1 1 [z5i b ak f.epoch f.series] (fun y hy=>by rw [List.mem_singleton.1 hy];exact hA) (by decide) w5 (z9r.one hgc));have HKV:=z7 hKv;have HR5:=z7 hr5;clear hKv h1 h2 hr5 HCASE HPN hgc hge hA;go_wp2_with (refine hga.out.mono ?_;rintro e w6 ⟨a6,m6,c6,xs,rfl,hm6,hno,hxs,hb6⟩;have HM6:=z7 hm6;have HNO:=z7 hno;have HXS:=z7 hxs;have HB6:=z7 hb6;clear hm6 hno hxs hb6);go_ret2;rw [HKV.out];exact ⟨KU rb S F,⟨rb,tb,mb,B,E,S,F,(HK5.out HR5.out).low HB6.out,rfl⟩,(HLW5.out.call HB6.out).low,fun x h=> .inl h, .inr ⟨rfl,a6,m6,c6,xs,rfl,HM6.out,⟨z0i HNO.out.row hsz5,fun x hx=>z0i (HNO.out.ent x hx) hsz5⟩,HXS.out,fun j hj hu=>by have h1:=HNO.out.ge hj;have h2:=(HK5.out HR5.out).lt hu;omega⟩⟩
 ·have hPN:=HPN.out;simp only at hPN h1 h2;obtain ⟨hr5,rfl⟩:=hPN;subst h1 h2;have K5:=HK5.out hr5;obtain ⟨hmay,ht0,hepe⟩:=y7N b ep f l (by rw [←HRE.out]) (by rw [←HRE.out]);rw [←HRE.out] at hepe;simp only at hepe;have hKv:K=if (wrS s (z3c f l)).1≠0 then ((wrS s (z3c f l)).1, [],b,ep',(wrS s (z3c f l)).2) else (0, [z6K (z5i (takeB b f l) 4 ep' f.series)],takeB b f l,ep',(wrS s (z3c f l)).2):=by rw [HKE.out,if_neg (by simp),if_neg (by simp)]
  have HWR:=z7 (y9w kb rb bb tb sb s F f a1 fl c1 l HF.out HFN.out ⟨hmay.1,hmay.2.1,by rw [HFL.out];exact hmay.2.2⟩ HFL.out w5 K5.k K5.t K5.fs K5.ok K5.kF K5.tF HBI5.out);have hok1:=y9S K5.ok (z3c f l);obtain ⟨⟨e1,s1⟩,hw⟩:∃r,r=wrS s (z3c f l):=⟨_,rfl⟩;rw [←hw] at hKv HWR hok1;simp only at hKv hok1;have HKV:=z7 hKv;have HOK1:=z7 hok1;have HK5:=z7 K5;have HT0:=z7 ht0;have HEPE:=z7 hepe;have hpc:(Tryz.prog.info? 125).map (·.size)=some (z2H f (.slice a1 fl c1)).size:=z0X;have HWR2:=HWR.out;unfold pcV at HWR2;obtain ⟨PC,hPC⟩:∃PC,PC=z2H f (.slice a1 fl c1):=⟨_,rfl⟩;have HPC:=z7 hPC;rw [←hPC] at HWR2 HLW5 hpc;have HWR:=z7 HWR2;have HPC3:=z7 hpc;clear hKv hok1 K5 ht0 hepe hw hr5 HWR2 HCASE HPN hpc hPC hp12 hpo hfz;go_wp2_with (refine z0N rfl 125 _ rfl g8 0 rfl PC (z2a (HLW5.out.get 0 rfl)) z2z HPC3.out ?_);refine HWR.out.mono ?_;rintro e w6 ⟨rfl,F6,hF6,hC6⟩;have HF6:=z7 hF6;have HC6:=z7 hC6;clear hF6 hC6;go_upto_region 10 with fail
  have hK6:KIn w6 kb rb bb tb mb sb B E S F6 b ep' s1:=HK5.out.upd (HC6.out.only.mono fun x hx=> .inl (.inr (.inr hx))) ((HC6.out.block rb HK5.out.r.lt HK5.out.rF).trans HK5.out.r) (HK5.out.bk.only HC6.out.only fun k hk hm=>HK5.out.sF k hm hk) HF6.out HOK1.out (fun _ h=> .inl h) HC6.out.fresh (fun x hx hs=>by
   rcases HC6.out.fresh x hx with h | h
   ·exact HK5.out.sF x h hs
   ·have:=(HK5.out.bk.lo x hs).2;omega)
  have hLW6:=HLW5.out.go (S':=fun x=>x∈F) HC6.out.only (fun x hx=> .inl (.inr (.inr hx))) (fun q hq hm=>by
   have h1:=H.out.fs.lt _ hm;have h2:=(HLW5.out.blk q hq).2;omega)
  have HK6:=z7 hK6;have HLW6:=z7 hLW6;have hbi6:z0o w6 a1 fl c1 l f.b:=⟨Rd.kept HBI5.out.rd fun k hk hkl=>HC6.out.block k hkl (fun e=>by have h1:=HFAR.out k hk;have h2:=H.out.fs.lt k e;omega),HBI5.out.len,HBI5.out.bits⟩;have HBI6:=z7 hbi6;clear hK6 hLW6 hbi6;by_cases he1:e1=0
  ·subst he1;have hKw:K=(0, [z6K (z5i (takeB b f l) 4 ep' f.series)],takeB b f l,ep',s1):=by rw [HKV.out,if_neg (by simp)]
   have HKW2:=z7 hKw;have hDO:=z7 (fun w' (hk:KIn w' kb rb bb tb mb sb B E S F6 b ep' s1) (hb:z0o w' a1 fl c1 l f.b)=>q3D rb bb mb B ep' E b S f a1 fl c1 l HF.out HFN.out HFL.out hl hfew w' hk.bk hk.r hk.rS hb hk.db);have hDO2:=hDO.out;unfold pcV at hDO2;rw [←HPC.out] at hDO2;have HDO:=z7 hDO2;have HTUP:Hid (∀u w',z2M w' kb rb bb tb∧(true=false→Below w6.heap.size w6 w')∧(true=true→∃w7,Below w6.heap.size w6 w7∧y2n rb bb mb B ep' S b f l w7 (.returned u) w')→∃u0 u1,u= .tuple #[u0,u1]):=z7 fun u w' h=>by
    obtain ⟨-, -,h⟩:=h;obtain ⟨w7, -,⟨-,h, -⟩ | ⟨-,g,E',S',h, -⟩⟩:=h rfl
    ·simp only [Ending.returned.injEq] at h;exact ⟨_,_,h⟩
    ·simp only [Ending.returned.injEq] at h;exact ⟨_,_,h⟩
   have hkl6:=HK6.out.k.lt;clear hKw hDO hDO2;go_upto_region 12 with fail
   refine q6 11 58 (by kernel_rfl) (by kernel_rfl) rfl (by kernel_rfl) (fun D v w'=>z4t 5 2 (fun d u w'=>z2M w' kb rb bb tb∧(d=false→Below w6.heap.size w6 w')∧(d=true→∃w7,Below w6.heap.size w6 w7∧y2n rb bb mb B ep' S b f l w7 (.returned u) w')) D v w') (fun _=>undef) (z4t.start ⟨HK6.out.k.low (Below.refl _ _).drew,fun _=>(Below.refl _ _).drew,fun h=>by cases h⟩) ?_;simp only [List.take_succ_cons,List.take_zero,List.drop_succ_cons,List.drop_zero];iterate 4 (refine q8.read (e:=?_) (fun v=>by rfl) (fun D v w h=>h.read _ (by omega)) (fun D v w' hD hS=>?_) ?_;rotate_left;(have hk':=hS.t.1;obtain ⟨k0,k1,k2,kf⟩:=hk'.cells;have lk:=hk'.lt;clear hk';clear hS hD;first | (go_simp;done) | (go_simp;with_reducible rfl));go_simp)
   refine q8.read (.agg PC) (fun v=>by rfl) (fun D v w h=>h.read _ (by omega)) (fun D v w' hD hS=>?_) ?_
   ·have d5:D 5=false:=hD.post 5 _ rfl (by kernel_rfl);exact z1M _ _ rfl g8 0 rfl _ (z2a ((HLW6.out.call (hS.t.2.1 d5)).get 0 rfl)) z2z HPC3.out
   go_simp;refine q8.rel (fun v=>by rfl) (fun D v w' hD hS=>?_) ?_
   ·have d5:D 5=false:=hD.self;have hb:=hS.t.2.1 d5;have hkb:=hS.t.1;have hcall:=z7 (HDO.out w' (HK6.out.low hb) (HBI6.out.low hb));have HZ:=z7 hS;have HB:=z7 hb;have HD5:=z7 d5;have HKB:=z7 hkb;clear hS hD hb d5 hkb;go_simp;go_at_call 43;refine hcall.out.mono ?_;intro e w2 ht;obtain ⟨u,rfl⟩:∃u,e= .returned u:=by
     obtain ⟨-,h, -⟩ | ⟨-,g,E',S',h, -⟩:=ht
     ·exact ⟨_,h⟩
     ·exact ⟨_,h⟩
    have hk2:z2M w2 kb rb bb tb:=by
     rcases ht with ⟨-, -,hb2⟩ | ⟨-,g,E',S', -, -, -, -,ho, -⟩
     ·exact HKB.out.low hb2
     ·exact (ho.block kb HKB.out.lt H.out.kS).trans HKB.out
    exact HZ.out.called HD5.out ⟨hk2,(fun h=>by cases h),fun _=>⟨w',HB.out,ht⟩⟩
   go_simp;refine q8.rel (fun v=>by rfl) (fun D v w' hD hS=>?_) ?_;(focus (have dn:=hD.pre 5 (by kernel_rfl);have hm:=z7 (hS.moved dn);clear hD hS dn;go_simp;first | exact hm.out | exact ⟨_,rfl,hm.out,trivial⟩));go_simp;refine q8.rel (fun v=>by rfl) (fun D v w' hD hS=>?_) ?_;(focus (have dn:=hD.pre 6 (by kernel_rfl);obtain ⟨u0,u1,hu⟩:=HTUP.out _ _ (by have h0:=hS.t;rw [(hS.mv dn).1] at h0;exact h0);have hm:=z7 (hS.ext 0 (by omega) dn (show z8I _ _=_ by rw [hu]));have hv:=(hS.mv dn).2;rw [hu] at hv;clear hD hS dn;go_simp;first | exact hm.out | exact ⟨_,rfl,hm.out,trivial⟩));go_simp;refine q8.rel (fun v=>by rfl) (fun D v w' hD hS=>?_) ?_;(focus (have dn:=hD.pre 6 (by kernel_rfl);obtain ⟨u0,u1,hu⟩:=HTUP.out _ _ (by have h0:=hS.t;rw [(hS.mv dn).1] at h0;exact h0);have hm:=z7 (hS.ext 1 (by omega) dn (show z8I _ _=_ by rw [hu]));have hv:=(hS.mv dn).2;rw [hu] at hv;clear hD hS dn;go_simp;first | exact hm.out | exact ⟨_,rfl,hm.out,trivial⟩));go_simp;refine q8.rel (fun v=>by rfl) (fun D v w' hD hS=>?_) ?_;(focus (have dn:=hD.pre 7 (by kernel_rfl);have hm:=z7 (hS.asg 0 (by omega) dn);clear hD hS dn;go_simp;first | exact hm.out | exact ⟨_,rfl,hm.out,trivial⟩));go_simp;refine q8.rel (fun v=>by rfl) (fun D v w' hD hS=>?_) ?_;(focus (have dn:=hD.pre 8 (by kernel_rfl);have hm:=z7 (hS.asg 1 (by omega) dn);clear hD hS dn;go_simp;first | exact hm.out | exact ⟨_,rfl,hm.out,trivial⟩));go_simp;refine q8.fin (fun v w7 hS=>?_);obtain ⟨-, -,ht⟩:=(z4t.fin rfl hS).1;obtain ⟨wm,hbm,ht⟩:=ht rfl
   obtain ⟨hno, -⟩ | ⟨-,g,E',S',hu,hgc,hge,hB',hO',hS'⟩:=ht
   ·exact absurd HT0.out hno
   simp only [Ending.returned.injEq] at hu;obtain ⟨-, -, -,hv9,hv10⟩:=z4t.parts2 rfl hS hu;rw [hv9,hv10];have Km:=HK6.out.low hbm;have hr7:z0L w7 rb bb ep':=(hO'.block rb Km.r.lt Km.rS).trans Km.r;have hK7:KIn w7 kb rb bb tb mb sb B E' S' F6 (takeB b f l) ep' s1:=Km.upd (hO'.mono fun x hx=> .inl (.inr (.inl hx))) hr7 hB' (Km.fs.same (fun x hx=>hO'.block x (Km.fs.lt x hx) (Km.sF x hx)) hO'.size) HOK1.out hS' (fun _ h=> .inl h) (fun x hx hs=>by
    rcases hS' x hs with h | h
    ·exact Km.sF x hx h
    ·have:=Km.fs.lt x hx;omega)
   have hLW7:z0s (KU rb S F) w w7:=(HLW6.out.call hbm).low.trans hO' (fun x hx=> .inl (.inr (.inl hx)));have hA:=y9j (b:=takeB b f l) (k:=4) (ep:=ep') (id:=f.series) (by decide) (by rw [HEPE.out];exact HF.out.epoch) HF.out.series (hB'.serOk _) (y2h b f l hfew);have hga:=z7 (y4O g 1 1 [z5i (takeB b f l) 4 ep' f.series] (fun y hy=>by rw [List.mem_singleton.1 hy];exact hA) (by decide) w7 (z9r.one hgc));have HK7:=z7 hK7;have HLW7:=z7 hLW7;have HS':=z7 hS';have hszm:=hbm.size;have hsz7:w.heap.size≤w7.heap.size:=hLW7.size;have hwm:w.heap.size≤wm.heap.size:=(HLW6.out.call hbm).low.size;have hw6:w.heap.size≤w5.heap.size:=hsz5;clear hS hu hgc hge hB' hO' hS' hv9 hv10 Km hr7 hK7 hLW7 hA hbm;go_wp2_with (refine hga.out.mono ?_;rintro e w8 ⟨a6,m6,c6,xs,rfl,hm6,hno,hxs,hb6⟩;have HM6:=z7 hm6;have HNO:=z7 hno;have HXS:=z7 hxs;have HB6:=z7 hb6;clear hm6 hno hxs hb6);go_ret2;rw [HKW2.out];refine ⟨KU rb S' F6,⟨rb,tb,mb,B,E',S',F6,HK7.out.low HB6.out,rfl⟩,HLW7.out.trans (S':=fun _=>False) (z0s.of_below HB6.out) (fun _ h=>h.elim),fun x hx=>?_, .inr ⟨rfl,a6,m6,c6,xs,rfl,HM6.out,⟨z0i HNO.out.row hsz7,fun x hx=>z0i (HNO.out.ent x hx) hsz7⟩,HXS.out,fun j hj hu=>by have h1:=HNO.out.ge hj;have h2:=HK7.out.lt hu;omega⟩⟩;rcases hx with h | h | h
   ·exact .inl (.inl h)
   ·rcases HS'.out x h with h | h
    ·exact .inl (.inr (.inl h))
    ·exact .inr (by omega)
   ·rcases HC6.out.fresh x h with h | h
    ·exact .inl (.inr (.inr h))
    ·exact .inr (by omega)
  ·have d:((e1:Int)==0)=false:=beq_false_of_ne he1;have hKw:K=(e1, [],b,ep',s1):=by rw [HKV.out,if_pos he1]
   have HKW2:=z7 hKw;have HE1:=z7 he1;clear hKw he1;go_wp2;go_ret2;rw [HKW2.out];refine ⟨KU rb S F6,⟨rb,tb,mb,B,E,S,F6,HK6.out,rfl⟩,HLW6.out.low,fun x hx=>?_, .inl ⟨HE1.out,rfl⟩⟩;rcases hx with h | h | h
   ·exact .inl (.inl h)
   ·exact .inl (.inr (.inl h))
   ·rcases HC6.out.fresh x h with h | h
    ·exact .inl (.inr (.inr h))
    ·exact .inr (Nat.le_trans hsz5 h)
end Go.Proofs.YtfcnapnopdomhaaGreatDoor

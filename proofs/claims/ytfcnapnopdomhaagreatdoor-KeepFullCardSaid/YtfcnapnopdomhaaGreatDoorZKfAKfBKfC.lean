/-
  The walk of the law KeepFull.
-/
import Derived.Test.YtfcnapnopdomhaaGreatDoorZLyA
import Derived.Deep.DeepCutAuto
import Derived.Lib.LaidTab
import Derived.Stop.LaidErr
import Derived.MakeChecks
namespace Go.Proofs.YtfcnapnopdomhaaGreatDoor
set_option linter.unusedSimpArgs false
set_option linter.unusedVariables false
set_option maxRecDepth 100000
set_option maxHeartbeats 12800000
section
open Go.RowKit Go.Maps
theorem q1i:(Tryz.prog.underlying 30).map z7q=some true:=by kernel_rfl
theorem y8V:(Tryz.prog.info? 30).map (·.size)=some 6:=by kernel_rfl
theorem y4g{id:Nat}(hid:id<64)(x:z1K):∀(A:List (Nat×List z1K)),(∀p∈A,p.1<64)→∀p∈z7s id x A,p.1<64
 | [],h,p,hp=>by
  unfold z7s at hp;rw [List.mem_singleton.1 hp];exact hid
 | (i,l)::A,h,p,hp=>by
  have h0:=h _ List.mem_cons_self;unfold z7s at hp;split at hp
  ·rcases List.mem_cons.1 hp with rfl | hp
   ·exact h0
   ·exact h p (List.mem_cons_of_mem _ hp)
  ·rcases List.mem_cons.1 hp with rfl | hp
   ·exact h0
   ·exact y4g hid x A (fun q hq=>h q (List.mem_cons_of_mem _ hq)) p hp
theorem y6q:∀(L:List LOp) (r:z0m×List (Nat×List z1K)),(∀p∈r.2,p.1<64)→∀p∈(L.foldl z1Y r).2,p.1<64
 | [],r,h=>h
 | o::L,r,h=>by
  rw [List.foldl_cons];refine y6q L (z1Y r o) ?_;unfold z1Y;split
  ·exact h
  ·exact y4g (by omega) _ r.2 h
def y3I(W2 wr:World)(kb kbb sb:Nat)(disk:Nat)(ab:z0m):Prop:=
 Below W2.heap.size W2 wr∧∃kbk s U,q1a wr kb kbb sb kbk 0 s U∧(∀x,U x→W2.heap.size≤x)∧y7b ab kbk∧s.room=disk∧s.left=none∧s.has z2o=true
theorem y7H{w:World}{bb mb B:Nat}{E:List (Int×z0C)}{b:z0m}{S:Nat→Prop}(h:z0r w bb mb E b B S):b.all.Pairwise fun p q=>p.1≠q.1:=by
 have h1:=(h.map.mok z6j).1.1;rw [h.all,List.pairwise_map];exact h1
theorem q1w{w:World}{sb:Nat}{s:FsS}{F:List Nat}(h:z1p w sb s F):s.files.Pairwise fun p q=>p.1≠q.1:=by
 obtain ⟨mb,wv,lp,E,L,hI, -⟩:=h;have h1:=(hI.map.mok z3P).1.1;rw [hI.files,List.pairwise_map];exact h1
theorem y3I.low{W2 wr w':World}{kb kbb sb disk:Nat}{ab:z0m}(h:y3I W2 wr kb kbb sb disk ab)(hb:Below wr.heap.size wr w'):y3I W2 w' kb kbb sb disk ab:=by
 obtain ⟨h1,kbk,s,U,⟨rb,tb,mb,B,E,S,F,hK,e⟩,h2⟩:=h;exact ⟨h1.trans (hb.mono h1.size),kbk,s,U,⟨rb,tb,mb,B,E,S,F,hK.low hb,e⟩,h2⟩
theorem y2R(room:Int):z2t (z6q room) z2o=(0,⟨room, [(z2o, [])], [],none,false⟩, []):=by
 have hr:z0W []=([],0):=by decide+kernel
 have hm:z3h (z2b (z6q room) z2o) z2o=(0,⟨room, [(z2o, [])], [],none,false⟩):=rfl;unfold z2t;rw [if_neg (by decide),hm];rw [if_neg (show ¬((0:Int)≠0) by decide)];have hg:z5X (⟨room, [(z2o, [])], [],none,false⟩:FsS) z2o= []:=rfl;simp only;unfold z4W;rw [hg,hr];rfl
theorem y2p(disk:Nat)(hdk:disk<65536)(size:Int)(hs: -9223372036854775808≤size∧size≤9223372036854775807)(a:Option Addr)(n c:Nat)(L:List LOp)(hL:∀o∈L,o.Ok)(w:World)(h:y0M w a n L)(hdb:z1m w):
  Calls Tryz.prog 3 #[.int .u16 (disk:Nat), .int .i64 size, .slice a n c] w fun e w'=>e= .returned (.bool true)∧Below w.heap.size w w':=by
 have HKN:=z7 (fun w' h=>y9d w' h);have HDB:=z7 hdb;have H:=z7 h;have HLK:=z7 hL;have hdl:=hdb.lt;clear h hdb hL;by_cases h40:40<n
 ·have d1:decide ((40:Int)<(n:Int))=true:=decide_eq_true (by omega);go_enter Tryz.func3,Tryz.ntmps3;go_wp2_with fail;refine (HKN.out w HDB.out).mono ?_;rintro e w1 ⟨rfl,hb1⟩;have HB1:=z7 hb1;clear hb1;go_wp2;go_ret;exact ⟨rfl,HB1.out⟩
 ·have d1:decide ((40:Int)<(n:Int))=false:=decide_eq_false (by omega);go_enter Tryz.func3,Tryz.ntmps3;go_wp2_with fail;refine (HKN.out w HDB.out).mono ?_;rintro e w1 ⟨rfl,hb1⟩;have HLAY:=z7 (q3h size hs a n c L HLK.out (by omega) w1 (H.out.low hb1) (HDB.out.low hb1));have HB1:=z7 hb1;clear hb1;go_wp2_with fail;refine HLAY.out.mono ?_;rintro e W1 ⟨abb,X,a1,m1,c1,rfl,hLI,hXm,hPI⟩;have HLI:=z7 hLI;have HXM:=z7 hXm;have HPI:=z7 hPI;have hal:Below W1.heap.size W1 (W1.alloc (.cells (y5i (64:Nat) 9000 (24:Nat) 500 10 disk) 30)):=q5 _ _;have HAL:=z7 hal;clear hLI hXm hPI hal HLAY;obtain ⟨W2,hW2⟩:∃W,W=W1.alloc (.cells (y5i (64:Nat) 9000 (24:Nat) 500 10 disk) 30):=⟨_,rfl⟩;go_upto_region 5 with fail
  refine z0D hW2 ?_;have hcb:W2.heap[W1.heap.size]? =some (.cells (y5i (64:Nat) 9000 (24:Nat) 500 10 disk) 30 (0,0)):=by rw [hW2];exact j8 _ _
  have hb2:Below W1.heap.size W1 W2:=by rw [hW2];exact HAL.out
  obtain ⟨cb,hcbe⟩:∃cb,cb=W1.heap.size:=⟨_,rfl⟩;rw [←hcbe] at hcb ⊢;have HCB:=z7 hcb;have HB2:=z7 hb2;have hcl:cb<W2.heap.size:=(Array.getElem?_eq_some_iff.1 hcb).1;have hLI2:=HLI.out.next hb2
  have HLI2:=z7 hLI2;have hb02:Below w.heap.size w W2:=HB1.out.trans (hLI2.low.mono HB1.out.size);have HB02:=z7 hb02;have hdb2:=HDB.out.low hb02;have HDB2:=z7 hdb2;have HNEW:=z7 (y9O (disk:Int) (by omega) (by omega) W2);obtain ⟨c0,c1,c2,c3,c4,c5,cf⟩:=y0k hcb;clear hcb hb2 hW2 hcbe hLI2 hb02 hdb2 HAL;go_wp2_with fail;refine HNEW.out.mono ?_;rintro e w3 ⟨sb,F,rfl,hF,hFge,hb3⟩;have hcfg3:=(hb3.block cb hcl).trans HCB.out;have HOP:=z7 (y6o sb (z6q disk) F 64 24 9000 500 10 disk ⟨by omega,by omega,by omega,by omega,by omega,by omega⟩ (by rw [y2R]) (by rw [y2R]) w3 hF (y3H (by omega) (by omega)) (HDB2.out.low hb3) (fun hm=>by have:=hFge _ hm;have:=HDB2.out.lt;omega));have HFge:=z7 hFge;have HB3:=z7 hb3;have HCF3:=z7 hcfg3;clear hF hFge hb3 HNEW c0 c1 c2 c3 c4 c5 cf hcfg3;go_wp2_with (refine z0N rfl 30 _ rfl cb 0 rfl (y5i (64:Nat) 9000 (24:Nat) 500 10 disk) (z2a HCF3.out) q1i y8V ?_);refine HOP.out.mono ?_;rintro e w4 ⟨kb,rb,kbb,tb,mb,B,E,S,F2,rfl,hK,hC,hS,hrb,hkb,htb,hbb⟩;rw [y2R] at hK;simp only at hK;have hb4:Below W2.heap.size W2 w4:=HB3.out.trans (hC.below HB3.out.size HFge.out);have hU:∀x,KU rb S F2 x→W2.heap.size≤x:=fun x hx=>by
   have hs1:=HB3.out.size;rcases hx with h | h | h
   ·omega
   ·have:=hS x h;omega
   ·rcases hC.fresh x h with e | e
    ·exact HFge.out x e
    ·omega
  have haok:∀id,(z0f (y5j size L).1 id).Ok:=fun id=>by
   obtain ⟨mb,E,S,h1, -, -⟩:=HLI.out.bk;exact h1.serOk id
  obtain ⟨ab,hab⟩:∃ab,ab=(y5j size L).1:=⟨_,rfl⟩;rw [←hab] at HLI2 HPI haok;have hst:y3I W2 w4 kb kbb sb disk ab:=⟨hb4,_,_,_,⟨rb,tb,mb,B,E,S,F2,hK,rfl⟩,hU,y7b.start ab haok,rfl,rfl,rfl⟩;have HST:=z7 hst;have HAOK:=z7 haok;clear hst haok hb4 hU hK hC hS hrb hkb htb hbb HOP HCF3 hab HLI;have hids:∀x∈X,x.id<64:=fun x hx=>y6q L (⟨64,z4j size, []⟩, []) (fun p hp=>by cases hp) (x.id,x.xs) (by
   have h9:=HXM.out;unfold y5j at h9;rw [←h9];exact List.mem_map.2 ⟨x,hx,rfl⟩)
  have HIDS:=z7 hids;have hm1:=(z1C HLI2.out.row).1;have hm2:=(z1C HLI2.out.row).2;have HML:=z7 HLI2.out.len;clear hids;go_wp2_with fail;go_loopw [13] (fun iv wr=>∃i:Nat,iv= .int .i64 (i:Nat)∧i≤m1∧Hid (y3I W2 wr kb kbb sb disk ab)) (fun iv _=>match iv with | .int _ y=>m1 - y.toNat | _=>0)
  case atStart=>exact ⟨0,rfl,Nat.zero_le _,HST⟩
  case round=>
   obtain ⟨i,rfl,hi,hKo⟩:=hrel;by_cases him:i<m1
   ·have hwi:IntKind.i64.wrap ((i:Int)+1)=((i+1:Nat):Int):=z0n (by omega) (by omega);have d2:decide ((i:Int)<(m1:Int))=true:=decide_eq_true (by omega);obtain ⟨⟨id,xa,xc,xs⟩,hx⟩:∃x,X[i]? =some x:=⟨_,List.getElem?_eq_getElem (by have:=HML.out;omega)⟩;have hid64:id<64:=HIDS.out _ (List.mem_of_getElem? hx);have hLIr:=HLI2.out.next hKo.out.1
    obtain ⟨ga,rfl,hga⟩:=hLIr.at' hx;obtain ⟨lga,ha0,ha1,haf⟩:=hga wr (Below.refl _ _);have hin:(0:Int)≤i∧(i:Int)<m1:=by omega
    have HKO:=z7 hKo.out;clear hx hLIr hga ha1;go_wp2_with fail;clear ha0 lga haf hin;go_loopw [15] (fun nv w9=>∃k:Nat,nv= .int .i64 (k:Nat)∧k≤60∧Hid (y3I W2 w9 kb kbb sb disk ab)) (fun nv _=>match nv with | .int _ y=>60 - y.toNat | _=>0)
    case atStart=>exact ⟨0,rfl,Nat.zero_le _,HKO⟩
    case round=>
     obtain ⟨k,rfl,hk,hKi⟩:=hrel;have hwk:IntKind.i64.wrap ((k:Int)+1)=((k+1:Nat):Int):=z0n (by omega) (by omega);by_cases hk60:k<60
     ·have d3:decide ((k:Int)<60)=true:=decide_eq_true (by omega);obtain ⟨hbW,kbk,s,U,⟨rb,tb,mb,B,E,S,F,hKI,rfl⟩,hU,hinv,hroom,hleft,hhas⟩:=hKi.out;have hBook:=z7 (z9J kb rb kbb tb wr hKI.k);have hfewA:(z0f ab id).done.length≤40:=by have:=HPI.out.few id;have:=H.out.1;omega
      have hfr:=hinv.front id;have hfewK:(z0f kbk id).done.length≤40:=Nat.le_trans hfr.le hfewA;have hEnd:=z7 (y2L kbb mb B E kbk S id (by omega) (by omega) wr hKI.bk);have hkok:=hfr.ok (HAOK.out id);have hb24:=hkok.cur.len;have hbb:=hkok.cur.bits;obtain ⟨⟨DC,EB,EC⟩,hDE⟩:∃e,e=z1U (z0f kbk id):=⟨_,rfl⟩;have hDE':=hDE;unfold z1U at hDE';simp only [Prod.mk.injEq] at hDE';have hDCl:DC≤40:=by omega
      have hEBl:EB<4294967296:=by omega
      have hECl:EC<4294967296:=by omega
      rw [←hDE] at hEnd;have HDE:=z7 hDE;have HKI:=z7 hKI;have HU:=z7 hU;have HINV:=z7 hinv;have HROOM:=z7 hroom;have HLEFT:=z7 hleft;have HHAS:=z7 hhas;have HBW:=z7 hbW;clear hbW hKI hU hinv hroom hleft hhas hfr hkok hDE hDE' hb24 hbb;go_wp2_with fail;refine hBook.out.mono ?_;rintro e w' ⟨rfl,hew⟩;cases hew.symm;go_wp2_with fail;refine hEnd.out.mono ?_;rintro e w5 ⟨rfl,hb5⟩;have HB5:=z7 hb5;clear hb5 hBook hEnd;obtain ⟨W6,hW6,hL6⟩:=((Loc.start w5).new (.cells #[.int .u32 DC, .int .u32 EB, .int .u32 EC] 42)).named;go_upto_region 19 with fail
      refine z0D hW6 ?_;have HL6:=z7 hL6;have hbW6:Below W2.heap.size W2 W6:=HBW.out.trans ((HB5.out.trans (hL6.low.mono HB5.out.size)).mono HBW.out.size);obtain ⟨mbA,EA,SA,hbkA, -, -⟩:=(HLI2.out.next hbW6).bk;have HCUT:=z7 (q2F abb mbA w1.heap.size EA ab SA id (by omega) DC EB EC (by omega) hEBl hECl 300 (by omega) (by omega) W6 hbkA);have HBW6:=z7 hbW6;obtain ⟨R,hRe⟩:∃R,R=z5A (z0f ab id) id (DC,EB,EC) 300:=⟨_,rfl⟩;have hfc:=y2b (HAOK.out id) (HPI.out.rise id) (HINV.out.front id) id 300;rw [←HDE.out,←hRe] at hfc;have hcut2:=HCUT.out;unfold y6z at hcut2;rw [←hRe] at hcut2;have HCUT:=z7 hcut2;have HRE:=z7 hRe;have HFC:=z7 hfc.2;have herr0:=hfc.1;obtain ⟨rerr,rs,⟨p1,p2,p3⟩,M,cd,bl,sm,⟨t1,t2,t3⟩⟩:=R;simp only at herr0;subst herr0;obtain ⟨p0,p1',p2',pf⟩:=cells3 (hL6.get 0 rfl);have l0:=hL6.lt 0 rfl;clear hL6 hbW6 hbkA hRe hfc hcut2 hW6;go_wp2_with fail;refine HCUT.out.mono ?_;rintro e w7 ⟨ca,cc,b7,rfl,hrow7,hbits7,hb7⟩;have HL7:=z7 (((HL6.out.call hb7).new (.cells z1Q 50)).new' (.cells #[.int .u32 0, .int .u32 0, .int .u32 0] 42) (n:=w7.heap.size+1) (by simp));obtain ⟨bn,hbn⟩:∃bn,bn=b7.length:=⟨_,rfl⟩;have hfrv:frV ((⟨0,rs,(p1,p2,p3),M,cd,bl,sm,(t1,t2,t3)⟩:y3a).fr b7) (.slice ca b7.length cc)= .agg #[.int .u8 0, .int .u32 0, .int .u32 rs, .int .u32 p1, .int .u32 p2, .int .u32 p3, .int .u32 M, .bool cd, .int .u64 sm, .slice ca bn cc, .int .i64 (bl.length:Nat)]:=by rw [hbn];rfl
      rw [hfrv];have HBN:=z7 hbn;have HROW7:=z7 hrow7;have HBI7:=z7 hbits7;have HB7:=z7 hb7;have hs1:=z7 (z0y (HL7.out.get 1 rfl) (n:=11) rfl);have hz1:=z7 (z0B (HL7.out.get 1 rfl));clear hrow7 hbits7 hb7 hbn hfrv p0 p1' p2' pf l0 HCUT;obtain ⟨W8,hW8,hL8⟩:=((z0E.of (S:=fun _=>False) HL7.out).lay (K':= [(w7.heap.size+1, .cells #[.int .u32 0, .int .u32 0, .int .u32 0] 42 (0,0)),(w7.heap.size, .cells #[.int .u8 0, .int .u32 0, .int .u32 rs, .int .u32 p1, .int .u32 p2, .int .u32 p3, .int .u32 M, .bool cd, .int .u64 sm, .slice ca bn cc, .int .i64 (bl.length:Nat)] 50 (0,0)),(w5.heap.size, .cells #[.int .u32 DC, .int .u32 EB, .int .u32 EC] 42 (0,0))]) 1 0 [.int .u8 0, .int .u32 0, .int .u32 rs, .int .u32 p1, .int .u32 p2, .int .u32 p3, .int .u32 M, .bool cd, .int .u64 sm, .slice ca bn cc, .int .i64 (bl.length:Nat)] rfl rfl rfl rfl).named;have HW8:=z7 hW8;have HL8:=z7 hL8;obtain ⟨q0,q1,q2,qf⟩:=cells3 (HL8.out.get 0 rfl);have lq:=HL8.out.lt 0 rfl;clear hW8 hL8;go_upto_region 20 with (refine z0h rfl 50 _ _ rfl w7.heap.size 0 rfl #[.int .u8 0, .int .u32 0, .int .u32 rs, .int .u32 p1, .int .u32 p2, .int .u32 p3, .int .u32 M, .bool cd, .int .u64 sm, .slice ca bn cc, .int .i64 (bl.length:Nat)] rfl hs1.out hz1.out z0z (by simp [Value.oneCell']) ?_;refine z8G HW8.out ?_)
      obtain ⟨W9,hW9,hL9⟩:=(HL8.out.lay (K':= [(w7.heap.size+1, .cells #[.int .u32 t1, .int .u32 t2, .int .u32 t3] 42 (0,0)),(w7.heap.size, .cells #[.int .u8 0, .int .u32 0, .int .u32 rs, .int .u32 p1, .int .u32 p2, .int .u32 p3, .int .u32 M, .bool cd, .int .u64 sm, .slice ca bn cc, .int .i64 (bl.length:Nat)] 50 (0,0)),(w5.heap.size, .cells #[.int .u32 DC, .int .u32 EB, .int .u32 EC] 42 (0,0))]) 0 0 [.int .u32 t1, .int .u32 t2, .int .u32 t3] rfl rfl rfl rfl).named;refine z0D hW9 ?_;have HL9:=z7 hL9.toLoc;have o79:Below w7.heap.size w7 W9:=by
       have h5:Below w7.heap.size w7 ((w7.alloc (.cells z1Q 50)).alloc (.cells #[.int .u32 0, .int .u32 0, .int .u32 0] 42)):=(q5 _ _).trans ((q5 _ _).mono (by simp));have o6:z0s (fun k=>w7.heap.size≤k) ((w7.alloc (.cells z1Q 50)).alloc (.cells #[.int .u32 0, .int .u32 0, .int .u32 0] 42)) W8:=by
        rw [HW8.out];exact z0s.setCells (S:=fun k=>w7.heap.size≤k) (Nat.le_refl _) _ _ _
       have o7:z0s (fun k=>w7.heap.size≤k) W8 W9:=by
        rw [hW9];exact z0s.setCells (S:=fun k=>w7.heap.size≤k) (Nat.le_succ _) _ _ _
       exact z0s.below (((z0s.of_below h5).trans o6 fun k hk=> .inl hk).trans o7 fun k hk=> .inl hk) (Nat.le_refl _) (fun k hk=>hk)
      have HB79:=z7 o79;have hbr9:Below wr.heap.size wr W9:=HB5.out.trans (HL9.out.low.mono HB5.out.size);have HBR9:=z7 hbr9;clear hL9 hW9 o79 q0 q1 q2 qf lq hbr9;obtain ⟨f0,f1,f2,f3,f4,f5,f6,f7,f8,f9,f10,ff⟩:=z0q (HL9.out.get 1 rfl);have lf:=HL9.out.lt 1 rfl;by_cases hM:M=0
      ·have d4:((M:Int)==0)=true:=by rw [hM];rfl
       go_wp2;exact ⟨⟨i+1,rfl,by omega,z7 (hKi.out.low HBR9.out)⟩,by show m1 - ((i+1:Nat):Int).toNat<m1 - (i:Int).toNat;omega⟩
      ·have d4:((M:Int)==0)=false:=beq_false_of_ne (by omega);obtain ⟨st,hst⟩:=HFC.out.resolve_left hM;go_upto_region 22 with fail
       have hL10:=HL9.out.set 1 rfl 0 (.int .u8 2);have o910:z0s (fun k=>k=w7.heap.size) W9 (W9.setCell ⟨w7.heap.size,0,none⟩ (.int .u8 2)):=z0s.setCell W9 _ rfl;obtain ⟨W10,hW10⟩:∃W,W=W9.setCell ⟨w7.heap.size,0,none⟩ (.int .u8 2):=⟨_,rfl⟩;refine z0D hW10 ?_;rw [←hW10] at hL10 o910;have hg10:W10.heap[w7.heap.size]? =some (.cells #[.int .u8 2, .int .u32 0, .int .u32 rs, .int .u32 p1, .int .u32 p2, .int .u32 p3, .int .u32 M, .bool cd, .int .u64 sm, .slice ca bn cc, .int .i64 (bl.length:Nat)] 50 (0,0)):=hL10.get 1 rfl;have hb710:Below w7.heap.size w7 W10:=HB79.out.trans (o910.below HB79.out.size (fun k hk=>by omega));have hbr10:Below wr.heap.size wr W10:=HB5.out.trans (hL10.low.mono HB5.out.size);obtain ⟨f,hf⟩:∃f,f=z5r ⟨0,rs,(p1,p2,p3),M,cd,bl,sm,(t1,t2,t3)⟩ b7:=⟨_,rfl⟩;have hkl:=q2d HINV.out HAOK.out (HPI.out.rise) (y7H HKI.out.bk) hid64 300 b7 (by rw [←HDE.out,←HRE.out];exact HBI7.out) (by rw [←HDE.out,←HRE.out];exact hM);rw [←HDE.out,←HRE.out,←hf] at hkl;have hse:rs=id:=hst.series;have hpe:(p1,p2,p3)=(DC,EB,EC):=by have h9:=hst.p;rw [←HDE.out] at h9;exact h9
       simp only [Prod.mk.injEq] at hpe;have hsl:sm<18446744073709551616:=by
        have h9:sm=z3b 0 (z0f kbk id).cur.l:=hst.sum;rw [h9];exact Nat.lt_trans (y0K _ _ (by decide)) (by decide)
       have hM24:M≤24:=hst.count;have hbl0:0<bl.length:=hst.bits0;have hbl1:bl.length≤3504:=hst.bits1;have hmore:(z0f kbk id).cur.st.length<M:=hst.more;have hb7l:=HBI7.out.len;have hECe:EC=(z0f kbk id).cur.st.length:=by have h9:=HDE.out;unfold z1U at h9;simp only [Prod.mk.injEq] at h9;exact h9.2.2
       have hfok:f.Ok:=by
        rw [hf];exact ⟨(by decide:2<256),(by decide:0<4294967296),(by show rs<_;omega),(by show p1<_;omega),(by show p2<_;omega),(by show p3<_;omega),(by show M<_;omega),hsl,(by show _≤((bl.length:Nat):Int);omega),(by show ((bl.length:Nat):Int)≤_;omega)⟩
       have hfmay:z1D f=true:=by
        rw [hf];show z4G (z5r ⟨0,rs,(p1,p2,p3),M,cd,bl,sm,(t1,t2,t3)⟩ b7)=true;unfold z4G z5r;simp only;rw [z2s HBI7.out];simp only [Bool.true_and,Bool.and_eq_true,decide_eq_true_eq];omega
       have hfn:f.n=((bl.length:Nat):Int):=by rw [hf];rfl
       have hfbits:z0U f.b bl:=by rw [hf];exact HBI7.out
       have hfbl:f.b.length=bn:=by rw [hf];exact HBN.out.symm
       have hfk:f.kind≠1:=by rw [hf];show 2≠1;decide
       have hfser:f.series=id:=by rw [hf];exact hse
       have hx10:RdB W10 (.slice ca f.b.length cc) f.b:=by
        have h9:=z0d (ownsRow_below HROW7.out hb710 (Nat.le_refl _));rw [hf];exact h9
       have henc:=z6C f ca cc W10 hfok (by rw [hfbl,HBN.out];omega) hx10 hfmay;have hfv:frV f (.slice ca f.b.length cc)= .agg #[.int .u8 2, .int .u32 0, .int .u32 rs, .int .u32 p1, .int .u32 p2, .int .u32 p3, .int .u32 M, .bool cd, .int .u64 sm, .slice ca bn cc, .int .i64 (bl.length:Nat)]:=by rw [hfbl,hf];rfl
       rw [hfv] at henc;have HENC:=z7 henc;have HL10:=z7 hL10;have HG10:=z7 hg10;have HBR10:=z7 hbr10;have HKL:=z7 hkl;have HFOK:=z7 hfok;have HFMAY:=z7 hfmay;have HFN:=z7 hfn;have HFB:=z7 hfbits;have HFK:=z7 hfk;have HFSER:=z7 hfser;clear hL10 o910 hW10 hg10 hb710 hbr10 hf hkl hse hpe hsl hM24 hbl0 hmore hb7l hECe hfok hfmay hfn hfbits hfbl hfk hfser hx10 henc hfv hst f0 f1 f2 f3 f4 f5 f6 f7 f8 f9 f10 ff lf;go_wp2_with (refine z0N rfl 50 _ rfl w7.heap.size 0 rfl _ (z2a HG10.out) z1H z0z ?_);refine HENC.out.mono ?_;rintro e w11 ⟨ea,em,ec,rfl,⟨hem,hrow11⟩,hb11⟩;have hbr11:Below wr.heap.size wr w11:=HBR10.out.trans (hb11.mono HBR10.out.size);have KI11:=HKI.out.low hbr11;have hcap:=z1C hrow11;have HUSED:=z7 (z6Z sb s F w11 KI11.fs KI11.ok);have hx11:∀w',Below w11.heap.size w11 w'→RdB w' (.slice ea em ec) (z0w f):=fun w' hb=>by have h9:=z0d (ownsRow_below hrow11 hb (Nat.le_refl _));unfold RdB;rw [←hem];exact h9
       have hdec:=y1r HFOK.out HFMAY.out;have HTK:=z7 (fun w' (hb:Below w11.heap.size w11 w')=>y2I kb rb kbb tb mb sb B 0 E S F kbk s ea em ec (z0w f) f bl hem hcap.1 hcap.2 hdec.1 hdec.2 HFK.out HFN.out HFB.out (by omega) (by omega) (by rw [HFSER.out];omega) w' (KI11.low hb) (hx11 w' hb));have hfk:=q1w KI11.fs;have hnl:(z3c f bl).length≤600:=by
        rw [y1B];have h9:=HFB.out.len;omega
       have hwr:=q3i KI11.ok hfk HHAS.out HLEFT.out (z3c f bl) hnl;have hwok:=y9S KI11.ok (z3c f bl);obtain ⟨⟨e1,s1⟩,hw⟩:∃r,r=wrS s (z3c f bl):=⟨_,rfl⟩;have htk:tkS kbk 0 s f bl=if e1≠0 then (e1, [],kbk,0,s1) else (0, [z6K (z5i (takeB kbk f bl) 4 0 f.series)],takeB kbk f bl,0,s1):=by
        unfold tkS;rw [HKL.out.1,←hw];simp only;rw [if_neg (by simp),if_neg (by simp)]
       rw [←hw] at hwr hwok;simp only at hwr hwok;obtain ⟨us,hus⟩:∃us,us=s.used:=⟨_,rfl⟩;have HUS:=z7 hus;rw [←hus] at HUSED hwr;clear hus;have HBR11:=z7 hbr11;have HWR:=z7 hwr;have HWOK:=z7 hwok;have HTKS:=z7 htk;clear hbr11 KI11 hcap hx11 hdec hfk hnl hwr hwok hw htk hem hrow11 HENC;go_wp2_with fail;refine HUSED.out.mono ?_;rintro e w12 ⟨rfl,hb12⟩;have HT12:=z7 (HTK.out w12 hb12);have HB1012:=z7 (show Below W10.heap.size W10 w12 from hb11.trans (hb12.mono hb11.size));have hbr12:Below wr.heap.size wr w12:=HBR11.out.trans (hb12.mono HBR11.out.size);have HBR12:=z7 hbr12;have HT12':=HT12.out;rw [HTKS.out] at HT12';clear hb11 hb12 hbr12 HUSED HTK HT12;have hbW12:Below W2.heap.size W2 w12:=HBW.out.trans (HBR12.out.mono HBW.out.size);have HBW12:=z7 hbW12;clear hbW12;by_cases he1:e1=0
       ·subst he1;rw [if_neg (by simp)] at HT12';have HT:=z7 HT12';clear HT12';go_wp2_with fail;refine HT.out.mono ?_;rintro e w13 ⟨U13,hK13,hO13,hU13,⟨hne, -⟩ | ⟨-,oa,om,oc,ox,rfl,hom, -,hox, -⟩⟩
        ·exact absurd rfl hne
        simp only at hK13 hox;have hox1:ox.length=1:=by have h9:=congrArg List.length hox;simpa using h9
        have hom1:om=1:=hom.trans hox1;subst hom1;obtain ⟨-,hu1,hr1,hl1,hh1⟩:(0:Int)=0∧us<s1.used∧s1.room=s.room∧s1.left=none∧s1.has z2o=true:=by
         rcases HWR.out with h | ⟨h, -⟩
         ·exact ⟨rfl,h.2⟩
         ·cases h
        have hu2:(s1.used:Int)≤disk:=by have h9:=HWOK.out.used;rw [hr1,HROOM.out] at h9;exact h9
        have hbW13:Below W2.heap.size W2 w13:=HBW12.out.trans (hO13.below HBW12.out.size HU.out);have hst13:y3I W2 w13 kb kbb sb disk ab:=⟨hbW13,_,_,U13,hK13,fun x hx=>by
         rcases hU13 x hx with h9 | h9
         ·exact HU.out x h9
         ·have:=HBW12.out.size;omega,HKL.out.2,hr1.trans HROOM.out,hl1,hh1⟩
        have HUSE:=z7 (fun w' (hb:Below w13.heap.size w13 w')=>show Calls Tryz.prog 17 #[.pointer (some ⟨sb,0,none⟩)] w' fun e w''=>e= .returned (.int .i64 (s1.used:Nat))∧Below w'.heap.size w' w'' from by
         obtain ⟨rb9,tb9,mb9,B9,E9,S9,F9,hK9, -⟩:=hK13;exact z6Z sb s1 F9 w' (hK9.low hb).fs (hK9.low hb).ok)
        have HST13:=z7 hst13;have HCB13:=z7 ((hbW13.block cb hcl).trans HCB.out);obtain ⟨u2,hu2e⟩:∃u2,u2=s1.used:=⟨_,rfl⟩;rw [←hu2e] at HUSE hu1 hu2;have d5:decide ((u2:Int)≤(us:Int))=false:=decide_eq_false (by omega);have d6:decide ((disk:Int)<(u2:Int))=false:=decide_eq_false (by omega);have d5':decide (u2≤us)=false:=decide_eq_false (by omega);have d6':decide (disk<u2)=false:=decide_eq_false (by omega);clear hK13 hO13 hU13 hom hox hox1 hr1 hl1 hh1 hbW13 hst13 hu2e HT;go_wp2_with fail;refine q6 16 150 (by kernel_rfl) (by kernel_rfl) rfl (by kernel_rfl) (fun D v w'=>Below w13.heap.size w13 w') (fun _=>undef) (Below.refl _ _).drew ?_;simp only [List.take_succ_cons,List.take_zero,List.drop_succ_cons,List.drop_zero];iterate 5 (refine q8.rd (e:=?_) (fun D v w' hD hS=>?_) ?_;rotate_left;(skip;clear hS hD;first | (go_simp;done) | (go_simp;with_reducible rfl));go_simp)
        refine q8.call (.int .i64 (u2:Nat)) (fun v=>by rfl) (fun D v w' hD hS=>?_) ?_;(focus (have HZ:=z7 hS;clear hS hD;skip;go_simp;go_at_call 17;refine (HUSE.out w' HZ.out).mono ?_;rintro e w'' ⟨rfl,hb⟩;exact ⟨rfl,HZ.out.trans (hb.mono HZ.out.size)⟩));go_simp;iterate 5 (refine q8.rd (e:=?_) (fun D v w' hD hS=>?_) ?_;rotate_left;(obtain ⟨c0,c1',c2,c3,c4,c5,cf⟩:=y0k ((hS.block cb (Array.getElem?_eq_some_iff.1 HCB13.out).1).trans HCB13.out);clear hS hD;first | (go_simp;done) | (go_simp;with_reducible rfl));go_simp)
        refine q8.call (.int .i64 (u2:Nat)) (fun v=>by rfl) (fun D v w' hD hS=>?_) ?_;(focus (have HZ:=z7 hS;clear hS hD;skip;go_simp;go_at_call 17;refine (HUSE.out w' HZ.out).mono ?_;rintro e w'' ⟨rfl,hb⟩;exact ⟨rfl,HZ.out.trans (hb.mono HZ.out.size)⟩));go_simp;iterate 4 (refine q8.rd (e:=?_) (fun D v w' hD hS=>?_) ?_;rotate_left;(obtain ⟨c0,c1',c2,c3,c4,c5,cf⟩:=y0k ((hS.block cb (Array.getElem?_eq_some_iff.1 HCB13.out).1).trans HCB13.out);have lcb:=Nat.lt_of_lt_of_le (Array.getElem?_eq_some_iff.1 HCB13.out).1 hS.size;clear hS hD;first | (go_simp;done) | (go_simp;with_reducible rfl));go_simp)
        refine q8.fin (fun v w14 hS=>?_);have HST14:=z7 (HST13.out.low hS);clear hS;go_wp2;exact ⟨⟨k+1,rfl,by omega,HST14⟩,by show 60 - ((k+1:Nat):Int).toNat<60 - (k:Int).toNat;omega⟩
       ·rw [if_pos he1] at HT12';obtain ⟨h82,hs82⟩:e1=82∧s1=s:=by
         rcases HWR.out with ⟨h, -⟩ | ⟨h,h9⟩
         ·exact absurd h he1
         ·simp only [Prod.mk.injEq] at h9;exact h9
        subst h82 hs82;have HT:=z7 HT12';clear HT12';go_wp2_with fail;refine HT.out.mono ?_;rintro e w13 ⟨U13,hK13,hO13,hU13,hcase⟩;have he9:e= .returned (.tuple #[.slice none 0 0, .int .u16 82]):=by
         rcases hcase with ⟨-,h9⟩ | ⟨h9, -⟩
         ·exact h9
         ·cases h9
        subst he9;simp only at hK13;have hbW13:Below W2.heap.size W2 w13:=HBW12.out.trans (hO13.below HBW12.out.size HU.out);have hst13:y3I W2 w13 kb kbb sb disk ab:=⟨hbW13,_,_,U13,hK13,fun x hx=>by
         rcases hU13 x hx with h9 | h9
         ·exact HU.out x h9
         ·have:=HBW12.out.size;omega,HINV.out,HROOM.out,HLEFT.out,HHAS.out⟩
        have HST13:=z7 hst13;have hp13:w13.heap[w5.heap.size]? =some (.cells #[.int .u32 DC, .int .u32 EB, .int .u32 EC] 42 (0,0)):=by
         have h1:=HL10.out.get 2 rfl;have h2:=HL10.out.lt 2 rfl;have h3:=(HB1012.out.block _ h2).trans h1;refine (hO13.block _ (Nat.lt_of_lt_of_le h2 HB1012.out.size) fun hu=>?_).trans h3;have h4:=HKI.out.lt hu;have h5:=HB5.out.size;omega
        have HP13:=z7 hp13;have HUSE:=z7 (fun w' (hb:Below w13.heap.size w13 w')=>show Calls Tryz.prog 17 #[.pointer (some ⟨sb,0,none⟩)] w' fun e w''=>e= .returned (.int .i64 (s1.used:Nat))∧Below w'.heap.size w' w'' from by
         obtain ⟨rb9,tb9,mb9,B9,E9,S9,F9,hK9, -⟩:=hK13;exact z6Z sb s1 F9 w' (hK9.low hb).fs (hK9.low hb).ok)
        have hBook:=z7 (fun w' (hb:Below w13.heap.size w13 w')=>show Calls Tryz.prog 13 #[.pointer (some ⟨kb,0,none⟩)] w' fun e w''=>e= .returned (.pointer (some ⟨kbb,0,none⟩))∧w''=w' from by
         obtain ⟨rb9,tb9,mb9,B9,E9,S9,F9,hK9, -⟩:=hK13;exact z9J kb rb9 kbb tb9 w' (hK9.low hb).k)
        have hEnd:=z7 (fun w' (hb:Below w13.heap.size w13 w')=>show Calls Tryz.prog 14 #[.pointer (some ⟨kbb,0,none⟩), .int .u32 id] w' fun e w''=>e= .returned (z3D (DC,EB,EC))∧Below w'.heap.size w' w'' from by
         obtain ⟨rb9,tb9,mb9,B9,E9,S9,F9,hK9, -⟩:=hK13;have h9:=y2L kbb mb9 B9 E9 kbk S9 id (by omega) (by omega) w' (hK9.low hb).bk;rw [←HDE.out] at h9;exact h9)
        rw [←HUS.out] at HUSE;have d7:((us:Int) !=(us:Int))=false:=by simp
        clear hK13 hO13 hU13 hbW13 hst13 hp13 hcase HT;go_wp2_with fail;refine q6 21 150 (by kernel_rfl) (by kernel_rfl) rfl (by kernel_rfl) (fun D v w'=>Below w13.heap.size w13 w') (fun _=>undef) (Below.refl _ _).drew ?_;simp only [List.take_succ_cons,List.take_zero,List.drop_succ_cons,List.drop_zero];iterate 9 (refine q8.rd (e:=?_) (fun D v w' hD hS=>?_) ?_;rotate_left;(skip;clear hS hD;first | (go_simp;done) | (go_simp;with_reducible rfl));go_simp)
        refine q8.call (.int .i64 (us:Nat)) (fun v=>by rfl) (fun D v w' hD hS=>?_) ?_;(focus (have HZ:=z7 hS;clear hS hD;skip;go_simp;go_at_call 17;refine (HUSE.out w' HZ.out).mono ?_;rintro e w'' ⟨rfl,hb⟩;exact ⟨rfl,HZ.out.trans (hb.mono HZ.out.size)⟩));go_simp;iterate 5 (refine q8.rd (e:=?_) (fun D v w' hD hS=>?_) ?_;rotate_left;(skip;clear hS hD;first | (go_simp;done) | (go_simp;with_reducible rfl));go_simp)
        refine q8.call (.pointer (some ⟨kbb,0,none⟩)) (fun v=>by rfl) (fun D v w' hD hS=>?_) ?_;(focus (have HZ:=z7 hS;clear hS hD;skip;go_simp;go_at_call 13;refine (hBook.out w' HZ.out).mono ?_;rintro e w'' ⟨rfl,hew⟩;exact ⟨rfl,(hew▸HZ.out)⟩));go_simp;iterate 1 (refine q8.rd (e:=?_) (fun D v w' hD hS=>?_) ?_;rotate_left;(skip;clear hS hD;first | (go_simp;done) | (go_simp;with_reducible rfl));go_simp)
        refine q8.call (z3D (DC,EB,EC)) (fun v=>by rfl) (fun D v w' hD hS=>?_) ?_;(focus (have HZ:=z7 hS;clear hS hD;skip;go_simp;go_at_call 14;refine (hEnd.out w' HZ.out).mono ?_;rintro e w'' ⟨rfl,hb⟩;exact ⟨rfl,HZ.out.trans (hb.mono HZ.out.size)⟩));go_simp;iterate 1 (refine q8.rd (e:=?_) (fun D v w' hD hS=>?_) ?_;rotate_left;(have hpw:=(hS.block _ (Array.getElem?_eq_some_iff.1 HP13.out).1).trans HP13.out;obtain ⟨q0,q1,q2,qf⟩:=cells3 hpw;have lq:=(Array.getElem?_eq_some_iff.1 hpw).1;clear hpw;clear hS hD;first | (go_simp;done) | (go_simp;with_reducible rfl));go_simp)
        refine q8.read (.bool false) (fun v=>by rfl) (fun D v w h=>h) (fun _ v w' hD hS=>z2V _ _ _ rfl (DC,EB,EC) (DC,EB,EC) rfl rfl false (by simp)) ?_;go_simp;iterate 1 (refine q8.rd (e:=?_) (fun D v w' hD hS=>?_) ?_;rotate_left;(skip;clear hS hD;first | (go_simp;done) | (go_simp;with_reducible rfl));go_simp)
        refine q8.fin (fun v w14 hS=>?_);have HST14:=z7 (HST13.out.low hS);clear hS;go_wp2;exact ⟨⟨i+1,rfl,by omega,HST14⟩,by show m1 - ((i+1:Nat):Int).toNat<m1 - (i:Int).toNat;omega⟩
     ·have d3:decide ((k:Int)<60)=false:=decide_eq_false (by omega);go_wp2;exact ⟨⟨i+1,rfl,by omega,hKi⟩,by show m1 - ((i+1:Nat):Int).toNat<m1 - (i:Int).toNat;omega⟩
   ·have d2:decide ((i:Int)<(m1:Int))=false:=decide_eq_false (by omega);go_wp2;go_ret;exact ⟨rfl,HB02.out.trans (hKo.out.1.mono HB02.out.size)⟩
end
section
open Go.RowKit Go.ChangeShapes Go.WideShapes Go.ChangeAt Go.Deep
theorem y7z{H:Type}{enc:TypeId×Value→H}{W:World}{fuel:Nat}{cs:List Value}{x:DataW H×List MemPlace}(h:DataW.trod enc Tryz.prog W 0 (fun _=>true) true fuel 23 cs=some x):
  ∃(a:Option Addr) (n c:Nat) (L:List LOp),cs= [.slice a n c]∧y0M W a n L∧(∀o∈L,o.Ok)∧n≤maxLen:=by
 rcases open_slice Tryz.underlying23 h with ⟨rfl,_⟩ | ⟨a,len,cap,m,n,D,Pl,rfl,_,hl,hm,hmm,_,hi⟩
 ·exact ⟨none,0,0, [],rfl,⟨rfl,fun k o hk=>by simp at hk⟩,(fun o ho=>by cases ho),by decide⟩
 simp only [if_true] at hmm;have hC:Tryz.prog.cellsOf 115=17:=by kernel_rfl
 have kU:Tryz.prog.cellsOf 5=1:=by kernel_rfl
 have kS:Tryz.prog.cellsOf 37=1:=by kernel_rfl
 have kX:Tryz.prog.cellsOf 113=2:=by kernel_rfl
 have kF:Tryz.prog.cellsOf 50=11:=by kernel_rfl
 have kI:Tryz.prog.cellsOf 3=1:=by kernel_rfl
 have kI6:Tryz.prog.cellsOf 2=1:=by kernel_rfl
 have kU6:Tryz.prog.cellsOf 45=1:=by kernel_rfl
 have key:∀i,i<len→∃o:LOp,o.Ok∧(∃u,W.cell? (a.add (i*17))=some u)∧W.cell? (a.add (i*17+1))=some (.int .u32 o.s)∧W.cell? (a.add (i*17+2))=some (.int .i64 o.t)∧W.cell? (a.add (i*17+3))=some (.int .u64 (o.v:Nat)):=by
  intro i hi';obtain ⟨cs',hc,ht⟩:=hi i (by omega);rw [hC] at hc;obtain ⟨_,hcl,hat⟩:=World.cells?_some hc;obtain ⟨ys,n',_,_,_,hyl,hf⟩:=DataW.trod_struct Tryz.underlying115 ht
  match cs',hcl with
  | [x0,x1,x2,x3,x4,x5,x6,x7,x8,x9,x10,x11,x12,x13,x14,x15,x16],_=>
   match ys,hyl with
   | [y0,y1,y2,y3,y4,y5],_=>
    obtain ⟨n1,e1,_,w1⟩:=DataW.trod_int Tryz.underlying37 (by simpa [kU,kS] using hf 1 _ rfl:DataW.trod enc Tryz.prog W 0 (fun _=>true) true n' 37 [x1]=some y1);obtain ⟨zs,n5,_,_,_,hzl,hg⟩:=DataW.trod_struct Tryz.underlying113 (by simpa [kU,kS,kX] using hf 2 _ rfl:DataW.trod enc Tryz.prog W 0 (fun _=>true) true n' 113 [x2,x3]=some y2)
    match zs,hzl with
    | [z0,z1],_=>
     obtain ⟨n2,e2,_,w2⟩:=DataW.trod_int Tryz.underlying2 (by simpa [kI6] using hg 0 _ rfl:DataW.trod enc Tryz.prog W 0 (fun _=>true) true n5 2 [x2]=some z0);obtain ⟨n3,e3,_,w3⟩:=DataW.trod_int Tryz.underlying45 (by simpa [kI6,kU6] using hg 1 _ rfl:DataW.trod enc Tryz.prog W 0 (fun _=>true) true n5 45 [x3]=some z1);simp only [List.cons.injEq,and_true] at e1 e2 e3;have h32:=wf_u32 w1;have h64:=wf_u64 w3;have hi64:=wf_i64 w2;have c0:=hat 0 (by omega);rw [Go.Deep.add_add,Nat.add_zero] at c0;have c1:=hat 1 (by omega);have c2:=hat 2 (by omega);have c3:=hat 3 (by omega);rw [Go.Deep.add_add] at c1 c2 c3;refine ⟨⟨n1.toNat,n2,n3.toNat⟩,⟨by show n1.toNat<_;omega,hi64.1,hi64.2,by show n3.toNat<_;omega⟩,⟨x0,c0⟩,?_,?_,?_⟩
     ·rw [c1,e1];show some (Value.int .u32 n1)=some (.int .u32 ((n1.toNat:Nat):Int));rw [show ((n1.toNat:Nat):Int)=n1 by omega]
     ·rw [c2,e2];rfl
     ·rw [c3,e3];show some (Value.int .u64 n3)=some (.int .u64 ((n3.toNat:Nat):Int));rw [show ((n3.toNat:Nat):Int)=n3 by omega]
 obtain ⟨L,hLl,hL⟩:=z9h len key;subst hLl;refine ⟨some a,L.length,cap,L,rfl,⟨rfl,fun k o hk=>?_⟩,fun o ho=>?_,by omega⟩
 ·obtain ⟨hkl,rfl⟩:=List.getElem?_eq_some_iff.1 hk;obtain ⟨-, -,g1,g2,g3⟩:=hL k hkl;obtain ⟨-,⟨u,g0⟩, -⟩:=hL 0 (by omega);obtain ⟨b,off,spot⟩:=a;have hspot:spot=none:=by
   have h9:=World.cell?_spot g0;unfold Addr.add at h9;simpa using h9
  subst hspot;have hadd:∀j,(⟨b,off,none⟩:Addr).add j=⟨b,off+j,none⟩:=fun j=>by unfold Addr.add;split<;>simp_all
  rw [hadd] at g1 g2 g3;refine ⟨b,off,rfl,World.block_lt_of_cell? _ _ g1,?_,?_,?_⟩
  ·rw [Nat.add_assoc];exact g1
  ·rw [Nat.add_assoc];exact g2
  ·rw [Nat.add_assoc];exact g3
 ·obtain ⟨i,hi,rfl⟩:=List.getElem_of_mem ho;exact (hL i hi).1
theorem y5h{W:World}(h:laidMetH Tryz.prog Rows.keepFullRow.laid W):z1m W:=by
 rw [MakeChecks.laidMetH_plain _ _ _ (by kernel_rfl)] at h;have e:(Rows.laid_math_bits_deBruijn64tab:DataW Unit)=Lib.tabData .u8 (Lib.deBruijn64tab.map fun n=>((n:Nat):Int)):=by kernel_rfl
 have h2:laidMet Tryz.prog ((("math/bits.deBruijn64tab",Rows.laid_math_bits_deBruijn64tab):String×DataW Unit):: [("unicode/utf8.acceptRanges",Rows.laid_unicode_utf8_acceptRanges),("unicode/utf8.first",Rows.laid_unicode_utf8_first)]) W:=h;rw [e] at h2;have hg:Tryz.prog.globalNamed "math/bits.deBruijn64tab" =some 0:=by kernel_rfl
 have ht:=Lib.tabIs_of_head (t:=473) (e:=5) (n:=64) hg (by kernel_rfl) Tryz.underlying473 Tryz.underlying5 (by kernel_rfl) (by kernel_rfl) h2;intro j hj;have h9:=ht.cell hg j (by rw [List.length_map];exact hj);rw [h9];rw [List.getD_eq_getElem?_getD,List.getD_eq_getElem?_getD,List.getElem?_map,List.getElem?_eq_getElem hj];rfl
def q3k(W:World)(v:Value)(L:List LOp):Prop:=∃a n c,v= .slice a n c∧y0M W a n L∧(∀o∈L,o.Ok)∧n≤maxLen
theorem y5e{H:Type}{enc:TypeId×Value→H}{W:World}{fuel:Nat}{cs:List Value}{x:DataW H×List MemPlace}(h:DataW.trod enc Tryz.prog W 0 (fun _=>true) true fuel 23 cs=some x):
  ∃(v:Value) (L:List LOp),cs= [v]∧q3k W v L:=by
 obtain ⟨a,n,c,L,e,h1,h2,h3⟩:=y7z h;exact ⟨_,L,e,a,n,c,rfl,h1,h2,h3⟩
end
end Go.Proofs.YtfcnapnopdomhaaGreatDoor

/-
  The walks of a file system's Cut, Halt, Halted, Rename.
-/
import Derived.Test.YtfcnapnopdomhaaGreatDoorZFsHFsIFsOAFsNA
namespace Go.Proofs.YtfcnapnopdomhaaGreatDoor
set_option linter.unusedSimpArgs false
set_option linter.unusedVariables false
set_option maxRecDepth 100000
set_option maxHeartbeats 12800000
open Go.RowKit Go.Maps
theorem y9U(sb:Nat)(s:FsS)(F:List Nat)(k:Bs)(hk:k.length≤maxLen)(n:Int)(w:World)(h:z1p w sb s F)(ok:s.Ok):
  Calls Tryz.prog 91 #[.pointer (some ⟨sb,0,none⟩), .string ⟨k.toArray⟩, .int .i64 n] w fun e w'=>e= .returned (.int .u16 (z5a s k n).1)∧z2v w sb F (z5a s k n).2 w':=by
 have H:=z7 h;have OK:=z7 ok;clear h ok;cases hh:s.has k with
 | false=>
  have e:z5a s k n=(80,s):=by simp [z5a,hh]
  rw [e];clear e;go_enter Tryz.func91,Tryz.ntmps91;go_wp2_with fail;refine (z4l sb s F k hk w H.out OK.out).mono ?_;rintro e w1 hr;unfold z1V at hr;rw [hh,if_neg (by simp)] at hr;obtain ⟨rfl,rfl⟩:=hr;go_wp2;go_ret;exact ⟨rfl,z2v.refl H.out⟩
 | true=>
  by_cases hn:n<0∨(s.get k).length<n
  ·have e:z5a s k n=(1,s):=by simp [z5a,hh,hn]
   rw [e];clear e;go_enter Tryz.func91,Tryz.ntmps91;go_wp2_with fail;refine (z4l sb s F k hk w H.out OK.out).mono ?_;rintro e w1 hr;unfold z1V at hr;rw [hh,if_pos rfl] at hr;obtain ⟨a,m,c,rfl,hf⟩:=hr;have hfin:=z7 (Chg.of_below (F:=F) hf.2.2);have HL:=z7 (H.out.low hf.2.2);have hm:=hf.2.1;rw [←hm] at hn;clear hf hm;by_cases hneg:n<0
   ·go_wp2;go_ret;exact ⟨rfl,_,HL.out,hfin.out⟩
   ·have hgt:(m:Int)<n:=by omega
    clear hn;go_wp2;go_ret;exact ⟨rfl,_,HL.out,hfin.out⟩
  ·have i0:¬n<0:=fun h=>hn (.inl h);have i1:¬((s.get k).length:Int)<n:=fun h=>hn (.inr h);cases hg:s.go with
   | false=>
    have e:z5a s k n=(0,s.went):=by unfold z5a;rw [if_neg (by simp [hh]),if_neg hn,if_neg (by simp [hg])]
    rw [e];clear e hn;go_enter Tryz.func91,Tryz.ntmps91;go_wp2_with fail;refine (z4l sb s F k hk w H.out OK.out).mono ?_;rintro e w1 hr;unfold z1V at hr;rw [hh,if_pos rfl] at hr;obtain ⟨a,m,c,rfl,hf⟩:=hr;have HF:=z7 hf;have i2:¬((m:Int)<n):=by have:=hf.2.1;omega
    clear hf i1;go_wp2_with fail;refine (z4h sb s F w1 (H.out.low HF.out.2.2) OK.out.left0).mono ?_;rintro e w2 ⟨rfl,ht⟩;rw [hg];have HT:=z7 ht;clear ht hg;go_wp2;go_ret;obtain ⟨F2,hF2,hC2⟩:=HT.out;exact ⟨rfl,F2,hF2,(Chg.of_below HF.out.2.2).trans hC2⟩
   | true=>
    have e:z5a s k n=(0,{s.went with files:=z1r z2N k ((s.get k).take n.toNat) s.files,waits:=z0R k s.waits}):=by unfold z5a;rw [if_neg (by simp [hh]),if_neg hn,if_pos hg]
    rw [e];obtain ⟨q,rfl⟩:∃q:Nat,n=q:=⟨n.toNat,by omega⟩;simp only [Int.toNat_natCast];obtain ⟨s3,hs3⟩:∃s3,s3=({s.went with files:=z1r z2N k ((s.get k).take q) s.files}:FsS):=⟨_,rfl⟩;obtain ⟨e1,e2,e3⟩:=z2J s;have hs4:({s.went with files:=z1r z2N k ((s.get k).take q) s.files,waits:=z0R k s.waits}:FsS)={s3 with waits:=z0R k s3.waits}:=by rw [hs3,e3]
    rw [hs4];have HS3:=z7 hs3;have E2:=z7 e2;have E3:=z7 e3;clear e hs4 hs3 e1 e2 e3 hn;go_enter Tryz.func91,Tryz.ntmps91;go_wp2_with fail;refine (z4l sb s F k hk w H.out OK.out).mono ?_;rintro e w1 hr;unfold z1V at hr;rw [hh,if_pos rfl] at hr;obtain ⟨a,m,c,rfl,hf⟩:=hr;have HF:=z7 hf;have i2:¬((m:Int)<q):=by have:=hf.2.1;omega
    have hmc:=hf.cap.1;have i3:(q:Int)≤c:=by omega
    have hqm:q≤m:=by omega
    clear hf i1;go_wp2_with fail;refine (z4h sb s F w1 (H.out.low HF.out.2.2) OK.out.left0).mono ?_;rintro e w2 ⟨rfl,ht⟩;rw [hg];obtain ⟨F2,hr2,hC2⟩:=ht;have HC2:=z7 hC2;obtain ⟨mb,wv,lp,E,L,h2,rfl⟩:=hr2;obtain ⟨c0,c1,c2,c3,c4,fz⟩:=z2y h2.blk;have hsb2:=(Array.getElem?_eq_some_iff.1 h2.blk).1;have hent:=HF.out.stays H.out.lt hC2 (M:=z1l sb mb wv lp) fun k hk=>z1X.2 (.inl hk);have hE1:E.length<maxLen:=by
     have h3:=z7e h2;rw [E2.out] at h3;have:=OK.out.few;unfold maxLen;omega
    have H2:=z7 h2;have HC1:=z7 c1;have HENT:=z7 hent;clear hC2 h2 c0 c1 c2 c3 c4 fz hent hg;obtain ⟨a9,hcut⟩:∃a9:Ent,Hid (a9.b=(s.get k).take q∧((a=none∧q=0∧c=0∧a9.v= .slice none 0 0)∨∃ad,a=some ad∧a9.v= .slice (some ad) q q)∧∀W,(∀j,(Value.slice a m c).ownBlock=some j→W.heap[j]? =w2.heap[j]?)→w2.heap.size≤W.heap.size→z4u W (z1l sb mb wv lp) a9):=by
     cases a with
     | none=>
      rcases HENT.out.1.rd.2 with ⟨h5,h6⟩ | ⟨ad,cc,h5,_⟩
      ·simp only [Ent.v,Value.slice.injEq,true_and] at h5;have hl0:(s.get k).length=0:=h6;have hg0:s.get k= []:=List.eq_nil_of_length_eq_zero hl0;exact ⟨⟨[],none,0,0⟩,z7 ⟨by rw [hg0];simp, .inl ⟨rfl,by omega,by omega,rfl⟩,fun W _ _=>y9Z W _⟩⟩
      ·simp [Ent.v] at h5
     | some ad=>
      refine ⟨⟨(s.get k).take q,some ad,q,q⟩,z7 ⟨rfl, .inr ⟨ad,rfl,rfl⟩,fun W hW hs=>?_⟩⟩;have h6:=HENT.out.1;have h7:=h6.same (w':=W) hW hs;have h8:=HF.out.2.1;have h9:=h6.cap;have hq2:q=((s.get k).take q).length:=by rw [List.length_take];omega
      have hq3:q≤9223372036854775807:=by
       have:c≤9223372036854775807:=h9;omega
      exact ⟨RdB.upto h7.rd h7.n q q q hq2,hq2,Nat.le_refl _,hq3,fun j hj=>h7.far j hj⟩
    rcases hcut.out.2.1 with ⟨rfl,rfl,rfl,hv⟩ | ⟨ad,rfl,hv⟩
    ·have HV:=z7 hv;clear hv;go_wp2_with fail;refine q6 9 41 (by kernel_rfl) (by kernel_rfl) rfl (by kernel_rfl) (fun D v w'=>Below w2.heap.size w2 w') (fun _=>undef) (Below.refl _ _).drew ?_;simp only [List.take_succ_cons,List.take_zero,List.drop_succ_cons,List.drop_zero];iterate 9 (refine q8.rd (e:=?_) (fun D v w' hD hS=>?_) ?_;rotate_left;(have x1:w'.cell? ⟨sb,1,none⟩=some (.map (some mb)):=(hS.cell (p:=⟨sb,1,none⟩) hsb2).trans HC1.out;clear hS hD;first | (go_simp;done) | (go_simp;with_reducible rfl));go_simp)
     refine q8.fin (fun v w3 hS=>?_);have HS:=z7 hS;have hm3:=z7 (H2.out.map.low hS);have hent3:Hid (z4u w3 (z1l sb mb wv lp) a9∧∀k,a9.v.ownBlock=some k→w.heap.size≤k):=z7 (by
      refine ⟨hcut.out.2.2 w3 (fun j hj=>hS.block j (HENT.out.1.far j hj).2) hS.size,fun k hk=>?_⟩;rw [HV.out] at hk;first | (cases hk;done) | exact HENT.out.2 k hk)
     clear hS;go_wp2_with (at_mapUpdate;refine z3K z3P rfl _ _ _ 116 rfl 46 Tryz.underlying116 rfl hm3.out hE1 k rfl hk a9 (by show Value.slice none 0 0=Ent.v a9;exact HV.out.symm) rfl ?_;intro w4 hm4 hg4 hs4;have HM4:=z7 hm4;have HG4:=z7 hg4;clear hm4 hg4 hs4);have h3:=(H2.out.low HS.out).mapChg (s':=s3) (((Chg.of_below HF.out.2.2).trans HC2.out).trans (Chg.of_below HS.out)) HM4.out HG4.out (by rw [HS3.out]) (by rw [HS3.out]) (by rw [HS3.out]) (by rw [HS3.out,←E2.out,←hcut.out.1];exact z6c H2.out k a9) (by rw [HS3.out]) (fun p hp=>by
      rcases (z3m _ _ _ _ _).1 hp with rfl | hp
      ·exact .inr ⟨hent3.out.1,fun k hk=> .inr (hent3.out.2 k hk)⟩
      ·exact .inl hp.1)
     obtain ⟨F3,hF3,hC3⟩:=h3;have HC3:=z7 hC3;refine (z7l sb s3 F3 k w4 hF3 (by rw [HS3.out];show s.went.waits.length≤1048576;rw [E3.out];exact OK.out.waits_le)).mono ?_;rintro e w5 ⟨rfl,ht5⟩;have HT5:=z7 ht5;clear ht5 hF3 hC3;go_wp2;go_ret;obtain ⟨F5,hF5,hC5⟩:=HT5.out;exact ⟨rfl,F5,hF5,HC3.out.trans hC5⟩
    ·have HV:=z7 hv;clear hv;go_wp2_with fail;refine q6 9 41 (by kernel_rfl) (by kernel_rfl) rfl (by kernel_rfl) (fun D v w'=>Below w2.heap.size w2 w') (fun _=>undef) (Below.refl _ _).drew ?_;simp only [List.take_succ_cons,List.take_zero,List.drop_succ_cons,List.drop_zero];iterate 9 (refine q8.rd (e:=?_) (fun D v w' hD hS=>?_) ?_;rotate_left;(have x1:w'.cell? ⟨sb,1,none⟩=some (.map (some mb)):=(hS.cell (p:=⟨sb,1,none⟩) hsb2).trans HC1.out;clear hS hD;first | (go_simp;done) | (go_simp;with_reducible rfl));go_simp)
     refine q8.fin (fun v w3 hS=>?_);have HS:=z7 hS;have hm3:=z7 (H2.out.map.low hS);have hent3:Hid (z4u w3 (z1l sb mb wv lp) a9∧∀k,a9.v.ownBlock=some k→w.heap.size≤k):=z7 (by
      refine ⟨hcut.out.2.2 w3 (fun j hj=>hS.block j (HENT.out.1.far j hj).2) hS.size,fun k hk=>?_⟩;rw [HV.out] at hk;first | (cases hk;done) | exact HENT.out.2 k hk)
     clear hS;go_wp2_with (at_mapUpdate;refine z3K z3P rfl _ _ _ 116 rfl 46 Tryz.underlying116 rfl hm3.out hE1 k rfl hk a9 (by show Value.slice (some ad) q q=Ent.v a9;exact HV.out.symm) rfl ?_;intro w4 hm4 hg4 hs4;have HM4:=z7 hm4;have HG4:=z7 hg4;clear hm4 hg4 hs4);have h3:=(H2.out.low HS.out).mapChg (s':=s3) (((Chg.of_below HF.out.2.2).trans HC2.out).trans (Chg.of_below HS.out)) HM4.out HG4.out (by rw [HS3.out]) (by rw [HS3.out]) (by rw [HS3.out]) (by rw [HS3.out,←E2.out,←hcut.out.1];exact z6c H2.out k a9) (by rw [HS3.out]) (fun p hp=>by
      rcases (z3m _ _ _ _ _).1 hp with rfl | hp
      ·exact .inr ⟨hent3.out.1,fun k hk=> .inr (hent3.out.2 k hk)⟩
      ·exact .inl hp.1)
     obtain ⟨F3,hF3,hC3⟩:=h3;have HC3:=z7 hC3;refine (z7l sb s3 F3 k w4 hF3 (by rw [HS3.out];show s.went.waits.length≤1048576;rw [E3.out];exact OK.out.waits_le)).mono ?_;rintro e w5 ⟨rfl,ht5⟩;have HT5:=z7 ht5;clear ht5 hF3 hC3;go_wp2;go_ret;obtain ⟨F5,hF5,hC5⟩:=HT5.out;exact ⟨rfl,F5,hF5,HC3.out.trans hC5⟩
end Go.Proofs.YtfcnapnopdomhaaGreatDoor

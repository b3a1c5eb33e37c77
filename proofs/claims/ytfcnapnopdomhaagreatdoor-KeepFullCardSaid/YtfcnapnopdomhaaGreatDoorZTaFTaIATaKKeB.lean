/-
  The walk of tape.Open.
-/
import Derived.Test.YtfcnapnopdomhaaGreatDoorZStDFsTTaE
import Derived.Deep.DeepCutAuto
import Derived.Test.YtfcnapnopdomhaaGreatDoorZFrTFrUFrYAKeA
namespace Go.Proofs.YtfcnapnopdomhaaGreatDoor
set_option linter.unusedSimpArgs false
set_option linter.unusedVariables false
set_option maxRecDepth 100000
set_option maxHeartbeats 12800000
section
open Go.RowKit Go.Maps
theorem y3N{s:FsS}{k:Bs}{w w':World}{e:Ending}(h:z1V s k w e w'):∃a n c er,e= .returned (.tuple #[.slice a n c, .int .u16 er])∧w'.ownsRow w.heap.size 5 1 (.slice a n c) n (z0b (z5X s k))∧n=(z5X s k).length∧n≤c∧c≤9223372036854775807∧Below w.heap.size w w'∧er=(if s.has k then 0 else 80):=by
 unfold z1V at h;unfold z5X;split at h
 ·rename_i hh;obtain ⟨a,n,c,rfl,hf⟩:=h;rw [if_pos hh,if_pos hh];exact ⟨a,n,c,0,rfl,hf.1,hf.2.1,hf.cap.1,hf.cap.2,hf.2.2,rfl⟩
 ·rename_i hh;obtain ⟨rfl,rfl⟩:=h;rw [if_neg hh,if_neg hh];exact ⟨none,0,0,80,rfl,World.ownsRow_nil _ _ _ _,rfl,Nat.le_refl _,by omega,Below.refl _ _,rfl⟩
theorem y8G{s:FsS}(ok:s.Ok)(k:Bs):(z5X s k).length≤1048576:=by
 unfold z5X;split
 ·have h1:=z5Q s k;have h2:=ok.used_le;omega
 ·simp
def y4h(F:List Nat)(v:Value)(xs:List (Value×List UInt8)):Prop:=∀b,(v.ownBlock=some b∨∃x∈xs,x.1.ownBlock=some b)→b∉F
theorem z0F.chg{B:Nat}{w w':World}{v:Value}{xs:List (Value×List UInt8)}{F F':List Nat}(h:z0F B w v xs)(hf:y4h F v xs)(hc:Chg F F' w w'):z0F B w' v xs∧y4h F' v xs:=by
 have hlt:∀b,(v.ownBlock=some b∨∃x∈xs,x.1.ownBlock=some b)→b<w.heap.size:=fun b hb=>by
  rcases hb with hb | ⟨x,hx,hb⟩
  ·exact (h.row.lt b hb).2
  ·exact ((h.ent x hx).lt b hb).2
 refine ⟨⟨j7 h.row fun b hb=>hc.block b (hlt b (.inl hb)) (hf b (.inl hb)),fun x hx=>j7 (h.ent x hx) fun b hb=>hc.block b (hlt b (.inr ⟨x,hx,hb⟩)) (hf b (.inr ⟨x,hx,hb⟩))⟩,fun b hb hm=>?_⟩;rcases hc.fresh b hm with h1 | h1
 ·exact hf b hb h1
 ·have:=hlt b hb;omega
theorem z0F.base{B B':Nat}{w:World}{v:Value}{xs:List (Value×List UInt8)}(h:z0F B w v xs)(hb:B'≤B):z0F B' w v xs:=⟨z0i h.row hb,fun x hx=>z0i (h.ent x hx) hb⟩
theorem z0F.far{B:Nat}{w:World}{v:Value}{xs:List (Value×List UInt8)}{F:List Nat}(h:z0F B w v xs)(hF:∀k∈F,k<B):y4h F v xs:=fun b hb hm=>by
 have:=hF b hm;rcases hb with hb | ⟨x,hx,hb⟩
 ·have:=(h.row.lt b hb).1;omega
 ·have:=((h.ent x hx).lt b hb).1;omega
def z3r(sb:Nat)(s:FsS)(k:Bs)(F:List Nat)(w:World)(e:Ending)(w':World):Prop:=
 ∃F',z1p w' sb (z2t s k).2.1 F'∧Chg F F' w w'∧
  (((z2t s k).1≠0∧e= .returned (.tuple #[.pointer none, .slice none 0 0, .int .u16 (z2t s k).1]))∨
   ((z2t s k).1=0∧∃tb a cc xs,e= .returned (.tuple #[.pointer (some ⟨tb,0,none⟩), .slice a xs.length cc, .int .u16 0])∧z3w w' tb sb k∧w.heap.size≤tb∧tb∉F'∧
    z0F w.heap.size w' (.slice a xs.length cc) xs∧xs.map Prod.snd=(z2t s k).2.2∧y4h F' (.slice a xs.length cc) xs))
theorem q1F(sb:Nat)(s:FsS)(F:List Nat)(k:Bs)(hk:k.length≤maxLen)(w:World)(h:z1p w sb s F)(ok:s.Ok):
  Calls Tryz.prog 40 #[.pointer (some ⟨sb,0,none⟩), .string ⟨k.toArray⟩] w (z3r sb s k F w):=by
 have H:=z7 h;have OK:=z7 ok;obtain ⟨kn,hkn⟩:∃kn,kn=k.length:=⟨_,rfl⟩;have HKN:=z7 hkn;clear h ok hkn;by_cases hbad:kn=0∨16≤kn
 ·have e:z2t s k=(1,s, []):=by unfold z2t;rw [if_pos (by rw [←HKN.out];exact hbad)]
  have HE:=z7 e;have hend:Hid (z3r sb s k F w (.returned (.tuple #[.pointer none, .slice none 0 0, .int .u16 1])) w):=z7 (by
   unfold z3r;rw [HE.out];exact ⟨F,H.out,Chg.refl _ _, .inl ⟨by show (1:Int)≠0;decide,rfl⟩⟩)
  clear e HE;by_cases h0:kn=0
  ·have hk0:k= []:=List.eq_nil_of_length_eq_zero (by rw [←HKN.out];exact h0);subst hk0;clear hbad h0;go_enter Tryz.func40,Tryz.ntmps40;go_wp2;go_ret3
   exact hend.out
  ·have hk0:k≠ []:=fun e=>h0 (by rw [HKN.out,e];rfl);have e1:(k== [])=false:=by simpa using hk0
   have d1:decide ((16:Int)≤k.length)=true:=decide_eq_true (by have:=HKN.out;omega);clear hbad h0;go_enter Tryz.func40,Tryz.ntmps40;go_wp2;go_ret3
   exact hend.out
 ·have hk0:k≠ []:=fun e=>hbad (.inl (by rw [HKN.out,e];rfl));have e1:(k== [])=false:=by simpa using hk0
  have d1:decide ((16:Int)≤k.length)=false:=decide_eq_false (by have:=HKN.out;omega);have hk6:k.length≤1000000:=by have:=HKN.out;omega
  have HOPEN:Hid (z2t s k=if (z3h (z2b s k) k).1≠0 then ((z3h (z2b s k) k).1,(z3h (z2b s k) k).2, []) else (0,z4W (z3h (z2b s k) k).2 k,(z0W (z5X (z3h (z2b s k) k).2 k)).1)):=z7 (by
   unfold z2t;rw [if_neg (by rw [←HKN.out];exact hbad)])
  obtain ⟨s1,hs1⟩:∃s1,s1=z2b s k:=⟨_,rfl⟩;rw [←hs1] at HOPEN;have HS1:=z7 hs1;have OK1:Hid (s1.Ok):=z7 (by rw [hs1];exact z7W OK.out k);obtain ⟨W1,hW1⟩:∃W1,W1=w.alloc (.cells #[.pointer (some ⟨sb,0,none⟩), .string ⟨k.toArray⟩] 206):=⟨_,rfl⟩;have hb1:Below w.heap.size w W1:=by rw [hW1];exact q5 _ _
  have hblk:z3w W1 w.heap.size sb k:=by rw [hW1];exact j8 _ _
  have HB1:=z7 hb1;have HBLK:=z7 hblk;have hsz1:=hblk.lt;have hTF:Hid (w.heap.size∉F):=z7 fun hm=>by have:=H.out.lt _ hm;omega
  clear hbad hs1 hb1 hblk;go_enter Tryz.func40,Tryz.ntmps40;go_upto_region 4 with fail
  rw [←hW1];clear hW1;go_wp2_with fail;refine (q0v w.heap.size sb s F k hk6 W1 HBLK.out (H.out.low HB1.out) OK.out).mono ?_;rintro e w2 ⟨rfl,ht⟩;rw [←HS1.out] at ht;obtain ⟨F1,hr1,hc1⟩:=ht;have HR1:=z7 hr1;have HC1:Hid (Chg F F1 w w2):=z7 ((Chg.of_below HB1.out).trans hc1);have HBLK2:=z7 (HBLK.out.chg hc1 hTF.out);have hTF1:Hid (w.heap.size∉F1):=z7 fun hm=>by
   rcases hc1.fresh _ hm with h1 | h1
   ·exact hTF.out h1
   ·omega
  clear hr1 hc1;go_wp2_with fail;refine (q0e sb s1 F1 k hk w2 HR1.out OK1.out).mono ?_;rintro e w3 ⟨rfl,hb3⟩;have HR3:=z7 (HR1.out.low hb3);have HC3:Hid (Chg F F1 w w3):=z7 (HC1.out.trans (Chg.of_below hb3));have HBLK3:=z7 (HBLK2.out.low hb3);clear hb3 HR1 HC1 HBLK2;obtain ⟨bo,hbo⟩:∃bo,bo=s1.has k:=⟨_,rfl⟩;rw [←hbo];have HBO:=z7 hbo;clear hbo;cases bo with
  | true=>
   obtain ⟨S2,hS2⟩:∃S2,S2=s1:=⟨_,rfl⟩;have HMADE:Hid (z3h s1 k=(0,S2)):=z7 (by unfold z3h;rw [←HBO.out,if_pos rfl,hS2]);have OK2:Hid (S2.Ok):=z7 (by rw [hS2];exact OK1.out);have HR4:Hid (z1p w3 sb S2 F1):=z7 (by rw [hS2];exact HR3.out);have HC4:=HC3;have HBLK4:=HBLK3;have hTF2:=hTF1;clear hS2 HR3 HC3 HBLK3 hTF1;go_wp2_with fail;refine (z4l sb S2 F1 k hk w3 HR4.out OK2.out).mono ?_;rintro e w5 hr;obtain ⟨ra,rn,rc,er5,rfl,hown,hrn,hle,hc,hb5, -⟩:=y3N hr;obtain ⟨G,hG⟩:∃G,G=z5X S2 k:=⟨_,rfl⟩;rw [←hG] at hown hrn;have hGl:rn≤1048576:=by rw [hrn,hG];exact y8G OK2.out k
   have HG:=z7 hG;have HOWN:=z7 hown;have HRN:=z7 hrn;have HR5:=z7 (HR4.out.low hb5);have HC5:Hid (Chg F F1 w w5):=z7 (HC4.out.trans (Chg.of_below hb5));have HBLK5:=z7 (HBLK4.out.low hb5);have hsz5:=HC5.out.size;clear hr hown hrn hb5 hG HR4 HC4 HBLK4;go_wp2_with fail;refine (y6O G ra rn rc w5 HRN.out (by have:=z0d HOWN.out;unfold RdB;rw [←HRN.out];exact this) hle hc hGl (fun j hj=>(HOWN.out.lt j hj).2)).mono ?_;rintro e w6 ⟨na,nc,xs,rfl,hat,hxs,hb6⟩;obtain ⟨nx,hnx⟩:∃nx,nx=(z0W G).2:=⟨_,rfl⟩;obtain ⟨m,hm⟩:∃m,m=xs.length:=⟨_,rfl⟩;rw [←hm] at hat ⊢;rw [←hnx];have HNX:=z7 hnx;have HM:=z7 hm;have HXS:=z7 hxs;have HAT:=z7 hat;have HR6:=z7 (HR5.out.low hb6);have HC6:Hid (Chg F F1 w w6):=z7 (HC5.out.trans (Chg.of_below hb6));have HBLK6:=z7 (HBLK5.out.low hb6);have hfar6:Hid (y4h F1 (.slice na m nc) xs):=z7 (hat.far fun j hj=>HR5.out.lt j hj);have hfin:Hid (∀w' F',z1p w' sb (z4W S2 k) F'→Chg F F' w w'→z3w w' w.heap.size sb k→w.heap.size∉F'→z0F w5.heap.size w' (.slice na m nc) xs→y4h F' (.slice na m nc) xs→z3r sb s k F w (.returned (.tuple #[.pointer (some ⟨w.heap.size,0,none⟩), .slice na m nc, .int .u16 0])) w'):=z7 fun w' F' z1 z2 z3 z4 z5 z6=>by
    unfold z3r;rw [HOPEN.out,HMADE.out,if_neg (by simp)];refine ⟨F',z1,z2, .inr ⟨rfl,w.heap.size,na,nc,xs,by rw [←HM.out],z3,Nat.le_refl _,z4,?_,?_,?_⟩⟩
    ·rw [←HM.out];exact z5.base hsz5
    ·rw [HXS.out,HG.out]
    ·rw [←HM.out];exact z6
   clear hnx hm hxs hat hb6 HR5 HC5 HBLK5;by_cases hcut:nx<rn
   ·have d5:decide ((nx:Int)<rn)=true:=by simpa using hcut
    have d6:decide (nx<rn)=true:=by simpa using hcut
    have hce:Hid (z4W S2 k=(z5a S2 k (nx:Nat)).2):=z7 (by unfold z4W;rw [←HG.out,←HNX.out,if_pos (by rw [←HRN.out];exact hcut)]);clear hcut;go_wp2_with fail;refine (y9U sb S2 F1 k hk (nx:Nat) w6 HR6.out OK2.out).mono ?_;rintro e w7 ⟨rfl,ht⟩;rw [←hce.out] at ht;obtain ⟨F3,hr3,hc3⟩:=ht;have hn7:=HAT.out.chg hfar6.out hc3;have HFIN:=z7 (hfin.out w7 F3 hr3 (HC6.out.trans hc3) (HBLK6.out.chg hc3 hTF2.out) (fun hm=>by
     rcases hc3.fresh _ hm with h1 | h1
     ·exact hTF2.out h1
     ·have:=HBLK6.out.lt;omega) hn7.1 hn7.2)
    clear hr3 hc3 hn7;go_wp2;go_ret3
    exact HFIN.out
   ·have d5:decide ((nx:Int)<rn)=false:=decide_eq_false (by omega);have d6:decide (nx<rn)=false:=by simpa using hcut
    have hce:Hid (z4W S2 k=S2):=z7 (by unfold z4W;rw [←HG.out,←HNX.out,if_neg (by rw [←HRN.out];exact hcut)]);clear hcut;have HFIN:=z7 (hfin.out w6 F1 (by rw [hce.out];exact HR6.out) HC6.out HBLK6.out hTF2.out HAT.out hfar6.out);go_wp2;go_ret3
    exact HFIN.out
  | false=>
   obtain ⟨S2,hS2⟩:∃S2,S2=(z1R s1 k).2:=⟨_,rfl⟩;obtain ⟨er,her⟩:∃er,er=(z1R s1 k).1:=⟨_,rfl⟩;have HMADE0:Hid (z3h s1 k=(er,S2)):=z7 (by unfold z3h;rw [←HBO.out,if_neg (by simp),hS2,her]);have OK2:Hid (S2.Ok):=z7 (by rw [hS2];exact z9j OK1.out k);have HS2:=z7 hS2;have HER:=z7 her;clear hS2 her;go_wp2_with fail;refine (y7f sb s1 F1 k hk w3 HR3.out OK1.out).mono ?_;rintro e w4 ⟨rfl,ht⟩;rw [←HS2.out] at ht;rw [←HER.out];obtain ⟨F2,hr4,hc4⟩:=ht;have HR4:=z7 hr4;have HC4:Hid (Chg F F2 w w4):=z7 (HC3.out.trans hc4);have HBLK4:=z7 (HBLK3.out.chg hc4 hTF1.out);have hTF2:Hid (w.heap.size∉F2):=z7 fun hm=>by
    rcases hc4.fresh _ hm with h1 | h1
    ·exact hTF1.out h1
    ·have:=HC3.out.size;have:=HBLK3.out.lt;omega
   clear hr4 hc4;by_cases he:er=0
   ·subst he;have HMADE:=HMADE0;clear HMADE0 HR3 HC3 HBLK3 hTF1;go_wp2_with fail;refine (z4l sb S2 F2 k hk w4 HR4.out OK2.out).mono ?_;rintro e w5 hr;obtain ⟨ra,rn,rc,er5,rfl,hown,hrn,hle,hc,hb5, -⟩:=y3N hr;obtain ⟨G,hG⟩:∃G,G=z5X S2 k:=⟨_,rfl⟩;rw [←hG] at hown hrn;have hGl:rn≤1048576:=by rw [hrn,hG];exact y8G OK2.out k
    have HG:=z7 hG;have HOWN:=z7 hown;have HRN:=z7 hrn;have HR5:=z7 (HR4.out.low hb5);have HC5:Hid (Chg F F2 w w5):=z7 (HC4.out.trans (Chg.of_below hb5));have HBLK5:=z7 (HBLK4.out.low hb5);have hsz5:=HC5.out.size;clear hr hown hrn hb5 hG HR4 HC4 HBLK4;go_wp2_with fail;refine (y6O G ra rn rc w5 HRN.out (by have:=z0d HOWN.out;unfold RdB;rw [←HRN.out];exact this) hle hc hGl (fun j hj=>(HOWN.out.lt j hj).2)).mono ?_;rintro e w6 ⟨na,nc,xs,rfl,hat,hxs,hb6⟩;obtain ⟨nx,hnx⟩:∃nx,nx=(z0W G).2:=⟨_,rfl⟩;obtain ⟨m,hm⟩:∃m,m=xs.length:=⟨_,rfl⟩;rw [←hm] at hat ⊢;rw [←hnx];have HNX:=z7 hnx;have HM:=z7 hm;have HXS:=z7 hxs;have HAT:=z7 hat;have HR6:=z7 (HR5.out.low hb6);have HC6:Hid (Chg F F2 w w6):=z7 (HC5.out.trans (Chg.of_below hb6));have HBLK6:=z7 (HBLK5.out.low hb6);have hfar6:Hid (y4h F2 (.slice na m nc) xs):=z7 (hat.far fun j hj=>HR5.out.lt j hj);have hfin:Hid (∀w' F',z1p w' sb (z4W S2 k) F'→Chg F F' w w'→z3w w' w.heap.size sb k→w.heap.size∉F'→z0F w5.heap.size w' (.slice na m nc) xs→y4h F' (.slice na m nc) xs→z3r sb s k F w (.returned (.tuple #[.pointer (some ⟨w.heap.size,0,none⟩), .slice na m nc, .int .u16 0])) w'):=z7 fun w' F' z1 z2 z3 z4 z5 z6=>by
     unfold z3r;rw [HOPEN.out,HMADE.out,if_neg (by simp)];refine ⟨F',z1,z2, .inr ⟨rfl,w.heap.size,na,nc,xs,by rw [←HM.out],z3,Nat.le_refl _,z4,?_,?_,?_⟩⟩
     ·rw [←HM.out];exact z5.base hsz5
     ·rw [HXS.out,HG.out]
     ·rw [←HM.out];exact z6
    clear hnx hm hxs hat hb6 HR5 HC5 HBLK5;by_cases hcut:nx<rn
    ·have d5:decide ((nx:Int)<rn)=true:=by simpa using hcut
     have d6:decide (nx<rn)=true:=by simpa using hcut
     have hce:Hid (z4W S2 k=(z5a S2 k (nx:Nat)).2):=z7 (by unfold z4W;rw [←HG.out,←HNX.out,if_pos (by rw [←HRN.out];exact hcut)]);clear hcut;go_wp2_with fail;refine (y9U sb S2 F2 k hk (nx:Nat) w6 HR6.out OK2.out).mono ?_;rintro e w7 ⟨rfl,ht⟩;rw [←hce.out] at ht;obtain ⟨F3,hr3,hc3⟩:=ht;have hn7:=HAT.out.chg hfar6.out hc3;have HFIN:=z7 (hfin.out w7 F3 hr3 (HC6.out.trans hc3) (HBLK6.out.chg hc3 hTF2.out) (fun hm=>by
      rcases hc3.fresh _ hm with h1 | h1
      ·exact hTF2.out h1
      ·have:=HBLK6.out.lt;omega) hn7.1 hn7.2)
     clear hr3 hc3 hn7;go_wp2;go_ret3
     exact HFIN.out
    ·have d5:decide ((nx:Int)<rn)=false:=decide_eq_false (by omega);have d6:decide (nx<rn)=false:=by simpa using hcut
     have hce:Hid (z4W S2 k=S2):=z7 (by unfold z4W;rw [←HG.out,←HNX.out,if_neg (by rw [←HRN.out];exact hcut)]);clear hcut;have HFIN:=z7 (hfin.out w6 F2 (by rw [hce.out];exact HR6.out) HC6.out HBLK6.out hTF2.out HAT.out hfar6.out);go_wp2;go_ret3
     exact HFIN.out
   ·have e2:(er !=0)=true:=by simpa using he
    have e3:(er==0)=false:=by simpa using he
    have hend:Hid (z3r sb s k F w (.returned (.tuple #[.pointer none, .slice none 0 0, .int .u16 er])) w4):=z7 (by
     unfold z3r;rw [HOPEN.out,HMADE0.out,if_pos he];exact ⟨F2,HR4.out,HC4.out, .inl ⟨he,rfl⟩⟩)
    clear he;go_wp2;go_ret3
    exact hend.out
end
section
open Go.RowKit
def z8Z(w:World)(x:Value)(ls:List Bs):Prop:=∃xs:List Value,Rd w x 1 ls.length xs∧xs.length=ls.length∧(∀(i:Nat) (v:Value) (l:Bs),xs[i]? =some v→ls[i]? =some l→(RdB w v l∧∃a c,v= .slice a l.length c∧l.length≤c∧c≤9223372036854775807))∧∃a c,x= .slice a ls.length c∧ls.length≤c∧c≤9223372036854775807
theorem z8Z.bs{w:World}{x:Value}{ls:List Bs}(h:z8Z w x ls):z9B w x ls:=by
 obtain ⟨xs,h1,h2,h3,_⟩:=h;exact ⟨xs,h1,h2,fun i v l hv hl=>(h3 i v l hv hl).1⟩
theorem z8Z.low{w w':World}{x:Value}{ls:List Bs}(h:z8Z w x ls)(hb:Below w.heap.size w w'):z8Z w' x ls:=by
 obtain ⟨xs,h1,h2,h3,h4⟩:=h;exact ⟨xs,h1.low hb,h2,fun i v l hv hl=>⟨(h3 i v l hv hl).1.low hb,(h3 i v l hv hl).2⟩,h4⟩
theorem z8Z.cap{w:World}{a:Option Addr}{n c:Nat}{ls:List Bs}(h:z8Z w (.slice a n c) ls):n≤c∧c≤9223372036854775807:=by
 obtain ⟨_,_,_,_,a',c',e,g1,g2⟩:=h;simp only [Value.slice.injEq] at e;obtain ⟨rfl,rfl,rfl⟩:=e;exact ⟨g1,g2⟩
theorem z8Z.nil(w:World):z8Z w (.slice none 0 0) []:=⟨[],Rd.nil w 1,rfl,(fun i v l h=>by simp at h),none,0,rfl,Nat.le_refl _,by omega⟩
theorem z8Z.head{w:World}{x:Value}{ls:List Bs}(h:z8Z w x ls):∃a c,x= .slice a ls.length c:=h.bs.head
theorem z8Z.at{w:World}{x:Value}{ls:List Bs}(h:z8Z w x ls){k:Nat}(hk:k<ls.length):∃b off c a n c',x= .slice (some ⟨b,off,none⟩) ls.length c∧w.cell? ⟨b,off+k,none⟩=some (.slice a n c')∧RdB w (.slice a n c') ls[k]∧n=ls[k].length∧n≤c'∧c'≤9223372036854775807∧b<w.heap.size:=by
 obtain ⟨xs,h1,h2,h3,_⟩:=h;obtain ⟨b,off,c,rfl,hc,hb⟩:=Rd.addr h1 (by omega) (by omega);have hx:xs[k]? =some (xs[k]'(by omega)):=List.getElem?_eq_getElem (by omega);obtain ⟨g1,a,c',e,g2,g3⟩:=h3 k _ _ hx (List.getElem?_eq_getElem hk);refine ⟨b,off,c,a,ls[k].length,c',rfl,?_,?_,rfl,g2,g3,hb⟩
 ·have:=hc k _ hx;rw [e] at this;exact this
 ·rw [←e];exact g1
end
section
open Go.RowKit Go.Maps
theorem z3w.cells{w:World}{tb sb:Nat}{k:Bs}(h:z3w w tb sb k):∀w',Below w.heap.size w w'→w'.cell? ⟨tb,0,none⟩=some (.pointer (some ⟨sb,0,none⟩))∧w'.cell? ⟨tb,1,none⟩=some (.string ⟨k.toArray⟩):=fun w' hw=>by
 obtain ⟨c0,c1,_,hlt⟩:=z3F h;exact ⟨(hw.cell (p:=⟨tb,0,none⟩) hlt).trans c0,(hw.cell (p:=⟨tb,1,none⟩) hlt).trans c1⟩
theorem z2v.trans{w w1 w2:World}{sb:Nat}{F F1:List Nat}{s:FsS}(h1:Chg F F1 w w1)(h2:z2v w1 sb F1 s w2):z2v w sb F s w2:=by
 obtain ⟨F2,g1,g2⟩:=h2;exact ⟨F2,g1,h1.trans g2⟩
theorem z2v.after{w w1 w2:World}{sb:Nat}{F:List Nat}{s:FsS}(h1:Below w.heap.size w w1)(h2:z2v w1 sb F s w2):z2v w sb F s w2:=z2v.trans (Chg.of_below h1) h2
theorem q1m(tb sb:Nat)(s:FsS)(F:List Nat)(k:Bs)(hk:k.length≤1000000)(w:World)(hB:z3w w tb sb k)(h:z1p w sb s F)(ok:s.Ok):
  Calls Tryz.prog 118 #[.pointer (some ⟨tb,0,none⟩)] w fun e w'=>e= .returned (.int .u16 (z2f s k).1)∧z2v w sb F (z2f s k).2 w':=by
 have H:=z7 h;have OK:=z7 ok;have hcl:=z7 hB.cells;have hkm:k.length≤maxLen:=by unfold maxLen;omega
 clear h ok hB;go_enter Tryz.func118,Tryz.ntmps118;go_wp2_with fail;refine q6 8 12 (by kernel_rfl) (by kernel_rfl) rfl (by kernel_rfl) (fun D v w'=>Below w.heap.size w w') (fun _=>undef) (Below.refl _ _).drew ?_;simp only [List.take_succ_cons,List.take_zero,List.drop_succ_cons,List.drop_zero];iterate 8 (refine q8.rd (e:=?_) (fun D v w' hD hS=>?_) ?_;rotate_left;(obtain ⟨x0,x1⟩:=hcl.out w' hS;clear hS hD;first | (go_simp;done) | (go_simp;with_reducible rfl));go_simp)
 refine q8.fin (fun v w5 hS=>?_);have HS5:=z7 hS;clear hS;go_wp2_with fail;refine (q1f sb s F k hkm w5 (H.out.low HS5.out) OK.out).mono ?_;rintro e w6 ⟨rfl,ht⟩;have HT:=z7 ht;clear ht;go_wp2;go_ret;exact ⟨rfl,z2v.after HS5.out HT.out⟩
def z2o:Bs:= [107,101,101,112]
def z2M(w:World)(kb rb bb tb:Nat):Prop:=w.heap[kb]? =some (.cells #[.pointer (some ⟨rb,0,none⟩), .pointer (some ⟨bb,0,none⟩), .pointer (some ⟨tb,0,none⟩)] 109 (0,0))
theorem z2M.lt{w:World}{kb rb bb tb:Nat}(h:z2M w kb rb bb tb):kb<w.heap.size:=(Array.getElem?_eq_some_iff.1 h).1
theorem z2M.low{w w':World}{kb rb bb tb:Nat}(h:z2M w kb rb bb tb)(hb:Below w.heap.size w w'):z2M w' kb rb bb tb:=(hb.block kb h.lt).trans h
theorem z2M.cells{w:World}{kb rb bb tb:Nat}(h:z2M w kb rb bb tb):w.cell? ⟨kb,0,none⟩=some (.pointer (some ⟨rb,0,none⟩))∧w.cell? ⟨kb,1,none⟩=some (.pointer (some ⟨bb,0,none⟩))∧w.cell? ⟨kb,2,none⟩=some (.pointer (some ⟨tb,0,none⟩))∧∀j,w.frozen? ⟨kb,j,none⟩=false:=cells3 h
def z3c(f:Fr)(l:List Bool):List UInt8:=z5Z f.series f.chunk f.bits f.cnt f.count f.closed l.length f.b
theorem y1B(f:Fr)(l:List Bool):(z3c f l).length=24+f.b.length:=by
 unfold z3c z5Z;simp only [List.length_append,z2E,z3i,List.length_cons,List.length_nil]
theorem Chg.only{F F':List Nat}{w w':World}(h:Chg F F' w w'):z0s (fun k=>k∈F) w w':=⟨h.os,h.tape,h.output,h.size,h.block⟩
def wrS(s:FsS)(n:List UInt8):Int×FsS:=if (z2n s z2o n).1≠0 then z2n s z2o n else z2f (z2n s z2o n).2 z2o
theorem y9w(kb rb bb tb sb:Nat)(s:FsS)(F:List Nat)(f:Fr)(a:Option Addr)(n c:Nat)(l:List Bool)(hf:f.Ok)(hfn:f.n=(l.length:Nat))(hm:f.cnt<f.count∧0<l.length∧n≤500)(hnf:n=f.b.length)(w:World)(hk:z2M w kb rb bb tb)(ht:z3w w tb sb z2o)(h:z1p w sb s F)(ok:s.Ok)(hkF:kb∉F)(htF:tb∉F)(hb:z0o w a n c l f.b):
  Calls Tryz.prog 56 #[.pointer (some ⟨kb,0,none⟩),pcV f (.slice a n c)] w fun e w'=>e= .returned (.int .u16 (wrS s (z3c f l)).1)∧z2v w sb F (wrS s (z3c f l)).2 w':=by
 have HL0:=z7 ((z0E.start (fun k=>k∈F) w).new (.cells (z2H f (.slice a n c)) 125));have HFt:=h.lt;have HK:=z7 hk;have HT:=z7 ht;have H:=z7 h;have HB:=z7 hb;have HOK:=z7 ok;have HEN:=z7 (fun w' (h1:z0o w' a n c l f.b)=>y8u f.series f.chunk f.bits f.cnt f.count f.closed a n c l f.b hf.series hf.chunk hf.bits hf.cnt hf.count hm w' h1);have hnb:=y1B f l;obtain ⟨nb,hnbe⟩:∃nb,nb=z3c f l:=⟨_,rfl⟩;have HEN2:=HEN.out;have hpb:z5Z f.series f.chunk f.bits f.cnt f.count f.closed l.length f.b=nb:=by rw [hnbe];rfl
 rw [hpb] at HEN2;have HEN:=z7 HEN2;rw [←hnbe] at hnb ⊢;have hpv:z2H f (.slice a n c)= #[.int .u8 4, .int .u32 0, .int .u32 f.series, .int .i64 0, .int .u64 0, .int .u32 f.chunk, .int .u32 f.bits, .int .u32 f.cnt, .int .u32 f.count, .bool f.closed, .slice a n c, .int .i64 (l.length:Nat)]:=by unfold z2H;rw [hfn]
 unfold pcV;rw [hpv] at HL0 ⊢;have HNB:=z7 hnb;have HNL:=z7 (show nb.length≤524 by rw [hnb];omega);clear h hk ht hb ok HEN2 hpb hnbe hpv hfn hm hf hnb hnf;have hkl:=HK.out.lt;have htl:=HT.out.lt;have HL0l:=q5 w (.cells #[.int .u8 4, .int .u32 0, .int .u32 f.series, .int .i64 0, .int .u64 0, .int .u32 f.chunk, .int .u32 f.bits, .int .u32 f.cnt, .int .u32 f.count, .bool f.closed, .slice a n c, .int .i64 (l.length:Nat)] 125);go_enter Tryz.func56,Tryz.ntmps56;go_wp2_with (refine z0N rfl 125 _ rfl w.heap.size 0 rfl _ (z2a (HL0.out.get 0 rfl)) z2z z0X ?_);refine (HEN.out _ (HB.out.low HL0l)).mono ?_;rintro e w2 ⟨a',m',c',rfl,hrow,hm',hb2⟩;have HL2:=z7 (HL0.out.call hb2);have hb02:Below w.heap.size w w2:=HL0l.trans (hb2.mono HL0l.size);obtain ⟨k0,k1,k2,kf⟩:=(HK.out.low hb02).cells;have hkl2:=(HK.out.low hb02).lt;have hcap:=z1C hrow;have HAP:=z7 (y7F tb sb s F z2o (by decide) a' m' c' nb w2 (HT.out.low hb02) (H.out.low hb02) HOK.out (by have h9:=z0d hrow;unfold RdB;rw [←hm'];exact h9) hm' hcap.1 hcap.2 (fun _ j hj=>(hrow.lt j hj).2));obtain ⟨⟨e1,s1⟩,h1⟩:∃r,r=z2n s z2o nb:=⟨_,rfl⟩;have hok1:s1.Ok:=by have:=z6M HOK.out z2o nb;rw [←h1] at this;exact this
 rw [←h1] at HAP;have hw:wrS s nb=if e1≠0 then (e1,s1) else z2f s1 z2o:=by unfold wrS;rw [←h1]
 have HW:=z7 hw;have HB2:=z7 hb02;have HO1:=z7 hok1;clear hrow hm' hb2 hb02 hcap h1 hw hok1;go_upto_region 5 with (refine HAP.out.mono ?_;rintro e w3 ⟨rfl,F1,hF1,hC1⟩)
 have HF1:=z7 hF1;have HC1:=z7 hC1;have hto:z2v w sb F s1 w3:=⟨F1,hF1,(Chg.of_below HB2.out).trans hC1⟩;have HTO:=z7 hto;clear hF1 hC1 hto k0 k1 k2 kf HAP;by_cases h0:e1=0
 ·have d:((e1:Int)==0)=true:=by rw [h0];rfl
  have hk3:z2M w3 kb rb bb tb:=(HC1.out.block kb hkl2 hkF).trans (HK.out.low HB2.out);obtain ⟨k0,k1,k2,kf⟩:=hk3.cells;have hkl3:=hk3.lt;have ht3:z3w w3 tb sb z2o:=(HT.out.low HB2.out).chg HC1.out htF;have HSY:=z7 (q1m tb sb s1 F1 z2o (by decide) w3 ht3 HF1.out HO1.out);obtain ⟨⟨e2,s2⟩,h2⟩:∃r,r=z2f s1 z2o:=⟨_,rfl⟩;rw [←h2] at HSY;have hw2:wrS s nb=(e2,s2):=by rw [HW.out,if_neg (by simp [h0]),h2]
  have HW2:=z7 hw2;clear hk3 ht3 h2 hw2;subst h0;go_wp2_with (refine HSY.out.mono ?_;rintro e w4 ⟨rfl,hto4⟩;have HTO4:=z7 hto4;clear hto4);go_ret;rw [HW2.out];obtain ⟨F2,hF2,hC2⟩:=HTO4.out;exact ⟨rfl,F2,hF2,((Chg.of_below HB2.out).trans HC1.out).trans hC2⟩
 ·have d:((e1:Int)==0)=false:=beq_false_of_ne h0;have hw2:wrS s nb=(e1,s1):=by rw [HW.out,if_pos h0]
  have HW2:=z7 hw2;have H0:=z7 h0;clear hw2 h0;go_wp2;go_ret;rw [HW2.out];exact ⟨rfl,HTO.out⟩
end
end Go.Proofs.YtfcnapnopdomhaaGreatDoor

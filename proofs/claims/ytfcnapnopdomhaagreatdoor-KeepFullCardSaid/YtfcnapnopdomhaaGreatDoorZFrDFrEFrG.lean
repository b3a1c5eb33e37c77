/-
  Walks over package frame: write, Encode.
-/
import Derived.Test.YtfcnapnopdomhaaGreatDoorZCrcCCrcDFrBFrC
import Derived.Test.YtfcnapnopdomhaaGreatDoorZReg2Reg3
import Derived.Deep.DeepCutAuto
namespace Go.Proofs.YtfcnapnopdomhaaGreatDoor
set_option linter.unusedSimpArgs false
set_option linter.unusedVariables false
set_option maxRecDepth 100000
set_option maxHeartbeats 12800000
open Go.RowKit
def z3V(f:Fr):List Nat:= [f.epoch,f.series,f.chunk,f.bits,f.cnt,f.count]
def z4s(f:Fr):List Nat:= [f.sum/4294967296,f.sum%4294967296,(f.n%4294967296).toNat]
theorem y5J(f:Fr):z1q f=([0x44,0x59,UInt8.ofNat f.kind]++(z3V f).flatMap be4)++ [y0w f.closed]++(z4s f).flatMap be4:=by
 simp [z1q,z3V,z4s]
theorem y9c{f:Fr}(h:f.Ok):∀n∈z3V f,n<4294967296:=by
 obtain ⟨o1,o2,o3,o4,o5,o6,o7,o8,o9,o10⟩:=h;intro n hn;simp only [z3V,List.mem_cons,List.not_mem_nil,or_false] at hn;rcases hn with rfl | rfl | rfl | rfl | rfl | rfl<;>assumption
theorem y9D{f:Fr}(h:f.Ok):∀n∈z4s f,n<4294967296:=by
 obtain ⟨o1,o2,o3,o4,o5,o6,o7,o8,o9,o10⟩:=h;intro n hn;simp only [z4s,List.mem_cons,List.not_mem_nil,or_false] at hn;rcases hn with rfl | rfl | rfl<;>omega
theorem y1E(l:List Nat){k:Nat}(hk:k<l.length):(l.take (k+1)).flatMap be4=(l.take k).flatMap be4++be4 l[k]:=by
 rw [List.take_succ_eq_append_getElem hk,List.flatMap_append];simp
theorem z7g:∀l:List Nat,(l.flatMap be4).length=4*l.length
 | []=>rfl
 | n::l=>by rw [List.flatMap_cons,List.length_append,z7g l,z4b,List.length_cons];omega
theorem z2j.same{w WF wr:World}{f:Fr}{x:Value}(h:z2j WF w.heap.size f x)(hb:Below (w.heap.size+1) WF wr):z2j wr w.heap.size f x:=(hb.block _ (by omega)).trans h
theorem q2Y(v0 v1 v2 v3 v4 v5:Nat)(k:Nat)(hk:k<6)(w:World):(Instr.index 308 (.agg #[.int .u32 v0, .int .u32 v1, .int .u32 v2, .int .u32 v3, .int .u32 v4, .int .u32 v5]) (.int .i64 (k:Int))).run Tryz.prog w= .ok (.int .u32 (([v0,v1,v2,v3,v4,v5].getD k 0:Nat):Int)) w:=by
 obtain rfl | rfl | rfl | rfl | rfl | rfl:k=0∨k=1∨k=2∨k=3∨k=4∨k=5:=by omega
 all_goals kernel_rfl
theorem q2K(v0 v1 v2:Int)(k:Nat)(hk:k<3)(w:World):(Instr.index 311 (.agg #[.int .u32 v0, .int .u32 v1, .int .u32 v2]) (.int .i64 (k:Int))).run Tryz.prog w= .ok (.int .u32 ([v0,v1,v2].getD k 0)) w:=by
 obtain rfl | rfl | rfl:k=0∨k=1∨k=2:=by omega
 all_goals kernel_rfl
theorem z7C.chg{W w w':World}{B tb:Nat}{v:Value}{l:List UInt8}(h:z4I W B v l w)(hc:Chg [tb] [tb] w w')(hB:B≤tb)(hn:∀k,v.ownBlock=some k→k≠tb):z4I W B v l w':=
 ⟨j7 h.1 fun k hk=>hc.block k (h.1.lt k hk).2 (by simpa using hn k hk),h.2.1.trans (hc.below h.2.2 (by simpa using hB)),Nat.le_trans h.2.2 hc.size⟩
theorem y2N{W w:World}{B n:Nat}{v:Value}{l:List UInt8}(h:z4I W B v l w)(hn:n<4294967296)(hl:l.length≤2000000):
  Calls Tryz.prog 173 #[v, .int .u32 n] w fun e w'=>∃a c,e= .returned (.slice a (l++be4 n).length c)∧z4I W B (.slice a (l++be4 n).length c) (l++be4 n) w':=by
 refine (q2S v l n B w hn h.1 hl h.2.2).mono ?_;rintro e w' ⟨g,cap,rfl,hg,ho,hb⟩;exact ⟨_,_,rfl,ho,h.2.1.trans hb,Nat.le_trans h.2.2 hb.size⟩
theorem y3j(f:Fr)(a:Option Addr)(c:Nat)(w:World)(hf:f.Ok)(hl:f.b.length≤1000000)(hx:RdB w (.slice a f.b.length c) f.b):
  Calls Tryz.prog 112 #[frV f (.slice a f.b.length c)] w fun e w'=>∃a c,e= .returned (.slice a (z0w f).length c)∧w'.ownsRow (w.heap.size+1) 5 1 (.slice a (z0w f).length c) (z0w f).length (z0b (z0w f))∧Below w.heap.size w w':=by
 have hA:=z2j.made w f (.slice a f.b.length c);have hX:=z7 (hx.low (q5 w (.cells (z0a f (.slice a f.b.length c)) 50)));have hW0:=z7 (q5 w (.cells (z0a f (.slice a f.b.length c)) 50));have hs0:(w.alloc (.cells (z0a f (.slice a f.b.length c)) 50)).heap.size=w.heap.size+1:=by simp
 have v1:=z7 (y9c hf);have v2:=z7 (y9D hf);have hhead:=z7 (y5J f);obtain ⟨o1,o2,o3,o4,o5,o6,o7,o8,o9,o10⟩:=hf;clear hx;have hfV:frV f (.slice a f.b.length c)= .agg #[.int .u8 f.kind, .int .u32 f.epoch, .int .u32 f.series, .int .u32 f.chunk, .int .u32 f.bits, .int .u32 f.cnt, .int .u32 f.count, .bool f.closed, .int .u64 f.sum, .slice a f.b.length c, .int .i64 f.n]:=rfl;rw [hfV];clear hfV;go_enter Tryz.func112,Tryz.ntmps112;go_wp2;have hr0:=z7 (rowIs_made (w.alloc (.cells (z0a f (.slice a f.b.length c)) 50)) (w.heap.size+1) [0x44,0x59,UInt8.ofNat f.kind] #[.int .u8 68, .int .u8 89, .int .u8 f.kind] hs0.symm (by
  simp only [z0b,List.map_cons,List.map_nil,UInt8.toNat_ofNat',List.toArray];rw [Nat.mod_eq_of_lt o1];rfl) (by simp))
 have hWF:∃WF,WF=w.alloc (.cells (z0a f (.slice a f.b.length c)) 50):=⟨_,rfl⟩;obtain ⟨WF,hWF⟩:=hWF;rw [←hWF] at hr0 hX hW0 hs0;have hA':z2j WF w.heap.size f (.slice a f.b.length c):=by rw [hWF];exact hA
 have HWF:=z7 hWF;have HA:=z7 hA';clear hWF hA hA';go_loopw [3,27] (fun v i wr=>∃(k n c':Nat) (ao:Option Addr),k≤6∧i= .int .i64 k∧v= .slice ao n c'∧n≤27∧Hid (n=3+4*k)∧Hid (z4I WF (w.heap.size+1) v ([0x44,0x59,UInt8.ofNat f.kind]++((z3V f).take k).flatMap be4) wr)) (fun _ i _=>6 - (intOf i).toNat)
 case atStart=>exact ⟨0,3,3,_,by omega,rfl,rfl,by omega,rfl,by rw [HWF.out];have h:=hr0;rw [HWF.out] at h;exact h⟩
 case round=>
  obtain ⟨k,n,c',ao,hk,rfl,rfl,hn27,hn,hR⟩:=hrel;have hAr:z2j wr w.heap.size f (.slice a f.b.length c):=HA.out.same hR.out.2.1;by_cases hlt:k<6
  ·have hix:=q2Y f.epoch f.series f.chunk f.bits f.cnt f.count k hlt;have hvk:(z3V f)[k]'hlt<4294967296:=v1.out _ (List.getElem_mem _);have hvg: [f.epoch,f.series,f.chunk,f.bits,f.cnt,f.count].getD k 0=(z3V f)[k]'hlt:=by
    simp only [List.getD,z3V];rw [List.getElem?_eq_getElem hlt];rfl
   rw [hvg] at hix;have hft:=z7 (y1E (z3V f) (k:=k) hlt);have hlen:([0x44,0x59,UInt8.ofNat f.kind]++((z3V f).take k).flatMap be4).length=n:=by
    rw [List.length_append,z7g,List.length_take,hn.out];simp [z3V];omega
   obtain ⟨L,hL⟩:∃L,L= [0x44,0x59,UInt8.ofNat f.kind]++((z3V f).take k).flatMap be4:=⟨_,rfl⟩;rw [←hL] at hR hlen
   generalize (z3V f)[k]'hlt=m at hix hvk hft
   have hL2:Hid (L++be4 m= [0x44,0x59,UInt8.ofNat f.kind]++((z3V f).take (k+1)).flatMap be4):=z7 (by rw [hft.out,←List.append_assoc,hL]);have i0:(0:Int)≤k:=by omega
   have i1:(k:Int)<6:=by omega
   have HLn:=z7 hlen;clear hvg hL hlen hAr;go_wp2_with fail
   with_reducible refine (y2N hR.out hvk (by rw [HLn.out];omega)).mono ?_
   rintro e w2 ⟨a2,c2,rfl,hR2⟩;have hlen2:(L++be4 m).length=n+4:=by rw [List.length_append,HLn.out,z4b]
   obtain ⟨n2,hn2⟩:∃n2,n2=(L++be4 m).length:=⟨_,rfl⟩;rw [←hn2] at hR2 ⊢;have hn3:n2≤27:=by have:=hn.out;omega
   have hn4:Hid (n2=3+4*(k+1)):=z7 (by have:=hn.out;omega);rw [hL2.out] at hR2;have HR2:=z7 hR2;clear hR2 hlen2 hn2;go_wp2
   go_roundw
   case rel=>exact ⟨k+1,n2,c2,a2,by omega,by go_num,rfl,hn3,hn4,HR2⟩
   case measure=>simp [intOf];omega
  ·obtain rfl:k=6:=by omega
   have hlen:([0x44,0x59,UInt8.ofNat f.kind]++((z3V f).take 6).flatMap be4).length=n:=by
    rw [List.length_append,z7g,List.length_take,hn.out];simp [z3V]
   rw [show (z3V f).take 6=z3V f from rfl] at hR hlen;obtain ⟨L,hL⟩:∃L,L= [0x44,0x59,UInt8.ofNat f.kind]++(z3V f).flatMap be4:=⟨_,rfl⟩;rw [←hL] at hR hlen;obtain ⟨c0,c1,c2,c3,c4,c5,c6,c7,c8,c9,c10⟩:=hAr.cells;have HL:=z7 hL;have HLn:=z7 hlen;clear hL hlen hAr;go_wp2_with fail
   with_reducible refine (q1x f.closed _).mono ?_
   rintro e w' ⟨rfl,rfl⟩;obtain ⟨fl,hfl⟩:∃fl,fl=y0w f.closed:=⟨_,rfl⟩;rw [←hfl];have HFL:=z7 hfl;have hrf:RdB (wr.alloc (.cells #[.int .u8 (fl.toNat:Nat)] 5)) (.slice (some ⟨wr.heap.size,0,none⟩) 1 1) [fl]:=
    z8p (l:= [fl]) (e:=5) (fr:=(0,0)) (by rw [j8];rfl) (by simp) 1
   have HRF:=z7 hrf;have HR2:=z7 (hR.out.to (q5 wr (.cells #[.int .u8 (fl.toNat:Nat)] 5)));have hrow:=HR2.out.1;rw [HLn.out] at hrow;have HROW:=z7 hrow;clear hrf hfl hrow;have hbs:w.heap.size+1≤(wr.alloc (.cells #[.int .u8 (fl.toNat:Nat)] 5)).heap.size:=HR2.out.lt;go_wp2_with (at_builtin;refine wpList_copy_own rfl (.tmp 34) (.tmp 38) 46 rfl WF (w.heap.size+1) 5 Tryz.underlying46 z3U (.slice ao n c') L rfl HR2.out _ [fl] rfl HRF.out (by simp [HLn.out];omega) ?_);intro ao2 co2 w2 hR3 hb3;have hA2:z2j w2 w.heap.size f (.slice a f.b.length c):=HA.out.same hR3.2.1;obtain ⟨c0,c1,c2,c3,c4,c5,c6,c7,c8,c9,c10⟩:=hA2.cells;have HR3:=z7 hR3;have hn28:L.length+1≤40:=by rw [HLn.out];omega
   have h28:Hid (L.length+1=28+4*0):=z7 (by rw [HLn.out,hn.out]);clear hR3 hb3 hA2 HROW HR2 HRF hR hbs;go_wp2;obtain ⟨L2,hL2⟩:∃L2,L2=L++ [fl]:=⟨_,rfl⟩;have hL2n:L2.length=L.length+1:=by rw [hL2];simp
   rw [←hL2] at HR3;have HL2:=z7 hL2;have HL2n:=z7 hL2n;clear hL2 hL2n c0 c1 c2 c3 c4 c5 c6 c7 c8 c9 c10;obtain ⟨wo,rfl⟩:∃wo:World,wo=wr:=⟨_,rfl⟩;go_loopw [3,52] (fun v i wr=>∃(k n c':Nat) (ao:Option Addr),k≤3∧i= .int .i64 k∧v= .slice ao n c'∧n≤40∧Hid (n=28+4*k)∧Hid (z4I WF (w.heap.size+1) v (L2++((z4s f).take k).flatMap be4) wr)) (fun _ i _=>3 - (intOf i).toNat)
   case atStart=>exact ⟨0,L.length+1,co2,ao2,by omega,rfl,rfl,hn28,h28,z7 (by simpa using HR3.out)⟩
   case round=>
    obtain ⟨k,n2,c',ao3,hk,rfl,rfl,hn40,hn',hR⟩:=hrel;by_cases hlt:k<3
    ·have hix:=q2K ((f.sum:Int)/4294967296) ((f.sum:Int)%4294967296) (f.n%4294967296) k hlt;have hvk:(z4s f)[k]'hlt<4294967296:=v2.out _ (List.getElem_mem _);have hvg: [(f.sum:Int)/4294967296,(f.sum:Int)%4294967296,f.n%4294967296].getD k 0=(((z4s f)[k]'hlt:Nat):Int):=by
      obtain rfl | rfl | rfl:k=0∨k=1∨k=2:=by omega
      all_goals simp [z4s]
      omega
     rw [hvg] at hix;have hft:=z7 (y1E (z4s f) (k:=k) hlt);have hlen:(L2++((z4s f).take k).flatMap be4).length=n2:=by
      rw [List.length_append,z7g,List.length_take,hn'.out,HL2n.out,h28.out];simp [z4s];omega
     obtain ⟨M,hM⟩:∃M,M=L2++((z4s f).take k).flatMap be4:=⟨_,rfl⟩;rw [←hM] at hR hlen
     generalize (z4s f)[k]'hlt=m at hix hvk hft
     have hM2:Hid (M++be4 m=L2++((z4s f).take (k+1)).flatMap be4):=z7 (by rw [hft.out,←List.append_assoc,hM]);have i0:(0:Int)≤k:=by omega
     have i1:(k:Int)<3:=by omega
     have HMn:=z7 hlen;clear hvg hM hlen;go_wp2_with fail
     with_reducible refine (y2N hR.out hvk (by rw [HMn.out];omega)).mono ?_
     rintro e w3 ⟨a4,c4,rfl,hR4⟩;have hlen2:(M++be4 m).length=n2+4:=by rw [List.length_append,HMn.out,z4b]
     obtain ⟨n5,hn5⟩:∃n5,n5=(M++be4 m).length:=⟨_,rfl⟩;rw [←hn5] at hR4 ⊢;have hn3:n5≤40:=by have:=hn'.out;omega
     have hn4:Hid (n5=28+4*(k+1)):=z7 (by have:=hn'.out;omega);rw [hM2.out] at hR4;have HR4:=z7 hR4;clear hR4 hlen2 hn5;go_wp2
     go_roundw
     case rel=>exact ⟨k+1,n5,c4,a4,by omega,by go_num,rfl,hn3,hn4,HR4⟩
     case measure=>simp [intOf];omega
    ·obtain rfl:k=3:=by omega
     have hH:L2++((z4s f).take 3).flatMap be4=z1q f:=by
      rw [HL2.out,HL.out,HFL.out,hhead.out,show (z4s f).take 3=z4s f from rfl]
     rw [hH] at hR;have hA3:z2j wr w.heap.size f (.slice a f.b.length c):=HA.out.same hR.out.2.1;obtain ⟨c0,c1,c2,c3,c4,c5,c6,c7,c8,c9,c10⟩:=hA3.cells;have hXr:RdB wr (.slice a f.b.length c) f.b:=hX.out.low (by rw [hs0];exact hR.out.2.1);have HXr:=z7 hXr;clear hH hA3 hXr;go_wp2_with (at_builtin;refine wpList_copy_own rfl (.tmp 59) (.tmp 62) 46 rfl WF (w.heap.size+1) 5 Tryz.underlying46 z3U (.slice ao3 n2 c') (z1q f) rfl hR.out _ f.b rfl HXr.out (by rw [z1L];omega) ?_);intro ao5 co5 w5 hR5 _;rw [show z1q f++f.b=z2g f from rfl] at hR5;have hbl:(z2g f).length=40+f.b.length:=by simp [z2g,z1L]
     have hvl:Hid ((z1q f).length+f.b.length=(z2g f).length):=z7 (by simp [z2g]);rw [hvl.out] at hR5 ⊢;have hbl2:(z2g f).length≤1000040:=by omega
     obtain ⟨M,hM⟩:∃M,M=z2g f:=⟨_,rfl⟩;rw [←hM] at hR5 hbl2 ⊢;have HM:=z7 hM;have HR5:=z7 hR5;clear hR5 hM hvl hR HXr c0 c1 c2 c3 c4 c5 c6 c7 c8 c9 c10 hbl;go_wp2_with fail;refine (z7Q w5).mono ?_;rintro e w6 ⟨rfl,hT,hb6,hlt6⟩;have hR6:=HR5.out.to hb6;have hBt:=HR5.out.lt;have hne:∀k,(Value.slice ao5 M.length co5).ownBlock=some k→k≠w5.heap.size:=fun k hk=>by have:=(HR5.out.1.lt k hk).2;omega
     generalize w5.heap.size=tb at hT hlt6 hBt hne
     have HT:=z7 hT;have HR6:=z7 hR6;have HNE:=z7 hne;clear hT hb6 hR6 HR5 hne;go_wp2_with fail;refine (z6S tb false _ M _ _ (HT.out.alloc _) (z2W _ (by simp)) (by omega) (fun w' hc=>z0d ((HR6.out.to (q5 _ _)).chg hc hBt HNE.out).1) (by omega)).mono ?_;rintro e w7 ⟨rfl,hT7,hc7⟩;have HR7:=z7 ((HR6.out.to (q5 _ _)).chg hc7 hBt HNE.out);have hcl:=z7b M;clear hT7 hc7 HR6 HT;go_wp2_with fail
     with_reducible refine (y2N HR7.out hcl (by omega)).mono ?_
     rintro e w8 ⟨a8,c8,rfl,hR8⟩;have hW:z0w f=M++be4 (z2A M):=by rw [HM.out];rfl
     rw [←hW] at hR8 ⊢;have HR8:=z7 hR8;clear hR8 hW;go_wp2;go_ret;exact ⟨a8,c8,rfl,HR8.out.1,hW0.out.trans (HR8.out.2.1.mono (by omega))⟩
theorem y8b(f:Fr)(a:Option Addr)(c:Nat)(w:World)(hf:f.Ok)(hl:f.b.length≤1000000)(hx:RdB w (.slice a f.b.length c) f.b)(hm:z1D f=true):
  Calls Tryz.prog 116 #[frV f (.slice a f.b.length c)] w fun e w'=>∃a c,e= .returned (.tuple #[.slice a (z0w f).length c, .int .u16 0])∧w'.ownsRow w.heap.size 5 1 (.slice a (z0w f).length c) (z0w f).length (z0b (z0w f))∧Below w.heap.size w w':=by
 have hA:=z2j.made w f (.slice a f.b.length c);have hX:=z7 (hx.low (q5 w (.cells (z0a f (.slice a f.b.length c)) 50)));have hW0:=z7 (q5 w (.cells (z0a f (.slice a f.b.length c)) 50));have hs0:(w.alloc (.cells (z0a f (.slice a f.b.length c)) 50)).heap.size=w.heap.size+1:=by simp
 have HM:=z7 hm;have HF:=z7 hf;have HA:=z7 hA;clear hx hm hf hA;have hfV:frV f (.slice a f.b.length c)= .agg #[.int .u8 f.kind, .int .u32 f.epoch, .int .u32 f.series, .int .u32 f.chunk, .int .u32 f.bits, .int .u32 f.cnt, .int .u32 f.count, .bool f.closed, .int .u64 f.sum, .slice a f.b.length c, .int .i64 f.n]:=rfl;have HV:=z7 hfV;rw [hfV];clear hfV;go_enter Tryz.func116,Tryz.ntmps116;go_wp2_with fail;rw [←HV.out];refine (y2F f a c _ HF.out hl hX.out).mono ?_;rintro e w2 ⟨rfl,hb⟩;rw [HM.out];have hA2:=HA.out.low hb;obtain ⟨c0,c1,c2,c3,c4,c5,c6,c7,c8,c9,c10⟩:=hA2.cells;have hX2:=z7 (hX.out.low hb);have hW2:Hid (Below w.heap.size w w2):=z7 (hW0.out.trans (hb.mono (by omega)));clear hb hA2;go_wp2_with fail;rw [←HV.out];refine (y3j f a c _ HF.out hl hX2.out).mono ?_;rintro e w3 ⟨a3,c3,rfl,ho,hb⟩;have HO:=z7 (z0i ho (show w.heap.size≤w2.heap.size+1 by have:=hW2.out.size;omega));have HW3:=z7 (hW2.out.trans (hb.mono hW2.out.size));clear ho hb;go_wp2;go_ret2;exact ⟨a3,c3,rfl,HO.out,HW3.out⟩
theorem y2T(f:Fr)(a:Option Addr)(c:Nat)(w:World)(hf:f.Ok)(hl:f.b.length≤1000000)(hx:RdB w (.slice a f.b.length c) f.b)(hm:z1D f=false):
  Calls Tryz.prog 116 #[frV f (.slice a f.b.length c)] w fun e w'=>e= .returned (.tuple #[.slice none 0 0, .int .u16 70])∧Below w.heap.size w w':=by
 have hX:=z7 (hx.low (q5 w (.cells (z0a f (.slice a f.b.length c)) 50)));have hW0:=z7 (q5 w (.cells (z0a f (.slice a f.b.length c)) 50));have hs0:(w.alloc (.cells (z0a f (.slice a f.b.length c)) 50)).heap.size=w.heap.size+1:=by simp
 have HM:=z7 hm;have HF:=z7 hf;clear hx hm hf;have hfV:frV f (.slice a f.b.length c)= .agg #[.int .u8 f.kind, .int .u32 f.epoch, .int .u32 f.series, .int .u32 f.chunk, .int .u32 f.bits, .int .u32 f.cnt, .int .u32 f.count, .bool f.closed, .int .u64 f.sum, .slice a f.b.length c, .int .i64 f.n]:=rfl;have HV:=z7 hfV;rw [hfV];clear hfV;go_enter Tryz.func116,Tryz.ntmps116;go_wp2_with fail;rw [←HV.out];refine (y2F f a c _ HF.out hl hX.out).mono ?_;rintro e w2 ⟨rfl,hb⟩;rw [HM.out];have hW2:Hid (Below w.heap.size w w2):=z7 (hW0.out.trans (hb.mono (by omega)));clear hb;go_wp2;go_ret2;exact ⟨rfl,hW2.out⟩
theorem addr_add_add(a:Addr)(i j:Nat):(a.add i).add j=a.add (i+j):=by
 unfold Addr.add;split<;>split<;>split<;>simp_all<;>omega
theorem RdB.drop{w:World}{a:Option Addr}{c:Nat}{l:List UInt8}(h:RdB w (.slice a l.length c) l)(k:Nat)(hk:k<l.length)(c':Nat):RdB w (.slice (a.map fun x=>x.add k) (l.length - k) c') (l.drop k):=by
 obtain ⟨h1,⟨he,hz⟩ | ⟨ad,c2,he,hc⟩⟩:=h
 ·omega
 ·simp only [Value.slice.injEq,true_and] at he;obtain ⟨rfl,rfl⟩:=he;refine ⟨by simp [z0b], .inr ⟨ad.add k,c',by simp,fun j u hu=>?_⟩⟩;rw [addr_add_add];refine hc (k+j) u ?_;simpa [z0b] using hu
theorem RdB.take{w:World}{a:Option Addr}{c:Nat}{l:List UInt8}(h:RdB w (.slice a l.length c) l)(k:Nat)(hk:k≤l.length)(h0:0<l.length):RdB w (.slice a k c) (l.take k):=by
 obtain ⟨h1,⟨he,hz⟩ | ⟨ad,c2,he,hc⟩⟩:=h
 ·omega
 ·simp only [Value.slice.injEq,true_and] at he;obtain ⟨rfl,rfl⟩:=he;have e:(l.take k).length=k:=by simp;omega
  show Rd _ _ 1 (l.take k).length _;rw [e];refine ⟨by simp [z0b];omega, .inr ⟨ad,c,rfl,fun j u hu=>hc j u ?_⟩⟩;simp only [z0b,List.map_take,List.getElem?_take] at hu ⊢;split at hu
  ·exact hu
  ·cases hu
theorem y6k(q p:Nat)(hqp:q≠p)(a:Option Addr)(c k:Nat)(l:List UInt8)(w:World)(hx:RdB (w.setCell ⟨q,0,none⟩ (.int .i64 ((k:Int)+4))) (.slice a l.length c) l)(hl:l.length≤4096)(hc:l.length≤c)(hc2:c≤9223372036854775807)(hk:k+4≤l.length)
  (hq:w.cell? ⟨q,0,none⟩=some (.int .i64 k)) (hqf:w.frozen? ⟨q,0,none⟩=false) (hp:w.cell? ⟨p,0,none⟩=some (.slice a l.length c)):
  Calls Tryz.prog 108 #[.pointer (some ⟨q,0,none⟩), .pointer (some ⟨p,0,none⟩)] w fun e w'=>e= .returned (.int .u32 (unB ((l.drop k).take 4):Nat))∧w'=w.setCell ⟨q,0,none⟩ (.int .i64 ((k:Int)+4)):=by
 have hd:=hx.drop k (by omega) (c - k);have e:l.length - k=(l.drop k).length:=by simp
 rw [e] at hd;have HD:=z7 hd;have HE:=z7 e;clear hx hd e;go_enter Tryz.func108,Tryz.ntmps108;go_wp2_with fail;rw [HE.out];refine (y6e _ (c - k) (l.drop k) _ HD.out (by simp;omega) (by simp;omega) (by omega)).mono ?_;rintro e w' ⟨rfl,rfl⟩;go_wp2;go_ret;exact ⟨rfl,rfl⟩
theorem y4K(ad:Addr)(l:List UInt8)(c:Nat)(w:World)(hx:RdB w (.slice (some ad) l.length c) l)(hl:l.length≤70368744177664):
  Calls Tryz.prog 109 #[.slice (some ad) l.length c] w fun e w'=>∃a c,e= .returned (.slice a l.length c)∧w'.ownsRow w.heap.size 5 1 (.slice a l.length c) l.length (z0b l)∧Below w.heap.size w w':=by
 have hn:=fun (w:World)=>Lib.run_eql_slice_nil (P:=Tryz.prog) w 46 5 (some ad) l.length c 0 0 Tryz.underlying46;have hx':RdB (w.alloc (.cells #[] 5)) (.slice (some ad) l.length c) l:=hx.low (q5 _ _);have HX:=z7 hx';clear hx hx';go_enter Tryz.func109,Tryz.ntmps109;go_wp2_with (at_builtin;refine z4Y rfl (.tmp 5) (.tmp 6) 46 rfl w.heap.size 5 Tryz.underlying46 z3U _ [] rfl (World.ownsRow_made w #[] 0 (Nat.le_refl _) (by decide) rfl) _ l rfl HX.out (by simp;omega) (by simp) ?_);intro ao co w2 h1 h2 _;have hb:Below w.heap.size w w2:=((Below.refl _ _).alloc (Nat.le_refl _) _).grown h2 (by simp) (by simp [Value.ownBlock]);have HO:=z7 h1;have HB:=z7 hb;clear h1 h2 hb;go_wp2;go_ret;exact ⟨ao,co,rfl,HO.out,HB.out⟩
theorem y3r(x y:Value)(l m:List UInt8)(w:World)(hx:RdB w x l)(hy:RdB w y m):
  Calls Tryz.prog 111 #[x,y] w fun e w'=>e= .returned (.bool (l==m))∧w=w':=by
 have v1:=z6b l _ _ hx;have v2:=z6b m _ _ hy;have e1:=z8i l;have e2:=z8i m;have hx1:=hx.oneCell;have hy1:=hy.oneCell;obtain ⟨a1,c1,rfl⟩:=hx.head;obtain ⟨a2,c2,rfl⟩:=hy.head;clear hx hy hx1 hy1;go_enter Tryz.func111,Tryz.ntmps111;go_wp2;go_ret;exact ⟨z0M (by first | rfl | simp [e1,e2]),rfl⟩
def z0O:Fr:=⟨0,0,0,0,0,0,0,false,0, [],0⟩
def num(b:List UInt8)(k:Nat):Nat:=unB ((b.drop k).take 4)
def fieldsB(b:List UInt8):Fr:=
 {kind:=(b.getD 2 0).toNat,epoch:=num b 3,series:=num b 7,chunk:=num b 11,bits:=num b 15,cnt:=num b 19,count:=num b 23,closed:=(b.getD 27 0).toNat==1,
  sum:=num b 28*4294967296+num b 32,b:=(b.take (b.length - 4)).drop 40,n:=num b 36}
def y5V(b:List UInt8):Bool:=z1D (fieldsB b)&&(z0w (fieldsB b)==b)
def goF(b:List UInt8):Fr:=if y5V b then fieldsB b else z0O
def goE(b:List UInt8):Int:=if y5V b then 0 else 70
theorem z2j.store{w:World}{r:Nat}{f0:Fr}{x0:Value}(h:z2j w r f0 x0)(f:Fr)(x:Value):z2j (w.setCells r 0 (z0a f x).toList) r f x:=by
 unfold z2j at h ⊢;rw [z0I _ 0 _ _ h (by simp [z0a])];simp [laid,z0a]
theorem z5p(tmps:Array Value)(r:Nat)(en:Int)(f:Fr)(x:Value)(W:World)(h2:tmps.getD 2 undef= .pointer (some ⟨r,0,none⟩))(h3:tmps.getD 3 undef= .int .u16 en)(hA:z2j W r f x):
  (results Tryz.f53 tmps).run Tryz.prog W= .ok (.tuple #[frV f x, .int .u16 en]) W:=by
 obtain ⟨c0,c1,c2,c3,c4,c5,c6,c7,c8,c9,c10⟩:=hA.cells;simp only [Array.getD_eq_getD_getElem?] at h2 h3;simp [results,Tryz.results53,go_sem,h2,h3,c0,c1,c2,c3,c4,c5,c6,c7,c8,c9,c10,frV,z0a]
theorem z3L{B r o:Nat}{w w':World}(h:Below B w w')(hB:B≤w'.heap.size)(hr:B≤r)(vs:List Value):Below B w (w'.setCells r o vs):=
 h.trans ((Chg.setCells (b:=r) vs o w').below hB (by simpa using hr))
def Told(w:World)(f:Fr)(en:Int)(e:Ending)(w':World):Prop:=
 ∃a c,e= .returned (.tuple #[frV f (.slice a f.b.length c), .int .u16 en])∧RdB w' (.slice a f.b.length c) f.b∧Below w.heap.size w w'∧∀k,(Value.slice a f.b.length c).ownBlock=some k→w.heap.size≤k
theorem y1b(a:Option Addr)(c:Nat)(b:List UInt8)(w:World)(hl:b.length≤9223372036854775807)(hno:b.length<44∨4096<b.length):
  Calls Tryz.prog 53 #[.slice a b.length c] w (Told w z0O 70):=by
 have hfin:∀w',Below w.heap.size w w'→Told w z0O 70 (.returned (.tuple #[.agg #[.int .u8 0, .int .u32 0, .int .u32 0, .int .u32 0, .int .u32 0, .int .u32 0, .int .u32 0, .bool false, .int .u64 0, .slice none 0 0, .int .i64 0], .int .u16 70])) w':=
  fun w' h=>⟨none,0,rfl,RdB.nil w',h,fun k hk=>by cases hk⟩
 have HF:=z7 hfin;clear hfin;by_cases h1:b.length<44
 ·go_enter Tryz.func53,Tryz.ntmps53;go_wp2;refine bodyPost_ret (v:= .tuple #[.agg #[.int .u8 0, .int .u32 0, .int .u32 0, .int .u32 0, .int .u32 0, .int .u32 0, .int .u32 0, .bool false, .int .u64 0, .slice none 0 0, .int .i64 0], .int .u16 70]) (by simp [results,Tryz.results53,go_sem]) rfl ?_;exact HF.out _ ((q5 _ _).alloc (by simp) _)
 ·go_enter Tryz.func53,Tryz.ntmps53;go_wp2;refine bodyPost_ret (v:= .tuple #[.agg #[.int .u8 0, .int .u32 0, .int .u32 0, .int .u32 0, .int .u32 0, .int .u32 0, .int .u32 0, .bool false, .int .u64 0, .slice none 0 0, .int .i64 0], .int .u16 70]) (by simp [results,Tryz.results53,go_sem]) rfl ?_;exact HF.out _ ((q5 _ _).alloc (by simp) _)
theorem y1j(a:Option Addr)(c:Nat)(b:List UInt8)(w:World)(hx:RdB w (.slice a b.length c) b)(h1:44≤b.length)(h2:b.length≤4096)(hc:b.length≤c)(hc2:c≤9223372036854775807)(hs:unB (b.drop (b.length - 4))≠z2A (b.take (b.length - 4))):
  Calls Tryz.prog 53 #[.slice a b.length c] w (Told w z0O 71):=by
 have hfin:∀w',Below w.heap.size w w'→Told w z0O 71 (.returned (.tuple #[frV z0O (.slice none 0 0), .int .u16 71])) w':=
  fun w' h=>⟨none,0,rfl,RdB.nil w',h,fun k hk=>by cases hk⟩
 have HF:=z7 hfin;have HX:=z7 hx;have HS:=z7 hs;clear hfin hx hs;have i0:(0:Int)≤(b.length:Int) - 4:=by omega
 have i1:(b.length:Int) - 4≤b.length:=by omega
 go_enter Tryz.func53,Tryz.ntmps53;go_wp2;go_quiet (fail)
 have hx1:RdB (((w.alloc (.cells #[.slice a b.length c] 46)).alloc (.cells #[.int .u8 0, .int .u32 0, .int .u32 0, .int .u32 0, .int .u32 0, .int .u32 0, .int .u32 0, .bool false, .int .u64 0, .slice none 0 0, .int .i64 0] 50)).drewN nq) (.slice a b.length c) b:=
  HX.out.low (z0k ((q5 _ _).alloc (by simp) _))
 have hr1:z2j (((w.alloc (.cells #[.slice a b.length c] 46)).alloc (.cells #[.int .u8 0, .int .u32 0, .int .u32 0, .int .u32 0, .int .u32 0, .int .u32 0, .int .u32 0, .bool false, .int .u64 0, .slice none 0 0, .int .i64 0] 50)).drewN nq) (w.heap.size+1) z0O (.slice none 0 0):=by
  exact z2W (w:=w.alloc (.cells #[.slice a b.length c] 46)) _ (by simp)
 have hp1:(((w.alloc (.cells #[.slice a b.length c] 46)).alloc (.cells #[.int .u8 0, .int .u32 0, .int .u32 0, .int .u32 0, .int .u32 0, .int .u32 0, .int .u32 0, .bool false, .int .u64 0, .slice none 0 0, .int .i64 0] 50)).drewN nq).heap[w.heap.size]? =some (.cells #[.slice a b.length c] 46 (0,0)):=
  (heap_alloc_old _ _ (by simp)).trans (j8 w _)
 have hb1:Below w.heap.size w (((w.alloc (.cells #[.slice a b.length c] 46)).alloc (.cells #[.int .u8 0, .int .u32 0, .int .u32 0, .int .u32 0, .int .u32 0, .int .u32 0, .int .u32 0, .bool false, .int .u64 0, .slice none 0 0, .int .i64 0] 50)).drewN nq):=
  z0k ((q5 _ _).alloc (by simp) _)
 generalize ((w.alloc (.cells #[.slice a b.length c] 46)).alloc (.cells #[.int .u8 0, .int .u32 0, .int .u32 0, .int .u32 0, .int .u32 0, .int .u32 0, .int .u32 0, .bool false, .int .u64 0, .slice none 0 0, .int .i64 0] 50)).drewN nq=W1 at hx1 hr1 hp1 hb1
 have hd:=hx1.drop (b.length - 4) (by omega) (c - (b.length - 4));have e:b.length - (b.length - 4)=(b.drop (b.length - 4)).length:=by simp
 rw [e] at hd;have HD:=z7 hd;have HE:=z7 e;have HX1:=z7 hx1;have HR1:=z7 hr1;have HP1:=z7 hp1;have HB1:=z7 hb1;have hrl:=hr1.lt;clear hd e hx1 hr1 hp1 hb1;go_wp2_with fail;rw [HE.out];refine (y6e _ _ (b.drop (b.length - 4)) _ HD.out (by simp;omega) (by simp;omega) (by omega)).mono ?_;rintro e w' ⟨rfl,rfl⟩;rw [show (b.drop (b.length - 4)).take 4=b.drop (b.length - 4) from List.take_of_length_le (by simp;omega)];go_wp2_with fail;refine (z7Q W1).mono ?_;rintro e w2 ⟨rfl,hT,hb2,hlt⟩;have hcs:=y9Y (Below.refl _ W1) hT hb2;obtain ⟨tb,htb⟩:∃tb,tb=W1.heap.size:=⟨_,rfl⟩;rw [←htb] at hcs hlt ⊢;have HC:=z7 hcs;clear hT hb2 hcs HE HD htb;have hx2:=z7 (HX1.out.take (b.length - 4) (by omega) (by omega));have hln:Hid ((b.take (b.length - 4)).length=b.length - 4):=z7 (by simp);go_wp2_with fail;refine (z6S tb false _ (b.take (b.length - 4)) _ _ (HC.out.alloc _).tab (z2W _ (by simp)) (by omega) (fun w' hc=>(HC.out.alloc _).rd hc hx2.out) (by have:=hln.out;omega)).mono ?_;rintro e w5 ⟨rfl,hT5,hc5⟩;have hb5:=((HC.out.alloc _).sum hT5 hc5).low;have HX5:=z7 (HX1.out.low hb5);have HR5:=z7 (HR1.out.low hb5);have HP5:Hid (w5.heap[w.heap.size]? =some (.cells #[.slice a b.length c] 46 (0,0))):=z7 ((hb5.block _ (by omega)).trans HP1.out);have HB5:Hid (Below w.heap.size w w5):=z7 (HB1.out.trans (hb5.mono HB1.out.size));have hrl5:=HR5.out.lt;clear hT5 hc5 hb5 HC HX1 HR1 HP1 HB1 hx2 hln hlt hrl;obtain ⟨c0,c1,c2,c3,c4,c5,c6,c7,c8,c9,c10⟩:=HR5.out.cells
 have zf:∀o,w5.frozen? ⟨w.heap.size+1,o,none⟩=false:=fun o=>by simp [World.frozen?,show w5.heap[w.heap.size+1]? =_ from HR5.out]
 have ht:((unB (b.drop (b.length - 4)):Int) !=(z2A (b.take (b.length - 4)):Int))=true:=by rw [bne_iff_ne];have:=HS.out;omega
 unfold z0O at c0 c1 c2 c3 c4 c5 c6 c7 c8 c10;simp only at c0 c1 c2 c3 c4 c5 c6 c7 c8 c10;go_wp2;refine bodyPost_ret (z5p _ (w.heap.size+1) 71 z0O (.slice none 0 0) _ (by simp) (by simp) (HR5.out.store z0O (.slice none 0 0))) rfl ?_;exact HF.out _ (z3L (w':=w5) (r:=w.heap.size+1) (o:=0) HB5.out (by omega) (by omega) (z0a z0O (.slice none 0 0)).toList)
end Go.Proofs.YtfcnapnopdomhaaGreatDoor

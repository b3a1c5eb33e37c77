/-
  The walks of chunk's time, Get.
-/
import Derived.Test.YtfcnapnopdomhaaGreatDoorZChNChA
namespace Go.Proofs.YtfcnapnopdomhaaGreatDoor
set_option linter.unusedSimpArgs false
set_option linter.unusedVariables false
set_option maxRecDepth 100000
set_option maxHeartbeats 12800000
open Go.RowKit
theorem z9V{fn:Func}{t0 t1 t2 t3:Tmp}(h:fn.results= #[.tmp t0, .tmp t1, .tmp t2, .tmp t3])(tmps:Array Value)(w:World):
  (results fn tmps).run Tryz.prog w= .ok (.tuple #[tmps.getD t0 undef,tmps.getD t1 undef,tmps.getD t2 undef,tmps.getD t3 undef]) w:=by
 simp [results,h,go_sem]
def z5R(l:List Bool)(i:Nat)(x:z1A)(w:World)(e:Ending)(w':World):Prop:=
 Below w.heap.size w w'∧((∃t d p,z5s x (l.drop i)=some (t,d,l.drop p)∧p≤l.length∧e= .returned (.tuple #[.int .i64 t, .int .i64 d, .int .i64 (p:Nat), .bool true]))∨
  (z5s x (l.drop i)=none∧∃t d p:Int,e= .returned (.tuple #[.int .i64 t, .int .i64 d, .int .i64 p, .bool false])))
theorem q1Z(a:Option Addr)(n c:Nat)(l:List Bool)(b:List UInt8)(i:Nat)(en:Nat)(el ed:Int)(has:Bool)(prev lead width:Nat)(w:World)(h:z0o w a n c l b)(hl:l.length≤549755813000)(hi:i≤l.length):
  Calls Tryz.prog 226 #[.agg #[.slice a n c, .int .i64 l.length], .int .i64 (i:Nat), .agg #[.int .i64 (en:Nat), .int .i64 el, .int .i64 ed, .bool has, .int .u64 (prev:Nat), .int .u8 (lead:Nat), .int .u8 (width:Nat)]] w (z5R l i ⟨en,el,ed,⟨has,prev,lead,width⟩⟩ w):=by
 obtain ⟨N,hN⟩:∃N,N=l.length:=⟨_,rfl⟩;have HB:=z7 (y0B a n c l b i 64);have HZ:=z7 (q2z a n c l b i);rw [←hN] at HB HZ ⊢;have hNl:N≤549755813000:=by omega
 have hiN:i≤N:=by omega
 have H:=z7 h;have HN:=z7 hN;have HL0:=z7 (((Loc.start w).new (.cells #[.slice a n c, .int .i64 (N:Nat)] 48)).new' (.cells #[.int .i64 (en:Nat), .int .i64 el, .int .i64 ed, .bool has, .int .u64 (prev:Nat), .int .u8 (lead:Nat), .int .u8 (width:Nat)] 139) (n:=w.heap.size+1) (by simp));clear h hN hl hi;by_cases h0:en=0
 ·subst h0;have hwi:IntKind.i64.wrap ((i:Int)+64)=((i+64:Nat):Int):=by rw [z0n (by omega) (by omega)];omega
  go_enter Tryz.func226,Tryz.ntmps226;go_wp2_with fail;refine (HB.out _ (H.out.low HL0.out.low) (by have:=HN.out;omega) (by omega) (by decide)).mono ?_;rintro e w2 ⟨rfl,hb2⟩;have HL2:=z7 (HL0.out.call hb2);clear hb2;obtain ⟨V,hV⟩:∃V,V=z2r l i 64:=⟨_,rfl⟩;obtain ⟨E,hE⟩:∃V,V=z1S l i 64:=⟨_,rfl⟩;rw [←hV,←hE];have HV:=z7 hV;have HE:=z7 hE;obtain ⟨T,hTt⟩:∃T,T=w64 (V:Int):=⟨_,rfl⟩;have hwv:IntKind.i64.wrap (V:Int)=T:=hTt.symm;have HTT:=z7 hTt;clear hV hE hTt;by_cases hE0:E=0
  ·have HF:Hid (∀w',Below w.heap.size w w'→z5R l i ⟨0,el,ed,⟨has,prev,lead,width⟩⟩ w (.returned (.tuple #[.int .i64 T, .int .i64 0, .int .i64 ((i+64:Nat):Int), .bool true])) w'):=z7 fun w' hb=>by
    have h1:z1S l i 64=0:=by rw [←HE.out];exact hE0
    refine ⟨hb, .inl ⟨T,0,i+64,?_,z1I.1 h1,rfl⟩⟩;unfold z5s;rw [if_pos rfl,z4D h1,HTT.out,HV.out];rfl
   subst hE0;go_wp2;refine bodyPost_ret (z9V rfl _ _) rfl ?_;exact HF.out _ HL2.out.low
  ·have d0:((E:Int)==0)=false:=by simp;omega
   have HF:Hid (∀w',Below w.heap.size w w'→z5R l i ⟨0,el,ed,⟨has,prev,lead,width⟩⟩ w (.returned (.tuple #[.int .i64 T, .int .i64 0, .int .i64 ((i+64:Nat):Int), .bool false])) w'):=z7 fun w' hb=>by
    refine ⟨hb, .inr ⟨?_,T,0,_,rfl⟩⟩;unfold z5s;rw [if_pos rfl,rd_not (by have:=HN.out;omega) (by rw [←HE.out];exact hE0)];rfl
   clear hE0;go_wp2;refine bodyPost_ret (z9V rfl _ _) rfl ?_;exact HF.out _ HL2.out.low
 ·have d0:((en:Int)==0)=false:=by simp;omega
  have hTR:Hid (z5s ⟨en,el,ed,⟨has,prev,lead,width⟩⟩ (l.drop i)=match z7L (l.drop i) with
   | none=>none
   | some (d,r)=>if el<w64 (el+w64 (d+ed)) then some (w64 (el+w64 (d+ed)),w64 (d+ed),r) else none):=z7 (by unfold z5s;rw [if_neg h0];rfl)
  clear h0;go_enter Tryz.func226,Tryz.ntmps226;go_wp2_with fail;refine (HZ.out _ (H.out.low HL0.out.low) (by have:=HN.out;omega) (by have:=HN.out;omega)).mono ?_;rintro e w2 ⟨hb2,htold⟩;have HL2:=z7 (HL0.out.call hb2);clear hb2;obtain ⟨e0,e1,e2,e3,e4,e5,e6,ef⟩:=z2G (HL2.out.get 0 rfl);rcases htold with ⟨v,r,hz,hrd,hrl,rfl⟩ | ⟨hz,x,hx0,hx1,rfl⟩
  ·obtain ⟨p,hp⟩:∃p,p=l.length - r.length:=⟨_,rfl⟩;rw [←hp] at hrd ⊢;have hpl:p≤l.length:=by omega
   obtain ⟨D,hD⟩:∃D,D=w64 (v+ed):=⟨_,rfl⟩;obtain ⟨T,hTt⟩:∃T,T=w64 (el+D):=⟨_,rfl⟩;have hw1:IntKind.i64.wrap (v+ed)=D:=hD.symm;have hw2:IntKind.i64.wrap (el+D)=T:=hTt.symm;have hw3:=z4S hw1;have hw4:=z4S hw2;have hTR2:=hTR.out;rw [hz] at hTR2;simp only at hTR2;rw [←hD,←hTt,hrd] at hTR2;by_cases hlt:el<T
   ·have HF:Hid (∀w',Below w.heap.size w w'→z5R l i ⟨en,el,ed,⟨has,prev,lead,width⟩⟩ w (.returned (.tuple #[.int .i64 T, .int .i64 D, .int .i64 (p:Nat), .bool true])) w'):=z7 fun w' hb=>by
     rw [if_pos hlt] at hTR2;exact ⟨hb, .inl ⟨T,D,p,hTR2,hpl,rfl⟩⟩
    have d1:decide (el<T)=true:=decide_eq_true hlt;clear hTR2 hD hTt hz hrd hrl hp hlt;go_wp2_with fail;go_quiet (fail)
    go_wp2;refine bodyPost_ret (z9V rfl _ _) rfl ?_;exact HF.out _ (z0k HL2.out.low)
   ·have HF:Hid (∀w',Below w.heap.size w w'→z5R l i ⟨en,el,ed,⟨has,prev,lead,width⟩⟩ w (.returned (.tuple #[.int .i64 T, .int .i64 D, .int .i64 (p:Nat), .bool false])) w'):=z7 fun w' hb=>by
     rw [if_neg hlt] at hTR2;exact ⟨hb, .inr ⟨hTR2,_,_,_,rfl⟩⟩
    have d1:decide (el<T)=false:=decide_eq_false hlt;clear hTR2 hD hTt hz hrd hrl hp hlt;go_wp2_with fail;go_quiet (fail)
    go_wp2;refine bodyPost_ret (z9V rfl _ _) rfl ?_;exact HF.out _ (z0k HL2.out.low)
  ·have hTR2:=hTR.out;rw [hz] at hTR2;obtain ⟨D,hD⟩:∃D,D=w64 (0+ed):=⟨_,rfl⟩;rw [Int.zero_add] at hD;obtain ⟨T,hTt⟩:∃T,T=w64 (el+D):=⟨_,rfl⟩;have hw1:IntKind.i64.wrap ed=D:=hD.symm;have hw2:IntKind.i64.wrap (el+D)=T:=hTt.symm;have hw3:=z4S hw1;have hw4:=z4S hw2;have d1:((x:Int)==0)=false:=by simp;omega
   have HF:Hid (∀w' (t d p:Int),Below w.heap.size w w'→z5R l i ⟨en,el,ed,⟨has,prev,lead,width⟩⟩ w (.returned (.tuple #[.int .i64 t, .int .i64 d, .int .i64 p, .bool false])) w'):=z7 fun w' t d p hb=>⟨hb, .inr ⟨hTR2,t,d,p,rfl⟩⟩;clear hTR2 hD hTt hz hx0;go_wp2_with fail;go_quiet (fail)
   go_wp2;refine bodyPost_ret (z9V rfl _ _) rfl ?_;exact HF.out _ _ _ _ (z0k HL2.out.low)
def z7a(l:List Bool)(i:Nat)(x:z1A)(w:World)(e:Ending)(w':World):Prop:=
 Below w.heap.size w w'∧((∃s y p,z1e x (l.drop i)=some (s,y,l.drop p)∧i<p∧p≤l.length∧e= .returned (.tuple #[.agg #[.int .i64 s.t, .int .u64 (s.v:Nat)], .int .i64 (p:Nat), .agg #[.int .i64 (y.n:Nat), .int .i64 y.last, .int .i64 y.delta, .bool y.val.has, .int .u64 (y.val.prev:Nat), .int .u8 (y.val.lead:Nat), .int .u8 (y.val.width:Nat)], .int .u16 0]))∨
  (z1e x (l.drop i)=none∧e= .returned (.tuple #[.agg #[.int .i64 0, .int .u64 0], .int .i64 0, .agg #[.int .i64 0, .int .i64 0, .int .i64 0, .bool false, .int .u64 0, .int .u8 0, .int .u8 0], .int .u16 61])))
theorem q0E(a:Option Addr)(n c:Nat)(l:List Bool)(b:List UInt8)(i:Nat)(en:Nat)(el ed:Int)(has:Bool)(prev lead width:Nat)(he:z1A.Ok ⟨en,el,ed,⟨has,prev,lead,width⟩⟩)(hen:en≤1099511627776)(w:World)(h:z0o w a n c l b)(hl:l.length≤549755813000)(hi:i≤l.length)(hT:z1m w):
  Calls Tryz.prog 178 #[.agg #[.slice a n c, .int .i64 l.length], .int .i64 (i:Nat), .agg #[.int .i64 (en:Nat), .int .i64 el, .int .i64 ed, .bool has, .int .u64 (prev:Nat), .int .u8 (lead:Nat), .int .u8 (width:Nat)]] w (z7a l i ⟨en,el,ed,⟨has,prev,lead,width⟩⟩ w):=by
 obtain ⟨N,hN⟩:∃N,N=l.length:=⟨_,rfl⟩;have HWR:=z7 (fun w' (hb:z0o w' a n c l b)=>y2V a n c l b en el ed has prev lead width he w' hb (by omega));have HTM:=z7 (fun w' (hb:z0o w' a n c l b)=>q1Z a n c l b i en el ed has prev lead width w' hb hl hi);have HXG:=z7 (fun w' (hb:z0o w' a n c l b) p (hp:p≤l.length) (hT':z1m w')=>q2D a n c l b p has prev lead width w' hb hl hp he.val he.prev hT');rw [←hN] at HWR HTM HXG ⊢;have hNl:N≤549755813000:=by omega
 have hiN:i≤N:=by omega
 have hwn:IntKind.i64.wrap ((en:Int)+1)=((en+1:Nat):Int):=z0n (by omega) (by omega);obtain ⟨M,hM⟩:∃M,M=en+1:=⟨_,rfl⟩;rw [←hM] at hwn;have HL0:=z7 (((((Loc.start w).new (.cells #[.slice a n c, .int .i64 (N:Nat)] 48)).new' (.cells #[.int .i64 (en:Nat), .int .i64 el, .int .i64 ed, .bool has, .int .u64 (prev:Nat), .int .u8 (lead:Nat), .int .u8 (width:Nat)] 139) (n:=w.heap.size+1) (by simp)).new' (.cells #[.int .i64 0, .int .u64 0] 113) (n:=w.heap.size+1+1) (by simp)).new' (.cells #[.int .i64 0, .int .i64 0, .int .i64 0, .bool false, .int .u64 0, .int .u8 0, .int .u8 0] 139) (n:=w.heap.size+1+1+1) (by simp));have H:=z7 h;have HN:=z7 hN;have HE:=z7 he;have HM:=z7 hM;have HT:=z7 (fun w' (hb:Below w.heap.size w w')=>hT.low hb);clear h hN hl hi hT he hM hen;go_enter Tryz.func178,Tryz.ntmps178;go_wp2_with fail;refine (HWR.out _ (H.out.low HL0.out.low)).mono ?_;rintro e w2 ⟨rfl,hb2⟩;have HL2:=z7 (HL0.out.call hb2);clear hb2;obtain ⟨c0,c1,cf⟩:=z0g (HL2.out.get 3 rfl);obtain ⟨e0,e1,e2,e3,e4,e5,e6,ef⟩:=z2G (HL2.out.get 2 rfl);go_wp2_with fail;refine (HTM.out _ (H.out.low HL2.out.low)).mono ?_;rintro e w3 ⟨hb3,htold⟩;have HL3:=z7 (HL2.out.call hb3);clear hb3 c0 c1 cf e0 e1 e2 e3 e4 e5 e6 ef;obtain ⟨c0,c1,cf⟩:=z0g (HL3.out.get 3 rfl);obtain ⟨e0,e1,e2,e3,e4,e5,e6,ef⟩:=z2G (HL3.out.get 2 rfl);rcases htold with ⟨t,d,p,htr,hpl,rfl⟩ | ⟨htr,t,d,p,rfl⟩
 ·have HTR:=z7 htr;have HPL:=z7 hpl;have hpN:p≤N:=by have:=HN.out;omega
  clear htr hpl;go_wp2_with fail;refine (HXG.out _ (H.out.low HL3.out.low) p hpN (HT.out _ HL3.out.low)).mono ?_;rintro e w4 ⟨hb4,htold⟩;have HL4:=z7 (HL3.out.call hb4);clear hb4 c0 c1 cf e0 e1 e2 e3 e4 e5 e6 ef;obtain ⟨e0,e1,e2,e3,e4,e5,e6,ef⟩:=z2G (HL4.out.get 2 rfl);obtain ⟨r0,r1,rf⟩:=z0g (HL4.out.get 1 rfl);obtain ⟨x0,x1,x2,x3,x4,x5,x6,xf⟩:=z2G (HL4.out.get 0 rfl);have l0:=HL4.out.lt 0 rfl;have l1:=HL4.out.lt 1 rfl;have l2:=HL4.out.lt 2 rfl;rcases htold with ⟨v,s2,r,hx,hrd,hrl,rfl⟩ | ⟨hx,x,hx0,hx1,rfl⟩
  ·obtain ⟨p2,hp2⟩:∃p,p=l.length - r.length:=⟨_,rfl⟩;rw [←hp2] at hrd ⊢;obtain ⟨sh,sp,sl,sw⟩:=s2;have HF:Hid (∀w',Below w.heap.size w w'→z7a l i ⟨en,el,ed,⟨has,prev,lead,width⟩⟩ w (.returned (.tuple #[.agg #[.int .i64 t, .int .u64 (v:Nat)], .int .i64 (p2:Nat), .agg #[.int .i64 (M:Nat), .int .i64 t, .int .i64 d, .bool sh, .int .u64 (sp:Nat), .int .u8 (sl:Nat), .int .u8 (sw:Nat)], .int .u16 0])) w'):=z7 fun w' hb=>by
    have hc:z1e ⟨en,el,ed,⟨has,prev,lead,width⟩⟩ (l.drop i)=some (⟨t,v⟩,⟨M,t,d,⟨sh,sp,sl,sw⟩⟩,l.drop p2):=by
     unfold z1e;rw [HTR.out];simp only;rw [hx,HM.out,←hrd]
    have hlen:=(z1B HE.out hc).1;simp only [List.length_drop] at hlen;exact ⟨hb, .inl ⟨_,_,p2,hc,by omega,by omega,rfl⟩⟩
   clear hx hrd hrl hp2;go_wp2_with fail;go_region
   go_wp2;have HLF:=((((HL4.out.set2 1 rfl (.int .i64 t) (.int .u64 (v:Nat))).set7 0 rfl (.int .i64 (M:Nat)) (.int .i64 t) (.int .i64 d) (.bool sh) (.int .u64 (sp:Nat)) (.int .u8 (sl:Nat)) (.int .u8 (sw:Nat)))).call (q5 _ (.cells #[.bool sh, .int .u64 (sp:Nat), .int .u8 (sl:Nat), .int .u8 (sw:Nat)] 137))).drew;refine bodyPost_ret (y0x rfl _ _ (w.heap.size+1+1) _ _ rfl (HLF.get 1 rfl) rfl (w.heap.size+1+1+1) _ _ _ _ _ _ _ rfl (HLF.get 0 rfl) rfl) rfl ?_;exact HF.out _ HLF.low
  ·have HF:Hid (∀w',Below w.heap.size w w'→z7a l i ⟨en,el,ed,⟨has,prev,lead,width⟩⟩ w (.returned (.tuple #[.agg #[.int .i64 0, .int .u64 0], .int .i64 0, .agg #[.int .i64 0, .int .i64 0, .int .i64 0, .bool false, .int .u64 0, .int .u8 0, .int .u8 0], .int .u16 61])) w'):=z7 fun w' hb=>by
    have hc:z1e ⟨en,el,ed,⟨has,prev,lead,width⟩⟩ (l.drop i)=none:=by
     unfold z1e;rw [HTR.out];simp only;rw [hx]
    exact ⟨hb, .inr ⟨hc,rfl⟩⟩
   have d1:((x:Int)==0)=false:=by simp;omega
   clear hx hx0 hx1;go_wp2;have HLF:=(((HL4.out.set2 1 rfl (.int .i64 0) (.int .u64 0)).set7 0 rfl (.int .i64 0) (.int .i64 0) (.int .i64 0) (.bool false) (.int .u64 0) (.int .u8 0) (.int .u8 0))).call (q5 _ (.cells #[.bool false, .int .u64 0, .int .u8 0, .int .u8 0] 137));refine bodyPost_ret (y0x rfl _ _ (w.heap.size+1+1) _ _ rfl (HLF.get 1 rfl) rfl (w.heap.size+1+1+1) _ _ _ _ _ _ _ rfl (HLF.get 0 rfl) rfl) rfl ?_;exact HF.out _ HLF.low
 ·have HF:Hid (∀w',Below w.heap.size w w'→z7a l i ⟨en,el,ed,⟨has,prev,lead,width⟩⟩ w (.returned (.tuple #[.agg #[.int .i64 0, .int .u64 0], .int .i64 0, .agg #[.int .i64 0, .int .i64 0, .int .i64 0, .bool false, .int .u64 0, .int .u8 0, .int .u8 0], .int .u16 61])) w'):=z7 fun w' hb=>by
   have hc:z1e ⟨en,el,ed,⟨has,prev,lead,width⟩⟩ (l.drop i)=none:=by
    unfold z1e;rw [htr]
   exact ⟨hb, .inr ⟨hc,rfl⟩⟩
  clear htr;obtain ⟨r0,r1,rf⟩:=z0g (HL3.out.get 1 rfl);obtain ⟨x0,x1,x2,x3,x4,x5,x6,xf⟩:=z2G (HL3.out.get 0 rfl);go_wp2;have HLF:=(HL3.out.set2 1 rfl (.int .i64 0) (.int .u64 0)).set7 0 rfl (.int .i64 0) (.int .i64 0) (.int .i64 0) (.bool false) (.int .u64 0) (.int .u8 0) (.int .u8 0);refine bodyPost_ret (y0x rfl _ _ (w.heap.size+1+1) _ _ rfl (HLF.get 1 rfl) rfl (w.heap.size+1+1+1) _ _ _ _ _ _ _ rfl (HLF.get 0 rfl) rfl) rfl ?_;exact HF.out _ HLF.low
end Go.Proofs.YtfcnapnopdomhaaGreatDoor

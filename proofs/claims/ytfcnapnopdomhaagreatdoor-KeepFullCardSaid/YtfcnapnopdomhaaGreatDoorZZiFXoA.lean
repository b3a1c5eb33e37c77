/-
  The walk of zig's Get.
-/
import Derived.Test.YtfcnapnopdomhaaGreatDoorZResZiDZiE
namespace Go.Proofs.YtfcnapnopdomhaaGreatDoor
set_option linter.unusedSimpArgs false
set_option linter.unusedVariables false
set_option maxRecDepth 100000
set_option maxHeartbeats 12800000
open Go.RowKit
def z2m(l:List Bool)(i:Nat)(w:World)(e:Ending)(w':World):Prop:=
 Below w.heap.size w w'∧((∃v r,z7L (l.drop i)=some (v,r)∧r=l.drop (l.length - r.length)∧r.length≤l.length∧e= .returned (.tuple #[.int .i64 v, .int .i64 ((l.length - r.length:Nat):Int), .int .u16 0]))∨
  (z7L (l.drop i)=none∧∃x:Nat,0<x∧x<100∧e= .returned (.tuple #[.int .i64 0, .int .i64 0, .int .u16 (x:Nat)])))
theorem y7j{l:List Bool}{i:Nat}{w w':World}(h:z4c (l.drop i)=none)(hb:Below w.heap.size w w'):z2m l i w (.returned (.tuple #[.int .i64 0, .int .i64 0, .int .u16 10])) w':=
 ⟨hb, .inr ⟨by unfold z7L;rw [h],10,by decide,by decide,rfl⟩⟩
theorem y8t{l r:List Bool}{i k:Nat}{w w':World}(h:z4c (l.drop i)=some (k,r))(hr:r.length<z3l k)(hb:Below w.heap.size w w'):z2m l i w (.returned (.tuple #[.int .i64 0, .int .i64 0, .int .u16 10])) w':=
 ⟨hb, .inr ⟨by unfold z7L rdN;rw [h];simp only;rw [if_neg (by omega)],10,by decide,by decide,rfl⟩⟩
theorem y7W{l r:List Bool}{i k:Nat}{w w':World}(h:z4c (l.drop i)=some (k,r))(hr:z3l k≤r.length)(hf:z0A (z2C (r.take (z3l k)))≠k)(hb:Below w.heap.size w w'):z2m l i w (.returned (.tuple #[.int .i64 0, .int .i64 0, .int .u16 11])) w':=
 ⟨hb, .inr ⟨by unfold z7L rdN;rw [h];simp only;rw [if_pos hr];simp only;rw [if_neg hf],11,by decide,by decide,rfl⟩⟩
theorem y8R{l r:List Bool}{i k m p:Nat}{w w':World}(h:z4c (l.drop i)=some (k,r))(hrd:r=l.drop (l.length - r.length))(hrl:r.length≤l.length)(hr:z3l k≤r.length)(hm:m=z2C (r.take (z3l k)))(hf:z0A m=k)(hp:p=l.length - r.length+z3l k)(hb:Below w.heap.size w w'):
  z2m l i w (.returned (.tuple #[.int .i64 (z2i m), .int .i64 (p:Nat), .int .u16 0])) w':=by
 refine ⟨hb, .inl ⟨z2i m,r.drop (z3l k),?_,?_,?_,?_⟩⟩
 ·unfold z7L rdN;rw [h];simp only;rw [if_pos hr];simp only;rw [←hm,if_pos hf]
 ·rw [List.length_drop]
  conv=>lhs;rw [hrd]
  rw [List.drop_drop]
  congr 1
  omega
 ·rw [List.length_drop];omega
 ·rw [List.length_drop,show l.length - (r.length - z3l k)=p by omega]
theorem y8k(w:World):Sem.run Tryz.prog (Instr.index 405 z5U (.int .i64 0)) w= .ok (.agg #[.int .u64 0, .int .i64 1, .int .i64 0]) w:=by kernel_rfl
theorem y7u(w:World):Sem.run Tryz.prog (Instr.index 405 z5U (.int .i64 1)) w= .ok (.agg #[.int .u64 2, .int .i64 2, .int .i64 7]) w:=by kernel_rfl
theorem y8r(w:World):Sem.run Tryz.prog (Instr.index 405 z5U (.int .i64 2)) w= .ok (.agg #[.int .u64 6, .int .i64 3, .int .i64 9]) w:=by kernel_rfl
theorem y7p(w:World):Sem.run Tryz.prog (Instr.index 405 z5U (.int .i64 3)) w= .ok (.agg #[.int .u64 14, .int .i64 4, .int .i64 12]) w:=by kernel_rfl
theorem y7Z(w:World):Sem.run Tryz.prog (Instr.index 405 z5U (.int .i64 4)) w= .ok (.agg #[.int .u64 30, .int .i64 5, .int .i64 32]) w:=by kernel_rfl
theorem y7E(w:World):Sem.run Tryz.prog (Instr.index 405 z5U (.int .i64 5)) w= .ok (.agg #[.int .u64 31, .int .i64 5, .int .i64 64]) w:=by kernel_rfl
theorem z5W(x y z:Int)(w:World):Sem.run Tryz.prog (Instr.field 350 (.agg #[.int .u64 x, .int .i64 y, .int .i64 z]) 2) w= .ok (.int .i64 z) w:=by kernel_rfl
theorem q2z(a:Option Addr)(n c:Nat)(l:List Bool)(b:List UInt8)(i:Nat)(w:World)(h:z0o w a n c l b)(hl:l.length≤549755813000)(hi:i≤l.length):
  Calls Tryz.prog 276 #[.agg #[.slice a n c, .int .i64 l.length], .int .i64 (i:Nat)] w (z2m l i w):=by
 obtain ⟨N,hN⟩:∃N,N=l.length:=⟨_,rfl⟩;rw [←hN];have HW:=z7 (y9H a n c l b i);rw [←hN] at HW;have H:=z7 h;have HN:=z7 hN;have HI:=z7 hi;have hNl:N≤549755813000:=by omega
 clear h hN hl hi;have HL0:=z7 ((Loc.start w).new (.cells #[.slice a n c, .int .i64 (N:Nat)] 48));go_enter Tryz.func276,Tryz.ntmps276;go_wp2_with fail;refine (HW.out _ (H.out.low (q5 _ _)) (by have:=HN.out;omega) (by have:=HN.out;have:=HI.out;omega)).mono ?_;rintro e w2 ⟨hb2,htold⟩;have HL2:=z7 (HL0.out.call hb2);have HT:=z7 htold;clear hb2 htold;obtain ⟨c0,c1,cf⟩:=z0g (HL2.out.get 0 rfl);have l0:=HL2.out.lt 0 rfl;rcases HT.out with ⟨k,r,hwh,hk5,hrd,hrl,rfl⟩ | ⟨hwh,rfl⟩
 ·obtain ⟨p,hp⟩:∃p,p=l.length - r.length:=⟨_,rfl⟩;rw [←hp];have hpN:p≤N:=by have:=HN.out;omega
  have hG:Hid (∀w',Below w2.heap.size w2 w'→Calls Tryz.prog 275 #[.agg #[.slice a n c, .int .i64 (N:Nat)], .int .i64 (p:Nat), .int .i64 (z3l k:Nat)] w' fun e w''=>
    ((z3l k≤r.length∧e= .returned (.tuple #[.int .u64 (z2C (r.take (z3l k)):Nat), .int .u16 0]))∨(r.length<z3l k∧e= .returned (.tuple #[.int .u64 0, .int .u16 10])))∧Below w'.heap.size w' w''):=z7 fun w' hb=>by
   have:=y0B a n c l b p (z3l k) w' ((H.out.low HL2.out.low).low hb) (by have:=HN.out;omega) (by have:=HN.out;omega) (z6f hk5).2.2.2;rw [←HN.out] at this;refine this.mono ?_;rintro e w'' ⟨rfl,hb'⟩;refine ⟨?_,hb'⟩;by_cases hf:z3l k≤r.length
   ·refine .inl ⟨hf,?_⟩;unfold z2r z1S;rw [if_pos (by omega),if_pos (by omega),hp,←hrd];rfl
   ·refine .inr ⟨by omega,?_⟩;unfold z2r z1S;rw [if_neg (by omega),if_neg (by omega)];rfl
  have HNO:=z7 (fun w' (hr:r.length<z3l k) (hb:Below w.heap.size w w')=>y8t (w:=w) hwh hr hb);have HNF:=z7 (fun w' (hr:z3l k≤r.length) (hf:z0A (z2C (r.take (z3l k)))≠k) (hb:Below w.heap.size w w')=>y7W (w:=w) hwh hr hf hb);have HYES:=z7 (fun w' m q (hr:z3l k≤r.length) (hm:m=z2C (r.take (z3l k))) (hf:z0A m=k) (hq:q=l.length - r.length+z3l k) (hb:Below w.heap.size w w')=>y8R (w:=w) hwh hrd hrl hr hm hf hq hb);have hmlt:Hid (z2C (r.take (z3l k))<18446744073709551616):=z7 (Nat.lt_of_lt_of_le (z5m _) (Nat.pow_le_pow_right (by decide) (by have:=(z6f hk5).2.2.2;simp;omega):2^_≤2^64));have HP:=z7 hp;clear hwh hrd hrl hp HT;have hks:k=0∨k=1∨k=2∨k=3∨k=4∨k=5:=by omega
  clear hk5;obtain rfl | rfl | rfl | rfl | rfl | rfl:=hks
  ·have hwp:IntKind.i64.wrap ((p:Int)+0)=((p+0:Nat):Int):=by rw [z0n (by omega) (by omega)];omega
   go_wp2_with fail;refine (z6d _).mono ?_;rintro e w3 ⟨rfl,hb3⟩;have HL3:=z7 (HL2.out.call hb3);have HG3:=z7 (hG.out w3 hb3);clear hb3 c0 c1 cf;obtain ⟨c0,c1,cf⟩:=z0g (HL3.out.get 0 rfl);have hix:=y8k w3;have hfl:=z5W 0 1 0 w3;go_wp2_with fail;refine HG3.out.mono ?_;rintro e w4 ⟨htold,hb4⟩;have HL4:=z7 (HL3.out.call hb4);clear hb4 c0 c1 cf;rcases htold with ⟨hfit,rfl⟩ | ⟨hno,rfl⟩
   ·have HFIT:=z7 hfit;obtain ⟨m,hm⟩:∃m,m=z2C (r.take (z3l 0)):=⟨_,rfl⟩;have hm64:m<18446744073709551616:=by rw [hm];exact hmlt.out
    rw [←hm];have HM:=z7 hm;clear hm hfit;go_wp2_with fail;refine (z4e m hm64 _).mono ?_;rintro e w5 ⟨rfl,hb5⟩;have HL5:=z7 (HL4.out.call hb5);clear hb5;obtain ⟨f,hf⟩:∃f,f=z0A m:=⟨_,rfl⟩;rw [←hf];have HF:=z7 hf;by_cases hfk:f=0
    ·have hfin:Hid (∀w',Below w.heap.size w w'→z2m l i w (.returned (.tuple #[.int .i64 (z2i m), .int .i64 ((p+0:Nat):Int), .int .u16 0])) w'):=z7 fun w' hb=>HYES.out w' m (p+0) HFIT.out HM.out (by rw [←hf,hfk]) (by rw [HP.out];rfl) hb;clear hf;subst hfk;go_wp2_with fail;refine (z4R m hm64 _).mono ?_;rintro e w6 ⟨rfl,rfl⟩;go_wp2;go_ret3
     exact hfin.out _ ((HL5.out.new _).low)
    ·have d3:((f:Int)==0)=false:=by simp;omega
     have hfin:Hid (∀w',Below w.heap.size w w'→z2m l i w (.returned (.tuple #[.int .i64 0, .int .i64 0, .int .u16 11])) w'):=z7 fun w' hb=>HNF.out w' HFIT.out (by rw [←HM.out,←hf];exact hfk) hb;clear hf hfk;go_wp2;go_ret3
     exact hfin.out _ ((HL5.out.new _).low)
   ·have HF:=z7 (HNO.out w4 hno HL4.out.low);clear hno;go_wp2;go_ret3
    exact HF.out
  ·have hwp:IntKind.i64.wrap ((p:Int)+7)=((p+7:Nat):Int):=by rw [z0n (by omega) (by omega)];omega
   go_wp2_with fail;refine (z6d _).mono ?_;rintro e w3 ⟨rfl,hb3⟩;have HL3:=z7 (HL2.out.call hb3);have HG3:=z7 (hG.out w3 hb3);clear hb3 c0 c1 cf;obtain ⟨c0,c1,cf⟩:=z0g (HL3.out.get 0 rfl);have hix:=y7u w3;have hfl:=z5W 2 2 7 w3;go_wp2_with fail;refine HG3.out.mono ?_;rintro e w4 ⟨htold,hb4⟩;have HL4:=z7 (HL3.out.call hb4);clear hb4 c0 c1 cf;rcases htold with ⟨hfit,rfl⟩ | ⟨hno,rfl⟩
   ·have HFIT:=z7 hfit;obtain ⟨m,hm⟩:∃m,m=z2C (r.take (z3l 1)):=⟨_,rfl⟩;have hm64:m<18446744073709551616:=by rw [hm];exact hmlt.out
    rw [←hm];have HM:=z7 hm;clear hm hfit;go_wp2_with fail;refine (z4e m hm64 _).mono ?_;rintro e w5 ⟨rfl,hb5⟩;have HL5:=z7 (HL4.out.call hb5);clear hb5;obtain ⟨f,hf⟩:∃f,f=z0A m:=⟨_,rfl⟩;rw [←hf];have HF:=z7 hf;by_cases hfk:f=1
    ·have hfin:Hid (∀w',Below w.heap.size w w'→z2m l i w (.returned (.tuple #[.int .i64 (z2i m), .int .i64 ((p+7:Nat):Int), .int .u16 0])) w'):=z7 fun w' hb=>HYES.out w' m (p+7) HFIT.out HM.out (by rw [←hf,hfk]) (by rw [HP.out];rfl) hb;clear hf;subst hfk;go_wp2_with fail;refine (z4R m hm64 _).mono ?_;rintro e w6 ⟨rfl,rfl⟩;go_wp2;go_ret3
     exact hfin.out _ ((HL5.out.new _).low)
    ·have d3:((f:Int)==1)=false:=by simp;omega
     have hfin:Hid (∀w',Below w.heap.size w w'→z2m l i w (.returned (.tuple #[.int .i64 0, .int .i64 0, .int .u16 11])) w'):=z7 fun w' hb=>HNF.out w' HFIT.out (by rw [←HM.out,←hf];exact hfk) hb;clear hf hfk;go_wp2;go_ret3
     exact hfin.out _ ((HL5.out.new _).low)
   ·have HF:=z7 (HNO.out w4 hno HL4.out.low);clear hno;go_wp2;go_ret3
    exact HF.out
  ·have hwp:IntKind.i64.wrap ((p:Int)+9)=((p+9:Nat):Int):=by rw [z0n (by omega) (by omega)];omega
   go_wp2_with fail;refine (z6d _).mono ?_;rintro e w3 ⟨rfl,hb3⟩;have HL3:=z7 (HL2.out.call hb3);have HG3:=z7 (hG.out w3 hb3);clear hb3 c0 c1 cf;obtain ⟨c0,c1,cf⟩:=z0g (HL3.out.get 0 rfl);have hix:=y8r w3;have hfl:=z5W 6 3 9 w3;go_wp2_with fail;refine HG3.out.mono ?_;rintro e w4 ⟨htold,hb4⟩;have HL4:=z7 (HL3.out.call hb4);clear hb4 c0 c1 cf;rcases htold with ⟨hfit,rfl⟩ | ⟨hno,rfl⟩
   ·have HFIT:=z7 hfit;obtain ⟨m,hm⟩:∃m,m=z2C (r.take (z3l 2)):=⟨_,rfl⟩;have hm64:m<18446744073709551616:=by rw [hm];exact hmlt.out
    rw [←hm];have HM:=z7 hm;clear hm hfit;go_wp2_with fail;refine (z4e m hm64 _).mono ?_;rintro e w5 ⟨rfl,hb5⟩;have HL5:=z7 (HL4.out.call hb5);clear hb5;obtain ⟨f,hf⟩:∃f,f=z0A m:=⟨_,rfl⟩;rw [←hf];have HF:=z7 hf;by_cases hfk:f=2
    ·have hfin:Hid (∀w',Below w.heap.size w w'→z2m l i w (.returned (.tuple #[.int .i64 (z2i m), .int .i64 ((p+9:Nat):Int), .int .u16 0])) w'):=z7 fun w' hb=>HYES.out w' m (p+9) HFIT.out HM.out (by rw [←hf,hfk]) (by rw [HP.out];rfl) hb;clear hf;subst hfk;go_wp2_with fail;refine (z4R m hm64 _).mono ?_;rintro e w6 ⟨rfl,rfl⟩;go_wp2;go_ret3
     exact hfin.out _ ((HL5.out.new _).low)
    ·have d3:((f:Int)==2)=false:=by simp;omega
     have hfin:Hid (∀w',Below w.heap.size w w'→z2m l i w (.returned (.tuple #[.int .i64 0, .int .i64 0, .int .u16 11])) w'):=z7 fun w' hb=>HNF.out w' HFIT.out (by rw [←HM.out,←hf];exact hfk) hb;clear hf hfk;go_wp2;go_ret3
     exact hfin.out _ ((HL5.out.new _).low)
   ·have HF:=z7 (HNO.out w4 hno HL4.out.low);clear hno;go_wp2;go_ret3
    exact HF.out
  ·have hwp:IntKind.i64.wrap ((p:Int)+12)=((p+12:Nat):Int):=by rw [z0n (by omega) (by omega)];omega
   go_wp2_with fail;refine (z6d _).mono ?_;rintro e w3 ⟨rfl,hb3⟩;have HL3:=z7 (HL2.out.call hb3);have HG3:=z7 (hG.out w3 hb3);clear hb3 c0 c1 cf;obtain ⟨c0,c1,cf⟩:=z0g (HL3.out.get 0 rfl);have hix:=y7p w3;have hfl:=z5W 14 4 12 w3;go_wp2_with fail;refine HG3.out.mono ?_;rintro e w4 ⟨htold,hb4⟩;have HL4:=z7 (HL3.out.call hb4);clear hb4 c0 c1 cf;rcases htold with ⟨hfit,rfl⟩ | ⟨hno,rfl⟩
   ·have HFIT:=z7 hfit;obtain ⟨m,hm⟩:∃m,m=z2C (r.take (z3l 3)):=⟨_,rfl⟩;have hm64:m<18446744073709551616:=by rw [hm];exact hmlt.out
    rw [←hm];have HM:=z7 hm;clear hm hfit;go_wp2_with fail;refine (z4e m hm64 _).mono ?_;rintro e w5 ⟨rfl,hb5⟩;have HL5:=z7 (HL4.out.call hb5);clear hb5;obtain ⟨f,hf⟩:∃f,f=z0A m:=⟨_,rfl⟩;rw [←hf];have HF:=z7 hf;by_cases hfk:f=3
    ·have hfin:Hid (∀w',Below w.heap.size w w'→z2m l i w (.returned (.tuple #[.int .i64 (z2i m), .int .i64 ((p+12:Nat):Int), .int .u16 0])) w'):=z7 fun w' hb=>HYES.out w' m (p+12) HFIT.out HM.out (by rw [←hf,hfk]) (by rw [HP.out];rfl) hb;clear hf;subst hfk;go_wp2_with fail;refine (z4R m hm64 _).mono ?_;rintro e w6 ⟨rfl,rfl⟩;go_wp2;go_ret3
     exact hfin.out _ ((HL5.out.new _).low)
    ·have d3:((f:Int)==3)=false:=by simp;omega
     have hfin:Hid (∀w',Below w.heap.size w w'→z2m l i w (.returned (.tuple #[.int .i64 0, .int .i64 0, .int .u16 11])) w'):=z7 fun w' hb=>HNF.out w' HFIT.out (by rw [←HM.out,←hf];exact hfk) hb;clear hf hfk;go_wp2;go_ret3
     exact hfin.out _ ((HL5.out.new _).low)
   ·have HF:=z7 (HNO.out w4 hno HL4.out.low);clear hno;go_wp2;go_ret3
    exact HF.out
  ·have hwp:IntKind.i64.wrap ((p:Int)+32)=((p+32:Nat):Int):=by rw [z0n (by omega) (by omega)];omega
   go_wp2_with fail;refine (z6d _).mono ?_;rintro e w3 ⟨rfl,hb3⟩;have HL3:=z7 (HL2.out.call hb3);have HG3:=z7 (hG.out w3 hb3);clear hb3 c0 c1 cf;obtain ⟨c0,c1,cf⟩:=z0g (HL3.out.get 0 rfl);have hix:=y7Z w3;have hfl:=z5W 30 5 32 w3;go_wp2_with fail;refine HG3.out.mono ?_;rintro e w4 ⟨htold,hb4⟩;have HL4:=z7 (HL3.out.call hb4);clear hb4 c0 c1 cf;rcases htold with ⟨hfit,rfl⟩ | ⟨hno,rfl⟩
   ·have HFIT:=z7 hfit;obtain ⟨m,hm⟩:∃m,m=z2C (r.take (z3l 4)):=⟨_,rfl⟩;have hm64:m<18446744073709551616:=by rw [hm];exact hmlt.out
    rw [←hm];have HM:=z7 hm;clear hm hfit;go_wp2_with fail;refine (z4e m hm64 _).mono ?_;rintro e w5 ⟨rfl,hb5⟩;have HL5:=z7 (HL4.out.call hb5);clear hb5;obtain ⟨f,hf⟩:∃f,f=z0A m:=⟨_,rfl⟩;rw [←hf];have HF:=z7 hf;by_cases hfk:f=4
    ·have hfin:Hid (∀w',Below w.heap.size w w'→z2m l i w (.returned (.tuple #[.int .i64 (z2i m), .int .i64 ((p+32:Nat):Int), .int .u16 0])) w'):=z7 fun w' hb=>HYES.out w' m (p+32) HFIT.out HM.out (by rw [←hf,hfk]) (by rw [HP.out];rfl) hb;clear hf;subst hfk;go_wp2_with fail;refine (z4R m hm64 _).mono ?_;rintro e w6 ⟨rfl,rfl⟩;go_wp2;go_ret3
     exact hfin.out _ ((HL5.out.new _).low)
    ·have d3:((f:Int)==4)=false:=by simp;omega
     have hfin:Hid (∀w',Below w.heap.size w w'→z2m l i w (.returned (.tuple #[.int .i64 0, .int .i64 0, .int .u16 11])) w'):=z7 fun w' hb=>HNF.out w' HFIT.out (by rw [←HM.out,←hf];exact hfk) hb;clear hf hfk;go_wp2;go_ret3
     exact hfin.out _ ((HL5.out.new _).low)
   ·have HF:=z7 (HNO.out w4 hno HL4.out.low);clear hno;go_wp2;go_ret3
    exact HF.out
  ·have hwp:IntKind.i64.wrap ((p:Int)+64)=((p+64:Nat):Int):=by rw [z0n (by omega) (by omega)];omega
   go_wp2_with fail;refine (z6d _).mono ?_;rintro e w3 ⟨rfl,hb3⟩;have HL3:=z7 (HL2.out.call hb3);have HG3:=z7 (hG.out w3 hb3);clear hb3 c0 c1 cf;obtain ⟨c0,c1,cf⟩:=z0g (HL3.out.get 0 rfl);have hix:=y7E w3;have hfl:=z5W 31 5 64 w3;go_wp2_with fail;refine HG3.out.mono ?_;rintro e w4 ⟨htold,hb4⟩;have HL4:=z7 (HL3.out.call hb4);clear hb4 c0 c1 cf;rcases htold with ⟨hfit,rfl⟩ | ⟨hno,rfl⟩
   ·have HFIT:=z7 hfit;obtain ⟨m,hm⟩:∃m,m=z2C (r.take (z3l 5)):=⟨_,rfl⟩;have hm64:m<18446744073709551616:=by rw [hm];exact hmlt.out
    rw [←hm];have HM:=z7 hm;clear hm hfit;go_wp2_with fail;refine (z4e m hm64 _).mono ?_;rintro e w5 ⟨rfl,hb5⟩;have HL5:=z7 (HL4.out.call hb5);clear hb5;obtain ⟨f,hf⟩:∃f,f=z0A m:=⟨_,rfl⟩;rw [←hf];have HF:=z7 hf;by_cases hfk:f=5
    ·have hfin:Hid (∀w',Below w.heap.size w w'→z2m l i w (.returned (.tuple #[.int .i64 (z2i m), .int .i64 ((p+64:Nat):Int), .int .u16 0])) w'):=z7 fun w' hb=>HYES.out w' m (p+64) HFIT.out HM.out (by rw [←hf,hfk]) (by rw [HP.out];rfl) hb;clear hf;subst hfk;go_wp2_with fail;refine (z4R m hm64 _).mono ?_;rintro e w6 ⟨rfl,rfl⟩;go_wp2;go_ret3
     exact hfin.out _ ((HL5.out.new _).low)
    ·have d3:((f:Int)==5)=false:=by simp;omega
     have hfin:Hid (∀w',Below w.heap.size w w'→z2m l i w (.returned (.tuple #[.int .i64 0, .int .i64 0, .int .u16 11])) w'):=z7 fun w' hb=>HNF.out w' HFIT.out (by rw [←HM.out,←hf];exact hfk) hb;clear hf hfk;go_wp2;go_ret3
     exact hfin.out _ ((HL5.out.new _).low)
   ·have HF:=z7 (HNO.out w4 hno HL4.out.low);clear hno;go_wp2;go_ret3
    exact HF.out
 ·have HF:=z7 (fun w' (hb:Below w.heap.size w w')=>y7j (w:=w) hwh hb);clear hwh HT;go_wp2_with fail;go_ret3
  exact HF.out _ HL2.out.low
theorem y3u(has:Bool)(prev lead width:Nat)(hl:lead<256)(hw:width<256)(w:World):
  Calls Tryz.prog 259 #[.agg #[.bool has, .int .u64 (prev:Nat), .int .u8 (lead:Nat), .int .u8 (width:Nat)]] w fun e w'=>e= .returned (.bool (z1c ⟨has,prev,lead,width⟩))∧Below w.heap.size w w':=by
 have hb:=q5 w (.cells #[.bool has, .int .u64 (prev:Nat), .int .u8 (lead:Nat), .int .u8 (width:Nat)] 137);have HB:=z7 hb;clear hb;cases has with
 | false=>
  have hs:z1c ⟨false,prev,lead,width⟩=decide (prev=0∧lead=0∧width=0):=by unfold z1c zeroV;simp
  rw [hs];clear hs;by_cases h1:prev=0
  ·subst h1;by_cases h2:lead=0
   ·subst h2;by_cases h3:width=0
    ·subst h3;go_enter Tryz.func259,Tryz.ntmps259;go_wp2;go_ret;exact ⟨rfl,HB.out⟩
    ·have d3:((width:Int)==0)=false:=by simp;omega
     go_enter Tryz.func259,Tryz.ntmps259;go_wp2;go_ret;exact ⟨by rw [decide_eq_false (by omega)];rfl,HB.out⟩
   ·have d3:((lead:Int)==0)=false:=by simp;omega
    go_enter Tryz.func259,Tryz.ntmps259;go_wp2;go_ret;exact ⟨by rw [decide_eq_false (by omega)];rfl,HB.out⟩
  ·have d3:((prev:Int)==0)=false:=by simp;omega
   go_enter Tryz.func259,Tryz.ntmps259;go_wp2;go_ret;exact ⟨by rw [decide_eq_false (by omega)];rfl,HB.out⟩
 | true=>
  have hwr:IntKind.i64.wrap ((lead:Int)+width)=(lead:Int)+width:=z0n (by omega) (by omega);have hs:z1c ⟨true,prev,lead,width⟩=decide (lead≤31∧lead+width≤64∧(0<width∨lead=0)):=rfl;rw [hs];clear hs;by_cases h1:lead≤31
  ·have d1:decide ((lead:Int)≤31)=true:=decide_eq_true (by omega);by_cases h2:lead+width≤64
   ·have d2:decide ((lead:Int)+width≤64)=true:=decide_eq_true (by omega);by_cases h3:0<width
    ·have d3:decide ((0:Int)<width)=true:=decide_eq_true (by omega);go_enter Tryz.func259,Tryz.ntmps259;go_wp2;go_ret;exact ⟨by rw [decide_eq_true (by omega)];rfl,HB.out⟩
    ·obtain rfl:width=0:=by omega
     by_cases h4:lead=0
     ·subst h4;go_enter Tryz.func259,Tryz.ntmps259;go_wp2;go_ret;exact ⟨rfl,HB.out⟩
     ·have d4:((lead:Int)==0)=false:=by simp;omega
      go_enter Tryz.func259,Tryz.ntmps259;go_wp2;go_ret;exact ⟨by rw [decide_eq_false (by omega)];rfl,HB.out⟩
   ·have d2:decide ((lead:Int)+width≤64)=false:=decide_eq_false (by omega);go_enter Tryz.func259,Tryz.ntmps259;go_wp2;go_ret;exact ⟨by rw [decide_eq_false (by omega)];rfl,HB.out⟩
  ·have d1:decide ((lead:Int)≤31)=false:=decide_eq_false (by omega);go_enter Tryz.func259,Tryz.ntmps259;go_wp2;go_ret;exact ⟨by rw [decide_eq_false (by omega)];rfl,HB.out⟩
theorem y9L(has:Bool)(prev lead width:Nat)(hl:lead<256)(hw:width<256)(w:World):
  Calls Tryz.prog 261 #[.agg #[.bool has, .int .u64 (prev:Nat), .int .u8 (lead:Nat), .int .u8 (width:Nat)]] w fun e w'=>e= .returned (.agg #[.int .i64 (lead:Nat), .int .i64 (width:Nat)])∧Below w.heap.size w w':=by
 have HL:=z7 (((Loc.start w).new (.cells #[.bool has, .int .u64 (prev:Nat), .int .u8 (lead:Nat), .int .u8 (width:Nat)] 137)).new' (.cells #[.int .i64 (lead:Nat), .int .i64 (width:Nat)] 408) (n:=w.heap.size+1) (by simp));go_enter Tryz.func261,Tryz.ntmps261;go_wp2;refine bodyPost_ret (y3T rfl _ _ (w.heap.size+1) _ _ rfl (HL.out.get 0 rfl) rfl) rfl ?_;exact ⟨rfl,HL.out.low⟩
theorem z9F(lead size:Nat)(h:lead+size≤64)(w:World):
  Calls Tryz.prog 263 #[.agg #[.int .i64 (lead:Nat), .int .i64 (size:Nat)]] w fun e w'=>e= .returned (.int .i64 (64 - lead - size:Nat))∧Below w.heap.size w w':=by
 have HB:=z7 (q5 w (.cells #[.int .i64 (lead:Nat), .int .i64 (size:Nat)] 408));have h1:IntKind.i64.wrap (64 - (lead:Int))=64 - lead:=z0n (by omega) (by omega);have h2:IntKind.i64.wrap (64 - (lead:Int) - size)=((64 - lead - size:Nat):Int):=by rw [z0n (by omega) (by omega)];omega
 go_enter Tryz.func263,Tryz.ntmps263;go_wp2;go_ret;exact ⟨rfl,HB.out⟩
theorem y8M(lead size:Int)(h0:0≤lead)(h1:lead≤1000)(h2:0≤size)(h3:size≤1000)(w:World):
  Calls Tryz.prog 263 #[.agg #[.int .i64 lead, .int .i64 size]] w fun e w'=>e= .returned (.int .i64 (64 - lead - size))∧Below w.heap.size w w':=by
 have HB:=z7 (q5 w (.cells #[.int .i64 lead, .int .i64 size] 408));have e1:IntKind.i64.wrap (64 - lead)=64 - lead:=z0n (by omega) (by omega);have e2:IntKind.i64.wrap (64 - lead - size)=64 - lead - size:=z0n (by omega) (by omega);go_enter Tryz.func263,Tryz.ntmps263;go_wp2;go_ret;exact ⟨rfl,HB.out⟩
theorem y2l(d:Nat)(hd:d<18446744073709551616)(h0:d≠0)(w:World)(hT:z1m w):
  Calls Tryz.prog 264 #[.int .u64 (d:Nat)] w fun e w'=>e= .returned (.agg #[.int .i64 (z2Z d:Nat), .int .i64 (z1E d:Nat)])∧Below w.heap.size w w':=by
 have hlt:=q0N hd h0;have HL0:=z7 (y9o d hd);have HT0:=z7 (q2p d hd);obtain ⟨L,hL⟩:∃L,L=lz d:=⟨_,rfl⟩;obtain ⟨T,hTz⟩:∃L,L=tz d:=⟨_,rfl⟩;obtain ⟨A,hA⟩:∃L,L=z2Z d:=⟨_,rfl⟩;obtain ⟨S,hS⟩:∃L,L=z1E d:=⟨_,rfl⟩;have hAe:A=min L 31:=by rw [hA,hL];rfl
 have hSe:S=64 - A - T:=by rw [hS,hA,hTz];rfl
 rw [←hL] at HL0 hlt;rw [←hTz] at HT0 hlt;rw [←hA,←hS];have hm:min (L:Int) 31=(A:Int):=by omega
 have e1:IntKind.i64.wrap (64 - (A:Int))=64 - A:=z0n (by omega) (by omega);have e2:IntKind.i64.wrap (64 - (A:Int) - T)=(S:Int):=by rw [z0n (by omega) (by omega)];omega
 have HDB:=z7 (hT.low (q5 w (.cells #[.int .i64 0, .int .i64 0] 408)));have HL:=z7 ((Loc.start w).new (.cells #[.int .i64 (A:Nat), .int .i64 (S:Nat)] 408));clear hL hTz hA hS hAe hSe hlt h0 hT;go_enter Tryz.func264,Tryz.ntmps264;go_wp2_with fail;refine (HL0.out _).mono ?_;rintro e w1 ⟨rfl,rfl⟩;go_wp2_with fail;refine (HT0.out _ HDB.out).mono ?_;rintro e w1 ⟨rfl,rfl⟩;go_wp2;refine bodyPost_ret (y3T rfl _ _ w.heap.size _ _ rfl (HL.out.get 0 rfl) rfl) rfl ?_;exact ⟨rfl,HL.out.low⟩
theorem q0w(lead size d:Nat)(hls:lead+size≤64)(hd:d<18446744073709551616)(w:World)(hT:z1m w):
  Calls Tryz.prog 262 #[.agg #[.int .i64 (lead:Nat), .int .i64 (size:Nat)], .int .u64 (d:Nat)] w fun e w'=>e= .returned (.bool (z4x lead size d))∧Below w.heap.size w w':=by
 have HL0:=z7 (y9o d hd);have HT0:=z7 (q2p d hd);unfold z4x;obtain ⟨L,hL⟩:∃L,L=lz d:=⟨_,rfl⟩;obtain ⟨T,hTz⟩:∃L,L=tz d:=⟨_,rfl⟩;rw [←hL] at HL0 ⊢;rw [←hTz] at HT0 ⊢;obtain ⟨W1,hW1⟩:∃W1,W1=w.alloc (.cells #[.int .i64 (lead:Nat), .int .i64 (size:Nat)] 408):=⟨_,rfl⟩;have HL:=(Loc.start w).new (.cells #[.int .i64 (lead:Nat), .int .i64 (size:Nat)] 408);rw [←hW1] at HL;have HL:=z7 HL;have HDB:Hid (∀w',Below W1.heap.size W1 w'→z1m w'):=z7 fun w' hb=>hT.low (HL.out.call hb).low;have hcl:Hid (∀w',Below W1.heap.size W1 w'→w'.cell? ⟨w.heap.size,0,none⟩=some (.int .i64 (lead:Nat))∧w'.cell? ⟨w.heap.size,1,none⟩=some (.int .i64 (size:Nat))):=z7 fun w' hb=>by
  obtain ⟨c0,c1,cf⟩:=z0g ((HL.out.call hb).get 0 rfl);exact ⟨c0,c1⟩
 have HD0:=z7 (z9F lead size hls);obtain ⟨D0,hD⟩:∃D,D=64 - lead - size:=⟨_,rfl⟩;rw [←hD] at HD0 ⊢;have HW:=z7 hW1;clear hL hTz hD hT hW1;by_cases h0:0<size
 ·have d0:decide ((0:Int)<size)=true:=decide_eq_true (by omega);have n0:decide (0<size)=true:=decide_eq_true (by omega);by_cases h1:lead≤L
  ·have d1:decide ((lead:Int)≤L)=true:=decide_eq_true (by omega);have n1:decide (lead≤L)=true:=decide_eq_true (by omega);by_cases h2:D0≤T
   ·have d2:decide ((D0:Int)≤T)=true:=decide_eq_true (by omega);have n2:decide (D0≤T)=true:=decide_eq_true (by omega);have hr:decide (0<size∧lead≤L∧D0≤T)=true:=decide_eq_true (by omega);rw [hr];clear hr h0 h1 h2;go_enter Tryz.func262,Tryz.ntmps262;go_upto_region 1 with fail
    rw [←HW.out];refine q6 17 22 (by kernel_rfl) (by kernel_rfl) rfl (by kernel_rfl) (fun D v w'=>Below W1.heap.size W1 w') (fun _=>undef) (Below.refl _ _).drew ?_;simp only [List.take_succ_cons,List.take_zero,List.drop_succ_cons,List.drop_zero];iterate 4 (refine q8.rd (e:=?_) (fun D v w' hD hS=>?_) ?_;rotate_left;(obtain ⟨x0,x1⟩:=hcl.out w' hS;clear hS hD;first | (go_simp;done) | (go_simp;with_reducible rfl));go_simp)
    iterate 1 (refine q8.rd (e:=?_) (fun D v w' hD hS=>?_) ?_;rotate_left;(obtain ⟨x0,x1⟩:=hcl.out w' hS;clear hS hD;first | (go_simp;done) | (go_simp;with_reducible rfl));go_simp)
    refine q8.call (.int .i64 (L:Nat)) (fun v=>by rfl) (fun D v w' hD hS=>?_) ?_
    ·have HS:=z7 hS;clear hS hD;go_simp;go_at_call 301;refine (HL0.out w').mono ?_;rintro e w'' ⟨rfl,hb'⟩;exact ⟨rfl,by rw [hb'];exact HS.out⟩
    go_simp;iterate 3 (refine q8.rd (e:=?_) (fun D v w' hD hS=>?_) ?_;rotate_left;(obtain ⟨x0,x1⟩:=hcl.out w' hS;clear hS hD;first | (go_simp;done) | (go_simp;with_reducible rfl));go_simp)
    iterate 2 (refine q8.rd (e:=?_) (fun D v w' hD hS=>?_) ?_;rotate_left;(obtain ⟨x0,x1⟩:=hcl.out w' hS;clear hS hD;first | (go_simp;done) | (go_simp;with_reducible rfl));go_simp)
    iterate 1 (refine q8.rd (e:=?_) (fun D v w' hD hS=>?_) ?_;rotate_left;(obtain ⟨x0,x1⟩:=hcl.out w' hS;clear hS hD;first | (go_simp;done) | (go_simp;with_reducible rfl));go_simp)
    refine q8.call (.int .i64 (T:Nat)) (fun v=>by rfl) (fun D v w' hD hS=>?_) ?_
    ·have HS:=z7 hS;clear hS hD;go_simp;go_at_call 302;refine (HT0.out w' (HDB.out w' HS.out)).mono ?_;rintro e w'' ⟨rfl,hb'⟩;exact ⟨rfl,by rw [hb'];exact HS.out⟩
    go_simp;iterate 1 (refine q8.rd (e:=?_) (fun D v w' hD hS=>?_) ?_;rotate_left;(obtain ⟨x0,x1⟩:=hcl.out w' hS;clear hS hD;first | (go_simp;done) | (go_simp;with_reducible rfl));go_simp)
    refine q8.call (.int .i64 (D0:Nat)) (fun v=>by rfl) (fun D v w' hD hS=>?_) ?_
    ·have HS:=z7 hS;clear hS hD;go_simp;go_at_call 263;refine (HD0.out w').mono ?_;rintro e w'' ⟨rfl,hb'⟩;exact ⟨rfl,HS.out.trans (hb'.mono HS.out.size)⟩
    go_simp;iterate 2 (refine q8.rd (e:=?_) (fun D v w' hD hS=>?_) ?_;rotate_left;(obtain ⟨x0,x1⟩:=hcl.out w' hS;clear hS hD;first | (go_simp;done) | (go_simp;with_reducible rfl));go_simp)
    refine q8.fin (fun v w5 hS=>?_);have HF:=z7 ((HL.out.call hS).low);clear hS;go_wp2;go_ret;exact ⟨rfl,HF.out⟩
   ·have d2:decide ((D0:Int)≤T)=false:=decide_eq_false (by omega);have n2:decide (D0≤T)=false:=decide_eq_false (by omega);have hr:decide (0<size∧lead≤L∧D0≤T)=false:=decide_eq_false (by omega);rw [hr];clear hr h0 h1 h2;go_enter Tryz.func262,Tryz.ntmps262;go_upto_region 1 with fail
    rw [←HW.out];refine q6 17 22 (by kernel_rfl) (by kernel_rfl) rfl (by kernel_rfl) (fun D v w'=>Below W1.heap.size W1 w') (fun _=>undef) (Below.refl _ _).drew ?_;simp only [List.take_succ_cons,List.take_zero,List.drop_succ_cons,List.drop_zero];iterate 4 (refine q8.rd (e:=?_) (fun D v w' hD hS=>?_) ?_;rotate_left;(obtain ⟨x0,x1⟩:=hcl.out w' hS;clear hS hD;first | (go_simp;done) | (go_simp;with_reducible rfl));go_simp)
    iterate 1 (refine q8.rd (e:=?_) (fun D v w' hD hS=>?_) ?_;rotate_left;(obtain ⟨x0,x1⟩:=hcl.out w' hS;clear hS hD;first | (go_simp;done) | (go_simp;with_reducible rfl));go_simp)
    refine q8.call (.int .i64 (L:Nat)) (fun v=>by rfl) (fun D v w' hD hS=>?_) ?_
    ·have HS:=z7 hS;clear hS hD;go_simp;go_at_call 301;refine (HL0.out w').mono ?_;rintro e w'' ⟨rfl,hb'⟩;exact ⟨rfl,by rw [hb'];exact HS.out⟩
    go_simp;iterate 3 (refine q8.rd (e:=?_) (fun D v w' hD hS=>?_) ?_;rotate_left;(obtain ⟨x0,x1⟩:=hcl.out w' hS;clear hS hD;first | (go_simp;done) | (go_simp;with_reducible rfl));go_simp)
    iterate 2 (refine q8.rd (e:=?_) (fun D v w' hD hS=>?_) ?_;rotate_left;(obtain ⟨x0,x1⟩:=hcl.out w' hS;clear hS hD;first | (go_simp;done) | (go_simp;with_reducible rfl));go_simp)
    iterate 1 (refine q8.rd (e:=?_) (fun D v w' hD hS=>?_) ?_;rotate_left;(obtain ⟨x0,x1⟩:=hcl.out w' hS;clear hS hD;first | (go_simp;done) | (go_simp;with_reducible rfl));go_simp)
    refine q8.call (.int .i64 (T:Nat)) (fun v=>by rfl) (fun D v w' hD hS=>?_) ?_
    ·have HS:=z7 hS;clear hS hD;go_simp;go_at_call 302;refine (HT0.out w' (HDB.out w' HS.out)).mono ?_;rintro e w'' ⟨rfl,hb'⟩;exact ⟨rfl,by rw [hb'];exact HS.out⟩
    go_simp;iterate 1 (refine q8.rd (e:=?_) (fun D v w' hD hS=>?_) ?_;rotate_left;(obtain ⟨x0,x1⟩:=hcl.out w' hS;clear hS hD;first | (go_simp;done) | (go_simp;with_reducible rfl));go_simp)
    refine q8.call (.int .i64 (D0:Nat)) (fun v=>by rfl) (fun D v w' hD hS=>?_) ?_
    ·have HS:=z7 hS;clear hS hD;go_simp;go_at_call 263;refine (HD0.out w').mono ?_;rintro e w'' ⟨rfl,hb'⟩;exact ⟨rfl,HS.out.trans (hb'.mono HS.out.size)⟩
    go_simp;iterate 2 (refine q8.rd (e:=?_) (fun D v w' hD hS=>?_) ?_;rotate_left;(obtain ⟨x0,x1⟩:=hcl.out w' hS;clear hS hD;first | (go_simp;done) | (go_simp;with_reducible rfl));go_simp)
    refine q8.fin (fun v w5 hS=>?_);have HF:=z7 ((HL.out.call hS).low);clear hS;go_wp2;go_ret;exact ⟨rfl,HF.out⟩
  ·have d1:decide ((lead:Int)≤L)=false:=decide_eq_false (by omega);have n1:decide (lead≤L)=false:=decide_eq_false (by omega);have hr:decide (0<size∧lead≤L∧D0≤T)=false:=decide_eq_false (by omega);rw [hr];clear hr h0 h1;go_enter Tryz.func262,Tryz.ntmps262;go_upto_region 1 with fail
   rw [←HW.out];refine q6 17 22 (by kernel_rfl) (by kernel_rfl) rfl (by kernel_rfl) (fun D v w'=>Below W1.heap.size W1 w') (fun _=>undef) (Below.refl _ _).drew ?_;simp only [List.take_succ_cons,List.take_zero,List.drop_succ_cons,List.drop_zero];iterate 4 (refine q8.rd (e:=?_) (fun D v w' hD hS=>?_) ?_;rotate_left;(obtain ⟨x0,x1⟩:=hcl.out w' hS;clear hS hD;first | (go_simp;done) | (go_simp;with_reducible rfl));go_simp)
   iterate 1 (refine q8.rd (e:=?_) (fun D v w' hD hS=>?_) ?_;rotate_left;(obtain ⟨x0,x1⟩:=hcl.out w' hS;clear hS hD;first | (go_simp;done) | (go_simp;with_reducible rfl));go_simp)
   refine q8.call (.int .i64 (L:Nat)) (fun v=>by rfl) (fun D v w' hD hS=>?_) ?_
   ·have HS:=z7 hS;clear hS hD;go_simp;go_at_call 301;refine (HL0.out w').mono ?_;rintro e w'' ⟨rfl,hb'⟩;exact ⟨rfl,by rw [hb'];exact HS.out⟩
   go_simp;iterate 3 (refine q8.rd (e:=?_) (fun D v w' hD hS=>?_) ?_;rotate_left;(obtain ⟨x0,x1⟩:=hcl.out w' hS;clear hS hD;first | (go_simp;done) | (go_simp;with_reducible rfl));go_simp)
   iterate 2 (refine q8.rd (e:=?_) (fun D v w' hD hS=>?_) ?_;rotate_left;(obtain ⟨x0,x1⟩:=hcl.out w' hS;clear hS hD;first | (go_simp;done) | (go_simp;with_reducible rfl));go_simp)
   iterate 5 (refine q8.skip (fun v=>by rfl) (fun D v w h=>h) ?_;go_simp)
   iterate 1 (refine q8.rd (e:=?_) (fun D v w' hD hS=>?_) ?_;rotate_left;(obtain ⟨x0,x1⟩:=hcl.out w' hS;clear hS hD;first | (go_simp;done) | (go_simp;with_reducible rfl));go_simp)
   refine q8.fin (fun v w5 hS=>?_);have HF:=z7 ((HL.out.call hS).low);clear hS;go_wp2;go_ret;exact ⟨rfl,HF.out⟩
 ·have d0:decide ((0:Int)<size)=false:=decide_eq_false (by omega);have n0:decide (0<size)=false:=decide_eq_false (by omega);have hr:decide (0<size∧lead≤L∧D0≤T)=false:=decide_eq_false (by omega);rw [hr];clear hr h0;go_enter Tryz.func262,Tryz.ntmps262;go_upto_region 1 with fail
  rw [←HW.out];refine q6 17 22 (by kernel_rfl) (by kernel_rfl) rfl (by kernel_rfl) (fun D v w'=>Below W1.heap.size W1 w') (fun _=>undef) (Below.refl _ _).drew ?_;simp only [List.take_succ_cons,List.take_zero,List.drop_succ_cons,List.drop_zero];iterate 4 (refine q8.rd (e:=?_) (fun D v w' hD hS=>?_) ?_;rotate_left;(obtain ⟨x0,x1⟩:=hcl.out w' hS;clear hS hD;first | (go_simp;done) | (go_simp;with_reducible rfl));go_simp)
  iterate 5 (refine q8.skip (fun v=>by rfl) (fun D v w h=>h) ?_;go_simp)
  iterate 2 (refine q8.rd (e:=?_) (fun D v w' hD hS=>?_) ?_;rotate_left;(obtain ⟨x0,x1⟩:=hcl.out w' hS;clear hS hD;first | (go_simp;done) | (go_simp;with_reducible rfl));go_simp)
  iterate 5 (refine q8.skip (fun v=>by rfl) (fun D v w h=>h) ?_;go_simp)
  iterate 1 (refine q8.rd (e:=?_) (fun D v w' hD hS=>?_) ?_;rotate_left;(obtain ⟨x0,x1⟩:=hcl.out w' hS;clear hS hD;first | (go_simp;done) | (go_simp;with_reducible rfl));go_simp)
  refine q8.fin (fun v w5 hS=>?_);have HF:=z7 ((HL.out.call hS).low);clear hS;go_wp2;go_ret;exact ⟨rfl,HF.out⟩
end Go.Proofs.YtfcnapnopdomhaaGreatDoor

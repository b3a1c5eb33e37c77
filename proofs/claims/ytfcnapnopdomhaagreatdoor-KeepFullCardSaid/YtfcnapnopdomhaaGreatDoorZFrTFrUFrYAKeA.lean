/-
  Walks over the reference of frames: Put, number, Encode.
-/
import Derived.Test.YtfcnapnopdomhaaGreatDoorZFrRFrS
import Derived.Test.YtfcnapnopdomhaaGreatDoorZFrH
import Derived.Test.YtfcnapnopdomhaaGreatDoorZRcD
namespace Go.Proofs.YtfcnapnopdomhaaGreatDoor
set_option linter.unusedSimpArgs false
set_option linter.unusedVariables false
set_option maxRecDepth 100000
set_option maxHeartbeats 12800000
section
open Go.RowKit
def beW(n:Nat):Nat→List UInt8
 | 0=> []
 | k+1=>UInt8.ofNat (n/256^k)::beW n k
theorem y9A(n:Nat):beW n 4=be4 n:=by
 simp [beW,be4]
theorem y8j{n:Nat}(h:n<18446744073709551616):beW n 8=be4 (n/4294967296)++be4 (n%4294967296):=by
 simp only [beW,be4,List.cons_append,List.nil_append];refine congr (congrArg List.cons ?_) (congr (congrArg List.cons ?_) (congr (congrArg List.cons ?_) (congr (congrArg List.cons ?_) (congr (congrArg List.cons ?_) (congr (congrArg List.cons ?_) (congr (congrArg List.cons ?_) (congr (congrArg List.cons ?_) rfl)))))));all_goals
  apply UInt8.toNat.inj;simp only [UInt8.toNat_ofNat'];try omega
theorem y0t(n:Nat):∀k,(beW n k).length=k
 | 0=>rfl
 | k+1=>by rw [beW,List.length_cons,y0t n k]
theorem y6B{W w:World}{B n width:Nat}{v:Value}{l:List UInt8}(h:z4I W B v l w)(hn:n<18446744073709551616)(hw:width≤8)(hl:l.length≤2000000):
  Calls Tryz.prog 51 #[v, .int .u64 n, .int .i64 width] w fun e w'=>∃a c,e= .returned (.slice a (l++beW n width).length c)∧z4I W B (.slice a (l++beW n width).length c) (l++beW n width) w':=by
 obtain ⟨a0,c0,rfl⟩:=h.head;have HR:=z7 h;clear h;obtain ⟨R,hR⟩:∃R,R=l++beW n width:=⟨_,rfl⟩;rw [←hR];have HRR:=z7 hR;clear hR;go_enter Tryz.func51,Tryz.ntmps51;go_wp2;go_loopw [0,7] (fun v i wr=>∃(i':Int) (m:Nat) (L:List UInt8) (ao:Option Addr) (c':Nat),i= .int .i64 i'∧ -1≤i'∧i'<8∧v= .slice ao m c'∧m≤2000008∧Hid (m=L.length)∧Hid (L++beW n (i'+1).toNat=R)∧Hid (z4I W B (.slice ao m c') L wr)) (fun _ i _=>(intOf i+1).toNat)
 case atStart=>exact ⟨_,_,l,_,_,rfl,by omega,by omega,rfl,by omega,rfl,by rw [show ((width:Int) - 1+1).toNat=width by omega];exact z7 HRR.out.symm,HR⟩
 case round=>
  obtain ⟨i,m,L,ao,c',rfl,hi1,hi2,rfl,hm,hmL,hL,hR⟩:=hrel;by_cases hlt:0≤i
  ·obtain ⟨k,rfl⟩:∃k:Nat,i=(k:Int):=⟨i.toNat,by omega⟩;obtain ⟨y,hy⟩:∃y:UInt8,y=UInt8.ofNat (n/256^k):=⟨_,rfl⟩;have hyn:((n:Int)/2^(8*k)%256)=(y.toNat:Int):=by
    rw [hy,UInt8.toNat_ofNat'];have e:(2:Int)^(8*k)=((256^k:Nat):Int):=by rw [Int.pow_mul];simp
    rw [e];rfl
   have hrf:RdB (wr.alloc (.cells #[.int .u8 ((n:Int)/2^(8*k)%256)] 5)) (.slice (some ⟨wr.heap.size,0,none⟩) 1 1) [y]:=
    z8p (l:= [y]) (e:=5) (fr:=(0,0)) (by rw [j8,hyn];rfl) (by simp) 1
   have HRF:=z7 hrf;have HR2:=z7 (hR.out.to (q5 wr (.cells #[.int .u8 ((n:Int)/2^(8*k)%256)] 5)));have hL2:Hid ((L++ [y])++beW n k=R):=z7 (by
    have h:=hL.out;rw [show ((k:Int)+1).toNat=k+1 by omega,beW,←hy] at h;simpa using h)
   have hll:Hid ((L++ [y]).length≤2000008∧(L++ [y]).length=m+1):=z7 (by
    have h:=congrArg List.length (hL2.out.trans HRR.out);have:=hmL.out;simp only [List.length_append,y0t,List.length_cons,List.length_nil] at h;have h5:(L++ [y]).length=m+1:=by simp;omega
    omega)
   clear hrf hyn hy;go_wp2_with (at_builtin;refine wpList_copy_own rfl (.tmp 14) (.tmp 21) 46 rfl W B 5 Tryz.underlying46 z3U (.slice ao m c') L rfl HR2.out _ [y] rfl HRF.out (by have:=hmL.out;simp;omega) ?_);intro ao2 co2 w2 hR3 hb3;have HR3:=z7 hR3;clear hR3 hb3;have e1:L.length+1=m+1:=by rw [hmL.out]
   have HR3':Hid (z7C W B 5 (.slice ao2 (m+1) co2) (L++ [y]) w2):=by rw [←e1];exact HR3
   rw [e1];clear HR3 e1;have hm1:m+1≤2000008:=by have:=hll.out;omega
   go_wp2
   go_roundw
   case rel=>exact ⟨(k:Int) - 1,m+1,L++ [y],ao2,co2,rfl,by omega,by omega,rfl,hm1,z7 hll.out.2.symm,by rw [show ((k:Int) - 1+1).toNat=k by omega];exact hL2,HR3'⟩
   case measure=>simp [intOf]<;>omega
  ·have hi:i= -1:=by omega
   subst hi;have hLl:L=R:=by have h:=hL.out;simp [beW] at h;exact h
   subst hLl;go_wp2;go_ret;refine ⟨ao,c',?_,?_⟩
   ·rw [←hmL.out];rfl
   ·rw [←hmL.out];exact hR.out
def y2v(W:World)(B:Nat)(a:Option Addr)(m c:Nat)(l:List UInt8)(w:World):Prop:=m=l.length∧z4I W B (.slice a m c) l w
theorem z3v{W w:World}{B n m:Nat}{a:Option Addr}{c:Nat}{l:List UInt8}(h:y2v W B a m c l w)(m':Nat)(hm':m'=m+4)(hn:n<18446744073709551616)(hm:m≤2000000):
  Calls Tryz.prog 51 #[.slice a m c, .int .u64 n, .int .i64 4] w fun e w'=>∃a' c',e= .returned (.slice a' m' c')∧y2v W B a' m' c' (l++be4 n) w':=by
 obtain ⟨h1,h2⟩:=h;refine (y6B (width:=4) h2 hn (by omega) (by omega)).mono ?_;rintro e w' ⟨a',c',rfl,hr⟩;rw [y9A] at hr ⊢;have e:m'=(l++be4 n).length:=by rw [List.length_append,z4b];omega
 rw [←e] at hr ⊢;exact ⟨a',c',rfl,e,hr⟩
theorem y2U{W w:World}{B n m:Nat}{a:Option Addr}{c:Nat}{l:List UInt8}(h:y2v W B a m c l w)(m':Nat)(hm':m'=m+8)(hn:n<18446744073709551616)(hm:m≤2000000):
  Calls Tryz.prog 51 #[.slice a m c, .int .u64 n, .int .i64 8] w fun e w'=>∃a' c',e= .returned (.slice a' m' c')∧y2v W B a' m' c' (l++be4 (n/4294967296)++be4 (n%4294967296)) w':=by
 obtain ⟨h1,h2⟩:=h;refine (y6B (width:=8) h2 hn (by omega) (by omega)).mono ?_;rintro e w' ⟨a',c',rfl,hr⟩;rw [y8j hn,←List.append_assoc] at hr ⊢;have e:m'=(l++be4 (n/4294967296)++be4 (n%4294967296)).length:=by simp only [List.length_append,z4b];omega
 rw [←e] at hr ⊢;exact ⟨a',c',rfl,e,hr⟩
theorem y6l{f:Fr}(h:z4G f=true):0≤f.n∧f.n<4294967296:=by
 unfold z4G z1T at h;simp at h;omega
theorem z9d{f:Fr}(h:z1D f=true):0≤f.n∧f.n<4294967296∧f.b.length≤4052:=by
 unfold z1D at h;split at h
 ·unfold z4H at h;simp at h;rw [h.1.1,h.1.2];simp
 split at h
 ·unfold z4H at h;simp at h;rw [h.1.1,h.1.2];simp
 split at h
 ·have:=y6l (Bool.and_eq_true_iff.1 h).2;unfold z4G at h;simp at h;omega
 split at h
 ·have:=y6l h;unfold z4G at h;simp at h;omega
 ·cases h
theorem z6C(f:Fr)(a:Option Addr)(c:Nat)(w:World)(hf:f.Ok)(hl:f.b.length≤1000000)(hx:RdB w (.slice a f.b.length c) f.b)(hm:z1D f=true):
  Calls Tryz.prog 16 #[frV f (.slice a f.b.length c)] w fun e w'=>∃a m c,e= .returned (.tuple #[.slice a m c, .int .i64 0])∧(m=(z0w f).length∧w'.ownsRow w.heap.size 5 1 (.slice a m c) m (z0b (z0w f)))∧Below w.heap.size w w':=by
 have hA:=z2j.made w f (.slice a f.b.length c);have hX:=z7 (hx.low (q5 w (.cells (z0a f (.slice a f.b.length c)) 50)));have hW0:=z7 (q5 w (.cells (z0a f (.slice a f.b.length c)) 50));have hs0:(w.alloc (.cells (z0a f (.slice a f.b.length c)) 50)).heap.size=w.heap.size+1:=by simp
 have HM:=z7 hm;have HF:=z7 hf;have HA:=z7 hA;obtain ⟨n0,n1,_⟩:=z9d hm;obtain ⟨o1,o2,o3,o4,o5,o6,o7,o8,o9,o10⟩:=hf;clear hx hm hA;have hfV:frV f (.slice a f.b.length c)= .agg #[.int .u8 f.kind, .int .u32 f.epoch, .int .u32 f.series, .int .u32 f.chunk, .int .u32 f.bits, .int .u32 f.cnt, .int .u32 f.count, .bool f.closed, .int .u64 f.sum, .slice a f.b.length c, .int .i64 f.n]:=rfl;have HV:=z7 hfV;rw [hfV];clear hfV;go_enter Tryz.func16,Tryz.ntmps16;go_wp2_with fail;rw [←HV.out];refine (q1S f a c _ HF.out hl hX.out).mono ?_;rintro e w2 ⟨rfl,hb⟩;rw [HM.out];have hW2:Hid (Below w.heap.size w w2):=z7 (hW0.out.trans (hb.mono (by omega)));have hA2:=HA.out.low hb;have HA2:=z7 hA2;have HX2:=z7 (hX.out.low hb);obtain ⟨c0,c1,c2,c3,c4,c5,c6,c7,c8,c9,c10⟩:=hA2.cells;have hsz:w.heap.size<w2.heap.size:=hA2.lt;clear hb hA2;go_wp2_with fail;have hr0:=rowIs_made w2 w2.heap.size [0x44,0x59,UInt8.ofNat f.kind] #[.int .u8 68, .int .u8 89, .int .u8 f.kind] rfl (by
  simp only [z0b,List.map_cons,List.map_nil,UInt8.toNat_ofNat',List.toArray];rw [Nat.mod_eq_of_lt o1];rfl) (by simp)
 have hR0:y2v w2 w2.heap.size (some ⟨w2.heap.size,0,none⟩) 3 3 [0x44,0x59,UInt8.ofNat f.kind] (w2.alloc (.cells #[.int .u8 68, .int .u8 89, .int .u8 f.kind] 5)):=⟨rfl,hr0⟩;have HR0:=z7 hR0;obtain ⟨L0,hL0⟩:∃L0,L0= [0x44,0x59,UInt8.ofNat f.kind]:=⟨_,rfl⟩;rw [←hL0] at HR0;have HL0:=z7 hL0;clear hr0 hR0 hL0;refine (z3v HR0.out 7 rfl (by omega) (by omega)).mono ?_;rintro e W1 ⟨a1,d1,rfl,hR⟩;clear c0 c1 c2 c3 c4 c5 c6 c7 c8 c9 c10;obtain ⟨c0,c1,c2,c3,c4,c5,c6,c7,c8,c9,c10⟩:=(HA2.out.low hR.2.2.1).cells;obtain ⟨L1,hL⟩:∃L,L=L0++be4 f.epoch:=⟨_,rfl⟩;rw [←hL] at hR;have HL1:=z7 hL;have HR1:=z7 hR;clear hR hL HR0;go_wp2_with fail;refine (z3v HR1.out 11 rfl (by omega) (by omega)).mono ?_;rintro e W2 ⟨a2,d2,rfl,hR⟩;clear c0 c1 c2 c3 c4 c5 c6 c7 c8 c9 c10;obtain ⟨c0,c1,c2,c3,c4,c5,c6,c7,c8,c9,c10⟩:=(HA2.out.low hR.2.2.1).cells;obtain ⟨L2,hL⟩:∃L,L=L1++be4 f.series:=⟨_,rfl⟩;rw [←hL] at hR;have HL2:=z7 hL;have HR2:=z7 hR;clear hR hL HR1;go_wp2_with fail;refine (z3v HR2.out 15 rfl (by omega) (by omega)).mono ?_;rintro e W3 ⟨a3,d3,rfl,hR⟩;clear c0 c1 c2 c3 c4 c5 c6 c7 c8 c9 c10;obtain ⟨c0,c1,c2,c3,c4,c5,c6,c7,c8,c9,c10⟩:=(HA2.out.low hR.2.2.1).cells;obtain ⟨L3,hL⟩:∃L,L=L2++be4 f.chunk:=⟨_,rfl⟩;rw [←hL] at hR;have HL3:=z7 hL;have HR3:=z7 hR;clear hR hL HR2;go_wp2_with fail;refine (z3v HR3.out 19 rfl (by omega) (by omega)).mono ?_;rintro e W4 ⟨a4,d4,rfl,hR⟩;clear c0 c1 c2 c3 c4 c5 c6 c7 c8 c9 c10;obtain ⟨c0,c1,c2,c3,c4,c5,c6,c7,c8,c9,c10⟩:=(HA2.out.low hR.2.2.1).cells
 obtain ⟨L4,hL⟩:∃L,L=L3++be4 f.bits:=⟨_,rfl⟩;rw [←hL] at hR;have HL4:=z7 hL;have HR4:=z7 hR;clear hR hL HR3;go_wp2_with fail;refine (z3v HR4.out 23 rfl (by omega) (by omega)).mono ?_;rintro e W5 ⟨a5,d5,rfl,hR⟩;clear c0 c1 c2 c3 c4 c5 c6 c7 c8 c9 c10;obtain ⟨c0,c1,c2,c3,c4,c5,c6,c7,c8,c9,c10⟩:=(HA2.out.low hR.2.2.1).cells;obtain ⟨L5,hL⟩:∃L,L=L4++be4 f.cnt:=⟨_,rfl⟩;rw [←hL] at hR;have HL5:=z7 hL;have HR5:=z7 hR;clear hR hL HR4;go_wp2_with fail;refine (z3v HR5.out 27 rfl (by omega) (by omega)).mono ?_;rintro e W6 ⟨a6,d6,rfl,hR⟩;clear c0 c1 c2 c3 c4 c5 c6 c7 c8 c9 c10;obtain ⟨c0,c1,c2,c3,c4,c5,c6,c7,c8,c9,c10⟩:=(HA2.out.low hR.2.2.1).cells;obtain ⟨L6,hL⟩:∃L,L=L5++be4 f.count:=⟨_,rfl⟩;rw [←hL] at hR;have HL6:=z7 hL;have HR6:=z7 hR;clear hR hL HR5;have hcl0:f.closed=true∨f.closed=false:=by cases f.closed<;>simp
 rcases hcl0 with hcl | hcl
 ·have HFL:Hid (y0w f.closed=1):=z7 (by rw [hcl];rfl);have hrf:RdB (W6.alloc (.cells #[.int .u8 1] 5)) (.slice (some ⟨W6.heap.size,0,none⟩) 1 1) [1]:=
   z8p (l:= [1]) (e:=5) (fr:=(0,0)) (by rw [j8];rfl) (by simp) 1
  have HRF:=z7 hrf;have HR7:=z7 (HR6.out.2.to (q5 W6 (.cells #[.int .u8 1] 5)));have h27:L6.length=27:=HR6.out.1.symm;have H27:=z7 h27;clear hrf h27 HR6;go_wp2_with (at_builtin;refine wpList_copy_own rfl (.tmp 49) (.tmp 51) 46 rfl w2 w2.heap.size 5 Tryz.underlying46 z3U (.slice a6 27 d6) L6 rfl HR7.out _ [1] rfl HRF.out (by rw [H27.out];simp) ?_);intro a7 d7 W7 hR3 hb3;have e28:L6.length+1=28:=by rw [H27.out]
  rw [e28] at hR3 ⊢;have hR:y2v w2 w2.heap.size a7 28 d7 (L6++ [1]) W7:=⟨by simp [H27.out],hR3⟩;clear c0 c1 c2 c3 c4 c5 c6 c7 c8 c9 c10 HR7 HRF e28 hR3 hb3;obtain ⟨c0,c1,c2,c3,c4,c5,c6,c7,c8,c9,c10⟩:=(HA2.out.low hR.2.2.1).cells;obtain ⟨L7,hL⟩:∃L,L=L6++ [(1:UInt8)]:=⟨_,rfl⟩;rw [←hL] at hR;have HL7:=z7 hL;have HR7:=z7 hR;clear hR hL;go_wp2_with fail;refine (y2U HR7.out 36 rfl (by omega) (by omega)).mono ?_;rintro e W8 ⟨a8,d8,rfl,hR⟩;clear c0 c1 c2 c3 c4 c5 c6 c7 c8 c9 c10;obtain ⟨c0,c1,c2,c3,c4,c5,c6,c7,c8,c9,c10⟩:=(HA2.out.low hR.2.2.1).cells;obtain ⟨L8,hL⟩:∃L,L=L7++be4 (f.sum/4294967296)++be4 (f.sum%4294967296):=⟨_,rfl⟩;rw [←hL] at hR;have HL8:=z7 hL;have HR8:=z7 hR;clear hR hL HR7;obtain ⟨N,hN⟩:∃N:Nat,f.n=(N:Int):=⟨f.n.toNat,by omega⟩;rw [hN] at c10;have HN:=z7 hN;have hN2:N<4294967296:=by omega
  clear hN n0 n1;go_wp2_with fail;refine (z3v HR8.out 40 rfl (by omega) (by omega)).mono ?_;rintro e W9 ⟨a9,d9,rfl,hR⟩;clear c0 c1 c2 c3 c4 c5 c6 c7 c8 c9 c10;obtain ⟨c0,c1,c2,c3,c4,c5,c6,c7,c8,c9,c10⟩:=(HA2.out.low hR.2.2.1).cells;have hH:L8++be4 N=z1q f:=by
   rw [HL8.out,HL7.out,HL6.out,HL5.out,HL4.out,HL3.out,HL2.out,HL1.out,HL0.out,←HFL.out];unfold z1q;rw [HN.out,show ((N:Int)%4294967296).toNat=N by omega]
  rw [hH] at hR;have HR9:=z7 hR;have HX9:=z7 (HX2.out.low hR.2.2.1);clear hR HR8 hH;go_wp2_with (at_builtin;refine wpList_copy_own rfl (.tmp 63) (.tmp 66) 46 rfl w2 w2.heap.size 5 Tryz.underlying46 z3U (.slice a9 40 d9) (z1q f) rfl HR9.out.2 _ f.b rfl HX9.out (by rw [z1L];omega) ?_);intro a10 d10 W10 hR10 _;rw [show z1q f++f.b=z2g f from rfl] at hR10;have hbl:(z2g f).length=40+f.b.length:=by simp [z2g,z1L]
  have e10:(z1q f).length+f.b.length=(z2g f).length:=by simp [z2g]
  rw [e10] at hR10 ⊢;obtain ⟨M,hM⟩:∃M,M=z2g f:=⟨_,rfl⟩;rw [←hM] at hR10 hbl ⊢;have hMl:M.length≤1000040:=by omega
  have HM1:=z7 hM;have HR10:=z7 hR10;clear hR10 hM HR9 HX9 c0 c1 c2 c3 c4 c5 c6 c7 c8 c9 c10 hbl e10;go_wp2_with fail;refine (y6F _ M _ (z0d HR10.out.1) (by omega)).mono ?_;rintro e w' ⟨rfl,rfl⟩;have hcl2:=z7b M;go_wp2_with fail;refine (z3v (⟨rfl,HR10.out⟩:y2v w2 w2.heap.size a10 M.length d10 M W10) (M.length+4) rfl (by omega) (by omega)).mono ?_;rintro e W11 ⟨a11,d11,rfl,hR⟩;have hW:z0w f=M++be4 (z2A M):=by rw [HM1.out];rfl
  rw [←hW] at hR;have HR11:=z7 hR;clear hR hW HR10;go_wp2;go_ret2;refine ⟨a11,M.length+4,d11,rfl,?_,hW2.out.trans (HR11.out.2.2.1.mono hW2.out.size)⟩;have h1:=HR11.out.2.1;have h2:=HR11.out.1;exact ⟨h2,z0i (by rw [←h2] at h1;exact h1) hW2.out.size⟩
 ·have HFL:Hid (y0w f.closed=0):=z7 (by rw [hcl];rfl);have hrf:RdB (W6.alloc (.cells #[.int .u8 0] 5)) (.slice (some ⟨W6.heap.size,0,none⟩) 1 1) [0]:=
   z8p (l:= [0]) (e:=5) (fr:=(0,0)) (by rw [j8];rfl) (by simp) 1
  have HRF:=z7 hrf;have HR7:=z7 (HR6.out.2.to (q5 W6 (.cells #[.int .u8 0] 5)));have h27:L6.length=27:=HR6.out.1.symm;have H27:=z7 h27;clear hrf h27 HR6;go_wp2_with (at_builtin;refine wpList_copy_own rfl (.tmp 49) (.tmp 51) 46 rfl w2 w2.heap.size 5 Tryz.underlying46 z3U (.slice a6 27 d6) L6 rfl HR7.out _ [0] rfl HRF.out (by rw [H27.out];simp) ?_);intro a7 d7 W7 hR3 hb3;have e28:L6.length+1=28:=by rw [H27.out]
  rw [e28] at hR3 ⊢;have hR:y2v w2 w2.heap.size a7 28 d7 (L6++ [0]) W7:=⟨by simp [H27.out],hR3⟩;clear c0 c1 c2 c3 c4 c5 c6 c7 c8 c9 c10 HR7 HRF e28 hR3 hb3;obtain ⟨c0,c1,c2,c3,c4,c5,c6,c7,c8,c9,c10⟩:=(HA2.out.low hR.2.2.1).cells;obtain ⟨L7,hL⟩:∃L,L=L6++ [(0:UInt8)]:=⟨_,rfl⟩;rw [←hL] at hR;have HL7:=z7 hL;have HR7:=z7 hR;clear hR hL;go_wp2_with fail;refine (y2U HR7.out 36 rfl (by omega) (by omega)).mono ?_;rintro e W8 ⟨a8,d8,rfl,hR⟩;clear c0 c1 c2 c3 c4 c5 c6 c7 c8 c9 c10;obtain ⟨c0,c1,c2,c3,c4,c5,c6,c7,c8,c9,c10⟩:=(HA2.out.low hR.2.2.1).cells;obtain ⟨L8,hL⟩:∃L,L=L7++be4 (f.sum/4294967296)++be4 (f.sum%4294967296):=⟨_,rfl⟩;rw [←hL] at hR;have HL8:=z7 hL;have HR8:=z7 hR;clear hR hL HR7;obtain ⟨N,hN⟩:∃N:Nat,f.n=(N:Int):=⟨f.n.toNat,by omega⟩;rw [hN] at c10;have HN:=z7 hN;have hN2:N<4294967296:=by omega
  clear hN n0 n1;go_wp2_with fail;refine (z3v HR8.out 40 rfl (by omega) (by omega)).mono ?_;rintro e W9 ⟨a9,d9,rfl,hR⟩;clear c0 c1 c2 c3 c4 c5 c6 c7 c8 c9 c10;obtain ⟨c0,c1,c2,c3,c4,c5,c6,c7,c8,c9,c10⟩:=(HA2.out.low hR.2.2.1).cells;have hH:L8++be4 N=z1q f:=by
   rw [HL8.out,HL7.out,HL6.out,HL5.out,HL4.out,HL3.out,HL2.out,HL1.out,HL0.out,←HFL.out];unfold z1q;rw [HN.out,show ((N:Int)%4294967296).toNat=N by omega]
  rw [hH] at hR;have HR9:=z7 hR;have HX9:=z7 (HX2.out.low hR.2.2.1);clear hR HR8 hH;go_wp2_with (at_builtin;refine wpList_copy_own rfl (.tmp 63) (.tmp 66) 46 rfl w2 w2.heap.size 5 Tryz.underlying46 z3U (.slice a9 40 d9) (z1q f) rfl HR9.out.2 _ f.b rfl HX9.out (by rw [z1L];omega) ?_);intro a10 d10 W10 hR10 _;rw [show z1q f++f.b=z2g f from rfl] at hR10;have hbl:(z2g f).length=40+f.b.length:=by simp [z2g,z1L]
  have e10:(z1q f).length+f.b.length=(z2g f).length:=by simp [z2g]
  rw [e10] at hR10 ⊢;obtain ⟨M,hM⟩:∃M,M=z2g f:=⟨_,rfl⟩;rw [←hM] at hR10 hbl ⊢;have hMl:M.length≤1000040:=by omega
  have HM1:=z7 hM;have HR10:=z7 hR10;clear hR10 hM HR9 HX9 c0 c1 c2 c3 c4 c5 c6 c7 c8 c9 c10 hbl e10;go_wp2_with fail;refine (y6F _ M _ (z0d HR10.out.1) (by omega)).mono ?_;rintro e w' ⟨rfl,rfl⟩;have hcl2:=z7b M;go_wp2_with fail;refine (z3v (⟨rfl,HR10.out⟩:y2v w2 w2.heap.size a10 M.length d10 M W10) (M.length+4) rfl (by omega) (by omega)).mono ?_;rintro e W11 ⟨a11,d11,rfl,hR⟩;have hW:z0w f=M++be4 (z2A M):=by rw [HM1.out];rfl
  rw [←hW] at hR;have HR11:=z7 hR;clear hR hW HR10;go_wp2;go_ret2;refine ⟨a11,M.length+4,d11,rfl,?_,hW2.out.trans (HR11.out.2.2.1.mono hW2.out.size)⟩;have h1:=HR11.out.2.1;have h2:=HR11.out.1;exact ⟨h2,z0i (by rw [←h2] at h1;exact h1) hW2.out.size⟩
structure RF (w5:World) (g:Fr) (x:Value) (W:World):Prop where
 f:z2j W w5.heap.size g x
 low:Below w5.heap.size w5 W
theorem RF.ff{w5 W:World}{g:Fr}{x:Value}(h:RF w5 g x W):∀o,W.frozen? ⟨w5.heap.size,o,none⟩=false:=fun o=>by simp [World.frozen?,show W.heap[w5.heap.size]? =_ from h.f]
theorem RF.setF{w5 W:World}{g g':Fr}{x x' v:Value}{o:Nat}(h:RF w5 g x W)(he:z0a g' x'=(z0a g x).setIfInBounds o v):RF w5 g' x' (W.setCell ⟨w5.heap.size,o,none⟩ v):=
 ⟨h.f.set he,h.low.setCell (by simp) _⟩
theorem RF.store{w5 W:World}{g:Fr}{x:Value}(h:RF w5 g x W)(g':Fr)(x':Value):RF w5 g' x' (W.setCells w5.heap.size 0 (z0a g' x').toList):=
 ⟨h.f.store g' x',z3L h.low h.low.size (by omega) _⟩
theorem RF.to{w5 W W':World}{g:Fr}{x:Value}(h:RF w5 g x W)(hb:Below W.heap.size W W'):RF w5 g x W':=
 ⟨h.f.low hb,h.low.trans (hb.mono h.low.size)⟩
def WA(w5:World)(b8:Bool):World:=if b8 then w5.alloc (.cells (z0a z0O (.slice none 0 0)) 50) else w5
theorem WA.below(w5:World)(b8:Bool):Below w5.heap.size w5 (WA w5 b8):=by
 cases b8
 ·exact Below.refl _ _
 ·exact q5 _ _
def z9t(b:List UInt8):Bool:=decide (unB (b.drop (b.length - 4))=z2A (b.take (b.length - 4)))
def z8x(b:List UInt8):Bool:=decide (44≤b.length)&&decide (b.length≤4096)
def z9x(b:List UInt8):Fr:=if z8x b&&z9t b then goF b else z0O
def y0V(b:List UInt8):Int:=if z8x b then (if z9t b then goE b else 71) else 70
theorem y8i(a:Option Addr)(c:Nat)(b:List UInt8)(w:World)(hx:RdB w (.slice a b.length c) b)(hl:b.length≤9223372036854775807)(hc:b.length≤c)(hc2:c≤9223372036854775807):
  Calls Tryz.prog 53 #[.slice a b.length c] w (Told w (z9x b) (y0V b)):=by
 by_cases hlen:44≤b.length∧b.length≤4096
 ·have hL:z8x b=true:=by unfold z8x;simp;exact hlen
  by_cases hs:unB (b.drop (b.length - 4))=z2A (b.take (b.length - 4))
  ·have hS:z9t b=true:=by unfold z9t;simpa using hs
   have h:=y2w a c b w hx hlen.1 hlen.2 hc hc2 hs;have e:z9x b=goF b∧y0V b=goE b:=by unfold z9x y0V;rw [hL,hS];exact ⟨rfl,rfl⟩
   rw [e.1,e.2];exact h
  ·have hS:z9t b=false:=by unfold z9t;simpa using hs
   have h:=y1j a c b w hx hlen.1 hlen.2 hc hc2 hs;have e:z9x b=z0O∧y0V b=71:=by unfold z9x y0V;rw [hL,hS];exact ⟨rfl,rfl⟩
   rw [e.1,e.2];exact h
 ·have hL:z8x b=false:=by unfold z8x;rw [Bool.eq_false_iff];simp;omega
  have e:z9x b=z0O∧y0V b=70:=by unfold z9x y0V;rw [hL];exact ⟨rfl,rfl⟩
  rw [e.1,e.2];exact y1b a c b w hl (by omega)
end
section
theorem z7O(f:Fr):z0w f=z2g f++be4 (z2A (z2g f)):=rfl
theorem z5o(f:Fr):(z2g f).length=40+f.b.length:=by simp [z2g,z1L]
theorem y0S(f:Fr):(z0w f).take ((z0w f).length - 4)=z2g f:=by
 rw [z5C,z7O,List.take_append_of_le_length (by rw [z5o];omega),List.take_of_length_le (by rw [z5o];omega)]
theorem y4Y(f:Fr):(z0w f).drop ((z0w f).length - 4)=be4 (z2A (z2g f)):=by
 rw [z5C,z7O,List.drop_append_of_le_length (by rw [z5o];omega),List.drop_of_length_le (by rw [z5o];omega),List.nil_append]
theorem y2W{f:Fr}(h:z1D f=true):z8x (z0w f)=true:=by
 have:=(z9d h).2.2;unfold z8x;rw [z5C];simp;omega
theorem y4r(f:Fr):z9t (z0w f)=true:=by
 unfold z9t;rw [y0S,y4Y,z4k (z7b _)];simp
theorem y5G(f:Fr)(T:List UInt8):((z1q f++T).drop 3).take 4=be4 f.epoch:=by simp [z1q,be4]
theorem y6g(f:Fr)(T:List UInt8):((z1q f++T).drop 7).take 4=be4 f.series:=by simp [z1q,be4]
theorem y4a(f:Fr)(T:List UInt8):((z1q f++T).drop 11).take 4=be4 f.chunk:=by simp [z1q,be4]
theorem y4l(f:Fr)(T:List UInt8):((z1q f++T).drop 15).take 4=be4 f.bits:=by simp [z1q,be4]
theorem y3Z(f:Fr)(T:List UInt8):((z1q f++T).drop 19).take 4=be4 f.cnt:=by simp [z1q,be4]
theorem y3P(f:Fr)(T:List UInt8):((z1q f++T).drop 23).take 4=be4 f.count:=by simp [z1q,be4]
theorem y4L(f:Fr)(T:List UInt8):((z1q f++T).drop 28).take 4=be4 (f.sum/4294967296):=by simp [z1q,be4]
theorem y3s(f:Fr)(T:List UInt8):((z1q f++T).drop 32).take 4=be4 (f.sum%4294967296):=by simp [z1q,be4]
theorem y3X(f:Fr)(T:List UInt8):((z1q f++T).drop 36).take 4=be4 (f.n%4294967296).toNat:=by simp [z1q,be4]
theorem y5p(f:Fr)(T:List UInt8):(z1q f++T).getD 2 0=UInt8.ofNat f.kind:=by simp [z1q,be4]
theorem y3J(f:Fr)(T:List UInt8):(z1q f++T).getD 27 0=y0w f.closed:=by simp [z1q,be4]
theorem z1P(f:Fr):z0w f=z1q f++(f.b++be4 (z2A (z2g f))):=by rw [z7O,z2g,List.append_assoc]
theorem y7T(f:Fr):((z0w f).take ((z0w f).length - 4)).drop 40=f.b:=by
 rw [y0S,z2g,List.drop_append_of_le_length (by rw [z1L];omega),List.drop_of_length_le (by rw [z1L];omega),List.nil_append]
theorem y5a{f:Fr}(h:f.epoch<4294967296):num (z0w f) 3=f.epoch:=by unfold num;rw [z1P,y5G,z4k h]
theorem y5C{f:Fr}(h:f.series<4294967296):num (z0w f) 7=f.series:=by unfold num;rw [z1P,y6g,z4k h]
theorem y3p{f:Fr}(h:f.chunk<4294967296):num (z0w f) 11=f.chunk:=by unfold num;rw [z1P,y4a,z4k h]
theorem y3d{f:Fr}(h:f.bits<4294967296):num (z0w f) 15=f.bits:=by unfold num;rw [z1P,y4l,z4k h]
theorem y4v{f:Fr}(h:f.cnt<4294967296):num (z0w f) 19=f.cnt:=by unfold num;rw [z1P,y3Z,z4k h]
theorem y4m{f:Fr}(h:f.count<4294967296):num (z0w f) 23=f.count:=by unfold num;rw [z1P,y3P,z4k h]
theorem y3o{f:Fr}(h:f.sum<18446744073709551616):num (z0w f) 28=f.sum/4294967296:=by unfold num;rw [z1P,y4L];exact z4k (by omega)
theorem y3E(f:Fr):num (z0w f) 32=f.sum%4294967296:=by unfold num;rw [z1P,y3s];exact z4k (by omega)
theorem y3U{f:Fr}(h0:0≤f.n)(h1:f.n<4294967296):num (z0w f) 36=f.n.toNat:=by
 unfold num;rw [z1P,y3X,show (f.n%4294967296).toNat=f.n.toNat by omega];exact z4k (by omega)
theorem fields_of{w:List UInt8}{f:Fr}(k2:(w.getD 2 0).toNat=f.kind)(k27:((w.getD 27 0).toNat==1)=f.closed)(n3:num w 3=f.epoch)(n7:num w 7=f.series)(n11:num w 11=f.chunk)(n15:num w 15=f.bits)(n19:num w 19=f.cnt)(n23:num w 23=f.count)
  (ns:num w 28*4294967296+num w 32=f.sum) (n36:((num w 36:Nat):Int)=f.n) (hb:(w.take (w.length - 4)).drop 40=f.b):fieldsB w=f:=by
 unfold fieldsB;rw [k2,k27,n3,n7,n11,n15,n19,n23,ns,n36,hb]
theorem z8z{f:Fr}(hok:f.Ok)(h0:0≤f.n)(h1:f.n<4294967296):fieldsB (z0w f)=f:=by
 obtain ⟨o1,o2,o3,o4,o5,o6,o7,o8,o9,o10⟩:=hok;refine fields_of ?_ ?_ (y5a o2) (y5C o3) (y3p o4) (y3d o5) (y4v o6) (y4m o7) ?_ ?_ (y7T f)
 ·rw [z1P,y5p,UInt8.toNat_ofNat'];omega
 ·rw [z1P,y3J];cases f.closed<;>rfl
 ·rw [y3o o8,y3E];omega
 ·rw [y3U h0 h1];omega
theorem y5R{f:Fr}(hok:f.Ok)(h:z1D f=true):y5V (z0w f)=true:=by
 unfold y5V;rw [z8z hok (z9d h).1 (z9d h).2.1,h];simp
theorem y1r{f:Fr}(hok:f.Ok)(h:z1D f=true):y0V (z0w f)=0∧z9x (z0w f)=f:=by
 unfold y0V z9x goE goF;rw [y2W h,y4r,y5R hok h,z8z hok (z9d h).1 (z9d h).2.1];exact ⟨rfl,rfl⟩
theorem z6o{b:List UInt8}{k:Nat}(h:k+4≤b.length):num b k<4294967296:=y0J (by simp;omega)
theorem q3m(b:List UInt8):(z9x b).Ok:=by
 have hz:z0O.Ok:=by constructor<;>decide
 unfold z9x;split
 ·rename_i hl;have h44:44≤b.length:=by
   have:=(Bool.and_eq_true_iff.1 hl).1;unfold z8x at this;simp at this;omega
  unfold goF;split
  ·have n28:=z6o (b:=b) (k:=28) (by omega);have n32:=z6o (b:=b) (k:=32) (by omega);have n36:=z6o (b:=b) (k:=36) (by omega);exact ⟨(b.getD 2 0).toNat_lt,z6o (by omega),z6o (by omega),z6o (by omega),z6o (by omega),z6o (by omega),z6o (by omega),by simp only [fieldsB];omega,by simp only [fieldsB];omega,by simp only [fieldsB];omega⟩
  ·exact hz
 ·exact hz
end
section
open Go.RowKit
def z6K(f:Fr):List UInt8:=if z1D f then z0w f else []
def q2V(f:Fr):Int:=if z1D f then 0 else 70
theorem y1e(f:Fr)(a:Option Addr)(c:Nat)(w:World)(hf:f.Ok)(hl:f.b.length≤1000000)(hx:RdB w (.slice a f.b.length c) f.b):
  Calls Tryz.prog 116 #[frV f (.slice a f.b.length c)] w fun e w'=>∃a n c,e= .returned (.tuple #[.slice a n c, .int .u16 (q2V f)])∧w'.ownsRow w.heap.size 5 1 (.slice a n c) n (z0b (z6K f))∧n=(z6K f).length∧Below w.heap.size w w':=by
 unfold z6K q2V;cases hm:z1D f with
 | true=>
  refine (y8b f a c w hf hl hx hm).mono ?_;rintro e w' ⟨a,c,rfl,ho,hb⟩;exact ⟨a,_,c,rfl,ho,rfl,hb⟩
 | false=>
  refine (y2T f a c w hf hl hx hm).mono ?_;rintro e w' ⟨rfl,hb⟩;exact ⟨none,0,0,rfl,World.ownsRow_nil _ _ _ _,rfl,hb⟩
end
section
open Go.RowKit Go.Maps
theorem z0F.snoc{B m c m' c':Nat}{a a':Option Addr}{w w':World}{xs:List (Value×List UInt8)}{x:Value×List UInt8}(h:z0F B w (.slice a m c) xs)(hx:w.ownsRow B 5 1 x.1 x.2.length (z0b x.2))(hg:w.grownBy w' (Value.slice a m c).ownBlock)(hm:m'=xs.length+1)
  (hrow:w'.ownsRow B 46 1 (.slice a' m' c') m' (xs.map Prod.fst++ [x.1])):z0F B w' (.slice a' m' c') (xs++ [x]):=by
 have key:∀y:Value×List UInt8,w.ownsRow B 5 1 y.1 y.2.length (z0b y.2)→w'.ownsRow B 5 1 y.1 y.2.length (z0b y.2):=fun y hy=>j7 hy fun k hk=>hg.block k (hy.lt k hk).2 fun e=>y6r h.row hy (by decide) e.symm hk;refine ⟨?_,fun y hy=>?_⟩
 ·subst hm;rw [List.map_append,List.length_append];exact hrow
 ·rcases List.mem_append.1 hy with hy | hy
  ·exact key y (h.ent y hy)
  ·rw [List.mem_singleton.1 hy];exact key x hx
theorem z0F.none(B:Nat)(w:World):z0F B w (.slice none 0 0) []:=⟨World.ownsRow_nil _ _ _ _,fun x hx=>by cases hx⟩
theorem z0F.low{B:Nat}{w w':World}{v:Value}{xs:List (Value×List UInt8)}(h:z0F B w v xs)(hb:Below w.heap.size w w'):z0F B w' v xs:=⟨ownsRow_below h.row hb (Nat.le_refl _),fun x hx=>ownsRow_below (h.ent x hx) hb (Nat.le_refl _)⟩
def z9r(w:World)(g n:Nat)(L:List Fr):Prop:=n=L.length∧∀(k:Nat) (f:Fr),L[k]? =some f→g<w.heap.size∧∀(j:Nat) (v:Value),(z0a f (.slice none 0 0))[j]? =some v→w.cell? ⟨g,k*11+j,none⟩=some v
theorem z9r.low{w w':World}{g n:Nat}{L:List Fr}(h:z9r w g n L)(hb:Below w.heap.size w w'):z9r w' g n L:=
 ⟨h.1,fun k f hk=>⟨Nat.lt_of_lt_of_le (h.2 k f hk).1 hb.size,fun j v hv=>(hb.cell (p:=⟨g,k*11+j,none⟩) (h.2 k f hk).1).trans ((h.2 k f hk).2 j v hv)⟩⟩
theorem z9r.one{w:World}{g:Nat}{f:Fr}{t:TypeId}{fr:Nat×Nat}(h:w.heap[g]? =some (.cells (z0a f (.slice none 0 0)) t fr)):z9r w g 1 [f]:=
 ⟨rfl,fun k x hk=>by
  have hk0:k=0:=by
   rcases Nat.lt_or_ge k 1 with h1 | h1
   ·omega
   ·rw [List.getElem?_eq_none (by simpa using h1)] at hk;cases hk
  subst hk0;simp only [List.getElem?_cons_zero,Option.some.injEq] at hk;subst hk;refine ⟨(Array.getElem?_eq_some_iff.1 h).1,fun j v hv=>?_⟩;have:=z2a h j v hv;rw [Nat.zero_mul];exact this⟩
theorem y4O(g n c:Nat)(L:List Fr)(hL:∀f∈L,f.Ok∧f.b= [])(hn:n≤1000)(w:World)(h:z9r w g n L):
  Calls Tryz.prog 55 #[.slice (some ⟨g,0,none⟩) n c] w fun e w'=>∃a m cc xs,e= .returned (.slice a m cc)∧m=xs.length∧z0F w.heap.size w' (.slice a m cc) xs∧xs.map Prod.snd=L.map z6K∧Below w.heap.size w w':=by
 obtain ⟨iN,hiN,hyN0,hyN1,hyN2⟩:=info_parts y4E;have H:=z7 h;have HL:=z7 hL;have hnl:=z7 h.1;clear h hL;go_enter Tryz.func55,Tryz.ntmps55;go_wp2_with fail;go_loopw [3,10] (fun ov kv wr=>∃(k:Nat) (a:Option Addr) (c:Nat),ov= .slice a k c∧kv= .int .i64 (k:Nat)∧k≤n∧Hid (∃xs:List (Value×List UInt8),xs.length=k∧z0F w.heap.size wr (.slice a k c) xs∧xs.map Prod.snd=(L.take k).map z6K)∧Hid (Below w.heap.size w wr)) (fun _ kv _=>match kv with | .int _ y=>n - y.toNat | _=>0)
 case atStart=>exact ⟨0,none,0,rfl,rfl,Nat.zero_le _,z7 ⟨[],rfl,z0F.none _ _,rfl⟩,z7 (Below.refl _ _)⟩
 case round=>
  obtain ⟨k,a,c,rfl,rfl,hk,hrow,hlow⟩:=hrel;have hwk:IntKind.i64.wrap ((k:Int)+1)=((k+1:Nat):Int):=z0n (by omega) (by omega);by_cases hkn:k<n
  ·have d1:decide ((k:Int)<(n:Int))=true:=decide_eq_true (by omega);obtain ⟨f,hf⟩:∃f,L[k]? =some f:=⟨_,List.getElem?_eq_getElem (by have:=hnl.out;omega)⟩;obtain ⟨lg,hc⟩:=(H.out.low hlow.out).2 k f hf;obtain ⟨hfo,hfb⟩:=HL.out f (List.mem_of_getElem? hf);have hin:(0:Int)≤k∧(k:Int)<(n:Int):=by omega
   have HC:=z7 hc;have HF:=z7 hf;have HLK:=z7 hf;obtain ⟨W2,hW2,hL2⟩:=((Loc.start wr).new (.cells (z0a f (.slice none 0 0)) 50)).named;have HE:=z7 (y1e f none 0 W2 hfo (by rw [hfb];simp) (by rw [hfb];exact RdB.nil _));rw [hfb] at HE;have HL2:=z7 hL2;have HW2:=z7 hW2;obtain ⟨bs,hbs⟩:∃bs,bs=z6K f:=⟨_,rfl⟩;obtain ⟨ee,hee⟩:∃ee,ee=q2V f:=⟨_,rfl⟩;rw [←hbs,←hee] at HE;have HBS:=z7 hbs;obtain ⟨C,hC⟩:∃C,C=z0a f (.slice none 0 0):=⟨_,rfl⟩;have hC11:C.size=11:=by rw [hC];rfl
   have hCo:C.all (·.oneCell')=true:=by rw [hC];unfold z0a;simp [Value.oneCell']
   rw [←hC] at HC HL2 HW2;have hfv:frV f (.slice none 0 0)= .agg C:=by rw [hC];rfl
   rw [show ([]:List UInt8).length=0 from rfl,hfv] at HE;have hfs:(Tryz.prog.info? 50).map (·.size)=some C.size:=by rw [hC11];exact z0z
   clear hf hc hL2 hW2 hbs hee hC hfv hfb hfo;go_upto_region 5 with (first | refine z0N rfl 50 _ rfl g (k*11) rfl C HC.out z1H hfs ?_ | (refine z0h rfl 50 _ _ rfl wr.heap.size 0 rfl C rfl (fun j hj=>by exact z0y (j8 wr _) (n:=C.size) (by rw [hC11];rfl) j hj) (by exact z0B (j8 wr _)) hfs hCo ?_;rw [z5e _ _ _ _ (by rw [Array.length_toList,hC11];rfl)]))
   refine z0D HW2.out ?_;go_wp2_with (first | refine z0N rfl 50 _ rfl wr.heap.size 0 rfl C (z2a (HL2.out.get 0 rfl)) z1H hfs ?_ | fail);refine HE.out.mono ?_;rintro e w3 ⟨ea,en,ec,rfl,hrowe,hen,hb3⟩;have hlow3:Below w.heap.size w w3:=hlow.out.trans ((HL2.out.call hb3).low.mono hlow.out.size);have HB3:=z7 hlow3;have hrow3:∃xs:List (Value×List UInt8),xs.length=k∧z0F w.heap.size w3 (.slice a k c) xs∧xs.map Prod.snd=(L.take k).map z6K:=by
    obtain ⟨xs,h1,h2,h3⟩:=hrow.out;exact ⟨xs,h1,h2.low (HL2.out.call hb3).low,h3⟩
   have hrwe:w3.ownsRow w.heap.size 5 1 (.slice ea en ec) en (z0b bs):=z0i hrowe (Nat.le_trans hlow.out.size HL2.out.low.size);obtain ⟨xs,hxl,hxn,hxs⟩:=hrow3;have HXN:=z7 hxn;have HXS:=z7 hxs;have HXL:=z7 hxl;have HRE:=z7 hrwe;have HEN:=z7 hen;have hown:(w3.alloc (.cells #[.slice ea en ec] 46)).ownsRow w.heap.size 46 1 (.slice a k c) k (xs.map Prod.fst):=by
    have:=hxn.row;rw [hxl] at this;exact ownsRow_below this (q5 w3 _) (Nat.le_refl _)
   have HOWN:=z7 hown;have hrdn:Rd (w3.alloc (.cells #[.slice ea en ec] 46)) (.slice (some ⟨w3.heap.size,0,none⟩) 1 1) 1 1 [.slice ea en ec]:=z3C _ _ _ 1 1 (by simp) (by simp);have HRD:=z7 hrdn;have hszw:w.heap.size≤(w3.alloc (.cells #[.slice ea en ec] 46)).heap.size:=by have:=hlow3.size;simp;omega
   clear hb3 hlow3 hrowe hrwe hxl hxn hxs hen hown hrdn HL2 HW2 HC d1;go_wp2_with (at_builtin;refine z2l rfl _ _ 56 rfl w.heap.size 46 iN (.slice none 0 0) 1 24 Tryz.underlying56 hiN hyN0 hyN1 hyN2 rfl (by decide) a k c (xs.map Prod.fst) rfl HOWN.out _ 1 [.slice ea en ec] rfl HRD.out (by decide) (by simp [Value.oneCell']) (by unfold maxLen;omega) (by omega) hszw ?_;intro g5 c5 w5 h5 hg5 hv5;have HR5:=z7 h5;have HG5:=z7 hg5;have HV5:=z7 hv5;clear h5 hg5 hv5);refine ⟨⟨k+1,some ⟨g5,0,none⟩,c5,rfl,rfl,by omega,z7 ⟨xs++ [(.slice ea en ec,bs)],by simp [HXL.out],?_,?_⟩,z7 ?_⟩,by show n - ((k+1:Nat):Int).toNat<n - (k:Int).toNat;omega⟩
   ·have hx2:z0F w.heap.size (w3.alloc (.cells #[.slice ea en ec] 46)) (.slice a k c) xs:=HXN.out.low (q5 w3 _);have he2:(w3.alloc (.cells #[.slice ea en ec] 46)).ownsRow w.heap.size 5 1 (.slice ea en ec) bs.length (z0b bs):=by rw [←HEN.out];exact ownsRow_below HRE.out (q5 w3 _) (Nat.le_refl _)
    exact hx2.snoc he2 HG5.out (by rw [HXL.out]) HR5.out
   ·rw [List.map_append,HXS.out,List.take_add_one,HLK.out,List.map_append];show _++ [bs]=_++ [z6K f];rw [HBS.out]
   ·have hb4:=HB3.out.trans ((q5 w3 (.cells #[.slice ea en ec] 46)).mono HB3.out.size);exact hb4.grown HG5.out hb4.size fun j hj=>(HOWN.out.lt j hj).1
  ·have d1:decide ((k:Int)<(n:Int))=false:=decide_eq_false (by omega);have hkn2:k=n:=by omega
   subst hkn2;go_wp2;go_ret;obtain ⟨xs,h1,h2,h3⟩:=hrow.out;refine ⟨a,k,c,xs,rfl,h1.symm,h2,?_,hlow.out⟩;rw [h3,List.take_of_length_le (Nat.le_of_eq hnl.out.symm)]
end
end Go.Proofs.YtfcnapnopdomhaaGreatDoor

/-
  Walks over the reference of frames: None, Bit, Sound, Same.
-/
import Derived.Test.YtfcnapnopdomhaaGreatDoorZFrDFrEFrG
namespace Go.Proofs.YtfcnapnopdomhaaGreatDoor
set_option linter.unusedSimpArgs false
set_option linter.unusedVariables false
set_option maxRecDepth 100000
set_option maxHeartbeats 12800000
open Go.RowKit
theorem z5J(a:Option Addr)(len c:Nat)(n:Int)(w:World)(hl:len≤9223372036854775807):
  Calls Tryz.prog 102 #[.agg #[.slice a len c, .int .i64 n]] w fun e w'=>e= .returned (.bool (decide (n=0)&&decide (len=0)))∧Below w.heap.size w w':=by
 go_enter Tryz.func102,Tryz.ntmps102;go_wp2;all_goals go_ret
 all_goals refine ⟨z0M ?_,q5 _ _⟩
 all_goals rw [Bool.eq_iff_iff];simp [*]
theorem z9n(w:World)(cs:Array Value)(e:TypeId)(j:Nat):(w.alloc (.cells cs e)).cell? ⟨w.heap.size,j,none⟩=cs[j]? :=cell_of_row (w.alloc (.cells cs e)) w.heap.size j cs e (0,0) (j8 w _)
def z5K(b:List UInt8)(i:Nat):Nat:=(b.getD (i/8) 0).toNat/2^(7 - i%8)%2
theorem q1B(a:Option Addr)(c:Nat)(b:List UInt8)(n:Int)(i:Nat)(w:World)(hx:RdB w (.slice a b.length c) b)(hl:b.length≤1000000)(hi:i/8<b.length):
  Calls Tryz.prog 169 #[.agg #[.slice a b.length c, .int .i64 n], .int .i64 (i:Nat)] w fun e w'=>e= .returned (.int .u8 (z5K b i:Nat))∧Below w.heap.size w w':=by
 obtain ⟨b0,off,c0,he,hc,hb0⟩:=hx.at hi;simp only [Value.slice.injEq,true_and] at he;obtain ⟨rfl,rfl⟩:=he;have hg:b[i/8]=b.getD (i/8) 0:=by simp [List.getD,List.getElem?_eq_getElem hi]
 have hcW:=((q5 w (.cells #[.slice (some ⟨b0,off,none⟩) b.length c, .int .i64 n] 48)).cell (p:=⟨b0,off+i/8,none⟩) hb0).trans hc;rw [hg] at hcW;have HB:Hid (z5K b i=(b.getD (i/8) 0).toNat/2^(7 - i%8)%2):=z7 rfl
 generalize b.getD (i/8) 0=y at hcW HB
 have hy:=y.toNat_lt;have i0:0≤(i:Int)/8:=by omega
 have i1:(i:Int)/8<b.length:=by omega
 have i2:0≤(i:Int)%8:=by omega
 have i3:(i:Int)%8≤7:=by omega
 have i4:(i:Int)≤8000000:=by omega
 clear hx hc hg hi;go_enter Tryz.func169,Tryz.ntmps169;go_wp2;go_ret;refine ⟨y6j ?_,q5 _ _⟩;have e:((y.toNat:Int)/2^(7 - i%8))=((y.toNat/2^(7 - i%8):Nat):Int):=by simp
 rw [e,HB.out];have h1:y.toNat/2^(7 - i%8)≤y.toNat:=Nat.div_le_self _ _;have h2:=u8_and_nat (y.toNat/2^(7 - i%8)) 1 (by omega) (by omega);rw [Nat.and_one_is_mod] at h2;exact h2
theorem y9y(b:List UInt8)(i:Nat):z5K b i<2:=Nat.mod_lt _ (by decide)
def y1v(b:List UInt8)(n:Nat):Bool:=(List.range (8*b.length)).all fun i=>decide (i<n) || decide (z5K b i=0)
theorem z6i{b:List UInt8}{n:Nat}(h:∀j,n≤j→j<8*b.length→z5K b j=0):y1v b n=true:=by
 unfold y1v;rw [List.all_eq_true];intro j hj;rw [List.mem_range] at hj;by_cases e:j<n
 ·simp [e]
 ·simp [h j (by omega) hj]
theorem z9s{b:List UInt8}{n j:Nat}(h1:n≤j)(h2:j<8*b.length)(h3:z5K b j≠0):y1v b n=false:=by
 unfold y1v;rw [Bool.eq_false_iff];intro h;have:=List.all_eq_true.1 h j (List.mem_range.2 h2);simp at this;omega
theorem y7G:∀(y:Fin 256) (r:Fin 8),(y.val&&&(255>>>r.val)=0)↔∀j:Fin 8,r≤j→y.val/2^(7 - j.val)%2=0:=by decide+kernel
theorem y5y(b:List UInt8)(k:Nat)(h:(b.length:Int)=(k:Int)/8+min ((k:Int)%8) 1):z1T b k=y1v b k:=by
 unfold z1T;rw [decide_eq_true h,decide_eq_true (by omega:(0:Int)≤k)];simp only [Bool.true_and];by_cases hk:k%8=0
 ·rw [decide_eq_true (by omega:(k:Int)%8=0),z6i fun j h1 h2=>by omega];rfl
 ·rw [decide_eq_false (by omega:¬(k:Int)%8=0),Bool.false_or];have e:((k:Int)%8).toNat=k%8:=by omega
  rw [e];have hl:=y7G ⟨(b.getD (b.length - 1) 0).toNat,(b.getD (b.length - 1) 0).toNat_lt⟩ ⟨k%8,by omega⟩;simp only at hl;by_cases hz:(b.getD (b.length - 1) 0).toNat&&&255>>>(k%8)=0
  ·rw [decide_eq_true hz];refine (z6i fun j h1 h2=>?_).symm;have h3:=hl.1 hz ⟨j%8,by omega⟩ (by show k%8≤j%8;omega);unfold z5K;rw [show j/8=b.length - 1 by omega];exact h3
  ·rw [decide_eq_false hz];have h4:¬∀j:Fin 8,(⟨k%8,by omega⟩:Fin 8)≤j→(b.getD (b.length - 1) 0).toNat/2^(7 - j.val)%2=0:=fun h=>hz (hl.2 h);obtain ⟨j,hj⟩:=Classical.not_forall.1 h4;obtain ⟨hj1,hj2⟩:=Classical.not_imp.1 hj;have hj3:k%8≤j.val:=hj1;have hj4:=j.isLt;refine (z9s (j:=8*(b.length - 1)+j.val) (by omega) (by omega) ?_).symm;unfold z5K;rw [show (8*(b.length - 1)+j.val)/8=b.length - 1 by omega,show (8*(b.length - 1)+j.val)%8=j.val by omega];exact hj2
theorem y9a(a:Option Addr)(c m:Nat)(b:List UInt8)(n:Int)(i:Nat)(w:World)(hm:m=b.length)(hx:RdB w (.slice a m c) b)(hl:m≤1000000)(hi:i/8<m):
  Calls Tryz.prog 169 #[.agg #[.slice a m c, .int .i64 n], .int .i64 (i:Nat)] w fun e w'=>e= .returned (.int .u8 (z5K b i:Nat))∧Below w.heap.size w w':=by
 subst hm;exact q1B a c b n i w hx hl hi
theorem y1s(a:Option Addr)(c:Nat)(b:List UInt8)(n:Int)(w:World)(hx:RdB w (.slice a b.length c) b)(hl:b.length≤1000000)(h0: -9223372036854775808≤n)(h1:n≤9223372036854775807):
  Calls Tryz.prog 103 #[.agg #[.slice a b.length c, .int .i64 n]] w fun e w'=>e= .returned (.bool (z1T b n))∧Below w.heap.size w w':=by
 obtain ⟨len,hlen⟩:∃len,len=b.length:=⟨_,rfl⟩;have HX:=z7 hx;clear hx;have HL:=z7 hlen;rw [←hlen] at HX hl ⊢;clear hlen;by_cases hok:0≤n∧(len:Int)=n/8+min (n%8) 1
 case neg=>
  have hs:Hid (z1T b n=false):=z7 (by
   unfold z1T;rw [←HL.out];by_cases h:0≤n
   ·rw [decide_eq_true h,decide_eq_false (fun h2=>hok ⟨h,h2⟩)];rfl
   ·rw [decide_eq_false h];rfl)
  have HO:=z7 hok;clear hok;by_cases hz:len=0
  ·have z1:((len:Int) !=0)=false:=by simp [hz]
   have HZ:=z7 hz;clear hz;go_enter Tryz.func103,Tryz.ntmps103;go_wp2;all_goals first | (exfalso;have:=HO.out;have:=HZ.out;omega) | (go_ret;exact ⟨z0M hs.out.symm,q5 _ _⟩)
  ·have z1:((len:Int) !=0)=true:=by simp;omega
   have HZ:=z7 hz;clear hz;go_enter Tryz.func103,Tryz.ntmps103;go_wp2;all_goals first | (exfalso;have:=HO.out;have:=HZ.out;omega) | (go_ret;exact ⟨z0M hs.out.symm,q5 _ _⟩)
 obtain ⟨hn0,hle⟩:=hok;obtain ⟨k0,rfl⟩:∃k0:Nat,n=(k0:Int):=⟨n.toNat,by omega⟩;have g1:((k0:Int)<0)=False:=by simp
 have i0:(k0:Int)≤8*(len:Int):=by omega
 have i1:(len:Int)=0∨8*((len:Int) - 1)<k0:=by omega
 have hs:Hid (z1T b k0=y1v b k0):=z7 (y5y b k0 (by rw [←HL.out];exact hle));have HE:=z7 hle;have hW1:∃W1,W1=w.alloc (.cells #[.slice a len c, .int .i64 k0] 48):=⟨_,rfl⟩;obtain ⟨W1,hW1⟩:=hW1;have c0:W1.cell? ⟨w.heap.size,0,none⟩=some (.slice a len c):=by rw [hW1,z9n];rfl
 have c1:W1.cell? ⟨w.heap.size,1,none⟩=some (.int .i64 k0):=by rw [hW1,z9n];rfl
 have hsz:w.heap.size<W1.heap.size:=by rw [hW1];simp
 have hX1:RdB W1 (.slice a len c) b:=by
  have h:=HX.out;rw [HL.out] at h ⊢;rw [hW1];exact RdB.low h (q5 _ _)
 have hB1:Below w.heap.size w W1:=by rw [hW1];exact q5 _ _
 have HX1:=z7 hX1;have HB1:=z7 hB1;have HW1:=z7 hW1;have C0:=z7 c0;have C1:=z7 c1;have hj:Hid (∀wr,Below W1.heap.size W1 wr→Below w.heap.size w wr):=z7 fun wr h=>HB1.out.trans (h.mono HB1.out.size);clear hW1 hX1 hB1 c0 c1 hle;go_enter Tryz.func103,Tryz.ntmps103;by_cases hz:len=0
 ·have z1:((len:Int) !=0)=false:=by simp [hz]
  have HZ:=z7 hz;have hrt:Hid (z1T b (k0:Int)=true):=z7 (by
   rw [hs.out];exact z6i fun j h1 h2=>by have:=HL.out;omega)
  have hk:k0=0:=by omega
  subst hk;subst hz;go_wp2;refine wp_loop_rounds 1 ?_;rw [rounds_succ];go_wp2;go_ret;exact ⟨z0M hrt.out.symm,q5 _ _⟩
 ·have z1:((len:Int) !=0)=true:=by simp;omega
  have i2:8*((len:Int) - 1)<k0:=by omega
  clear i1;go_wp2;rw [←HW1.out];go_loopw [3] (fun i wr=>∃k:Nat,k0≤k∧k≤8*len∧i= .int .i64 k∧Hid (∀j,k0≤j→j<k→z5K b j=0)∧Hid (Below W1.heap.size W1 wr)) (fun i _=>8*len - (intOf i).toNat)
  case atStart=>exact ⟨k0,Nat.le_refl _,by omega,rfl,z7 (fun j h1 h2=>by omega),z7 (Below.refl _ _)⟩
  case round=>
   obtain ⟨k,hk1,hk2,rfl,hz0,hb⟩:=hrel;have d0:=(hb.out.cell (p:=⟨w.heap.size,0,none⟩) hsz).trans C0.out;have d1:=(hb.out.cell (p:=⟨w.heap.size,1,none⟩) hsz).trans C1.out;have hbl:=hb.out.size;by_cases hlt:k<8*len
   ·go_wp2_with fail;refine (y9a a c len b k0 k wr HL.out (HX1.out.low hb.out) (by omega) (by omega)).mono ?_;rintro e w2 ⟨rfl,hb2⟩;have HB2:=z7 (hb.out.trans (hb2.mono hbl));have hlt2:=y9y b k;clear hb2 d0 d1;by_cases hbit:z5K b k=0
    ·have e0:((z5K b k:Int)==1)=false:=by simp [hbit]
     have HBT:=z7 hbit;clear hbit;go_wp2
     go_roundw
     case rel=>exact ⟨k+1,by omega,by omega,by go_num,z7 (fun j h1 h2=>by
      by_cases e:j=k
      ·rw [e];exact HBT.out
      ·exact hz0.out j h1 (by omega)),HB2⟩
     case measure=>simp [intOf];omega
    ·have e0:((z5K b k:Int)==1)=true:=by rw [beq_iff_eq];omega
     have hf:Hid (z1T b (k0:Int)=false):=z7 (by rw [hs.out];exact z9s hk1 (by have:=HL.out;omega) hbit);clear hbit;go_wp2;go_ret;exact ⟨z0M hf.out.symm,hj.out _ HB2.out⟩
   ·obtain rfl:k=8*len:=by omega
    have hrt:Hid (z1T b (k0:Int)=true):=z7 (by
     rw [hs.out];exact z6i fun j h1 h2=>hz0.out j h1 (by have:=HL.out;omega))
    go_wp2;go_ret;exact ⟨z0M hrt.out.symm,hj.out _ hb.out⟩
theorem y9l(f:Fr)(a:Option Addr)(c:Nat)(w:World)(hf:f.Ok)(hl:f.b.length≤1000000)(hx:RdB w (.slice a f.b.length c) f.b)(hk:f.kind=1):
  Calls Tryz.prog 50 #[frV f (.slice a f.b.length c)] w fun e w'=>e= .returned (.bool (z1D f))∧Below w.heap.size w w':=by
 have hm:Hid (z1D f=(z4H f&&(decide (f.series=0)&&(decide (f.chunk=0∧f.bits=0∧f.cnt=0)&&(decide (f.count=0)&&(!f.closed&&decide (f.sum=0))))))):=z7 (by unfold z1D;rw [if_pos hk]);have k1:((f.kind:Int)==1)=true:=by simp [hk]
 clear hk;have hA:=z2j.made w f (.slice a f.b.length c);have hX:=z7 (hx.low (q5 w (.cells (z0a f (.slice a f.b.length c)) 50)));obtain ⟨kind,epoch,series,chunk,bits_,cnt,count,closed,sum,b,n⟩:=f;obtain ⟨o1,o2,o3,o4,o5,o6,o7,o8,o9,o10⟩:=hf;simp only at*;have HA:=z7 hA;unfold frV z0a;unfold z0a at HA hX;clear hA hx;go_enter Tryz.func50,Tryz.ntmps50;go_wp2_with fail;refine (z5J a b.length c n _ (by omega)).mono ?_;rintro e w2 ⟨rfl,hb⟩;have hA2:=HA.out.low hb;obtain ⟨c0,c1,c2,c3,c4,c5,c6,c7,c8,c9,c10⟩:=hA2.cells;have hbW:Hid (Below w.heap.size w w2):=z7 ((q5 w _).trans (hb.mono (by simp)));have HA3:=z7 hA2;have HX2:=z7 (hX.out.low hb);obtain ⟨nb,hnb⟩:∃nb,nb=(decide (n=0)&&decide (b.length=0)):=⟨_,rfl⟩;rw [←hnb];have HN:=z7 hnb;clear hb hA2 HA hnb;go_wp2;all_goals go_ret
 all_goals refine ⟨z0M ?_,hbW.out⟩
 all_goals rw [hm.out]
 all_goals try unfold z4H
 all_goals try simp only
 all_goals try rw [←HN.out]
 all_goals try simp [*]
 all_goals try (rw [Bool.eq_iff_iff];simp)
theorem y8S(f:Fr)(a:Option Addr)(c:Nat)(w:World)(hf:f.Ok)(hl:f.b.length≤1000000)(hx:RdB w (.slice a f.b.length c) f.b)(hk:f.kind=4):
  Calls Tryz.prog 50 #[frV f (.slice a f.b.length c)] w fun e w'=>e= .returned (.bool (z1D f))∧Below w.heap.size w w':=by
 have hm:Hid (z1D f=(z4H f&&(decide (f.count=0)&&!f.closed))):=z7 (by unfold z1D;rw [if_neg (by omega),if_pos (.inl hk)]);have k1:((f.kind:Int)==1)=false:=by simp [hk]
 have k4:((f.kind:Int)==4)=true:=by simp [hk]
 clear hk;have hA:=z2j.made w f (.slice a f.b.length c);have hX:=z7 (hx.low (q5 w (.cells (z0a f (.slice a f.b.length c)) 50)));obtain ⟨kind,epoch,series,chunk,bits_,cnt,count,closed,sum,b,n⟩:=f;obtain ⟨o1,o2,o3,o4,o5,o6,o7,o8,o9,o10⟩:=hf;simp only at*;have HA:=z7 hA;unfold frV z0a;unfold z0a at HA hX;clear hA hx;go_enter Tryz.func50,Tryz.ntmps50;go_wp2_with fail;refine (z5J a b.length c n _ (by omega)).mono ?_;rintro e w2 ⟨rfl,hb⟩;have hA2:=HA.out.low hb;obtain ⟨c0,c1,c2,c3,c4,c5,c6,c7,c8,c9,c10⟩:=hA2.cells;have hbW:Hid (Below w.heap.size w w2):=z7 ((q5 w _).trans (hb.mono (by simp)));have HA3:=z7 hA2;have HX2:=z7 (hX.out.low hb);obtain ⟨nb,hnb⟩:∃nb,nb=(decide (n=0)&&decide (b.length=0)):=⟨_,rfl⟩;rw [←hnb];have HN:=z7 hnb;clear hb hA2 HA hnb;go_wp2;all_goals go_ret
 all_goals refine ⟨z0M ?_,hbW.out⟩
 all_goals rw [hm.out]
 all_goals try unfold z4H
 all_goals try simp only
 all_goals try rw [←HN.out]
 all_goals try simp [*]
 all_goals try (rw [Bool.eq_iff_iff];simp)
theorem y9u(f:Fr)(a:Option Addr)(c:Nat)(w:World)(hf:f.Ok)(hl:f.b.length≤1000000)(hx:RdB w (.slice a f.b.length c) f.b)(hk:f.kind=5):
  Calls Tryz.prog 50 #[frV f (.slice a f.b.length c)] w fun e w'=>e= .returned (.bool (z1D f))∧Below w.heap.size w w':=by
 have hm:Hid (z1D f=(z4H f&&(decide (f.count=0)&&!f.closed))):=z7 (by unfold z1D;rw [if_neg (by omega),if_pos (.inr hk)]);have k1:((f.kind:Int)==1)=false:=by simp [hk]
 have k4:((f.kind:Int)==4)=false:=by simp [hk]
 have k5:((f.kind:Int)==5)=true:=by simp [hk]
 clear hk;have hA:=z2j.made w f (.slice a f.b.length c);have hX:=z7 (hx.low (q5 w (.cells (z0a f (.slice a f.b.length c)) 50)));obtain ⟨kind,epoch,series,chunk,bits_,cnt,count,closed,sum,b,n⟩:=f;obtain ⟨o1,o2,o3,o4,o5,o6,o7,o8,o9,o10⟩:=hf;simp only at*;have HA:=z7 hA;unfold frV z0a;unfold z0a at HA hX;clear hA hx;go_enter Tryz.func50,Tryz.ntmps50;go_wp2_with fail;refine (z5J a b.length c n _ (by omega)).mono ?_;rintro e w2 ⟨rfl,hb⟩;have hA2:=HA.out.low hb;obtain ⟨c0,c1,c2,c3,c4,c5,c6,c7,c8,c9,c10⟩:=hA2.cells;have hbW:Hid (Below w.heap.size w w2):=z7 ((q5 w _).trans (hb.mono (by simp)));have HA3:=z7 hA2;have HX2:=z7 (hX.out.low hb);obtain ⟨nb,hnb⟩:∃nb,nb=(decide (n=0)&&decide (b.length=0)):=⟨_,rfl⟩;rw [←hnb];have HN:=z7 hnb;clear hb hA2 HA hnb;go_wp2;all_goals go_ret
 all_goals refine ⟨z0M ?_,hbW.out⟩
 all_goals rw [hm.out]
 all_goals try unfold z4H
 all_goals try simp only
 all_goals try rw [←HN.out]
 all_goals try simp [*]
 all_goals try (rw [Bool.eq_iff_iff];simp)
theorem y9Q(f:Fr)(a:Option Addr)(c:Nat)(w:World)(hf:f.Ok)(hl:f.b.length≤1000000)(hx:RdB w (.slice a f.b.length c) f.b)(hk:f.kind=2):
  Calls Tryz.prog 50 #[frV f (.slice a f.b.length c)] w fun e w'=>e= .returned (.bool (z1D f))∧Below w.heap.size w w':=by
 have hm:Hid (z1D f=z4G f):=z7 (by unfold z1D;rw [if_neg (by omega),if_neg (by omega),if_neg (by omega),if_pos hk]);have k1:((f.kind:Int)==1)=false:=by simp [hk]
 have k4:((f.kind:Int)==4)=false:=by simp [hk]
 have k5:((f.kind:Int)==5)=false:=by simp [hk]
 have k3:((f.kind:Int)==3)=false:=by simp [hk]
 have k2:((f.kind:Int)==2)=true:=by simp [hk]
 clear hk;have hA:=z2j.made w f (.slice a f.b.length c);have hX:=z7 (hx.low (q5 w (.cells (z0a f (.slice a f.b.length c)) 50)));obtain ⟨kind,epoch,series,chunk,bits_,cnt,count,closed,sum,b,n⟩:=f;obtain ⟨o1,o2,o3,o4,o5,o6,o7,o8,o9,o10⟩:=hf;simp only at*;have HA:=z7 hA;unfold frV z0a;unfold z0a at HA hX;clear hA hx;go_enter Tryz.func50,Tryz.ntmps50;go_wp2_with fail;refine (z5J a b.length c n _ (by omega)).mono ?_;rintro e w2 ⟨rfl,hb⟩;have hA2:=HA.out.low hb;obtain ⟨c0,c1,c2,c3,c4,c5,c6,c7,c8,c9,c10⟩:=hA2.cells;have hbW:Hid (Below w.heap.size w w2):=z7 ((q5 w _).trans (hb.mono (by simp)));have HA3:=z7 hA2;have HX2:=z7 (hX.out.low hb);obtain ⟨nb,hnb⟩:∃nb,nb=(decide (n=0)&&decide (b.length=0)):=⟨_,rfl⟩;rw [←hnb];have HN:=z7 hnb;clear hb hA2 HA hnb;go_wp2_with fail;refine (y1s a c b n _ HX2.out (by omega) o9 o10).mono ?_;rintro e w3 ⟨rfl,hb⟩;clear c0 c1 c2 c3 c4 c5 c6 c7 c8 c9 c10;have hA2:=HA3.out.low hb;obtain ⟨c0,c1,c2,c3,c4,c5,c6,c7,c8,c9,c10⟩:=hA2.cells;have hbW2:Hid (Below w.heap.size w w3):=z7 (hbW.out.trans (hb.mono hbW.out.size));obtain ⟨sb,hsb⟩:∃sb,sb=z1T b n:=⟨_,rfl⟩;rw [←hsb];have HS:=z7 hsb;clear hb hA2 hsb HA3 HX2 hX hbW;go_wp2;all_goals go_ret
 all_goals refine ⟨z0M ?_,hbW2.out⟩
 all_goals rw [hm.out]
 all_goals unfold z4G
 all_goals try simp only
 all_goals try rw [←HS.out]
 all_goals try simp [*]
 all_goals try (rw [Bool.eq_iff_iff];simp;omega)
 all_goals try (intros;omega)
theorem y8Z(f:Fr)(a:Option Addr)(c:Nat)(w:World)(hf:f.Ok)(hl:f.b.length≤1000000)(hx:RdB w (.slice a f.b.length c) f.b)(hk:f.kind=3):
  Calls Tryz.prog 50 #[frV f (.slice a f.b.length c)] w fun e w'=>e= .returned (.bool (z1D f))∧Below w.heap.size w w':=by
 have hm:Hid (z1D f=(decide (f.bits=0∧f.cnt=0∧f.sum=0)&&z4G f)):=z7 (by unfold z1D;rw [if_neg (by omega),if_neg (by omega),if_pos hk]);have k1:((f.kind:Int)==1)=false:=by simp [hk]
 have k4:((f.kind:Int)==4)=false:=by simp [hk]
 have k5:((f.kind:Int)==5)=false:=by simp [hk]
 have k2:((f.kind:Int)==2)=false:=by simp [hk]
 have k3:((f.kind:Int)==3)=true:=by simp [hk]
 clear hk;have hA:=z2j.made w f (.slice a f.b.length c);have hX:=z7 (hx.low (q5 w (.cells (z0a f (.slice a f.b.length c)) 50)));obtain ⟨kind,epoch,series,chunk,bits_,cnt,count,closed,sum,b,n⟩:=f;obtain ⟨o1,o2,o3,o4,o5,o6,o7,o8,o9,o10⟩:=hf;simp only at*;have HA:=z7 hA;unfold frV z0a;unfold z0a at HA hX;clear hA hx;go_enter Tryz.func50,Tryz.ntmps50;go_wp2_with fail;refine (z5J a b.length c n _ (by omega)).mono ?_;rintro e w2 ⟨rfl,hb⟩;have hA2:=HA.out.low hb;obtain ⟨c0,c1,c2,c3,c4,c5,c6,c7,c8,c9,c10⟩:=hA2.cells;have hbW:Hid (Below w.heap.size w w2):=z7 ((q5 w _).trans (hb.mono (by simp)));have HA3:=z7 hA2;have HX2:=z7 (hX.out.low hb);obtain ⟨nb,hnb⟩:∃nb,nb=(decide (n=0)&&decide (b.length=0)):=⟨_,rfl⟩;rw [←hnb];have HN:=z7 hnb;clear hb hA2 HA hnb;go_wp2_with fail;refine (y1s a c b n _ HX2.out (by omega) o9 o10).mono ?_;rintro e w3 ⟨rfl,hb⟩;clear c0 c1 c2 c3 c4 c5 c6 c7 c8 c9 c10;have hA2:=HA3.out.low hb;obtain ⟨c0,c1,c2,c3,c4,c5,c6,c7,c8,c9,c10⟩:=hA2.cells;have hbW2:Hid (Below w.heap.size w w3):=z7 (hbW.out.trans (hb.mono hbW.out.size));obtain ⟨sb,hsb⟩:∃sb,sb=z1T b n:=⟨_,rfl⟩;rw [←hsb];have HS:=z7 hsb;clear hb hA2 hsb HA3 HX2 hX hbW;go_wp2;all_goals go_ret
 all_goals refine ⟨z0M ?_,hbW2.out⟩
 all_goals rw [hm.out]
 all_goals unfold z4G
 all_goals try simp only
 all_goals try rw [←HS.out]
 all_goals try simp [*]
 all_goals try (rw [Bool.eq_iff_iff];simp;omega)
 all_goals try (intros;omega)
theorem y8Y(f:Fr)(a:Option Addr)(c:Nat)(w:World)(hf:f.Ok)(hl:f.b.length≤1000000)(hx:RdB w (.slice a f.b.length c) f.b)(hk:f.kind≠1∧f.kind≠2∧f.kind≠3∧f.kind≠4∧f.kind≠5):
  Calls Tryz.prog 50 #[frV f (.slice a f.b.length c)] w fun e w'=>e= .returned (.bool (z1D f))∧Below w.heap.size w w':=by
 have hm:Hid (z1D f=false):=z7 (by unfold z1D;rw [if_neg (by omega),if_neg (by omega),if_neg (by omega),if_neg (by omega)]);have k1:((f.kind:Int)==1)=false:=by rw [beq_eq_false_iff_ne];omega
 have k4:((f.kind:Int)==4)=false:=by rw [beq_eq_false_iff_ne];omega
 have k5:((f.kind:Int)==5)=false:=by rw [beq_eq_false_iff_ne];omega
 have k3:((f.kind:Int)==3)=false:=by rw [beq_eq_false_iff_ne];omega
 have k2:((f.kind:Int)==2)=false:=by rw [beq_eq_false_iff_ne];omega
 clear hk;have hA:=z2j.made w f (.slice a f.b.length c);have hX:=z7 (hx.low (q5 w (.cells (z0a f (.slice a f.b.length c)) 50)));obtain ⟨kind,epoch,series,chunk,bits_,cnt,count,closed,sum,b,n⟩:=f;obtain ⟨o1,o2,o3,o4,o5,o6,o7,o8,o9,o10⟩:=hf;simp only at*;have HA:=z7 hA;unfold frV z0a;unfold z0a at HA hX;clear hA hx;go_enter Tryz.func50,Tryz.ntmps50;go_wp2_with fail;refine (z5J a b.length c n _ (by omega)).mono ?_;rintro e w2 ⟨rfl,hb⟩;have hA2:=HA.out.low hb;obtain ⟨c0,c1,c2,c3,c4,c5,c6,c7,c8,c9,c10⟩:=hA2.cells;have hbW:Hid (Below w.heap.size w w2):=z7 ((q5 w _).trans (hb.mono (by simp)));have HA3:=z7 hA2;have HX2:=z7 (hX.out.low hb);obtain ⟨nb,hnb⟩:∃nb,nb=(decide (n=0)&&decide (b.length=0)):=⟨_,rfl⟩;rw [←hnb];have HN:=z7 hnb;clear hb hA2 HA hnb;go_wp2;go_ret;exact ⟨z0M hm.out.symm,hbW.out⟩
theorem q1S(f:Fr)(a:Option Addr)(c:Nat)(w:World)(hf:f.Ok)(hl:f.b.length≤1000000)(hx:RdB w (.slice a f.b.length c) f.b):
  Calls Tryz.prog 50 #[frV f (.slice a f.b.length c)] w fun e w'=>e= .returned (.bool (z1D f))∧Below w.heap.size w w':=by
 by_cases h1:f.kind=1
 ·exact y9l f a c w hf hl hx h1
 by_cases h2:f.kind=2
 ·exact y9Q f a c w hf hl hx h2
 by_cases h3:f.kind=3
 ·exact y8Z f a c w hf hl hx h3
 by_cases h4:f.kind=4
 ·exact y8S f a c w hf hl hx h4
 by_cases h5:f.kind=5
 ·exact y9u f a c w hf hl hx h5
 exact y8Y f a c w hf hl hx ⟨h1,h2,h3,h4,h5⟩
end Go.Proofs.YtfcnapnopdomhaaGreatDoor

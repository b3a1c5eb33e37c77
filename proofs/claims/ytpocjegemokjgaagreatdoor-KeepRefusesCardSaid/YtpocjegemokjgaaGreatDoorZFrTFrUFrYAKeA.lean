/-
  Walks over the reference of frames: Put, number, Encode.
-/
import Derived.Test.YtpocjegemokjgaaGreatDoorZFrH
import Derived.Test.YtpocjegemokjgaaGreatDoorZRcARcBRcCRcD
namespace Go.Proofs.YtpocjegemokjgaaGreatDoor
open Go.Proofs.Tryz
set_option linter.all false
set_option maxRecDepth 100000
set_option maxHeartbeats 12800000
section
open Go.RowKit
def beW(n:Nat):Nat->List UInt8
 | 0=> []
 | k+1=>UInt8.ofNat (n/256^k)::beW n k
theorem q0A(n:Nat):beW n 4=be4 n:=by
 simp[beW,be4]
theorem y9O{n:Nat}(h:n<18446744073709551616):beW n 8=be4 (n/4294967296)++be4 (n%4294967296):=by
 simp only[beW,be4,List.cons_append,List.nil_append];refine congr (congrArg List.cons ?_) (congr (congrArg List.cons ?_) (congr (congrArg List.cons ?_) (congr (congrArg List.cons ?_) (congr (congrArg List.cons ?_) (congr (congrArg List.cons ?_) (congr (congrArg List.cons ?_) (congr (congrArg List.cons ?_) rfl)))))));all_goals
  apply UInt8.toNat.inj;simp only[UInt8.toNat_ofNat'];try omega
theorem y1s(n:Nat):∀k,(beW n k).length=k
 | 0=>rfl
 | k+1=>by rw[beW,List.length_cons,y1s n k]
theorem y8b{W w:World}{B n width:Nat}{v:Value}{l:List UInt8}(h:z5e W B v l w)(hn:n<18446744073709551616)(hw:width<=8)(hl:l.length<=2000000):
  Calls prog 27 #[v,.int .u64 n,.int .i64 width] w fun e w'=>∃a c,e= .returned (.slice a (l++beW n width).length c)/\z5e W B (.slice a (l++beW n width).length c) (l++beW n width) w':=by
 obtain⟨a0,c0,rfl⟩:=h.head;have HR:=z7 h;clear h;obtain⟨R,I⟩:=zN (l++beW n width);rw[<-I];have O:=z7 I;clear I;go_enter func27,ntmps27;go_wp2;go_loopw[0,7] (fun v i wr=>∃(i':Int) (m:Nat) (L:List UInt8) (U:Option Addr) (c':Nat),i= .int .i64 i'/\ -1<=i'/\i'<8/\v= .slice U m c'/\m<=2000008/\Hid (m=L.length)/\Hid (L++beW n (i'+1).toNat=R)/\Hid (z5e W B (.slice U m c') L wr)) (fun _ i _=>(intOf i+1).toNat)
 case atStart=>exact⟨_,_,l,_,_,rfl,by omega,by omega,rfl,by omega,rfl,by rw[show((width:Int) - 1+1).toNat=width by omega];exact z7 O.o.symm,HR⟩
 case round=>
  obtain⟨i,m,L,U,c',rfl,aC,aE,rfl,hm,A,hL,I⟩:=hrel;by_cases hlt:0<=i
  ·obtain⟨k,rfl⟩:∃k:Nat,i=(k:Int):=⟨i.toNat,by omega⟩;obtain⟨y,hy⟩:∃y:UInt8,y=UInt8.ofNat (n/256^k):=⟨_,rfl⟩;have a6:((n:Int)/2^(8*k)%256)=(y.toNat:Int):=by
    rw[hy,UInt8.toNat_ofNat'];have e:(2:Int)^(8*k)=((256^k:Nat):Int):=(by rw[Int.pow_mul];simp);rw[e];rfl
   have a5:RdB (wr.alloc (.cells #[.int .u8 ((n:Int)/2^(8*k)%256)] 5)) (.slice (some ⟨wr.heap.size,0,none⟩) 1 1) [y]:=
    z8T (l:= [y]) (e:=5) (fr:=(0,0)) (by rw[j8,a6];rfl) (by simp) 1
   have a8:=z7 a5;have a7:=z7 (I.o.to (q5 wr (.cells #[.int .u8 ((n:Int)/2^(8*k)%256)] 5)));have a2:Hid ((L++ [y])++beW n k=R):=z7 (by
    have h:=hL.o;rw[show((k:Int)+1).toNat=k+1 by omega,beW,<-hy]at h;simpa using h)
   have a4:Hid ((L++ [y]).length<=2000008/\(L++ [y]).length=m+1):=z7 (by
    have h:=congrArg List.length (a2.o.trans O.o);have:=A.o;simp only[List.length_append,y1s,List.length_cons,List.length_nil]at h;have h5:(L++ [y]).length=m+1:=(by simp;omega);omega)
   clear a5 a6 hy;go_wp2_with (at_builtin;refine wpList_copy_own rfl (.tmp 14) (.tmp 21) 47 rfl W B 5 underlying47 z4n (.slice U m c') L rfl a7.o _ [y] rfl a8.o (by have:=A.o;simp;omega) ?_);intro Y a1 w2 a3 aA;have J:=z7 a3;clear a3 aA;have e1:L.length+1=m+1:=(by rw[A.o]);have N:Hid (z8h W B 5 (.slice Y (m+1) a1) (L++ [y]) w2):=(by rw[<-e1];exact J);rw[e1];clear J e1;have aB:m+1<=2000008:=(by have:=a4.o;omega);go_wp2
   go_roundw
   case rel=>exact⟨(k:Int) - 1,m+1,L++ [y],Y,a1,rfl,by omega,by omega,rfl,aB,z7 a4.o.2.symm,by rw[show((k:Int) - 1+1).toNat=k by omega];exact a2,N⟩
   case measure=>simp[intOf]<;>omega
  ·have hi:i= -1:=(by omega);subst hi;have a9:L=R:=(by have h:=hL.o;simp[beW]at h;exact h);subst a9;go_wp2;go_ret;refine⟨U,c',?_,?_⟩
   ·rw[<-A.o];rfl
   ·rw[<-A.o];exact I.o
def y3Q(W:World)(B:Nat)(a:Option Addr)(m c:Nat)(l:List UInt8)(w:World):Prop:=m=l.length/\z5e W B (.slice a m c) l w
theorem z3L{W w:World}{B n m:Nat}{a:Option Addr}{c:Nat}{l:List UInt8}(h:y3Q W B a m c l w)(A:Nat)(L:A=m+4)(N:n<18446744073709551616)(R:m<=2000000):
  Calls prog 27 #[.slice a m c,.int .u64 n,.int .i64 4] w fun e w'=>∃a' c',e= .returned (.slice a' A c')/\y3Q W B a' A c' (l++be4 n) w':=by
 obtain⟨O,J⟩:=h;refine(y8b (width:=4) J N (by omega) (by omega)).mono ?_;rintro e w' ⟨a',c',rfl,I⟩;rw[q0A]at I ⊢;have e:A=(l++be4 n).length:=by rw[List.length_append,z4v];omega
 rw[<-e]at I ⊢;exact⟨a',c',rfl,e,I⟩
theorem y5k{W w:World}{B n m:Nat}{a:Option Addr}{c:Nat}{l:List UInt8}(h:y3Q W B a m c l w)(A:Nat)(N:A=m+8)(J:n<18446744073709551616)(R:m<=2000000):
  Calls prog 27 #[.slice a m c,.int .u64 n,.int .i64 8] w fun e w'=>∃a' c',e= .returned (.slice a' A c')/\y3Q W B a' A c' (l++be4 (n/4294967296)++be4 (n%4294967296)) w':=by
 obtain⟨O,L⟩:=h;refine(y8b (width:=8) L J (by omega) (by omega)).mono ?_;rintro e w' ⟨a',c',rfl,I⟩;rw[y9O J,<-List.append_assoc]at I ⊢;have e:A=(l++be4 (n/4294967296)++be4 (n%4294967296)).length:=by simp only[List.length_append,z4v];omega
 rw[<-e]at I ⊢;exact⟨a',c',rfl,e,I⟩
theorem y8B{f:Fr}(h:z4t f=true):0<=f.n/\f.n<4294967296:=by
 unfold z4t z1Q at h;simp at h;omega
theorem z9M{f:Fr}(h:z1D f=true):0<=f.n/\f.n<4294967296/\f.b.length<=4052:=by
 unfold z1D at h;split at h
 ·unfold z4r at h;simp at h;rw[h.1.1,h.1.2];simp
 split at h
 ·unfold z4r at h;simp at h;rw[h.1.1,h.1.2];simp
 split at h
 ·have:=y8B (Bool.and_eq_true_iff.1 h).2;unfold z4t at h;simp at h;omega
 split at h
 ·have:=y8B h;unfold z4t at h;simp at h;omega
 ·cases h
theorem z7e(f:Fr)(a:Option Addr)(c:Nat)(w:World)(hf:f.Ok)(hl:f.b.length<=1000000)(hx:RdB w (.slice a f.b.length c) f.b)(hm:z1D f=true):
  Calls prog 9 #[frV f (.slice a f.b.length c)] w fun e w'=>∃a m c,e= .returned (.tuple #[.slice a m c,.int .i64 0])/\(m=(z0E f).length/\w'.ownsRow w.heap.size 5 1 (.slice a m c) m (z0b (z0E f)))/\Below w.heap.size w w':=by
 have hA:=z2t.made w f (.slice a f.b.length c);have hX:=z7 (hx.low (q5 w (.cells (j9 f (.slice a f.b.length c)) 51)));have bX:=z7 (q5 w (.cells (j9 f (.slice a f.b.length c)) 51));have bY:(w.alloc (.cells (j9 f (.slice a f.b.length c)) 51)).heap.size=w.heap.size+1:=by simp
 have HM:=z7 hm;have HF:=z7 hf;have HA:=z7 hA;obtain⟨n0,n1,_⟩:=z9M hm;obtain⟨o1,o2,o3,o4,o5,o6,o7,o8,o9,bD⟩:=hf;clear hx hm hA;have b7:frV f (.slice a f.b.length c)= .agg #[.int .u8 f.kind,.int .u32 f.epoch,.int .u32 f.series,.int .u32 f.chunk,.int .u32 f.bits,.int .u32 f.cnt,.int .u32 f.count,.bool f.closed,.int .u64 f.sum,.slice a f.b.length c,.int .i64 f.n]:=rfl;have HV:=z7 b7;rw[b7];clear b7;go_enter func9,ntmps9;go_wp2_with fail;rw[<-HV.o];refine(q3B f a c _ HF.o hl hX.o).mono ?_;rintro e w2 ⟨rfl,hb⟩;rw[HM.o];have aH:Hid (Below w.heap.size w w2):=z7 (bX.o.trans (hb.mono (by omega)));have aU:=HA.o.low hb;have a0:=z7 aU;have bM:=z7 (hX.o.low hb);obtain⟨c0,c1,c2,c3,c4,L,O,R,U,Y,B⟩:=aU.cells;have bZ:w.heap.size<w2.heap.size:=aU.lt;clear hb aU;go_wp2_with fail;have bS:=rowIs_made w2 w2.heap.size [0x44,0x59,UInt8.ofNat f.kind] #[.int .u8 68,.int .u8 89,.int .u8 f.kind] rfl (by
  simp only[z0b,List.map_cons,List.map_nil,UInt8.toNat_ofNat',List.toArray];rw[Nat.mod_eq_of_lt o1];rfl) (by simp)
 have bN:y3Q w2 w2.heap.size (some ⟨w2.heap.size,0,none⟩) 3 3 [0x44,0x59,UInt8.ofNat f.kind] (w2.alloc (.cells #[.int .u8 68,.int .u8 89,.int .u8 f.kind] 5)):=⟨rfl,bS⟩;have aD:=z7 bN;obtain⟨L0,b4⟩:=zN ( [0x44,0x59,UInt8.ofNat f.kind]);rw[<-b4]at aD;have b8:=z7 b4;clear bS bN b4;refine(z3L aD.o 7 rfl (by omega) (by omega)).mono ?_;rintro e W1 ⟨a1,d1,rfl,A⟩;clear c0 c1 c2 c3 c4 L O R U Y B;obtain⟨c0,c1,c2,c3,c4,L,O,R,U,Y,B⟩:=(a0.o.low A.2.2.1).cells;obtain⟨L1,I⟩:=zN (L0++be4 f.epoch);rw[<-I]at A;have b9:=z7 I;have bG:=z7 A;clear A I aD;go_wp2_with fail;refine(z3L bG.o 11 rfl (by omega) (by omega)).mono ?_;rintro e W2 ⟨a2,d2,rfl,A⟩;clear c0 c1 c2 c3 c4 L O R U Y B;obtain⟨c0,c1,c2,c3,c4,L,O,R,U,Y,B⟩:=(a0.o.low A.2.2.1).cells;obtain⟨L2,I⟩:=zN (L1++be4 f.series);rw[<-I]at A;have bA:=z7 I;have bH:=z7 A;clear A I bG;go_wp2_with fail;refine(z3L bH.o 15 rfl (by omega) (by omega)).mono ?_;rintro e W3 ⟨a3,d3,rfl,A⟩;clear c0 c1 c2 c3 c4 L O R U Y B;obtain⟨c0,c1,c2,c3,c4,L,O,R,U,Y,B⟩:=(a0.o.low A.2.2.1).cells;obtain⟨L3,I⟩:=zN (L2++be4 f.chunk);rw[<-I]at A;have bB:=z7 I;have bI:=z7 A;clear A I bH;go_wp2_with fail;refine(z3L bI.o 19 rfl (by omega) (by omega)).mono ?_;rintro e W4 ⟨a4,d4,rfl,A⟩;clear c0 c1 c2 c3 c4 L O R U Y B;obtain⟨c0,c1,c2,c3,c4,L,O,R,U,Y,B⟩:=(a0.o.low A.2.2.1).cells
 obtain⟨L4,I⟩:=zN (L3++be4 f.bits);rw[<-I]at A;have bC:=z7 I;have bJ:=z7 A;clear A I bI;go_wp2_with fail;refine(z3L bJ.o 23 rfl (by omega) (by omega)).mono ?_;rintro e W5 ⟨a5,d5,rfl,A⟩;clear c0 c1 c2 c3 c4 L O R U Y B;obtain⟨c0,c1,c2,c3,c4,L,O,R,U,Y,B⟩:=(a0.o.low A.2.2.1).cells;obtain⟨L5,I⟩:=zN (L4++be4 f.cnt);rw[<-I]at A;have bE:=z7 I;have bL:=z7 A;clear A I bJ;go_wp2_with fail;refine(z3L bL.o 27 rfl (by omega) (by omega)).mono ?_;rintro e W6 ⟨a6,d6,rfl,A⟩;clear c0 c1 c2 c3 c4 L O R U Y B;obtain⟨c0,c1,c2,c3,c4,L,O,R,U,Y,B⟩:=(a0.o.low A.2.2.1).cells;obtain⟨L6,I⟩:=zN (L5++be4 f.count);rw[<-I]at A;have bF:=z7 I;have aG:=z7 A;clear A I bL;have bO:f.closed=true\/f.closed=false:=by cases f.closed<;>simp
 rcases bO with b6|b6
 ·have aV:Hid (y1L f.closed=1):=z7 (by rw[b6];rfl);have aT:RdB (W6.alloc (.cells #[.int .u8 1] 5)) (.slice (some ⟨W6.heap.size,0,none⟩) 1 1) [1]:=
   z8T (l:= [1]) (e:=5) (fr:=(0,0)) (by rw[j8];rfl) (by simp) 1
  have aL:=z7 aT;have aC:=z7 (aG.o.2.to (q5 W6 (.cells #[.int .u8 1] 5)));have aR:L6.length=27:=aG.o.1.symm;have aE:=z7 aR;clear aT aR aG;go_wp2_with (at_builtin;refine wpList_copy_own rfl (.tmp 49) (.tmp 51) 47 rfl w2 w2.heap.size 5 underlying47 z4n (.slice a6 27 d6) L6 rfl aC.o _ [1] rfl aL.o (by rw[aE.o];simp) ?_);intro a7 d7 W7 aF b5;have aO:L6.length+1=28:=by rw[aE.o]
  rw[aO]at aF ⊢;have A:y3Q w2 w2.heap.size a7 28 d7 (L6++ [1]) W7:=⟨by simp[aE.o],aF⟩;clear c0 c1 c2 c3 c4 L O R U Y B aC aL aO aF b5;obtain⟨c0,c1,c2,c3,c4,L,O,R,U,Y,B⟩:=(a0.o.low A.2.2.1).cells;obtain⟨L7,I⟩:=zN (L6++ [(1:UInt8)]);rw[<-I]at A;have aX:=z7 I;have aC:=z7 A;clear A I;go_wp2_with fail;refine(y5k aC.o 36 rfl (by omega) (by omega)).mono ?_;rintro e W8 ⟨a8,d8,rfl,A⟩;clear c0 c1 c2 c3 c4 L O R U Y B;obtain⟨c0,c1,c2,c3,c4,L,O,R,U,Y,B⟩:=(a0.o.low A.2.2.1).cells;obtain⟨L8,I⟩:=zN (L7++be4 (f.sum/4294967296)++be4 (f.sum%4294967296));rw[<-I]at A;have aY:=z7 I;have aI:=z7 A;clear A I aC;obtain⟨N,hN⟩:∃N:Nat,f.n=(N:Int):=⟨f.n.toNat,by omega⟩;rw[hN]at B;have HN:=z7 hN;have bV:N<4294967296:=by omega
  clear hN n0 n1;go_wp2_with fail;refine(z3L aI.o 40 rfl (by omega) (by omega)).mono ?_;rintro e W9 ⟨a9,d9,rfl,A⟩;clear c0 c1 c2 c3 c4 L O R U Y B;obtain⟨c0,c1,c2,c3,c4,L,O,R,U,Y,B⟩:=(a0.o.low A.2.2.1).cells;have hH:L8++be4 N=z1x f:=by
   rw[aY.o,aX.o,bF.o,bE.o,bC.o,bB.o,bA.o,b9.o,b8.o,<-aV.o];unfold z1x;rw[HN.o,show((N:Int)%4294967296).toNat=N by omega]
  rw[hH]at A;have aJ:=z7 A;have aM:=z7 (bM.o.low A.2.2.1);clear A aI hH;go_wp2_with (at_builtin;refine wpList_copy_own rfl (.tmp 63) (.tmp 66) 47 rfl w2 w2.heap.size 5 underlying47 z4n (.slice a9 40 d9) (z1x f) rfl aJ.o.2 _ f.b rfl aM.o (by rw[z1Z];omega) ?_);intro b0 b2 aW J _;rw[show z1x f++f.b=z2r f from rfl]at J;have aS:(z2r f).length=40+f.b.length:=by simp[z2r,z1Z]
  have aN:(z1x f).length+f.b.length=(z2r f).length:=by simp[z2r]
  rw[aN]at J ⊢;obtain⟨M,hM⟩:=zN (z2r f);rw[<-hM]at J aS ⊢;have bU:M.length<=1000040:=by omega
  have aZ:=z7 hM;have aA:=z7 J;clear J hM aJ aM c0 c1 c2 c3 c4 L O R U Y B aS aN;go_wp2_with fail;refine(y8c _ M _ (z0e aA.o.1) (by omega)).mono ?_;rintro e w' ⟨rfl,rfl⟩;have bR:=z7N M;go_wp2_with fail;refine(z3L (⟨rfl,aA.o⟩:y3Q w2 w2.heap.size b0 M.length b2 M aW) (M.length+4) rfl (by omega) (by omega)).mono ?_;rintro e bT ⟨b1,b3,rfl,A⟩;have hW:z0E f=M++be4 (z2J M):=by rw[aZ.o];rfl
  rw[<-hW]at A;have aB:=z7 A;clear A hW aA;go_wp2;go_ret2;refine⟨b1,M.length+4,b3,rfl,?_,aH.o.trans (aB.o.2.2.1.mono aH.o.size)⟩;have h1:=aB.o.2.1;have h2:=aB.o.1;exact⟨h2,z0c (by rw[<-h2]at h1;exact h1) aH.o.size⟩
 ·have aV:Hid (y1L f.closed=0):=z7 (by rw[b6];rfl);have aT:RdB (W6.alloc (.cells #[.int .u8 0] 5)) (.slice (some ⟨W6.heap.size,0,none⟩) 1 1) [0]:=
   z8T (l:= [0]) (e:=5) (fr:=(0,0)) (by rw[j8];rfl) (by simp) 1
  have aL:=z7 aT;have aC:=z7 (aG.o.2.to (q5 W6 (.cells #[.int .u8 0] 5)));have aR:L6.length=27:=aG.o.1.symm;have aE:=z7 aR;clear aT aR aG;go_wp2_with (at_builtin;refine wpList_copy_own rfl (.tmp 49) (.tmp 51) 47 rfl w2 w2.heap.size 5 underlying47 z4n (.slice a6 27 d6) L6 rfl aC.o _ [0] rfl aL.o (by rw[aE.o];simp) ?_);intro a7 d7 W7 aF b5;have aO:L6.length+1=28:=by rw[aE.o]
  rw[aO]at aF ⊢;have A:y3Q w2 w2.heap.size a7 28 d7 (L6++ [0]) W7:=⟨by simp[aE.o],aF⟩;clear c0 c1 c2 c3 c4 L O R U Y B aC aL aO aF b5;obtain⟨c0,c1,c2,c3,c4,L,O,R,U,Y,B⟩:=(a0.o.low A.2.2.1).cells;obtain⟨L7,I⟩:=zN (L6++ [(0:UInt8)]);rw[<-I]at A;have aX:=z7 I;have aC:=z7 A;clear A I;go_wp2_with fail;refine(y5k aC.o 36 rfl (by omega) (by omega)).mono ?_;rintro e W8 ⟨a8,d8,rfl,A⟩;clear c0 c1 c2 c3 c4 L O R U Y B;obtain⟨c0,c1,c2,c3,c4,L,O,R,U,Y,B⟩:=(a0.o.low A.2.2.1).cells;obtain⟨L8,I⟩:=zN (L7++be4 (f.sum/4294967296)++be4 (f.sum%4294967296));rw[<-I]at A;have aY:=z7 I;have aI:=z7 A;clear A I aC;obtain⟨N,hN⟩:∃N:Nat,f.n=(N:Int):=⟨f.n.toNat,by omega⟩;rw[hN]at B;have HN:=z7 hN;have bV:N<4294967296:=by omega
  clear hN n0 n1;go_wp2_with fail;refine(z3L aI.o 40 rfl (by omega) (by omega)).mono ?_;rintro e W9 ⟨a9,d9,rfl,A⟩;clear c0 c1 c2 c3 c4 L O R U Y B;obtain⟨c0,c1,c2,c3,c4,L,O,R,U,Y,B⟩:=(a0.o.low A.2.2.1).cells;have hH:L8++be4 N=z1x f:=by
   rw[aY.o,aX.o,bF.o,bE.o,bC.o,bB.o,bA.o,b9.o,b8.o,<-aV.o];unfold z1x;rw[HN.o,show((N:Int)%4294967296).toNat=N by omega]
  rw[hH]at A;have aJ:=z7 A;have aM:=z7 (bM.o.low A.2.2.1);clear A aI hH;go_wp2_with (at_builtin;refine wpList_copy_own rfl (.tmp 63) (.tmp 66) 47 rfl w2 w2.heap.size 5 underlying47 z4n (.slice a9 40 d9) (z1x f) rfl aJ.o.2 _ f.b rfl aM.o (by rw[z1Z];omega) ?_);intro b0 b2 aW J _;rw[show z1x f++f.b=z2r f from rfl]at J;have aS:(z2r f).length=40+f.b.length:=by simp[z2r,z1Z]
  have aN:(z1x f).length+f.b.length=(z2r f).length:=by simp[z2r]
  rw[aN]at J ⊢;obtain⟨M,hM⟩:=zN (z2r f);rw[<-hM]at J aS ⊢;have bU:M.length<=1000040:=by omega
  have aZ:=z7 hM;have aA:=z7 J;clear J hM aJ aM c0 c1 c2 c3 c4 L O R U Y B aS aN;go_wp2_with fail;refine(y8c _ M _ (z0e aA.o.1) (by omega)).mono ?_;rintro e w' ⟨rfl,rfl⟩;have bR:=z7N M;go_wp2_with fail;refine(z3L (⟨rfl,aA.o⟩:y3Q w2 w2.heap.size b0 M.length b2 M aW) (M.length+4) rfl (by omega) (by omega)).mono ?_;rintro e bT ⟨b1,b3,rfl,A⟩;have hW:z0E f=M++be4 (z2J M):=by rw[aZ.o];rfl
  rw[<-hW]at A;have aB:=z7 A;clear A hW aA;go_wp2;go_ret2;refine⟨b1,M.length+4,b3,rfl,?_,aH.o.trans (aB.o.2.2.1.mono aH.o.size)⟩;have h1:=aB.o.2.1;have h2:=aB.o.1;exact⟨h2,z0c (by rw[<-h2]at h1;exact h1) aH.o.size⟩
structure RF (w5:World) (g:Fr) (x:Value) (W:World):Prop where
 f:z2t W w5.heap.size g x
 low:Below w5.heap.size w5 W
theorem RF.ff{A W:World}{g:Fr}{x:Value}(h:RF A g x W):∀o,W.frozen? ⟨A.heap.size,o,none⟩=false:=fun o=>by simp[World.frozen?,show W.heap[A.heap.size]? =_ from h.f]
theorem RF.setF{A W:World}{g g':Fr}{x x' v:Value}{o:Nat}(h:RF A g x W)(B:j9 g' x'=(j9 g x).setIfInBounds o v):RF A g' x' (W.setCell ⟨A.heap.size,o,none⟩ v):=
 ⟨h.f.set B,h.low.setCell (by simp) _⟩
theorem RF.store{A W:World}{g:Fr}{x:Value}(h:RF A g x W)(g':Fr)(x':Value):RF A g' x' (W.setCells A.heap.size 0 (j9 g' x').toList):=
 ⟨h.f.store g' x',z3T h.low h.low.size (by omega) _⟩
theorem RF.to{B W A:World}{g:Fr}{x:Value}(h:RF B g x W)(hb:Below W.heap.size W A):RF B g x A:=
 ⟨h.f.low hb,h.low.trans (hb.mono h.low.size)⟩
def WA(w5:World)(b8:Bool):World:=if b8 then w5.alloc (.cells (j9 z0W (.slice none 0 0)) 51)else w5
theorem WA.below(A:World)(B:Bool):Below A.heap.size A (WA A B):=by
 cases B
 ·exact Below.refl _ _
 ·exact q5 _ _
def z8g(b:List UInt8):Bool:=decide (unB (b.drop (b.length - 4))=z2J (b.take (b.length - 4)))
def z7k(b:List UInt8):Bool:=decide (44<=b.length)&&decide (b.length<=4096)
def z6W(b:List UInt8):Fr:=if z7k b&&z8g b then goF b else z0W
def z7z(b:List UInt8):Int:=if z7k b then(if z8g b then goE b else 71)else 70
theorem z9v(a:Option Addr)(c:Nat)(b:List UInt8)(w:World)(L:RdB w (.slice a b.length c) b)(N:b.length<=9223372036854775807)(J:b.length<=c)(A:c<=9223372036854775807):
  Calls prog 29 #[.slice a b.length c] w (Told w (z6W b) (z7z b)):=by
 by_cases hlen:44<=b.length/\b.length<=4096
 ·have B:z7k b=true:=by unfold z7k;simp;exact hlen
  by_cases hs:unB (b.drop (b.length - 4))=z2J (b.take (b.length - 4))
  ·have I:z8g b=true:=(by unfold z8g;simpa using hs);have h:=y3T a c b w L hlen.1 hlen.2 J A hs;have e:z6W b=goF b/\z7z b=goE b:=(by unfold z6W z7z;rw[B,I];exact⟨rfl,rfl⟩);rw[e.1,e.2];exact h
  ·have I:z8g b=false:=(by unfold z8g;simpa using hs);have h:=y2j a c b w L hlen.1 hlen.2 J A hs;have e:z6W b=z0W/\z7z b=71:=(by unfold z6W z7z;rw[B,I];exact⟨rfl,rfl⟩);rw[e.1,e.2];exact h
 ·have B:z7k b=false:=by unfold z7k;rw[Bool.eq_false_iff];simp;omega
  have e:z6W b=z0W/\z7z b=70:=by unfold z6W z7z;rw[B];exact⟨rfl,rfl⟩
  rw[e.1,e.2];exact y2m a c b w N (by omega)
end
section
theorem z8w(f:Fr):z0E f=z2r f++be4 (z2J (z2r f)):=rfl
theorem z5S(f:Fr):(z2r f).length=40+f.b.length:=by simp[z2r,z1Z]
theorem y1h(f:Fr):(z0E f).take ((z0E f).length - 4)=z2r f:=by
 rw[z4K,z8w,List.take_append_of_le_length (by rw[z5S];omega),List.take_of_length_le (by rw[z5S];omega)]
theorem y7v(f:Fr):(z0E f).drop ((z0E f).length - 4)=be4 (z2J (z2r f)):=by
 rw[z4K,z8w,List.drop_append_of_le_length (by rw[z5S];omega),List.drop_of_length_le (by rw[z5S];omega),List.nil_append]
theorem y6g{f:Fr}(h:z1D f=true):z7k (z0E f)=true:=by
 have:=(z9M h).2.2;unfold z7k;rw[z4K];simp;omega
theorem y5Q(f:Fr):z8g (z0E f)=true:=by
 unfold z8g;rw[y1h,y7v,z4J (z7N _)];simp
theorem y6N(f:Fr)(T:List UInt8):((z1x f++T).drop 3).take 4=be4 f.epoch:=by simp[z1x,be4]
theorem y7t(f:Fr)(T:List UInt8):((z1x f++T).drop 7).take 4=be4 f.series:=by simp[z1x,be4]
theorem y5p(f:Fr)(T:List UInt8):((z1x f++T).drop 11).take 4=be4 f.chunk:=by simp[z1x,be4]
theorem y6c(f:Fr)(T:List UInt8):((z1x f++T).drop 15).take 4=be4 f.bits:=by simp[z1x,be4]
theorem y5d(f:Fr)(T:List UInt8):((z1x f++T).drop 19).take 4=be4 f.cnt:=by simp[z1x,be4]
theorem y4z(f:Fr)(T:List UInt8):((z1x f++T).drop 23).take 4=be4 f.count:=by simp[z1x,be4]
theorem y5c(f:Fr)(T:List UInt8):((z1x f++T).drop 28).take 4=be4 (f.sum/4294967296):=by simp[z1x,be4]
theorem y4k(f:Fr)(T:List UInt8):((z1x f++T).drop 32).take 4=be4 (f.sum%4294967296):=by simp[z1x,be4]
theorem y4K(f:Fr)(T:List UInt8):((z1x f++T).drop 36).take 4=be4 (f.n%4294967296).toNat:=by simp[z1x,be4]
theorem y7y(f:Fr)(T:List UInt8):(z1x f++T).getD 2 0=UInt8.ofNat f.kind:=by simp[z1x,be4]
theorem y5i(f:Fr)(T:List UInt8):(z1x f++T).getD 27 0=y1L f.closed:=by simp[z1x,be4]
theorem z2b(f:Fr):z0E f=z1x f++(f.b++be4 (z2J (z2r f))):=by rw[z8w,z2r,List.append_assoc]
theorem y8V(f:Fr):((z0E f).take ((z0E f).length - 4)).drop 40=f.b:=by
 rw[y1h,z2r,List.drop_append_of_le_length (by rw[z1Z];omega),List.drop_of_length_le (by rw[z1Z];omega),List.nil_append]
theorem y6x{f:Fr}(h:f.epoch<4294967296):num (z0E f) 3=f.epoch:=by unfold num;rw[z2b,y6N,z4J h]
theorem y6O{f:Fr}(h:f.series<4294967296):num (z0E f) 7=f.series:=by unfold num;rw[z2b,y7t,z4J h]
theorem y4J{f:Fr}(h:f.chunk<4294967296):num (z0E f) 11=f.chunk:=by unfold num;rw[z2b,y5p,z4J h]
theorem y4u{f:Fr}(h:f.bits<4294967296):num (z0E f) 15=f.bits:=by unfold num;rw[z2b,y6c,z4J h]
theorem y5P{f:Fr}(h:f.cnt<4294967296):num (z0E f) 19=f.cnt:=by unfold num;rw[z2b,y5d,z4J h]
theorem y5M{f:Fr}(h:f.count<4294967296):num (z0E f) 23=f.count:=by unfold num;rw[z2b,y4z,z4J h]
theorem y4j{f:Fr}(h:f.sum<18446744073709551616):num (z0E f) 28=f.sum/4294967296:=by unfold num;rw[z2b,y5c];exact z4J (by omega)
theorem y4H(f:Fr):num (z0E f) 32=f.sum%4294967296:=by unfold num;rw[z2b,y4k];exact z4J (by omega)
theorem y6j{f:Fr}(A:0<=f.n)(B:f.n<4294967296):num (z0E f) 36=f.n.toNat:=by
 unfold num;rw[z2b,y4K,show(f.n%4294967296).toNat=f.n.toNat by omega];exact z4J (by omega)
theorem fields_of{w:List UInt8}{f:Fr}(B:(w.getD 2 0).toNat=f.kind)(A:((w.getD 27 0).toNat==1)=f.closed)(I:num w 3=f.epoch)(n7:num w 7=f.series)(n11:num w 11=f.chunk)(n15:num w 15=f.bits)(n19:num w 19=f.cnt)(n23:num w 23=f.count)
  (J:num w 28*4294967296+num w 32=f.sum) (n36:((num w 36:Nat):Int)=f.n) (hb:(w.take (w.length - 4)).drop 40=f.b):fieldsB w=f:=by
 unfold fieldsB;rw[B,A,I,n7,n11,n15,n19,n23,J,n36,hb]
theorem z9s{f:Fr}(A:f.Ok)(B:0<=f.n)(I:f.n<4294967296):fieldsB (z0E f)=f:=by
 obtain⟨o1,L,N,O,R,U,Y,o8,o9,J⟩:=A;refine fields_of ?_ ?_ (y6x L) (y6O N) (y4J O) (y4u R) (y5P U) (y5M Y) ?_ ?_ (y8V f)
 ·rw[z2b,y7y,UInt8.toNat_ofNat'];omega
 ·rw[z2b,y5i];cases f.closed<;>rfl
 ·rw[y4j o8,y4H];omega
 ·rw[y6j B I];omega
theorem y6y{f:Fr}(A:f.Ok)(h:z1D f=true):y3I (z0E f)=true:=by
 unfold y3I;rw[z9s A (z9M h).1 (z9M h).2.1,h];simp
theorem y3k{f:Fr}(A:f.Ok)(h:z1D f=true):z7z (z0E f)=0/\z6W (z0E f)=f:=by
 unfold z7z z6W goE goF;rw[y6g h,y5Q,y6y A h,z9s A (z9M h).1 (z9M h).2.1];exact⟨rfl,rfl⟩
theorem q5H{b:List UInt8}(h:z7z b=0):z1D (z6W b)=true/\z0E (z6W b)=b/\z7k b=true/\z8g b=true:=by
 unfold z7z goE at h;unfold z6W goF;cases hl:z7k b with
 | false=>rw[hl]at h;simp at h
 | true=>
  cases hs:z8g b with
  | false=>rw[hl,hs]at h;simp at h
  | true=>
   cases hi:y3I b with
   | false=>rw[hl,hs,hi]at h;simp at h
   | true=>
    unfold y3I at hi;simp at hi;simp[hi]
theorem z6G{b:List UInt8}{k:Nat}(h:k+4<=b.length):num b k<4294967296:=y1t (by simp;omega)
theorem y6A(b:List UInt8):(z6W b).Ok:=by
 have A:z0W.Ok:=by constructor<;>decide
 unfold z6W;split
 ·rename_i I;have B:44<=b.length:=by
   have:=(Bool.and_eq_true_iff.1 I).1;unfold z7k at this;simp at this;omega
  unfold goF;split
  ·have n28:=z6G (b:=b) (k:=28) (by omega);have n32:=z6G (b:=b) (k:=32) (by omega);have n36:=z6G (b:=b) (k:=36) (by omega);exact⟨(b.getD 2 0).toNat_lt,z6G (by omega),z6G (by omega),z6G (by omega),z6G (by omega),z6G (by omega),z6G (by omega),by simp only[fieldsB];omega,by simp only[fieldsB];omega,by simp only[fieldsB];omega⟩
  ·exact A
 ·exact A
end
section
open Go.RowKit
def z6N(f:Fr):List UInt8:=if z1D f then z0E f else []
def q5E(f:Fr):Int:=if z1D f then 0 else 70
theorem y1V(f:Fr)(a:Option Addr)(c:Nat)(w:World)(A:f.Ok)(B:f.b.length<=1000000)(I:RdB w (.slice a f.b.length c) f.b):
  Calls prog 73 #[frV f (.slice a f.b.length c)] w fun e w'=>∃a n c,e= .returned (.tuple #[.slice a n c,.int .u16 (q5E f)])/\w'.ownsRow w.heap.size 5 1 (.slice a n c) n (z0b (z6N f))/\n=(z6N f).length/\Below w.heap.size w w':=by
 unfold z6N q5E;cases hm:z1D f with
 | true=>
  refine(y9p f a c w A B I hm).mono ?_;rintro e w' ⟨a,c,rfl,J,hb⟩;exact⟨a,_,c,rfl,J,rfl,hb⟩
 | false=>
  refine(y3v f a c w A B I hm).mono ?_;rintro e w' ⟨rfl,hb⟩;exact⟨none,0,0,rfl,World.ownsRow_nil _ _ _ _,rfl,hb⟩
end
section
open Go.RowKit Go.Maps
theorem z0I.snoc{B m c J c':Nat}{a a':Option Addr}{w w':World}{L:List (Value×List UInt8)}{x:Value×List UInt8}(h:z0I B w (.slice a m c) L)(U:w.ownsRow B 5 1 x.1 x.2.length (z0b x.2))(O:w.grownBy w' (Value.slice a m c).ownBlock)(R:J=L.length+1)
  (I:w'.ownsRow B 47 1 (.slice a' J c') J (L.map Prod.fst++ [x.1])):z0I B w' (.slice a' J c') (L++ [x]):=by
 have key:∀y:Value×List UInt8,w.ownsRow B 5 1 y.1 y.2.length (z0b y.2)->w'.ownsRow B 5 1 y.1 y.2.length (z0b y.2):=fun y A=>j7 A fun k N=>O.block k (A.lt k N).2 fun e=>y8p h.row A (by decide) e.symm N;refine⟨?_,fun y A=>?_⟩
 ·subst R;rw[List.map_append,List.length_append];exact I
 ·rcases List.mem_append.1 A with A|A
  ·exact key y (h.ent y A)
  ·rw[List.mem_singleton.1 A];exact key x U
theorem z0I.none(B:Nat)(w:World):z0I B w (.slice none 0 0) []:=⟨World.ownsRow_nil _ _ _ _,fun x A=>by cases A⟩
theorem z0I.low{B:Nat}{w w':World}{v:Value}{A:List (Value×List UInt8)}(h:z0I B w v A)(hb:Below w.heap.size w w'):z0I B w' v A:=⟨ownsRow_below h.row hb (Nat.le_refl _),fun x I=>ownsRow_below (h.ent x I) hb (Nat.le_refl _)⟩
def y0b(w:World)(g n:Nat)(L:List Fr):Prop:=n=L.length/\∀(k:Nat) (f:Fr),L[k]? =some f->g<w.heap.size/\∀(j:Nat) (v:Value),(j9 f (.slice none 0 0))[j]? =some v->w.cell? ⟨g,k*11+j,none⟩=some v
theorem y0b.low{w w':World}{g n:Nat}{L:List Fr}(h:y0b w g n L)(hb:Below w.heap.size w w'):y0b w' g n L:=
 ⟨h.1,fun k f A=>⟨Nat.lt_of_lt_of_le (h.2 k f A).1 hb.size,fun j v B=>(hb.cell (p:=⟨g,k*11+j,none⟩) (h.2 k f A).1).trans ((h.2 k f A).2 j v B)⟩⟩
theorem y0b.one{w:World}{g:Nat}{f:Fr}{t:TypeId}{fr:Nat×Nat}(h:w.heap[g]? =some (.cells (j9 f (.slice none 0 0)) t fr)):y0b w g 1 [f]:=
 ⟨rfl,fun k x A=>by
  have B:k=0:=by
   rcases Nat.lt_or_ge k 1 with I|I
   ·omega
   ·rw[List.getElem?_eq_none (by simpa using I)]at A;cases A
  subst B;simp only[List.getElem?_cons_zero,Option.some.injEq]at A;subst A;refine⟨(Array.getElem?_eq_some_iff.1 h).1,fun j v J=>?_⟩;have:=z1X h j v J;rw[Nat.zero_mul];exact this⟩
theorem y1T(g n c:Nat)(L:List Fr)(hL:∀f∈L,f.Ok/\f.b= [])(hn:n<=1000)(w:World)(h:y0b w g n L):
  Calls prog 31 #[.slice (some ⟨g,0,none⟩) n c] w fun e w'=>∃a m cc A,e= .returned (.slice a m cc)/\m=A.length/\z0I w.heap.size w' (.slice a m cc) A/\A.map Prod.snd=L.map z6N/\Below w.heap.size w w':=by
 obtain⟨iN,bA,aZ,aD,aW⟩:=info_parts y5X;have H:=z7 h;have HL:=z7 hL;have aU:=z7 h.1;clear h hL;go_enter func31,ntmps31;go_wp2_with fail;go_loopw[3,10] (fun ov kv wr=>∃(k:Nat) (a:Option Addr) (c:Nat),ov= .slice a k c/\kv= .int .i64 k/\k<=n/\Hid (∃A:List (Value×List UInt8),A.length=k/\z0I w.heap.size wr (.slice a k c) A/\A.map Prod.snd=(L.take k).map z6N)/\Hid (Below w.heap.size w wr)) (fun _ kv _=>match kv with | .int _ y=>n - y.toNat|_=>0)
 case atStart=>exact⟨0,none,0,rfl,rfl,Nat.zero_le _,z7 ⟨[],rfl,z0I.none _ _,rfl⟩,z7 (Below.refl _ _)⟩
 case round=>
  obtain⟨k,a,c,rfl,rfl,hk,a5,B⟩:=hrel;have bF:IntKind.i64.wrap ((k:Int)+1)=((k+1:Nat):Int):=z0n (by omega) (by omega);by_cases hkn:k<n
  ·have d1:decide ((k:Int)<(n:Int))=true:=decide_eq_true (by omega);obtain⟨f,hf⟩:∃f,L[k]? =some f:=⟨_,List.getElem?_eq_getElem (by have:=aU.o;omega)⟩;obtain⟨lg,hc⟩:=(H.o.low B.o).2 k f hf;obtain⟨aO,a1⟩:=HL.o f (List.mem_of_getElem? hf);have bE:(0:Int)<=k/\(k:Int)<(n:Int):=(by omega);have HC:=z7 hc;have HF:=z7 hf;have b2:=z7 hf;obtain⟨W2,aJ,aI⟩:=((Loc.start wr).new (.cells (j9 f (.slice none 0 0)) 51)).named;have HE:=z7 (y1V f none 0 W2 aO (by rw[a1];simp) (by rw[a1];exact RdB.nil _));rw[a1]at HE;have J:=z7 aI;have a7:=z7 aJ;obtain⟨bs,a9⟩:=zN (z6N f);obtain⟨ee,aM⟩:=zN (q5E f);rw[<-a9,<-aM]at HE;have b0:=z7 a9;obtain⟨C,hC⟩:=zN (j9 f (.slice none 0 0));have Y:C.size=11:=(by rw[hC];rfl);have b8:C.all (·.oneCell')=true:=(by rw[hC];unfold j9;simp[Value.oneCell']);rw[<-hC]at HC J a7;have aR:frV f (.slice none 0 0)= .agg C:=(by rw[hC];rfl);rw[show([]:List UInt8).length=0 from rfl,aR]at HE;have aA:(prog.info? 51).map (·.size)=some C.size:=(by rw[Y];exact z0B);clear hf hc aI aJ a9 aM hC aR a1 aO;go_upto_region 5 with(first|refine z0J rfl 51 _ rfl g (k*11) rfl C HC.o z1y aA ?_|(refine z0f rfl 51 _ _ rfl wr.heap.size 0 rfl C rfl (fun j hj=>by exact z0w (j8 wr _) (n:=C.size) (by rw[Y];rfl) j hj) (by exact z0y (j8 wr _)) aA b8 ?_;rw[z3x _ _ _ _ (by rw[Array.length_toList,Y];rfl)]))
   refine z0G a7.o ?_;go_wp2_with (first|refine z0J rfl 51 _ rfl wr.heap.size 0 rfl C (z1X (J.o.get 0 rfl)) z1y aA ?_|fail);refine HE.o.mono ?_;rintro e N ⟨R,O,U,rfl,a0,aN,a8⟩;have I:Below w.heap.size w N:=B.o.trans ((J.o.call a8).low.mono B.o.size);have aF:=z7 I;have aB:∃A:List (Value×List UInt8),A.length=k/\z0I w.heap.size N (.slice a k c) A/\A.map Prod.snd=(L.take k).map z6N:=by
    obtain⟨A,h1,h2,h3⟩:=a5.o;exact⟨A,h1,h2.low (J.o.call a8).low,h3⟩
   have a6:N.ownsRow w.heap.size 5 1 (.slice R O U) O (z0b bs):=z0c a0 (Nat.le_trans B.o.size J.o.low.size);obtain⟨A,aC,aE,aY⟩:=aB;have b6:=z7 aE;have b7:=z7 aY;have aH:=z7 aC;have b5:=z7 a6;have b1:=z7 aN;have a3:(N.alloc (.cells #[.slice R O U] 47)).ownsRow w.heap.size 47 1 (.slice a k c) k (A.map Prod.fst):=by
    have:=aE.row;rw[aC]at this;exact ownsRow_below this (q5 N _) (Nat.le_refl _)
   have a2:=z7 a3;have a4:Rd (N.alloc (.cells #[.slice R O U] 47)) (.slice (some ⟨N.heap.size,0,none⟩) 1 1) 1 1 [.slice R O U]:=z3z _ _ _ 1 1 (by simp) (by simp);have b4:=z7 a4;have aV:w.heap.size<=(N.alloc (.cells #[.slice R O U] 47)).heap.size:=(by have:=I.size;simp;omega);clear a8 I a0 a6 aC aE aY aN a3 a4 J a7 HC d1;go_wp2_with (at_builtin;refine z1H rfl _ _ 23 rfl w.heap.size 47 iN (.slice none 0 0) 1 24 underlying23 bA aZ aD aW rfl (by decide) a k c (A.map Prod.fst) rfl a2.o _ 1 [.slice R O U] rfl b4.o (by decide) (by simp[Value.oneCell']) (by unfold maxLen;omega) (by omega) aV ?_;intro g5 c5 w5 h5 aS aX;have b3:=z7 h5;have aG:=z7 aS;have bC:=z7 aX;clear h5 aS aX);refine⟨⟨k+1,some ⟨g5,0,none⟩,c5,rfl,rfl,by omega,z7 ⟨A++ [(.slice R O U,bs)],by simp[aH.o],?_,?_⟩,z7 ?_⟩,by show n - ((k+1:Nat):Int).toNat<n - (k:Int).toNat;omega⟩
   ·have bB:z0I w.heap.size (N.alloc (.cells #[.slice R O U] 47)) (.slice a k c) A:=b6.o.low (q5 N _);have b9:(N.alloc (.cells #[.slice R O U] 47)).ownsRow w.heap.size 5 1 (.slice R O U) bs.length (z0b bs):=(by rw[<-b1.o];exact ownsRow_below b5.o (q5 N _) (Nat.le_refl _));exact bB.snoc b9 aG.o (by rw[aH.o]) b3.o
   ·rw[List.map_append,b7.o,List.take_add_one,b2.o,List.map_append];show _++ [bs]=_++ [z6N f];rw[b0.o]
   ·have aL:=aF.o.trans ((q5 N (.cells #[.slice R O U] 47)).mono aF.o.size);exact aL.grown aG.o aL.size fun j hj=>(a2.o.lt j hj).1
  ·have d1:decide ((k:Int)<(n:Int))=false:=decide_eq_false (by omega);have aT:k=n:=(by omega);subst aT;go_wp2;go_ret;obtain⟨A,h1,h2,h3⟩:=a5.o;refine⟨a,k,c,A,rfl,h1.symm,h2,?_,B.o⟩;rw[h3,List.take_of_length_le (Nat.le_of_eq aU.o.symm)]
end

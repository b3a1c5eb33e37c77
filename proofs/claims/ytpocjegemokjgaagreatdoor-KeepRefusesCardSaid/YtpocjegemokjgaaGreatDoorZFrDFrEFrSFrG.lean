/-
  Walks over package frame: write, Encode.
-/
import Derived.Test.YtpocjegemokjgaaGreatDoorZOnceCrcAFrBFrC
import Derived.Deep.DeepCutAuto
namespace Go.Proofs.YtpocjegemokjgaaGreatDoor
open Go.Proofs.Tryz
set_option linter.all false
set_option maxRecDepth 100000
set_option maxHeartbeats 12800000
open Go.RowKit
def z4g(f:Fr):List Nat:= [f.epoch,f.series,f.chunk,f.bits,f.cnt,f.count]
def z4N(f:Fr):List Nat:= [f.sum/4294967296,f.sum%4294967296,(f.n%4294967296).toNat]
theorem y6S(f:Fr):z1x f=([0x44,0x59,UInt8.ofNat f.kind]++(z4g f).flatMap be4)++ [y1L f.closed]++(z4N f).flatMap be4:=by
 simp[z1x,z4g,z4N]
theorem q2h{f:Fr}(h:f.Ok):∀n∈z4g f,n<4294967296:=by
 obtain⟨I,J,L,N,O,R,U,Y,o9,B⟩:=h;intro n A;simp only[z4g,List.mem_cons,List.not_mem_nil,or_false]at A;rcases A with rfl|rfl|rfl|rfl|rfl|rfl<;>assumption
theorem q1C{f:Fr}(h:f.Ok):∀n∈z4N f,n<4294967296:=by
 obtain⟨I,J,L,N,O,R,U,Y,o9,B⟩:=h;intro n A;simp only[z4N,List.mem_cons,List.not_mem_nil,or_false]at A;rcases A with rfl|rfl|rfl<;>omega
theorem y3m(l:List Nat){k:Nat}(A:k<l.length):(l.take (k+1)).flatMap be4=(l.take k).flatMap be4++be4 l[k]:=by
 rw[List.take_succ_eq_append_getElem A,List.flatMap_append];simp
theorem z7G:∀l:List Nat,(l.flatMap be4).length=4*l.length
 | []=>rfl
 | n::l=>by rw[List.flatMap_cons,List.length_append,z7G l,z4v,List.length_cons];omega
theorem z2t.same{w A wr:World}{f:Fr}{x:Value}(h:z2t A w.heap.size f x)(hb:Below (w.heap.size+1) A wr):z2t wr w.heap.size f x:=(hb.block _ (by omega)).trans h
theorem q5x(A B I J L N:Nat)(k:Nat)(O:k<6)(w:World):(Instr.index 223 (.agg #[.int .u32 A,.int .u32 B,.int .u32 I,.int .u32 J,.int .u32 L,.int .u32 N]) (.int .i64 (k:Int))).run prog w= .ok (.int .u32 (([A,B,I,J,L,N].getD k 0:Nat):Int)) w:=by
 obtain rfl|rfl|rfl|rfl|rfl|rfl:k=0\/k=1\/k=2\/k=3\/k=4\/k=5:=by omega
 all_goals kernel_rfl
theorem q5B(A B I:Int)(k:Nat)(J:k<3)(w:World):(Instr.index 226 (.agg #[.int .u32 A,.int .u32 B,.int .u32 I]) (.int .i64 (k:Int))).run prog w= .ok (.int .u32 ([A,B,I].getD k 0)) w:=by
 obtain rfl|rfl|rfl:k=0\/k=1\/k=2:=by omega
 all_goals kernel_rfl
theorem z8h.chg{W w w':World}{B A:Nat}{v:Value}{l:List UInt8}(h:z5e W B v l w)(I:Chg [A] [A] w w')(L:B<=A)(N:∀k,v.ownBlock=some k->k≠A):z5e W B v l w':=
 ⟨j7 h.1 fun k J=>I.block k (h.1.lt k J).2 (by simpa using N k J),h.2.1.trans (I.below h.2.2 (by simpa using L)),Nat.le_trans h.2.2 I.size⟩
theorem y3w{W w:World}{B n:Nat}{v:Value}{l:List UInt8}(h:z5e W B v l w)(I:n<4294967296)(A:l.length<=2000000):
  Calls prog 111 #[v,.int .u32 n] w fun e w'=>∃a c,e= .returned (.slice a (l++be4 n).length c)/\z5e W B (.slice a (l++be4 n).length c) (l++be4 n) w':=by
 refine(q5v v l n B w I h.1 A h.2.2).mono ?_;rintro e w' ⟨g,cap,rfl,L,J,hb⟩;exact⟨_,_,rfl,J,h.2.1.trans hb,Nat.le_trans h.2.2 hb.size⟩
theorem y4R(f:Fr)(a:Option Addr)(c:Nat)(w:World)(hf:f.Ok)(hl:f.b.length<=1000000)(hx:RdB w (.slice a f.b.length c) f.b):
  Calls prog 69 #[frV f (.slice a f.b.length c)] w fun e w'=>∃a c,e= .returned (.slice a (z0E f).length c)/\w'.ownsRow (w.heap.size+1) 5 1 (.slice a (z0E f).length c) (z0E f).length (z0b (z0E f))/\Below w.heap.size w w':=by
 have hA:=z2t.made w f (.slice a f.b.length c);have hX:=z7 (hx.low (q5 w (.cells (j9 f (.slice a f.b.length c)) 51)));have b5:=z7 (q5 w (.cells (j9 f (.slice a f.b.length c)) 51));have aR:(w.alloc (.cells (j9 f (.slice a f.b.length c)) 51)).heap.size=w.heap.size+1:=by simp
 have v1:=z7 (q2h hf);have v2:=z7 (q1C hf);have aJ:=z7 (y6S f);obtain⟨o1,o2,o3,o4,o5,o6,o7,o8,o9,cC⟩:=hf;clear hx;have bA:frV f (.slice a f.b.length c)= .agg #[.int .u8 f.kind,.int .u32 f.epoch,.int .u32 f.series,.int .u32 f.chunk,.int .u32 f.bits,.int .u32 f.cnt,.int .u32 f.count,.bool f.closed,.int .u64 f.sum,.slice a f.b.length c,.int .i64 f.n]:=rfl;rw[bA];clear bA;go_enter func69,ntmps69;go_wp2;have bG:=z7 (rowIs_made (w.alloc (.cells (j9 f (.slice a f.b.length c)) 51)) (w.heap.size+1) [0x44,0x59,UInt8.ofNat f.kind] #[.int .u8 68,.int .u8 89,.int .u8 f.kind] aR.symm (by
  simp only[z0b,List.map_cons,List.map_nil,UInt8.toNat_ofNat',List.toArray];rw[Nat.mod_eq_of_lt o1];rfl) (by simp))
 have R:∃WF,WF=w.alloc (.cells (j9 f (.slice a f.b.length c)) 51):=⟨_,rfl⟩;obtain⟨WF,R⟩:=R;rw[<-R]at bG hX b5 aR;have b1:z2t WF w.heap.size f (.slice a f.b.length c):=by rw[R];exact hA
 have aD:=z7 R;have HA:=z7 b1;clear R hA b1;go_loopw[3,27] (fun v i wr=>∃(k n c':Nat) (ao:Option Addr),k<=6/\i= .int .i64 k/\v= .slice ao n c'/\n<=27/\Hid (n=3+4*k)/\Hid (z5e WF (w.heap.size+1) v ([0x44,0x59,UInt8.ofNat f.kind]++((z4g f).take k).flatMap be4) wr)) (fun _ i _=>6 - (intOf i).toNat)
 case atStart=>exact⟨0,3,3,_,by omega,rfl,rfl,by omega,rfl,by rw[aD.o];have h:=bG;rw[aD.o]at h;exact h⟩
 case round=>
  obtain⟨k,n,c',ao,hk,rfl,rfl,cA,hn,I⟩:=hrel;have aE:z2t wr w.heap.size f (.slice a f.b.length c):=HA.o.same I.o.2.1;by_cases hlt:k<6
  ·have a0:=q5x f.epoch f.series f.chunk f.bits f.cnt f.count k hlt;have a5:(z4g f)[k]'hlt<4294967296:=v1.o _ (List.getElem_mem _);have a3: [f.epoch,f.series,f.chunk,f.bits,f.cnt,f.count].getD k 0=(z4g f)[k]'hlt:=by
    simp only[List.getD,z4g];rw[List.getElem?_eq_getElem hlt];rfl
   rw[a3]at a0;have Y:=z7 (y3m (z4g f) (k:=k) hlt);have A:([0x44,0x59,UInt8.ofNat f.kind]++((z4g f).take k).flatMap be4).length=n:=by
    rw[List.length_append,z7G,List.length_take,hn.o];simp[z4g];omega
   obtain⟨L,hL⟩:=zN ( [0x44,0x59,UInt8.ofNat f.kind]++((z4g f).take k).flatMap be4);rw[<-hL]at I A
   generalize (z4g f)[k]'hlt=m at a0 a5 Y
   have O:Hid (L++be4 m= [0x44,0x59,UInt8.ofNat f.kind]++((z4g f).take (k+1)).flatMap be4):=z7 (by rw[Y.o,<-List.append_assoc,hL]);have i0:(0:Int)<=k:=(by omega);have i1:(k:Int)<6:=(by omega);have B:=z7 A;clear a3 hL A aE;go_wp2_with fail
   with_reducible refine(y3w I.o a5 (by rw[B.o];omega)).mono ?_
   rintro e w2 ⟨a2,c2,rfl,a9⟩;have J:(L++be4 m).length=n+4:=(by rw[List.length_append,B.o,z4v]);obtain⟨n2,bC⟩:=zN ((L++be4 m).length);rw[<-bC]at a9 ⊢;have aM:n2<=27:=(by have:=hn.o;omega);have aN:Hid (n2=3+4*(k+1)):=z7 (by have:=hn.o;omega);rw[O.o]at a9;have N:=z7 a9;clear a9 J bC;go_wp2
   go_roundw
   case rel=>exact⟨k+1,n2,c2,a2,by omega,by go_num,rfl,aM,aN,N⟩
   case measure=>simp[intOf];omega
  ·obtain rfl:k=6:=by omega
   have A:([0x44,0x59,UInt8.ofNat f.kind]++((z4g f).take 6).flatMap be4).length=n:=by
    rw[List.length_append,z7G,List.length_take,hn.o];simp[z4g]
   rw[show(z4g f).take 6=z4g f from rfl]at I A;obtain⟨L,hL⟩:=zN ( [0x44,0x59,UInt8.ofNat f.kind]++(z4g f).flatMap be4);rw[<-hL]at I A;obtain⟨c0,c1,c2,c3,c4,c5,c6,c7,c8,c9,a7⟩:=aE.cells;have HL:=z7 hL;have B:=z7 A;clear hL A aE;go_wp2_with fail
   with_reducible refine(q3T f.closed _).mono ?_
   rintro e w' ⟨rfl,rfl⟩;obtain⟨fl,aI⟩:=zN (y1L f.closed);rw[<-aI];have bJ:=z7 aI;have bH:RdB (wr.alloc (.cells #[.int .u8 (fl.toNat:Nat)] 5)) (.slice (some ⟨wr.heap.size,0,none⟩) 1 1) [fl]:=
    z8T (l:= [fl]) (e:=5) (fr:=(0,0)) (by rw[j8];rfl) (by simp) 1
   have aY:=z7 bH;have N:=z7 (I.o.to (q5 wr (.cells #[.int .u8 (fl.toNat:Nat)] 5)));have a1:=N.o.1;rw[B.o]at a1;have aZ:=z7 a1;clear bH aI a1;have bD:w.heap.size+1<=(wr.alloc (.cells #[.int .u8 (fl.toNat:Nat)] 5)).heap.size:=N.o.lt;go_wp2_with (at_builtin;refine wpList_copy_own rfl (.tmp 34) (.tmp 38) 47 rfl WF (w.heap.size+1) 5 underlying47 z4n (.slice ao n c') L rfl N.o _ [fl] rfl aY.o (by simp[B.o];omega) ?_);intro bO bT w2 aG bY;have b2:z2t w2 w.heap.size f (.slice a f.b.length c):=HA.o.same aG.2.1;obtain⟨c0,c1,c2,c3,c4,c5,c6,c7,c8,c9,a7⟩:=b2.cells;have aV:=z7 aG;have bE:L.length+1<=40:=(by rw[B.o];omega);have b0:Hid (L.length+1=28+4*0):=z7 (by rw[B.o,hn.o]);clear aG bY b2 aZ N aY I bD;go_wp2;obtain⟨L2,O⟩:=zN (L++ [fl]);have aB:L2.length=L.length+1:=(by rw[O];simp);rw[<-O]at aV;have bL:=z7 O;have aS:=z7 aB;clear O aB c0 c1 c2 c3 c4 c5 c6 c7 c8 c9 a7;obtain⟨wo,rfl⟩:∃wo:World,wo=wr:=⟨_,rfl⟩;go_loopw[3,52] (fun v i wr=>∃(k n c':Nat) (ao:Option Addr),k<=3/\i= .int .i64 k/\v= .slice ao n c'/\n<=40/\Hid (n=28+4*k)/\Hid (z5e WF (w.heap.size+1) v (L2++((z4N f).take k).flatMap be4) wr)) (fun _ i _=>3 - (intOf i).toNat)
   case atStart=>exact⟨0,L.length+1,bT,bO,by omega,rfl,rfl,bE,b0,z7 (by simpa using aV.o)⟩
   case round=>
    obtain⟨k,n2,c',bR,hk,rfl,rfl,cB,aL,I⟩:=hrel;by_cases hlt:k<3
    ·have a0:=q5B ((f.sum:Int)/4294967296) ((f.sum:Int)%4294967296) (f.n%4294967296) k hlt;have a5:(z4N f)[k]'hlt<4294967296:=v2.o _ (List.getElem_mem _);have a3: [(f.sum:Int)/4294967296,(f.sum:Int)%4294967296,f.n%4294967296].getD k 0=(((z4N f)[k]'hlt:Nat):Int):=by
      obtain rfl|rfl|rfl:k=0\/k=1\/k=2:=by omega
      all_goals simp[z4N]
      omega
     rw[a3]at a0;have Y:=z7 (y3m (z4N f) (k:=k) hlt);have A:(L2++((z4N f).take k).flatMap be4).length=n2:=by
      rw[List.length_append,z7G,List.length_take,aL.o,aS.o,b0.o];simp[z4N];omega
     obtain⟨M,hM⟩:=zN (L2++((z4N f).take k).flatMap be4);rw[<-hM]at I A
     generalize (z4N f)[k]'hlt=m at a0 a5 Y
     have bV:Hid (M++be4 m=L2++((z4N f).take (k+1)).flatMap be4):=z7 (by rw[Y.o,<-List.append_assoc,hM]);have i0:(0:Int)<=k:=(by omega);have i1:(k:Int)<3:=(by omega);have aT:=z7 A;clear a3 hM A;go_wp2_with fail
     with_reducible refine(y3w I.o a5 (by rw[aT.o];omega)).mono ?_
     rintro e w3 ⟨a4,c4,rfl,aA⟩;have J:(M++be4 m).length=n2+4:=(by rw[List.length_append,aT.o,z4v]);obtain⟨n5,bF⟩:=zN ((M++be4 m).length);rw[<-bF]at aA ⊢;have aM:n5<=40:=(by have:=aL.o;omega);have aN:Hid (n5=28+4*(k+1)):=z7 (by have:=aL.o;omega);rw[bV.o]at aA;have bM:=z7 aA;clear aA J bF;go_wp2
     go_roundw
     case rel=>exact⟨k+1,n5,c4,a4,by omega,by go_num,rfl,aM,aN,bM⟩
     case measure=>simp[intOf];omega
    ·obtain rfl:k=3:=by omega
     have hH:L2++((z4N f).take 3).flatMap be4=z1x f:=by
      rw[bL.o,HL.o,bJ.o,aJ.o,show(z4N f).take 3=z4N f from rfl]
     rw[hH]at I;have b3:z2t wr w.heap.size f (.slice a f.b.length c):=HA.o.same I.o.2.1;obtain⟨c0,c1,c2,c3,c4,c5,c6,c7,c8,c9,a7⟩:=b3.cells;have b6:RdB wr (.slice a f.b.length c) f.b:=hX.o.low (by rw[aR];exact I.o.2.1);have aW:=z7 b6;clear hH b3 b6;go_wp2_with (at_builtin;refine wpList_copy_own rfl (.tmp 59) (.tmp 62) 47 rfl WF (w.heap.size+1) 5 underlying47 z4n (.slice bR n2 c') (z1x f) rfl I.o _ f.b rfl aW.o (by rw[z1Z];omega) ?_);intro bS bU w5 U _;rw[show z1x f++f.b=z2r f from rfl]at U;have bZ:(z2r f).length=40+f.b.length:=(by simp[z2r,z1Z]);have bI:Hid ((z1x f).length+f.b.length=(z2r f).length):=z7 (by simp[z2r]);rw[bI.o]at U ⊢;have b8:(z2r f).length<=1000040:=(by omega);obtain⟨M,hM⟩:=zN (z2r f);rw[<-hM]at U b8 ⊢;have HM:=z7 hM;have a6:=z7 U;clear U hM bI I aW c0 c1 c2 c3 c4 c5 c6 c7 c8 c9 a7 bZ;go_wp2_with fail;refine(z8p w5).mono ?_;rintro e w6 ⟨rfl,hT,b7,bB⟩;have b4:=a6.o.to b7;have aF:=a6.o.lt;have aO:∀k,(Value.slice bS M.length bU).ownBlock=some k->k≠w5.heap.size:=fun k hk=>by have:=(a6.o.1.lt k hk).2;omega
     generalize w5.heap.size=tb at hT bB aF aO
     have HT:=z7 hT;have aC:=z7 b4;have aU:=z7 aO;clear hT b7 b4 a6 aO;go_wp2_with fail;refine(z7m tb false _ M _ _ (HT.o.alloc _) (z3n _ (by simp)) (by omega) (fun w' hc=>z0e ((aC.o.to (q5 _ _)).chg hc aF aU.o).1) (by omega)).mono ?_;rintro e w7 ⟨rfl,bX,b9⟩;have bN:=z7 ((aC.o.to (q5 _ _)).chg b9 aF aU.o);have bW:=z7N M;clear bX b9 aC HT;go_wp2_with fail
     with_reducible refine(y3w bN.o bW (by omega)).mono ?_
     rintro e w8 ⟨a8,c8,rfl,aH⟩;have hW:z0E f=M++be4 (z2J M):=(by rw[HM.o];rfl);rw[<-hW]at aH ⊢;have aX:=z7 aH;clear aH hW;go_wp2;go_ret;exact⟨a8,c8,rfl,aX.o.1,b5.o.trans (aX.o.2.1.mono (by omega))⟩
theorem y9p(f:Fr)(a:Option Addr)(c:Nat)(w:World)(hf:f.Ok)(hl:f.b.length<=1000000)(hx:RdB w (.slice a f.b.length c) f.b)(hm:z1D f=true):
  Calls prog 73 #[frV f (.slice a f.b.length c)] w fun e w'=>∃a c,e= .returned (.tuple #[.slice a (z0E f).length c,.int .u16 0])/\w'.ownsRow w.heap.size 5 1 (.slice a (z0E f).length c) (z0E f).length (z0b (z0E f))/\Below w.heap.size w w':=by
 have U:=z2t.made w f (.slice a f.b.length c);have Y:=z7 (hx.low (q5 w (.cells (j9 f (.slice a f.b.length c)) 51)));have L:=z7 (q5 w (.cells (j9 f (.slice a f.b.length c)) 51));have a1:(w.alloc (.cells (j9 f (.slice a f.b.length c)) 51)).heap.size=w.heap.size+1:=by simp
 have HM:=z7 hm;have O:=z7 hf;have HA:=z7 U;clear hx hm hf U;have B:frV f (.slice a f.b.length c)= .agg #[.int .u8 f.kind,.int .u32 f.epoch,.int .u32 f.series,.int .u32 f.chunk,.int .u32 f.bits,.int .u32 f.cnt,.int .u32 f.count,.bool f.closed,.int .u64 f.sum,.slice a f.b.length c,.int .i64 f.n]:=rfl;have R:=z7 B;rw[B];clear B;go_enter func73,ntmps73;go_wp2_with fail;rw[<-R.o];refine(y3F f a c _ O.o hl Y.o).mono ?_;rintro e w2 ⟨rfl,hb⟩;rw[HM.o];have I:=HA.o.low hb;obtain⟨c0,c1,c2,c3,c4,c5,c6,c7,c8,c9,a0⟩:=I.cells;have N:=z7 (Y.o.low hb);have A:Hid (Below w.heap.size w w2):=z7 (L.o.trans (hb.mono (by omega)));clear hb I;go_wp2_with fail;rw[<-R.o];refine(y4R f a c _ O.o hl N.o).mono ?_;rintro e w3 ⟨a3,c3,rfl,ho,hb⟩;have HO:=z7 (z0c ho (show w.heap.size<=w2.heap.size+1 by have:=A.o.size;omega));have J:=z7 (A.o.trans (hb.mono A.o.size));clear ho hb;go_wp2;go_ret2;exact⟨a3,c3,rfl,HO.o,J.o⟩
theorem y3v(f:Fr)(a:Option Addr)(c:Nat)(w:World)(J:f.Ok)(hl:f.b.length<=1000000)(N:RdB w (.slice a f.b.length c) f.b)(L:z1D f=false):
  Calls prog 73 #[frV f (.slice a f.b.length c)] w fun e w'=>e= .returned (.tuple #[.slice none 0 0,.int .u16 70])/\Below w.heap.size w w':=by
 have Y:=z7 (N.low (q5 w (.cells (j9 f (.slice a f.b.length c)) 51)));have B:=z7 (q5 w (.cells (j9 f (.slice a f.b.length c)) 51));have a0:(w.alloc (.cells (j9 f (.slice a f.b.length c)) 51)).heap.size=w.heap.size+1:=by simp
 have R:=z7 L;have O:=z7 J;clear N L J;have A:frV f (.slice a f.b.length c)= .agg #[.int .u8 f.kind,.int .u32 f.epoch,.int .u32 f.series,.int .u32 f.chunk,.int .u32 f.bits,.int .u32 f.cnt,.int .u32 f.count,.bool f.closed,.int .u64 f.sum,.slice a f.b.length c,.int .i64 f.n]:=rfl;have U:=z7 A;rw[A];clear A;go_enter func73,ntmps73;go_wp2_with fail;rw[<-U.o];refine(y3F f a c _ O.o hl Y.o).mono ?_;rintro e w2 ⟨rfl,hb⟩;rw[R.o];have I:Hid (Below w.heap.size w w2):=z7 (B.o.trans (hb.mono (by omega)));clear hb;go_wp2;go_ret2;exact⟨rfl,I.o⟩
theorem addr_add_add(a:Addr)(i j:Nat):(a.add i).add j=a.add (i+j):=by
 unfold Addr.add;split<;>split<;>split<;>simp_all<;>omega
theorem RdB.drop{w:World}{a:Option Addr}{c:Nat}{l:List UInt8}(h:RdB w (.slice a l.length c) l)(k:Nat)(N:k<l.length)(c':Nat):RdB w (.slice (a.map fun x=>x.add k) (l.length - k) c') (l.drop k):=by
 obtain⟨L,⟨A,O⟩|⟨B,c2,A,I⟩⟩:=h
 ·omega
 ·simp only[Value.slice.injEq,true_and]at A;obtain⟨rfl,rfl⟩:=A;refine⟨by simp[z0b],.inr ⟨B.add k,c',by simp,fun j u J=>?_⟩⟩;rw[addr_add_add];refine I (k+j) u ?_;simpa[z0b]using J
theorem RdB.take{w:World}{a:Option Addr}{c:Nat}{l:List UInt8}(h:RdB w (.slice a l.length c) l)(k:Nat)(O:k<=l.length)(L:0<l.length):RdB w (.slice a k c) (l.take k):=by
 obtain⟨N,⟨B,R⟩|⟨I,c2,B,J⟩⟩:=h
 ·omega
 ·simp only[Value.slice.injEq,true_and]at B;obtain⟨rfl,rfl⟩:=B;have e:(l.take k).length=k:=by simp;omega
  show Rd _ _ 1 (l.take k).length _;rw[e];refine⟨by simp[z0b];omega,.inr ⟨I,c,rfl,fun j u A=>J j u ?_⟩⟩;simp only[z0b,List.map_take,List.getElem?_take]at A ⊢;split at A
  ·exact A
  ·cases A
theorem y8f(q p:Nat)(N:q≠p)(a:Option Addr)(c k:Nat)(l:List UInt8)(w:World)(A:RdB (w.setCell ⟨q,0,none⟩ (.int .i64 ((k:Int)+4))) (.slice a l.length c) l)(U:l.length<=4096)(O:l.length<=c)(J:c<=9223372036854775807)(R:k+4<=l.length)
  (hq:w.cell? ⟨q,0,none⟩=some (.int .i64 k)) (L:w.frozen? ⟨q,0,none⟩=false) (Y:w.cell? ⟨p,0,none⟩=some (.slice a l.length c)):
  Calls prog 65 #[.pointer (some ⟨q,0,none⟩),.pointer (some ⟨p,0,none⟩)] w fun e w'=>e= .returned (.int .u32 (unB ((l.drop k).take 4):Nat))/\w'=w.setCell ⟨q,0,none⟩ (.int .i64 ((k:Int)+4)):=by
 have hd:=A.drop k (by omega) (c - k);have e:l.length - k=(l.drop k).length:=by simp
 rw[e]at hd;have B:=z7 hd;have I:=z7 e;clear A hd e;go_enter func65,ntmps65;go_wp2_with fail;rw[I.o];refine(y7E _ (c - k) (l.drop k) _ B.o (by simp;omega) (by simp;omega) (by omega)).mono ?_;rintro e w' ⟨rfl,rfl⟩;go_wp2;go_ret;exact⟨rfl,rfl⟩
theorem y4q(B:Addr)(l:List UInt8)(c:Nat)(w:World)(L:RdB w (.slice (some B) l.length c) l)(hl:l.length<=70368744177664):
  Calls prog 66 #[.slice (some B) l.length c] w fun e w'=>∃a c,e= .returned (.slice a l.length c)/\w'.ownsRow w.heap.size 5 1 (.slice a l.length c) l.length (z0b l)/\Below w.heap.size w w':=by
 have hn:=fun(w:World)=>Lib.run_eql_slice_nil (P:=prog) w 47 5 (some B) l.length c 0 0 underlying47;have A:RdB (w.alloc (.cells #[] 5)) (.slice (some B) l.length c) l:=L.low (q5 _ _);have R:=z7 A;clear L A;go_enter func66,ntmps66;go_wp2_with (at_builtin;refine z5A rfl (.tmp 5) (.tmp 6) 47 rfl w.heap.size 5 underlying47 z4n _ [] rfl (World.ownsRow_made w #[] 0 (Nat.le_refl _) (by decide) rfl) _ l rfl R.o (by simp;omega) (by simp) ?_);intro U Y w2 I J _;have hb:Below w.heap.size w w2:=((Below.refl _ _).alloc (Nat.le_refl _) _).grown J (by simp) (by simp[Value.ownBlock]);have O:=z7 I;have N:=z7 hb;clear I J hb;go_wp2;go_ret;exact⟨U,Y,rfl,O.o,N.o⟩
theorem y5K(x y:Value)(l m:List UInt8)(w:World)(A:RdB w x l)(B:RdB w y m):
  Calls prog 68 #[x,y] w fun e w'=>e= .returned (.bool (l==m))/\w=w':=by
 have U:=z6M l _ _ A;have Y:=z6M m _ _ B;have L:=z9i l;have N:=z9i m;have I:=A.oneCell;have J:=B.oneCell;obtain⟨O,c1,rfl⟩:=A.head;obtain⟨R,c2,rfl⟩:=B.head;clear A B I J;go_enter func68,ntmps68;go_wp2;go_ret;exact⟨z0V (by first|rfl|simp[L,N]),rfl⟩
theorem z6n(a:Option Addr)(len c:Nat)(n:Int)(w:World)(A:len<=9223372036854775807):
  Calls prog 59 #[.agg #[.slice a len c,.int .i64 n]] w fun e w'=>e= .returned (.bool (decide (n=0)&&decide (len=0)))/\Below w.heap.size w w':=by
 go_enter func59,ntmps59;go_wp2;all_goals go_ret
 all_goals refine⟨z0V ?_,q5 _ _⟩
 all_goals rw[Bool.eq_iff_iff];simp[*]
theorem y0d(w:World)(cs:Array Value)(e:TypeId)(j:Nat):(w.alloc (.cells cs e)).cell? ⟨w.heap.size,j,none⟩=cs[j]? :=cell_of_row (w.alloc (.cells cs e)) w.heap.size j cs e (0,0) (j8 w _)
def z6z(b:List UInt8)(i:Nat):Nat:=(b.getD (i/8) 0).toNat/2^(7 - i%8)%2
theorem q3W(a:Option Addr)(c:Nat)(b:List UInt8)(n:Int)(i:Nat)(w:World)(hx:RdB w (.slice a b.length c) b)(hl:b.length<=1000000)(J:i/8<b.length):
  Calls prog 107 #[.agg #[.slice a b.length c,.int .i64 n],.int .i64 i] w fun e w'=>e= .returned (.int .u8 (z6z b i:Nat))/\Below w.heap.size w w':=by
 obtain⟨N,B,c0,U,R,I⟩:=hx.at J;simp only[Value.slice.injEq,true_and]at U;obtain⟨rfl,rfl⟩:=U;have Y:b[i/8]=b.getD (i/8) 0:=by simp[List.getD,List.getElem?_eq_getElem J]
 have A:=((q5 w (.cells #[.slice (some ⟨N,B,none⟩) b.length c,.int .i64 n] 49)).cell (p:=⟨N,B+i/8,none⟩) I).trans R;rw[Y]at A;have L:Hid (z6z b i=(b.getD (i/8) 0).toNat/2^(7 - i%8)%2):=z7 rfl
 generalize b.getD (i/8) 0=y at A L
 have hy:=y.toNat_lt;have i0:0<=(i:Int)/8:=by omega
 have i1:(i:Int)/8<b.length:=by omega
 have i2:0<=(i:Int)%8:=by omega
 have i3:(i:Int)%8<=7:=by omega
 have i4:(i:Int)<=8000000:=by omega
 clear hx R Y J;go_enter func107,ntmps107;go_wp2;go_ret;refine⟨y8s ?_,q5 _ _⟩;have e:((y.toNat:Int)/2^(7 - i%8))=((y.toNat/2^(7 - i%8):Nat):Int):=by simp
 rw[e,L.o];have h1:y.toNat/2^(7 - i%8)<=y.toNat:=Nat.div_le_self _ _;have O:=u8_and_nat (y.toNat/2^(7 - i%8)) 1 (by omega) (by omega);rw[Nat.and_one_is_mod]at O;exact O
theorem q1R(b:List UInt8)(i:Nat):z6z b i<2:=Nat.mod_lt _ (by decide)
def y2s(b:List UInt8)(n:Nat):Bool:=(List.range (8*b.length)).all fun i=>decide (i<n) || decide (z6z b i=0)
theorem z6A{b:List UInt8}{n:Nat}(h:∀j,n<=j->j<8*b.length->z6z b j=0):y2s b n=true:=by
 unfold y2s;rw[List.all_eq_true];intro j A;rw[List.mem_range]at A;by_cases e:j<n
 ·simp[e]
 ·simp[h j (by omega) A]
theorem y0i{b:List UInt8}{n j:Nat}(B:n<=j)(A:j<8*b.length)(I:z6z b j≠0):y2s b n=false:=by
 unfold y2s;rw[Bool.eq_false_iff];intro h;have:=List.all_eq_true.1 h j (List.mem_range.2 A);simp at this;omega
theorem y9K:∀(y:Fin 256) (r:Fin 8),(y.val&&&(255>>>r.val)=0)↔∀j:Fin 8,r<=j->y.val/2^(7 - j.val)%2=0:=by decide+kernel
theorem y7f(b:List UInt8)(k:Nat)(h:(b.length:Int)=(k:Int)/8+min ((k:Int)%8) 1):z1Q b k=y2s b k:=by
 unfold z1Q;rw[decide_eq_true h,decide_eq_true (by omega:(0:Int)<=k)];simp only[Bool.true_and];by_cases hk:k%8=0
 ·rw[decide_eq_true (by omega:(k:Int)%8=0),z6A fun j J L=>by omega];rfl
 ·rw[decide_eq_false (by omega:¬(k:Int)%8=0),Bool.false_or];have e:((k:Int)%8).toNat=k%8:=by omega
  rw[e];have I:=y9K ⟨(b.getD (b.length - 1) 0).toNat,(b.getD (b.length - 1) 0).toNat_lt⟩ ⟨k%8,by omega⟩;simp only at I;by_cases hz:(b.getD (b.length - 1) 0).toNat&&&255>>>(k%8)=0
  ·rw[decide_eq_true hz];refine(z6A fun j J L=>?_).symm;have N:=I.1 hz ⟨j%8,by omega⟩ (by show k%8<=j%8;omega);unfold z6z;rw[show j/8=b.length - 1 by omega];exact N
  ·rw[decide_eq_false hz];have O:¬∀j:Fin 8,(⟨k%8,by omega⟩:Fin 8)<=j->(b.getD (b.length - 1) 0).toNat/2^(7 - j.val)%2=0:=fun h=>hz (I.2 h);obtain⟨j,R⟩:=Classical.not_forall.1 O;obtain⟨A,B⟩:=Classical.not_imp.1 R;have U:k%8<=j.val:=A;have Y:=j.isLt;refine(y0i (j:=8*(b.length - 1)+j.val) (by omega) (by omega) ?_).symm;unfold z6z;rw[show(8*(b.length - 1)+j.val)/8=b.length - 1 by omega,show(8*(b.length - 1)+j.val)%8=j.val by omega];exact B
theorem q1j(a:Option Addr)(c m:Nat)(b:List UInt8)(n:Int)(i:Nat)(w:World)(I:m=b.length)(J:RdB w (.slice a m c) b)(B:m<=1000000)(A:i/8<m):
  Calls prog 107 #[.agg #[.slice a m c,.int .i64 n],.int .i64 i] w fun e w'=>e= .returned (.int .u8 (z6z b i:Nat))/\Below w.heap.size w w':=by
 subst I;exact q3W a c b n i w J B A
theorem y2u(a:Option Addr)(c:Nat)(b:List UInt8)(n:Int)(w:World)(hx:RdB w (.slice a b.length c) b)(hl:b.length<=1000000)(h0: -9223372036854775808<=n)(R:n<=9223372036854775807):
  Calls prog 60 #[.agg #[.slice a b.length c,.int .i64 n]] w fun e w'=>e= .returned (.bool (z1Q b n))/\Below w.heap.size w w':=by
 obtain⟨len,J⟩:=zN b.length;have HX:=z7 hx;clear hx;have L:=z7 J;rw[<-J]at HX hl ⊢;clear J;by_cases hok:0<=n/\(len:Int)=n/8+min (n%8) 1
 case neg=>
  have U:Hid (z1Q b n=false):=z7 (by
   unfold z1Q;rw[<-L.o];by_cases h:0<=n
   ·rw[decide_eq_true h,decide_eq_false (fun h2=>hok ⟨h,h2⟩)];rfl
   ·rw[decide_eq_false h];rfl)
  have HO:=z7 hok;clear hok;by_cases hz:len=0
  ·have z1:((len:Int) !=0)=false:=(by simp[hz]);have HZ:=z7 hz;clear hz;go_enter func60,ntmps60;go_wp2;all_goals first|(exfalso;have:=HO.o;have:=HZ.o;omega)|(go_ret;exact⟨z0V U.o.symm,q5 _ _⟩)
  ·have z1:((len:Int) !=0)=true:=(by simp;omega);have HZ:=z7 hz;clear hz;go_enter func60,ntmps60;go_wp2;all_goals first|(exfalso;have:=HO.o;have:=HZ.o;omega)|(go_ret;exact⟨z0V U.o.symm,q5 _ _⟩)
 obtain⟨aE,N⟩:=hok;obtain⟨B,rfl⟩:∃B:Nat,n=(B:Int):=⟨n.toNat,by omega⟩;have g1:((B:Int)<0)=False:=by simp
 have i0:(B:Int)<=8*(len:Int):=by omega
 have i1:(len:Int)=0\/8*((len:Int) - 1)<B:=by omega
 have U:Hid (z1Q b B=y2s b B):=z7 (y7f b B (by rw[<-L.o];exact N));have HE:=z7 N;have A:∃I,I=w.alloc (.cells #[.slice a len c,.int .i64 B] 49):=⟨_,rfl⟩;obtain⟨I,A⟩:=A;have c0:I.cell? ⟨w.heap.size,0,none⟩=some (.slice a len c):=by rw[A,y0d];rfl
 have c1:I.cell? ⟨w.heap.size,1,none⟩=some (.int .i64 B):=by rw[A,y0d];rfl
 have a4:w.heap.size<I.heap.size:=by rw[A];simp
 have a2:RdB I (.slice a len c) b:=by
  have h:=HX.o;rw[L.o]at h ⊢;rw[A];exact RdB.low h (q5 _ _)
 have a1:Below w.heap.size w I:=by rw[A];exact q5 _ _
 have a8:=z7 a2;have Y:=z7 a1;have a7:=z7 A;have C0:=z7 c0;have C1:=z7 c1;have hj:Hid (∀wr,Below I.heap.size I wr->Below w.heap.size w wr):=z7 fun wr h=>Y.o.trans (h.mono Y.o.size);clear A a2 a1 c0 c1 N;go_enter func60,ntmps60;by_cases hz:len=0
 ·have z1:((len:Int) !=0)=false:=by simp[hz]
  have HZ:=z7 hz;have O:Hid (z1Q b (B:Int)=true):=z7 (by
   rw[U.o];exact z6A fun j R h2=>by have:=L.o;omega)
  have hk:B=0:=by omega
  subst hk;subst hz;go_wp2;refine wp_loop_rounds 1 ?_;rw[rounds_succ];go_wp2;go_ret;exact⟨z0V O.o.symm,q5 _ _⟩
 ·have z1:((len:Int) !=0)=true:=by simp;omega
  have i2:8*((len:Int) - 1)<B:=by omega
  clear i1;go_wp2;rw[<-a7.o];go_loopw[3] (fun i wr=>∃k:Nat,B<=k/\k<=8*len/\i= .int .i64 k/\Hid (∀j,B<=j->j<k->z6z b j=0)/\Hid (Below I.heap.size I wr)) (fun i _=>8*len - (intOf i).toNat)
  case atStart=>exact⟨B,Nat.le_refl _,by omega,rfl,z7 (fun j R h2=>by omega),z7 (Below.refl _ _)⟩
  case round=>
   obtain⟨k,aA,aC,rfl,a5,hb⟩:=hrel;have d0:=(hb.o.cell (p:=⟨w.heap.size,0,none⟩) a4).trans C0.o;have d1:=(hb.o.cell (p:=⟨w.heap.size,1,none⟩) a4).trans C1.o;have a9:=hb.o.size;by_cases hlt:k<8*len
   ·go_wp2_with fail;refine(q1j a c len b B k wr L.o (a8.o.low hb.o) (by omega) (by omega)).mono ?_;rintro e w2 ⟨rfl,a3⟩;have a0:=z7 (hb.o.trans (a3.mono a9));have aB:=q1R b k;clear a3 d0 d1;by_cases hbit:z6z b k=0
    ·have e0:((z6z b k:Int)==1)=false:=(by simp[hbit]);have a6:=z7 hbit;clear hbit;go_wp2
     go_roundw
     case rel=>exact⟨k+1,by omega,by omega,by go_num,z7 (fun j R h2=>by
      by_cases e:j=k
      ·rw[e];exact a6.o
      ·exact a5.o j R (by omega)),a0⟩
     case measure=>simp[intOf];omega
    ·have e0:((z6z b k:Int)==1)=true:=(by rw[beq_iff_eq];omega);have hf:Hid (z1Q b (B:Int)=false):=z7 (by rw[U.o];exact y0i aA (by have:=L.o;omega) hbit);clear hbit;go_wp2;go_ret;exact⟨z0V hf.o.symm,hj.o _ a0.o⟩
   ·obtain rfl:k=8*len:=by omega
    have O:Hid (z1Q b (B:Int)=true):=z7 (by
     rw[U.o];exact z6A fun j R h2=>a5.o j R (by have:=L.o;omega))
    go_wp2;go_ret;exact⟨z0V O.o.symm,hj.o _ hb.o⟩
theorem q1T(f:Fr)(a:Option Addr)(c:Nat)(w:World)(hf:f.Ok)(hl:f.b.length<=1000000)(U:RdB w (.slice a f.b.length c) f.b)(N:f.kind=1):
  Calls prog 26 #[frV f (.slice a f.b.length c)] w fun e w'=>e= .returned (.bool (z1D f))/\Below w.heap.size w w':=by
 have hm:Hid (z1D f=(z4r f&&(decide (f.series=0)&&(decide (f.chunk=0/\f.bits=0/\f.cnt=0)&&(decide (f.count=0)&&(!f.closed&&decide (f.sum=0))))))):=z7 (by unfold z1D;rw[if_pos N]);have k1:((f.kind:Int)==1)=true:=by simp[N]
 clear N;have O:=z2t.made w f (.slice a f.b.length c);have R:=z7 (U.low (q5 w (.cells (j9 f (.slice a f.b.length c)) 51)));obtain⟨kind,epoch,series,chunk,J,cnt,count,closed,sum,b,n⟩:=f;obtain⟨o1,o2,o3,o4,o5,o6,o7,o8,o9,a2⟩:=hf;simp only at*;have I:=z7 O;unfold frV j9;unfold j9 at I R;clear O U;go_enter func26,ntmps26;go_wp2_with fail;refine(z6n a b.length c n _ (by omega)).mono ?_;rintro e w2 ⟨rfl,hb⟩;have A:=I.o.low hb;obtain⟨c0,c1,c2,c3,c4,c5,c6,c7,c8,c9,a1⟩:=A.cells;have L:Hid (Below w.heap.size w w2):=z7 ((q5 w _).trans (hb.mono (by simp)));have Y:=z7 A;have a0:=z7 (R.o.low hb);obtain⟨nb,B⟩:=zN ((decide (n=0)&&decide (b.length=0)));rw[<-B];have HN:=z7 B;clear hb A I B;go_wp2;all_goals go_ret
 all_goals refine⟨z0V ?_,L.o⟩
 all_goals rw[hm.o]
 all_goals try unfold z4r
 all_goals try simp only
 all_goals try rw[<-HN.o]
 all_goals try simp[*]
 all_goals try (rw[Bool.eq_iff_iff];simp)
theorem q2N(f:Fr)(a:Option Addr)(c:Nat)(w:World)(hf:f.Ok)(hl:f.b.length<=1000000)(U:RdB w (.slice a f.b.length c) f.b)(I:f.kind=4):
  Calls prog 26 #[frV f (.slice a f.b.length c)] w fun e w'=>e= .returned (.bool (z1D f))/\Below w.heap.size w w':=by
 have hm:Hid (z1D f=(z4r f&&(decide (f.count=0)&&!f.closed))):=z7 (by unfold z1D;rw[if_neg (by omega),if_pos (.inl I)]);have k1:((f.kind:Int)==1)=false:=by simp[I]
 have k4:((f.kind:Int)==4)=true:=by simp[I]
 clear I;have O:=z2t.made w f (.slice a f.b.length c);have R:=z7 (U.low (q5 w (.cells (j9 f (.slice a f.b.length c)) 51)));obtain⟨kind,epoch,series,chunk,L,cnt,count,closed,sum,b,n⟩:=f;obtain⟨o1,o2,o3,o4,o5,o6,o7,o8,o9,a2⟩:=hf;simp only at*;have J:=z7 O;unfold frV j9;unfold j9 at J R;clear O U;go_enter func26,ntmps26;go_wp2_with fail;refine(z6n a b.length c n _ (by omega)).mono ?_;rintro e w2 ⟨rfl,hb⟩;have A:=J.o.low hb;obtain⟨c0,c1,c2,c3,c4,c5,c6,c7,c8,c9,a1⟩:=A.cells;have N:Hid (Below w.heap.size w w2):=z7 ((q5 w _).trans (hb.mono (by simp)));have Y:=z7 A;have a0:=z7 (R.o.low hb);obtain⟨nb,B⟩:=zN ((decide (n=0)&&decide (b.length=0)));rw[<-B];have HN:=z7 B;clear hb A J B;go_wp2;all_goals go_ret
 all_goals refine⟨z0V ?_,N.o⟩
 all_goals rw[hm.o]
 all_goals try unfold z4r
 all_goals try simp only
 all_goals try rw[<-HN.o]
 all_goals try simp[*]
 all_goals try (rw[Bool.eq_iff_iff];simp)
theorem q2w(f:Fr)(a:Option Addr)(c:Nat)(w:World)(hf:f.Ok)(hl:f.b.length<=1000000)(U:RdB w (.slice a f.b.length c) f.b)(I:f.kind=5):
  Calls prog 26 #[frV f (.slice a f.b.length c)] w fun e w'=>e= .returned (.bool (z1D f))/\Below w.heap.size w w':=by
 have hm:Hid (z1D f=(z4r f&&(decide (f.count=0)&&!f.closed))):=z7 (by unfold z1D;rw[if_neg (by omega),if_pos (.inr I)]);have k1:((f.kind:Int)==1)=false:=by simp[I]
 have k4:((f.kind:Int)==4)=false:=by simp[I]
 have k5:((f.kind:Int)==5)=true:=by simp[I]
 clear I;have O:=z2t.made w f (.slice a f.b.length c);have R:=z7 (U.low (q5 w (.cells (j9 f (.slice a f.b.length c)) 51)));obtain⟨kind,epoch,series,chunk,L,cnt,count,closed,sum,b,n⟩:=f;obtain⟨o1,o2,o3,o4,o5,o6,o7,o8,o9,a2⟩:=hf;simp only at*;have J:=z7 O;unfold frV j9;unfold j9 at J R;clear O U;go_enter func26,ntmps26;go_wp2_with fail;refine(z6n a b.length c n _ (by omega)).mono ?_;rintro e w2 ⟨rfl,hb⟩;have A:=J.o.low hb;obtain⟨c0,c1,c2,c3,c4,c5,c6,c7,c8,c9,a1⟩:=A.cells;have N:Hid (Below w.heap.size w w2):=z7 ((q5 w _).trans (hb.mono (by simp)));have Y:=z7 A;have a0:=z7 (R.o.low hb);obtain⟨nb,B⟩:=zN ((decide (n=0)&&decide (b.length=0)));rw[<-B];have HN:=z7 B;clear hb A J B;go_wp2;all_goals go_ret
 all_goals refine⟨z0V ?_,N.o⟩
 all_goals rw[hm.o]
 all_goals try unfold z4r
 all_goals try simp only
 all_goals try rw[<-HN.o]
 all_goals try simp[*]
 all_goals try (rw[Bool.eq_iff_iff];simp)
theorem q0Z(f:Fr)(a:Option Addr)(c:Nat)(w:World)(hf:f.Ok)(hl:f.b.length<=1000000)(hx:RdB w (.slice a f.b.length c) f.b)(I:f.kind=2):
  Calls prog 26 #[frV f (.slice a f.b.length c)] w fun e w'=>e= .returned (.bool (z1D f))/\Below w.heap.size w w':=by
 have hm:Hid (z1D f=z4t f):=z7 (by unfold z1D;rw[if_neg (by omega),if_neg (by omega),if_neg (by omega),if_pos I]);have k1:((f.kind:Int)==1)=false:=by simp[I]
 have k4:((f.kind:Int)==4)=false:=by simp[I]
 have k5:((f.kind:Int)==5)=false:=by simp[I]
 have k3:((f.kind:Int)==3)=false:=by simp[I]
 have k2:((f.kind:Int)==2)=true:=by simp[I]
 clear I;have hA:=z2t.made w f (.slice a f.b.length c);have hX:=z7 (hx.low (q5 w (.cells (j9 f (.slice a f.b.length c)) 51)));obtain⟨kind,epoch,series,chunk,a0,cnt,count,closed,sum,b,n⟩:=f;obtain⟨o1,o2,o3,o4,o5,o6,o7,o8,o9,a1⟩:=hf;simp only at*;have Y:=z7 hA;unfold frV j9;unfold j9 at Y hX;clear hA hx;go_enter func26,ntmps26;go_wp2_with fail;refine(z6n a b.length c n _ (by omega)).mono ?_;rintro e w2 ⟨rfl,hb⟩;have A:=Y.o.low hb;obtain⟨c0,c1,c2,c3,c4,c5,c6,c7,c8,c9,R⟩:=A.cells;have B:Hid (Below w.heap.size w w2):=z7 ((q5 w _).trans (hb.mono (by simp)));have N:=z7 A;have O:=z7 (hX.o.low hb);obtain⟨nb,J⟩:=zN ((decide (n=0)&&decide (b.length=0)));rw[<-J];have HN:=z7 J;clear hb A Y J;go_wp2_with fail;refine(y2u a c b n _ O.o (by omega) o9 a1).mono ?_;rintro e w3 ⟨rfl,hb⟩;clear c0 c1 c2 c3 c4 c5 c6 c7 c8 c9 R;have A:=N.o.low hb;obtain⟨c0,c1,c2,c3,c4,c5,c6,c7,c8,c9,R⟩:=A.cells;have U:Hid (Below w.heap.size w w3):=z7 (B.o.trans (hb.mono B.o.size));obtain⟨sb,L⟩:=zN (z1Q b n);rw[<-L];have HS:=z7 L;clear hb A L N O hX B;go_wp2;all_goals go_ret
 all_goals refine⟨z0V ?_,U.o⟩
 all_goals rw[hm.o]
 all_goals unfold z4t
 all_goals try simp only
 all_goals try rw[<-HS.o]
 all_goals try simp[*]
 all_goals try (rw[Bool.eq_iff_iff];simp;omega)
 all_goals try (intros;omega)
theorem q2Y(f:Fr)(a:Option Addr)(c:Nat)(w:World)(hf:f.Ok)(hl:f.b.length<=1000000)(hx:RdB w (.slice a f.b.length c) f.b)(I:f.kind=3):
  Calls prog 26 #[frV f (.slice a f.b.length c)] w fun e w'=>e= .returned (.bool (z1D f))/\Below w.heap.size w w':=by
 have hm:Hid (z1D f=(decide (f.bits=0/\f.cnt=0/\f.sum=0)&&z4t f)):=z7 (by unfold z1D;rw[if_neg (by omega),if_neg (by omega),if_pos I]);have k1:((f.kind:Int)==1)=false:=by simp[I]
 have k4:((f.kind:Int)==4)=false:=by simp[I]
 have k5:((f.kind:Int)==5)=false:=by simp[I]
 have k2:((f.kind:Int)==2)=false:=by simp[I]
 have k3:((f.kind:Int)==3)=true:=by simp[I]
 clear I;have hA:=z2t.made w f (.slice a f.b.length c);have hX:=z7 (hx.low (q5 w (.cells (j9 f (.slice a f.b.length c)) 51)));obtain⟨kind,epoch,series,chunk,a0,cnt,count,closed,sum,b,n⟩:=f;obtain⟨o1,o2,o3,o4,o5,o6,o7,o8,o9,a1⟩:=hf;simp only at*;have Y:=z7 hA;unfold frV j9;unfold j9 at Y hX;clear hA hx;go_enter func26,ntmps26;go_wp2_with fail;refine(z6n a b.length c n _ (by omega)).mono ?_;rintro e w2 ⟨rfl,hb⟩;have A:=Y.o.low hb;obtain⟨c0,c1,c2,c3,c4,c5,c6,c7,c8,c9,R⟩:=A.cells;have B:Hid (Below w.heap.size w w2):=z7 ((q5 w _).trans (hb.mono (by simp)));have N:=z7 A;have O:=z7 (hX.o.low hb);obtain⟨nb,J⟩:=zN ((decide (n=0)&&decide (b.length=0)));rw[<-J];have HN:=z7 J;clear hb A Y J;go_wp2_with fail;refine(y2u a c b n _ O.o (by omega) o9 a1).mono ?_;rintro e w3 ⟨rfl,hb⟩;clear c0 c1 c2 c3 c4 c5 c6 c7 c8 c9 R;have A:=N.o.low hb;obtain⟨c0,c1,c2,c3,c4,c5,c6,c7,c8,c9,R⟩:=A.cells;have U:Hid (Below w.heap.size w w3):=z7 (B.o.trans (hb.mono B.o.size));obtain⟨sb,L⟩:=zN (z1Q b n);rw[<-L];have HS:=z7 L;clear hb A L N O hX B;go_wp2;all_goals go_ret
 all_goals refine⟨z0V ?_,U.o⟩
 all_goals rw[hm.o]
 all_goals unfold z4t
 all_goals try simp only
 all_goals try rw[<-HS.o]
 all_goals try simp[*]
 all_goals try (rw[Bool.eq_iff_iff];simp;omega)
 all_goals try (intros;omega)
theorem q2i(f:Fr)(a:Option Addr)(c:Nat)(w:World)(hf:f.Ok)(hl:f.b.length<=1000000)(R:RdB w (.slice a f.b.length c) f.b)(hk:f.kind≠1/\f.kind≠2/\f.kind≠3/\f.kind≠4/\f.kind≠5):
  Calls prog 26 #[frV f (.slice a f.b.length c)] w fun e w'=>e= .returned (.bool (z1D f))/\Below w.heap.size w w':=by
 have hm:Hid (z1D f=false):=z7 (by unfold z1D;rw[if_neg (by omega),if_neg (by omega),if_neg (by omega),if_neg (by omega)]);have k1:((f.kind:Int)==1)=false:=by rw[beq_eq_false_iff_ne];omega
 have k4:((f.kind:Int)==4)=false:=by rw[beq_eq_false_iff_ne];omega
 have k5:((f.kind:Int)==5)=false:=by rw[beq_eq_false_iff_ne];omega
 have k3:((f.kind:Int)==3)=false:=by rw[beq_eq_false_iff_ne];omega
 have k2:((f.kind:Int)==2)=false:=by rw[beq_eq_false_iff_ne];omega
 clear hk;have N:=z2t.made w f (.slice a f.b.length c);have O:=z7 (R.low (q5 w (.cells (j9 f (.slice a f.b.length c)) 51)));obtain⟨kind,epoch,series,chunk,J,cnt,count,closed,sum,b,n⟩:=f;obtain⟨o1,o2,o3,o4,o5,o6,o7,o8,o9,a1⟩:=hf;simp only at*;have I:=z7 N;unfold frV j9;unfold j9 at I O;clear N R;go_enter func26,ntmps26;go_wp2_with fail;refine(z6n a b.length c n _ (by omega)).mono ?_;rintro e w2 ⟨rfl,hb⟩;have A:=I.o.low hb;obtain⟨c0,c1,c2,c3,c4,c5,c6,c7,c8,c9,a0⟩:=A.cells;have L:Hid (Below w.heap.size w w2):=z7 ((q5 w _).trans (hb.mono (by simp)));have U:=z7 A;have Y:=z7 (O.o.low hb);obtain⟨nb,B⟩:=zN ((decide (n=0)&&decide (b.length=0)));rw[<-B];have HN:=z7 B;clear hb A I B;go_wp2;go_ret;exact⟨z0V hm.o.symm,L.o⟩
theorem q3B(f:Fr)(a:Option Addr)(c:Nat)(w:World)(A:f.Ok)(B:f.b.length<=1000000)(I:RdB w (.slice a f.b.length c) f.b):
  Calls prog 26 #[frV f (.slice a f.b.length c)] w fun e w'=>e= .returned (.bool (z1D f))/\Below w.heap.size w w':=by
 by_cases h1:f.kind=1
 ·exact q1T f a c w A B I h1
 by_cases h2:f.kind=2
 ·exact q0Z f a c w A B I h2
 by_cases h3:f.kind=3
 ·exact q2Y f a c w A B I h3
 by_cases h4:f.kind=4
 ·exact q2N f a c w A B I h4
 by_cases h5:f.kind=5
 ·exact q2w f a c w A B I h5
 exact q2i f a c w A B I ⟨h1,h2,h3,h4,h5⟩
def z0W:Fr:=⟨0,0,0,0,0,0,0,false,0, [],0⟩
def num(b:List UInt8)(k:Nat):Nat:=unB ((b.drop k).take 4)
def fieldsB(b:List UInt8):Fr:=
 {kind:=(b.getD 2 0).toNat,epoch:=num b 3,series:=num b 7,chunk:=num b 11,bits:=num b 15,cnt:=num b 19,count:=num b 23,closed:=(b.getD 27 0).toNat==1,
  sum:=num b 28*4294967296+num b 32,b:=(b.take (b.length - 4)).drop 40,n:=num b 36}
def y3I(b:List UInt8):Bool:=z1D (fieldsB b)&&(z0E (fieldsB b)==b)
def goF(b:List UInt8):Fr:=if y3I b then fieldsB b else z0W
def goE(b:List UInt8):Int:=if y3I b then 0 else 70
theorem z2t.store{w:World}{r:Nat}{A:Fr}{x0:Value}(h:z2t w r A x0)(f:Fr)(x:Value):z2t (w.setCells r 0 (j9 f x).toList) r f x:=by
 unfold z2t at h ⊢;rw[z0Q _ 0 _ _ h (by simp[j9])];simp[laid,j9]
theorem z5L(tmps:Array Value)(r:Nat)(B:Int)(f:Fr)(x:Value)(W:World)(I:tmps.getD 2 undef= .pointer (some ⟨r,0,none⟩))(J:tmps.getD 3 undef= .int .u16 B)(Y:z2t W r f x):
  (results Tryz.f29 tmps).run prog W= .ok (.tuple #[frV f x,.int .u16 B]) W:=by
 obtain⟨c0,c1,c2,c3,c4,L,N,O,R,U,A⟩:=Y.cells;simp only[Array.getD_eq_getD_getElem?]at I J;simp[results,Tryz.results29,go_sem,I,J,c0,c1,c2,c3,c4,L,N,O,R,U,A,frV,j9]
theorem z3T{B r o:Nat}{w w':World}(h:Below B w w')(I:B<=w'.heap.size)(J:B<=r)(A:List Value):Below B w (w'.setCells r o A):=
 h.trans ((Chg.setCells (b:=r) A o w').below I (by simpa using J))
def Told(w:World)(f:Fr)(en:Int)(e:Ending)(w':World):Prop:=
 ∃a c,e= .returned (.tuple #[frV f (.slice a f.b.length c),.int .u16 en])/\RdB w' (.slice a f.b.length c) f.b/\Below w.heap.size w w'/\∀k,(Value.slice a f.b.length c).ownBlock=some k->w.heap.size<=k
theorem y2m(a:Option Addr)(c:Nat)(b:List UInt8)(w:World)(L:b.length<=9223372036854775807)(J:b.length<44\/4096<b.length):
  Calls prog 29 #[.slice a b.length c] w (Told w z0W 70):=by
 have A:∀w',Below w.heap.size w w'->Told w z0W 70 (.returned (.tuple #[.agg #[.int .u8 0,.int .u32 0,.int .u32 0,.int .u32 0,.int .u32 0,.int .u32 0,.int .u32 0,.bool false,.int .u64 0,.slice none 0 0,.int .i64 0],.int .u16 70])) w':=
  fun w' h=>⟨none,0,rfl,RdB.nil w',h,fun k I=>by cases I⟩
 have B:=z7 A;clear A;by_cases h1:b.length<44
 ·go_enter func29,ntmps29;go_wp2;refine bodyPost_ret (v:= .tuple #[.agg #[.int .u8 0,.int .u32 0,.int .u32 0,.int .u32 0,.int .u32 0,.int .u32 0,.int .u32 0,.bool false,.int .u64 0,.slice none 0 0,.int .i64 0],.int .u16 70]) (by simp[results,Tryz.results29,go_sem]) rfl ?_;exact B.o _ ((q5 _ _).alloc (by simp) _)
 ·go_enter func29,ntmps29;go_wp2;refine bodyPost_ret (v:= .tuple #[.agg #[.int .u8 0,.int .u32 0,.int .u32 0,.int .u32 0,.int .u32 0,.int .u32 0,.int .u32 0,.bool false,.int .u64 0,.slice none 0 0,.int .i64 0],.int .u16 70]) (by simp[results,Tryz.results29,go_sem]) rfl ?_;exact B.o _ ((q5 _ _).alloc (by simp) _)
theorem y2j(a:Option Addr)(c:Nat)(b:List UInt8)(w:World)(hx:RdB w (.slice a b.length c) b)(h1:44<=b.length)(h2:b.length<=4096)(hc:b.length<=c)(aG:c<=9223372036854775807)(hs:unB (b.drop (b.length - 4))≠z2J (b.take (b.length - 4))):
  Calls prog 29 #[.slice a b.length c] w (Told w z0W 71):=by
 have L:∀w',Below w.heap.size w w'->Told w z0W 71 (.returned (.tuple #[frV z0W (.slice none 0 0),.int .u16 71])) w':=
  fun w' h=>⟨none,0,rfl,RdB.nil w',h,fun k hk=>by cases hk⟩
 have HF:=z7 L;have HX:=z7 hx;have HS:=z7 hs;clear L hx hs;have i0:(0:Int)<=(b.length:Int) - 4:=by omega
 have i1:(b.length:Int) - 4<=b.length:=by omega
 go_enter func29,ntmps29;go_wp2;go_quiet (fail)
 have J:RdB (((w.alloc (.cells #[.slice a b.length c] 47)).alloc (.cells #[.int .u8 0,.int .u32 0,.int .u32 0,.int .u32 0,.int .u32 0,.int .u32 0,.int .u32 0,.bool false,.int .u64 0,.slice none 0 0,.int .i64 0] 51)).drewN nq) (.slice a b.length c) b:=
  HX.o.low (z0k ((q5 _ _).alloc (by simp) _))
 have I:z2t (((w.alloc (.cells #[.slice a b.length c] 47)).alloc (.cells #[.int .u8 0,.int .u32 0,.int .u32 0,.int .u32 0,.int .u32 0,.int .u32 0,.int .u32 0,.bool false,.int .u64 0,.slice none 0 0,.int .i64 0] 51)).drewN nq) (w.heap.size+1) z0W (.slice none 0 0):=by
  exact z3n (w:=w.alloc (.cells #[.slice a b.length c] 47)) _ (by simp)
 have Y:(((w.alloc (.cells #[.slice a b.length c] 47)).alloc (.cells #[.int .u8 0,.int .u32 0,.int .u32 0,.int .u32 0,.int .u32 0,.int .u32 0,.int .u32 0,.bool false,.int .u64 0,.slice none 0 0,.int .i64 0] 51)).drewN nq).heap[w.heap.size]? =some (.cells #[.slice a b.length c] 47 (0,0)):=
  (heap_alloc_old _ _ (by simp)).trans (j8 w _)
 have R:Below w.heap.size w (((w.alloc (.cells #[.slice a b.length c] 47)).alloc (.cells #[.int .u8 0,.int .u32 0,.int .u32 0,.int .u32 0,.int .u32 0,.int .u32 0,.int .u32 0,.bool false,.int .u64 0,.slice none 0 0,.int .i64 0] 51)).drewN nq):=
  z0k ((q5 _ _).alloc (by simp) _)
 generalize ((w.alloc (.cells #[.slice a b.length c] 47)).alloc (.cells #[.int .u8 0,.int .u32 0,.int .u32 0,.int .u32 0,.int .u32 0,.int .u32 0,.int .u32 0,.bool false,.int .u64 0,.slice none 0 0,.int .i64 0] 51)).drewN nq=W1 at J I Y R
 have hd:=J.drop (b.length - 4) (by omega) (c - (b.length - 4));have e:b.length - (b.length - 4)=(b.drop (b.length - 4)).length:=by simp
 rw[e]at hd;have HD:=z7 hd;have HE:=z7 e;have O:=z7 J;have a1:=z7 I;have a0:=z7 Y;have N:=z7 R;have aB:=I.lt;clear hd e J I Y R;go_wp2_with fail;rw[HE.o];refine(y7E _ _ (b.drop (b.length - 4)) _ HD.o (by simp;omega) (by simp;omega) (by omega)).mono ?_;rintro e w' ⟨rfl,rfl⟩;rw[show(b.drop (b.length - 4)).take 4=b.drop (b.length - 4)from List.take_of_length_le (by simp;omega)];go_wp2_with fail;refine(z8p W1).mono ?_;rintro e w2 ⟨rfl,hT,a4,a7⟩;have U:=q1g (Below.refl _ W1) hT a4;obtain⟨tb,a8⟩:=zN W1.heap.size;rw[<-a8]at U a7 ⊢;have HC:=z7 U;clear hT a4 U HE HD a8;have a9:=z7 (O.o.take (b.length - 4) (by omega) (by omega));have a6:Hid ((b.take (b.length - 4)).length=b.length - 4):=z7 (by simp);go_wp2_with fail;refine(z7m tb false _ (b.take (b.length - 4)) _ _ (HC.o.alloc _).tab (z3n _ (by simp)) (by omega) (fun w' hc=>(HC.o.alloc _).rd hc a9.o) (by have:=a6.o;omega)).mono ?_;rintro e w5 ⟨rfl,a3,a5⟩;have A:=((HC.o.alloc _).sum a3 a5).low;have aF:=z7 (O.o.low A);have B:=z7 (a1.o.low A);have aE:Hid (w5.heap[w.heap.size]? =some (.cells #[.slice a b.length c] 47 (0,0))):=z7 ((A.block _ (by omega)).trans a0.o);have aA:Hid (Below w.heap.size w w5):=z7 (N.o.trans (A.mono N.o.size));have aC:=B.o.lt;clear a3 a5 A HC O a1 a0 N a9 a6 a7 aB;obtain⟨c0,c1,c2,c3,c4,c5,c6,c7,c8,c9,a2⟩:=B.o.cells
 have zf:∀o,w5.frozen? ⟨w.heap.size+1,o,none⟩=false:=fun o=>by simp[World.frozen?,show w5.heap[w.heap.size+1]? =_ from B.o]
 have ht:((unB (b.drop (b.length - 4)):Int) !=(z2J (b.take (b.length - 4)):Int))=true:=by rw[bne_iff_ne];have:=HS.o;omega
 unfold z0W at c0 c1 c2 c3 c4 c5 c6 c7 c8 a2;simp only at c0 c1 c2 c3 c4 c5 c6 c7 c8 a2;go_wp2;refine bodyPost_ret (z5L _ (w.heap.size+1) 71 z0W (.slice none 0 0) _ (by simp) (by simp) (B.o.store z0W (.slice none 0 0))) rfl ?_;exact HF.o _ (z3T (w':=w5) (r:=w.heap.size+1) (o:=0) aA.o (by omega) (by omega) (j9 z0W (.slice none 0 0)).toList)

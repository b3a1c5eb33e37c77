/- Walks over package frame. -/
import Derived.Test.YtabnnclcpkdkeaaGreatDoorZF
import Derived.Laws.StructEq
namespace Go.Proofs.YtabnnclcpkdkeaaGreatDoor
open Go.Proofs.Tryz
set_option linter.all false
set_option maxRecDepth 100000
set_option maxHeartbeats 0
open Go.RowKit
def z2N(w:World)(q:Nat)(f:Fr)(x:Value):Prop:=w.heap[q]? =some (.cells (z0b f x) 51 (0,0))
theorem z2N.cells{w:World}{q:Nat}{f:Fr}{x:Value}(h:z2N w q f x):
  w.cell? ⟨q,0,none⟩=some (.int .u8 f.kind)/\w.cell? ⟨q,1,none⟩=some (.int .u32 f.epoch)/\w.cell? ⟨q,2,none⟩=some (.int .u32 f.series)/\w.cell? ⟨q,3,none⟩=some (.int .u32 f.chunk)/\w.cell? ⟨q,4,none⟩=some (.int .u32 f.bits)/\w.cell? ⟨q,5,none⟩=some (.int .u32 f.cnt)/\
   w.cell? ⟨q,6,none⟩=some (.int .u32 f.count)/\w.cell? ⟨q,7,none⟩=some (.bool f.closed)/\w.cell? ⟨q,8,none⟩=some (.int .u64 f.sum)/\w.cell? ⟨q,9,none⟩=some x/\w.cell? ⟨q,10,none⟩=some (.int .i64 f.n):=by
 unfold z2N at h;refine⟨?_,?_,?_,?_,?_,?_,?_,?_,?_,?_,?_⟩<;>simp[World.cell?,h,z0b]
theorem z2N.made(w:World)(f:Fr)(x:Value):z2N (w.alloc (.cells (z0b f x) 51)) w.heap.size f x:=j8 w _
theorem z2N.lt{w:World}{q:Nat}{f:Fr}{x:Value}(h:z2N w q f x):q<w.heap.size:=(wI.1 h).1
theorem z2N.low{w w':World}{q:Nat}{f:Fr}{x:Value}(h:z2N w q f x)(hb:Below w.heap.size w w'):z2N w' q f x:=(hb.block q h.lt).trans h
theorem q5F(f:Fr)(a:Option Addr)(c:Nat)(w:World)(hf:f.Ok)(hl:f.b.length<=1000000)(U:RdB w (.slice a f.b.length c) f.b)(O:f.kind=1):
  Calls prog 79 #[frV f (.slice a f.b.length c)] w fun e w'=>e= .returned (.bool (z2l f))/\Below w.heap.size w w':=by
 have hm:Hid (z2l f=(z5E f&&(decide (f.series=0)&&(decide (f.chunk=0/\f.bits=0/\f.cnt=0)&&(decide (f.count=0)&&(!f.closed&&decide (f.sum=0))))))):=z7 (by unfold z2l;rw[wZ O]);have k1:((f.kind:Int)==1)=true:=by simp[O]
 clear O;have R:=z2N.made w f (.slice a f.b.length c);have hX:=z7 (U.low (q5 w (.cells (z0b f (.slice a f.b.length c)) 51)));obtain⟨kind,epoch,series,chunk,L,cnt,count,closed,sum,b,n⟩:=f;obtain⟨o1,o2,o3,o4,o5,o6,o7,o8,o9,a1⟩:=hf;simp only at*;have J:=z7 R;unfold frV z0b;unfold z0b at J hX;clear R U;go_enter func79,ntmps79;go_wp2_with fail;refine(y4L a b.length c n _ wF).mono ?_;rintro e w2 ⟨rfl,hb⟩;have I:=J.o.low hb;obtain⟨c0,c1,c2,c3,c4,c5,c6,c7,c8,c9,a0⟩:=I.cells;have N:Hid (Below w.heap.size w w2):=z7 ((q5 w _).trans (hb.mono wH));obtain⟨nb,A⟩:=zN ((decide (n=0)&&decide (b.length=0)));rw[<-A];have Y:=z7 A;clear hb I J A;go_wp2;all_goals go_ret
 all_goals refine⟨z1c ?_,N.o⟩
 all_goals rw[hm.o]
 all_goals unfold z5E
 all_goals simp only
 all_goals rw[<-Y.o]
 all_goals try simp[*]
 all_goals try (rw[uc];simp)
theorem q6D(f:Fr)(a:Option Addr)(c:Nat)(w:World)(hf:f.Ok)(hl:f.b.length<=1000000)(U:RdB w (.slice a f.b.length c) f.b)(J:f.kind=4):
  Calls prog 79 #[frV f (.slice a f.b.length c)] w fun e w'=>e= .returned (.bool (z2l f))/\Below w.heap.size w w':=by
 have hm:Hid (z2l f=(z5E f&&(decide (f.count=0)&&!f.closed))):=z7 (by unfold z2l;rw[wR wF,wZ (.inl J)]);have k1:((f.kind:Int)==1)=false:=by simp[J]
 have k4:((f.kind:Int)==4)=true:=by simp[J]
 clear J;have R:=z2N.made w f (.slice a f.b.length c);have hX:=z7 (U.low (q5 w (.cells (z0b f (.slice a f.b.length c)) 51)));obtain⟨kind,epoch,series,chunk,N,cnt,count,closed,sum,b,n⟩:=f;obtain⟨o1,o2,o3,o4,o5,o6,o7,o8,o9,a1⟩:=hf;simp only at*;have L:=z7 R;unfold frV z0b;unfold z0b at L hX;clear R U;go_enter func79,ntmps79;go_wp2_with fail;refine(y4L a b.length c n _ wF).mono ?_;rintro e w2 ⟨rfl,hb⟩;have I:=L.o.low hb;obtain⟨c0,c1,c2,c3,c4,c5,c6,c7,c8,c9,a0⟩:=I.cells;have O:Hid (Below w.heap.size w w2):=z7 ((q5 w _).trans (hb.mono wH));obtain⟨nb,A⟩:=zN ((decide (n=0)&&decide (b.length=0)));rw[<-A];have Y:=z7 A;clear hb I L A;go_wp2;all_goals go_ret
 all_goals refine⟨z1c ?_,O.o⟩
 all_goals rw[hm.o]
 all_goals unfold z5E
 all_goals simp only
 all_goals rw[<-Y.o]
 all_goals try simp[*]
 all_goals try (rw[uc];simp)
theorem q5q(f:Fr)(a:Option Addr)(c:Nat)(w:World)(hf:f.Ok)(hl:f.b.length<=1000000)(U:RdB w (.slice a f.b.length c) f.b)(J:f.kind=5):
  Calls prog 79 #[frV f (.slice a f.b.length c)] w fun e w'=>e= .returned (.bool (z2l f))/\Below w.heap.size w w':=by
 have hm:Hid (z2l f=(z5E f&&(decide (f.count=0)&&!f.closed))):=z7 (by unfold z2l;rw[wR wF,wZ (.inr J)]);have k1:((f.kind:Int)==1)=false:=by simp[J]
 have k4:((f.kind:Int)==4)=false:=by simp[J]
 have k5:((f.kind:Int)==5)=true:=by simp[J]
 clear J;have R:=z2N.made w f (.slice a f.b.length c);have hX:=z7 (U.low (q5 w (.cells (z0b f (.slice a f.b.length c)) 51)));obtain⟨kind,epoch,series,chunk,N,cnt,count,closed,sum,b,n⟩:=f;obtain⟨o1,o2,o3,o4,o5,o6,o7,o8,o9,a1⟩:=hf;simp only at*;have L:=z7 R;unfold frV z0b;unfold z0b at L hX;clear R U;go_enter func79,ntmps79;go_wp2_with fail;refine(y4L a b.length c n _ wF).mono ?_;rintro e w2 ⟨rfl,hb⟩;have I:=L.o.low hb;obtain⟨c0,c1,c2,c3,c4,c5,c6,c7,c8,c9,a0⟩:=I.cells;have O:Hid (Below w.heap.size w w2):=z7 ((q5 w _).trans (hb.mono wH));obtain⟨nb,A⟩:=zN ((decide (n=0)&&decide (b.length=0)));rw[<-A];have Y:=z7 A;clear hb I L A;go_wp2;all_goals go_ret
 all_goals refine⟨z1c ?_,O.o⟩
 all_goals rw[hm.o]
 all_goals unfold z5E
 all_goals simp only
 all_goals rw[<-Y.o]
 all_goals try simp[*]
 all_goals try (rw[uc];simp)
theorem q3W(f:Fr)(a:Option Addr)(c:Nat)(w:World)(hf:f.Ok)(hl:f.b.length<=1000000)(hx:RdB w (.slice a f.b.length c) f.b)(I:f.kind=3)(L:f.bits=0/\f.cnt=0/\f.sum=0):
  Calls prog 79 #[frV f (.slice a f.b.length c)] w fun e w'=>e= .returned (.bool (z2l f))/\Below w.heap.size w w':=by
 have hm:Hid (z2l f=(decide (f.bits=0/\f.cnt=0/\f.sum=0)&&z5B f)):=z7 (by unfold z2l;rw[wR wF,wR wF,wZ I]);have k1:((f.kind:Int)==1)=false:=by simp[I]
 have k4:((f.kind:Int)==4)=false:=by simp[I]
 have k5:((f.kind:Int)==5)=false:=by simp[I]
 have k3:((f.kind:Int)==3)=true:=by simp[I]
 have z1:((f.bits:Int) !=0)=false:=by simp[L.1]
 have z2:((f.cnt:Int) !=0)=false:=by simp[L.2.1]
 have z3:((f.sum:Int) !=0)=false:=by simp[L.2.2]
 have HZ:=z7 L;clear I L;have Y:=z2N.made w f (.slice a f.b.length c);have hX:=z7 (hx.low (q5 w (.cells (z0b f (.slice a f.b.length c)) 51)));obtain⟨kind,epoch,series,chunk,N,cnt,count,closed,sum,b,n⟩:=f;obtain⟨o1,o2,o3,o4,o5,o6,o7,o8,o9,R⟩:=hf;simp only at*;have U:=z7 Y;unfold frV z0b;unfold z0b at U hX;clear Y hx;go_enter func79,ntmps79;go_wp2_with (go_at_call 68;refine(z2X a c b n _ hX.o wF o9 R).mono ?_;rintro e w2 ⟨rfl,hb⟩;have J:=U.o.low hb;obtain⟨c0,c1,c2,c3,c4,c5,c6,c7,c8,c9,a0⟩:=J.cells;have O:Hid (Below w.heap.size w w2):=z7 ((q5 w _).trans (hb.mono wH));obtain⟨nb,A⟩:=zN (z2C b n);rw[<-A];have HN:=z7 A;clear hb J A);all_goals try go_wp2
 all_goals go_ret
 all_goals refine⟨z1c ?_,by first|exact O.o|exact hW.o⟩
 all_goals rw[hm.o,wQ HZ.o]
 all_goals unfold z5B
 all_goals simp only
 all_goals try rw[<-HN.o]
 all_goals try simp[*]
 all_goals try (rw[uc];simp;omega)
 all_goals try (intros;omega)
theorem q2Z(f:Fr)(a:Option Addr)(c:Nat)(w:World)(Y:f.Ok)(I:f.kind=3)(L:¬(f.bits=0/\f.cnt=0/\f.sum=0)):
  Calls prog 79 #[frV f (.slice a f.b.length c)] w fun e w'=>e= .returned (.bool (z2l f))/\Below w.heap.size w w':=by
 have O:Hid (z2l f=false):=z7 (by unfold z2l;rw[wR wF,wR wF,wZ I,wM L];rfl);have k1:((f.kind:Int)==1)=false:=by simp[I]
 have k4:((f.kind:Int)==4)=false:=by simp[I]
 have k5:((f.kind:Int)==5)=false:=by simp[I]
 have k3:((f.kind:Int)==3)=true:=by simp[I]
 clear I;obtain⟨kind,epoch,series,chunk,A,cnt,count,closed,sum,b,n⟩:=f;simp only at*;unfold frV z0b;by_cases J:A=0
 .have R:((A:Int) !=0)=false:=by simp[J]
  by_cases N:cnt=0
  .have U:((cnt:Int) !=0)=false:=(by simp[N]);have z3:((sum:Int) !=0)=true:=(by rw[gn];omega);clear J N L;go_enter func79,ntmps79;go_wp2;go_ret;exact⟨z1c O.o.symm,q5 _ _⟩
  have U:((cnt:Int) !=0)=true:=(by rw[gn];omega);clear J N L;go_enter func79,ntmps79;go_wp2;go_ret;exact⟨z1c O.o.symm,q5 _ _⟩
 have R:((A:Int) !=0)=true:=by rw[gn];omega
 clear J L;go_enter func79,ntmps79;go_wp2;go_ret;exact⟨z1c O.o.symm,q5 _ _⟩
theorem q6B(f:Fr)(a:Option Addr)(c:Nat)(w:World)(hf:f.Ok)(hl:f.b.length<=1000000)(hx:RdB w (.slice a f.b.length c) f.b)(A:f.kind=2):
  Calls prog 79 #[frV f (.slice a f.b.length c)] w fun e w'=>e= .returned (.bool (z2l f))/\Below w.heap.size w w':=by
 have hm:Hid (z2l f=z5B f):=z7 (by unfold z2l;rw[wR wF,wR wF,wR wF,wZ A]);have k1:((f.kind:Int)==1)=false:=by simp[A]
 have k4:((f.kind:Int)==4)=false:=by simp[A]
 have k5:((f.kind:Int)==5)=false:=by simp[A]
 have k3:((f.kind:Int)==3)=false:=by simp[A]
 have k2:((f.kind:Int)==2)=true:=by simp[A]
 clear A;have U:=z2N.made w f (.slice a f.b.length c);have Y:=z7 (hx.low (q5 w (.cells (z0b f (.slice a f.b.length c)) 51)));obtain⟨kind,epoch,series,chunk,L,cnt,count,closed,sum,b,n⟩:=f;obtain⟨o1,o2,o3,o4,o5,o6,o7,o8,o9,O⟩:=hf;simp only at*;have R:=z7 U;unfold frV z0b;unfold z0b at R Y;clear U hx;go_enter func79,ntmps79;go_wp2_with (go_at_call 68;refine(z2X a c b n _ Y.o wF o9 O).mono ?_;rintro e w2 ⟨rfl,hb⟩;have J:=R.o.low hb;obtain⟨c0,c1,c2,c3,c4,c5,c6,c7,c8,c9,a0⟩:=J.cells;have N:Hid (Below w.heap.size w w2):=z7 ((q5 w _).trans (hb.mono wH));obtain⟨nb,I⟩:=zN (z2C b n);rw[<-I];have HN:=z7 I;clear hb J I);all_goals try go_wp2
 all_goals go_ret
 all_goals refine⟨z1c ?_,by first|exact N.o|exact hW.o⟩
 all_goals rw[hm.o]
 all_goals unfold z5B
 all_goals simp only
 all_goals try rw[<-HN.o]
 all_goals try simp[*]
 all_goals try (rw[uc];simp;omega)
 all_goals try (intros;omega)
theorem q6n(f:Fr)(a:Option Addr)(c:Nat)(w:World)(O:f.Ok)(hl:f.b.length<=1000000)(J:RdB w (.slice a f.b.length c) f.b)(R:f.kind≠1/\f.kind≠2/\f.kind≠3/\f.kind≠4/\f.kind≠5):
  Calls prog 79 #[frV f (.slice a f.b.length c)] w fun e w'=>e= .returned (.bool (z2l f))/\Below w.heap.size w w':=by
 have U:Hid (z2l f=false):=z7 (by unfold z2l;rw[wR wF,wR wF,wR wF,wR wF]);have k1:((f.kind:Int)==1)=false:=by rw[ux];omega
 have k4:((f.kind:Int)==4)=false:=by rw[ux];omega
 have k5:((f.kind:Int)==5)=false:=by rw[ux];omega
 have k3:((f.kind:Int)==3)=false:=by rw[ux];omega
 have k2:((f.kind:Int)==2)=false:=by rw[ux];omega
 clear R;have I:=z2N.made w f (.slice a f.b.length c);have N:=z7 (J.low (q5 w (.cells (z0b f (.slice a f.b.length c)) 51)));obtain⟨kind,epoch,series,chunk,A,cnt,count,closed,sum,b,n⟩:=f;obtain⟨o1,o2,o3,o4,o5,o6,o7,o8,o9,Y⟩:=O;simp only at*;have L:=z7 I;unfold frV z0b;unfold z0b at L N;clear I J;go_enter func79,ntmps79;go_wp2;go_ret;exact⟨z1c U.o.symm,q5 _ _⟩
theorem y4R(f:Fr)(a:Option Addr)(c:Nat)(w:World)(A:f.Ok)(I:f.b.length<=1000000)(J:RdB w (.slice a f.b.length c) f.b):
  Calls prog 79 #[frV f (.slice a f.b.length c)] w fun e w'=>e= .returned (.bool (z2l f))/\Below w.heap.size w w':=by
 by_cases N:f.kind=1
 .exact q5F f a c w A I J N
 by_cases O:f.kind=2
 .exact q6B f a c w A I J O
 by_cases L:f.kind=3
 .by_cases Y:f.bits=0/\f.cnt=0/\f.sum=0
  .exact q3W f a c w A I J L Y
  exact q2Z f a c w A L Y
 by_cases R:f.kind=4
 .exact q6D f a c w A I J R
 by_cases U:f.kind=5
 .exact q5q f a c w A I J U
 exact q6n f a c w A I J ⟨N,O,L,R,U⟩
def z4E(f:Fr):List Nat:= [f.epoch,f.series,f.chunk,f.bits,f.cnt,f.count]
def z5l(f:Fr):List Nat:= [f.sum/4294967296,f.sum%4294967296,(f.n%4294967296).toNat]
theorem y8V(f:Fr):z1S f=([0x44,0x59,UInt8.ofNat f.kind]++(z4E f).flatMap be4)++ [y1J f.closed]++(z5l f).flatMap be4:=by
 simp[z1S,z4E,z5l]
theorem q4b{f:Fr}(h:f.Ok):∀n∈z4E f,n<4294967296:=by
 obtain⟨J,L,N,O,R,U,Y,o8,o9,I⟩:=h;intro n A;simp only[z4E,wy,ou,kg]at A;rcases A with rfl|rfl|rfl|rfl|rfl|rfl<;>assumption
theorem q3k{f:Fr}(h:f.Ok):∀n∈z5l f,n<4294967296:=by
 obtain⟨J,L,N,O,R,U,Y,o8,o9,I⟩:=h;intro n A;simp only[z5l,wy,ou,kg]at A;rcases A with rfl|rfl|rfl<;>omega
theorem y4b(l:List Nat){k:Nat}(A:k<l.length):(l.take (k+1)).flatMap be4=(l.take k).flatMap be4++be4 l[k]:=by
 rw[oi A,uk];simp
theorem z8A:∀l:List Nat,(l.flatMap be4).length=4*l.length
 | []=>rfl
 | n::l=>by rw[uH,wP,z8A l,z4W,wW];omega
theorem z2N.same{w A wr:World}{f:Fr}{x:Value}(h:z2N A w.heap.size f x)(hb:Below (w.heap.size+1) A wr):z2N wr w.heap.size f x:=(hb.block _ wF).trans h
theorem q7W(A I J L N O:Nat)(k:Nat)(R:k<6)(w:World):(Instr.index 240 (.agg #[.int .u32 A,.int .u32 I,.int .u32 J,.int .u32 L,.int .u32 N,.int .u32 O]) (.int .i64 (k:Int))).run prog w= .ok (.int .u32 (([A,I,J,L,N,O].getD k 0:Nat):Int)) w:=by
 obtain rfl|rfl|rfl|rfl|rfl|rfl:k=0\/k=1\/k=2\/k=3\/k=4\/k=5:=wF
 all_goals kernel_rfl
theorem q7k(A I J:Int)(k:Nat)(L:k<3)(w:World):(Instr.index 243 (.agg #[.int .u32 A,.int .u32 I,.int .u32 J]) (.int .i64 (k:Int))).run prog w= .ok (.int .u32 ([A,I,J].getD k 0)) w:=by
 obtain rfl|rfl|rfl:k=0\/k=1\/k=2:=wF
 all_goals kernel_rfl
theorem z9d.chg{W w w':World}{B A:Nat}{v:Value}{l:List UInt8}(h:z4P W B v l w)(I:Chg [A] [A] w w')(L:B<=A)(N:∀k,v.ownBlock=some k->k≠A):z4P W B v l w':=
 ⟨j7 h.1 fun k J=>I.block k (h.1.lt k J).2 (by simpa using N k J),h.2.1.trans (I.below h.2.2 (by simpa using L)),wV h.2.2 I.size⟩
theorem y4V{W w:World}{B n:Nat}{v:Value}{l:List UInt8}(h:z4P W B v l w)(J:n<4294967296)(I:l.length<=2000000):
  Calls prog 123 #[v,.int .u32 n] w fun e w'=>∃a c,e= .returned (.slice a (l++be4 n).length c)/\z4P W B (.slice a (l++be4 n).length c) (l++be4 n) w':=by
 refine(q7s v l n B w J h.1 I h.2.2).mono ?_;rintro e w' ⟨g,A,rfl,N,L,hb⟩;exact⟨_,_,rfl,L,h.2.1.trans hb,wV h.2.2 hb.size⟩
theorem y6L(f:Fr)(a:Option Addr)(c:Nat)(w:World)(hf:f.Ok)(hl:f.b.length<=1000000)(hx:RdB w (.slice a f.b.length c) f.b):
  Calls prog 81 #[frV f (.slice a f.b.length c)] w fun e w'=>∃a c,e= .returned (.slice a (z0L f).length c)/\w'.ownsRow (w.heap.size+1) 5 1 (.slice a (z0L f).length c) (z0L f).length (z0c (z0L f))/\Below w.heap.size w w':=by
 have hA:=z2N.made w f (.slice a f.b.length c);have hX:=z7 (hx.low (q5 w (.cells (z0b f (.slice a f.b.length c)) 51)));have b6:=z7 (q5 w (.cells (z0b f (.slice a f.b.length c)) 51));have aT:(w.alloc (.cells (z0b f (.slice a f.b.length c)) 51)).heap.size=w.heap.size+1:=wH
 have v1:=z7 (q4b hf);have v2:=z7 (q3k hf);have aM:=z7 (y8V f);obtain⟨o1,o2,o3,o4,o5,o6,o7,o8,o9,cC⟩:=hf;clear hx;have bB:frV f (.slice a f.b.length c)= .agg #[.int .u8 f.kind,.int .u32 f.epoch,.int .u32 f.series,.int .u32 f.chunk,.int .u32 f.bits,.int .u32 f.cnt,.int .u32 f.count,.bool f.closed,.int .u64 f.sum,.slice a f.b.length c,.int .i64 f.n]:=rfl;rw[bB];clear bB;go_enter func81,ntmps81;go_wp2;have bH:=z7 (rowIs_made (w.alloc (.cells (z0b f (.slice a f.b.length c)) 51)) (w.heap.size+1) [0x44,0x59,UInt8.ofNat f.kind] #[.int .u8 68,.int .u8 89,.int .u8 f.kind] aT.symm (by
  simp only[z0c,uI,pQ,oo,List.toArray];rw[dh o1];rfl) wH)
 have U:∃WF,WF=w.alloc (.cells (z0b f (.slice a f.b.length c)) 51):=⟨_,rfl⟩;obtain⟨WF,U⟩:=U;rw[<-U]at bH hX b6 aT;have b2:z2N WF w.heap.size f (.slice a f.b.length c):=by rw[U];exact hA
 have aW:=z7 U;have HA:=z7 b2;clear U hA b2;go_loopw[3,27] (fun v i wr=>∃(k n c':Nat) (ao:Option Addr),k<=6/\i= .int .i64 k/\v= .slice ao n c'/\n<=27/\Hid (n=3+4*k)/\Hid (z4P WF (w.heap.size+1) v ([0x44,0x59,UInt8.ofNat f.kind]++((z4E f).take k).flatMap be4) wr)) (fun _ i _=>6 - (intOf i).toNat)
 case atStart=>exact⟨0,3,3,_,wF,rfl,rfl,wF,rfl,by rw[aW.o];have h:=bH;rw[aW.o]at h;exact h⟩
 case round=>
  obtain⟨k,n,c',ao,hk,rfl,rfl,cA,hn,N⟩:=hrel;have aG:z2N wr w.heap.size f (.slice a f.b.length c):=HA.o.same N.o.2.1;by_cases I:k<6
  .have a3:=q7W f.epoch f.series f.chunk f.bits f.cnt f.count k I;have a6:(z4E f)[k]'I<4294967296:=v1.o _ (ug _);have a5: [f.epoch,f.series,f.chunk,f.bits,f.cnt,f.count].getD k 0=(z4E f)[k]'I:=by
    simp only[List.getD,z4E];rw[wL I];rfl
   rw[a5]at a3;have a1:=z7 (y4b (z4E f) (k:=k) I);have A:([0x44,0x59,UInt8.ofNat f.kind]++((z4E f).take k).flatMap be4).length=n:=by
    rw[wP,z8A,uR,hn.o];simp[z4E];omega
   obtain⟨L,hL⟩:=zN ( [0x44,0x59,UInt8.ofNat f.kind]++((z4E f).take k).flatMap be4);rw[<-hL]at N A
   generalize (z4E f)[k]'I=m at a3 a6 a1
   have R:Hid (L++be4 m= [0x44,0x59,UInt8.ofNat f.kind]++((z4E f).take (k+1)).flatMap be4):=z7 (by rw[a1.o,<-wj,hL]);have i1:(k:Int)<6:=wF;have J:=z7 A;clear a5 hL A aG;go_wp2_with fail
   with_reducible refine(y4V N.o a6 (by rw[J.o];omega)).mono ?_
   rintro e w2 ⟨a2,c2,rfl,aA⟩;have O:(L++be4 m).length=n+4:=(by rw[wP,J.o,z4W]);obtain⟨n2,bE⟩:=zN ((L++be4 m).length);rw[<-bE]at aA ⊢;have aO:n2<=27:=(by have:=hn.o;omega);have aR:Hid (n2=3+4*(k+1)):=z7 (by have:=hn.o;omega);rw[R.o]at aA;have Y:=z7 aA;clear aA O bE;go_wp2
   go_roundw
   case rel=>exact⟨k+1,n2,c2,a2,wF,by go_num,rfl,aO,aR,Y⟩
   case measure=>simp[intOf];omega
  obtain rfl:k=6:=wF
  have A:([0x44,0x59,UInt8.ofNat f.kind]++((z4E f).take 6).flatMap be4).length=n:=by
   rw[wP,z8A,uR,hn.o];simp[z4E]
  rw[show(z4E f).take 6=z4E f from rfl]at N A;obtain⟨L,hL⟩:=zN ( [0x44,0x59,UInt8.ofNat f.kind]++(z4E f).flatMap be4);rw[<-hL]at N A;obtain⟨c0,c1,c2,c3,c4,c5,c6,c7,c8,c9,a9⟩:=aG.cells;have HL:=z7 hL;have J:=z7 A;clear hL A aG;go_wp2_with fail
  with_reducible refine(q5m f.closed _).mono ?_
  rintro e w' ⟨rfl,rfl⟩;obtain⟨fl,aL⟩:=zN (y1J f.closed);rw[<-aL];have bL:=z7 aL;have bI:RdB (wr.alloc (.cells #[.int .u8 (fl.toNat:Nat)] 5)) (.slice (some ⟨wr.heap.size,0,none⟩) 1 1) [fl]:=
   z9U (l:= [fl]) (e:=5) (fr:=(0,0)) (by rw[j8];rfl) wH 1
  have aD:=z7 bI;have Y:=z7 (N.o.to (q5 wr (.cells #[.int .u8 (fl.toNat:Nat)] 5)));have aE:=Y.o.1;rw[J.o]at aE;clear bI aL aE;go_wp2_with (at_builtin;refine wpList_copy_own rfl (.tmp 34) (.tmp 38) 47 rfl WF (w.heap.size+1) 5 underlying47 z4C (.slice ao n c') L rfl Y.o _ [fl] rfl aD.o (by simp[J.o];omega) ?_);intro bR bU w2 aI bZ;have b3:z2N w2 w.heap.size f (.slice a f.b.length c):=HA.o.same aI.2.1;obtain⟨c0,c1,c2,c3,c4,c5,c6,c7,c8,c9,a9⟩:=b3.cells;have aY:=z7 aI;have bF:L.length+1<=40:=(by rw[J.o];omega);have b1:Hid (L.length+1=28+4*0):=z7 (by rw[J.o,hn.o]);clear aI bZ b3 Y aD N;go_wp2;obtain⟨L2,R⟩:=zN (L++ [fl]);have aC:L2.length=L.length+1:=(by rw[R];simp);rw[<-R]at aY;have bM:=z7 R;have aU:=z7 aC;clear R aC c0 c1 c2 c3 c4 c5 c6 c7 c8 c9 a9;obtain⟨wo,rfl⟩:∃wo:World,wo=wr:=⟨_,rfl⟩;go_loopw[3,52] (fun v i wr=>∃(k n c':Nat) (ao:Option Addr),k<=3/\i= .int .i64 k/\v= .slice ao n c'/\n<=40/\Hid (n=28+4*k)/\Hid (z4P WF (w.heap.size+1) v (L2++((z5l f).take k).flatMap be4) wr)) (fun _ i _=>3 - (intOf i).toNat)
  case atStart=>exact⟨0,L.length+1,bU,bR,wF,rfl,rfl,bF,b1,z7 (by simpa using aY.o)⟩
  case round=>
   obtain⟨k,n2,c',bS,hk,rfl,rfl,cB,aN,N⟩:=hrel;by_cases I:k<3
   .have a3:=q7k ((f.sum:Int)/4294967296) ((f.sum:Int)%4294967296) (f.n%4294967296) k I;have a6:(z5l f)[k]'I<4294967296:=v2.o _ (ug _);have a5: [(f.sum:Int)/4294967296,(f.sum:Int)%4294967296,f.n%4294967296].getD k 0=(((z5l f)[k]'I:Nat):Int):=by
     obtain rfl|rfl|rfl:k=0\/k=1\/k=2:=wF
     all_goals simp[z5l]
     omega
    rw[a5]at a3;have a1:=z7 (y4b (z5l f) (k:=k) I);have A:(L2++((z5l f).take k).flatMap be4).length=n2:=by
     rw[wP,z8A,uR,aN.o,aU.o,b1.o];simp[z5l];omega
    obtain⟨M,hM⟩:=zN (L2++((z5l f).take k).flatMap be4);rw[<-hM]at N A
    generalize (z5l f)[k]'I=m at a3 a6 a1
    have bX:Hid (M++be4 m=L2++((z5l f).take (k+1)).flatMap be4):=z7 (by rw[a1.o,<-wj,hM]);have i1:(k:Int)<3:=wF;have aV:=z7 A;clear a5 hM A;go_wp2_with fail
    with_reducible refine(y4V N.o a6 (by rw[aV.o];omega)).mono ?_
    rintro e w3 ⟨a4,c4,rfl,aB⟩;have O:(M++be4 m).length=n2+4:=(by rw[wP,aV.o,z4W]);obtain⟨n5,bG⟩:=zN ((M++be4 m).length);rw[<-bG]at aB ⊢;have aO:n5<=40:=(by have:=aN.o;omega);have aR:Hid (n5=28+4*(k+1)):=z7 (by have:=aN.o;omega);rw[bX.o]at aB;have bN:=z7 aB;clear aB O bG;go_wp2
    go_roundw
    case rel=>exact⟨k+1,n5,c4,a4,wF,by go_num,rfl,aO,aR,bN⟩
    case measure=>simp[intOf];omega
   obtain rfl:k=3:=wF
   have hH:L2++((z5l f).take 3).flatMap be4=z1S f:=by
    rw[bM.o,HL.o,bL.o,aM.o,show(z5l f).take 3=z5l f from rfl]
   rw[hH]at N;have b4:z2N wr w.heap.size f (.slice a f.b.length c):=HA.o.same N.o.2.1;obtain⟨c0,c1,c2,c3,c4,c5,c6,c7,c8,c9,a9⟩:=b4.cells;have b7:RdB wr (.slice a f.b.length c) f.b:=hX.o.low (by rw[aT];exact N.o.2.1);have b0:=z7 b7;clear hH b4 b7;go_wp2_with (at_builtin;refine wpList_copy_own rfl (.tmp 59) (.tmp 62) 47 rfl WF (w.heap.size+1) 5 underlying47 z4C (.slice bS n2 c') (z1S f) rfl N.o _ f.b rfl b0.o (by rw[z2w];omega) ?_);intro bT bV w5 a0 _;rw[show z1S f++f.b=z2J f from rfl]at a0;have bD:(z2J f).length=40+f.b.length:=(by simp[z2J,z2w]);have bJ:Hid ((z1S f).length+f.b.length=(z2J f).length):=z7 (by simp[z2J]);rw[bJ.o]at a0 ⊢;have b9:(z2J f).length<=1000040:=wF;obtain⟨M,hM⟩:=zN (z2J f);rw[<-hM]at a0 b9 ⊢;have HM:=z7 hM;have a7:=z7 a0;clear a0 hM bJ N b0 c0 c1 c2 c3 c4 c5 c6 c7 c8 c9 a9 bD;go_wp2_with fail;refine(z9v w5).mono ?_;rintro e w6 ⟨rfl,hT,b8,bC⟩;have b5:=a7.o.to b8;have aH:=a7.o.lt;have aS:∀k,(Value.slice bT M.length bV).ownBlock=some k->k≠w5.heap.size:=fun k hk=>by have:=(a7.o.1.lt k hk).2;omega
   generalize w5.heap.size=tb at hT bC aH aS
   have HT:=z7 hT;have aF:=z7 b5;have aX:=z7 aS;clear hT b8 b5 a7 aS;go_wp2_with fail;refine(z7W tb false _ M _ _ (HT.o.alloc _) (z3C _ wH) wF (fun w' hc=>z0d ((aF.o.to (q5 _ _)).chg hc aH aX.o).1) wF).mono ?_;rintro e w7 ⟨rfl,bY,bA⟩;have bO:=z7 ((aF.o.to (q5 _ _)).chg bA aH aX.o);have bW:=z8t M;clear bY bA aF HT;go_wp2_with fail
   with_reducible refine(y4V bO.o bW wF).mono ?_
   rintro e w8 ⟨a8,c8,rfl,aJ⟩;have hW:z0L f=M++be4 (z3e M):=(by rw[HM.o];rfl);rw[<-hW]at aJ ⊢;have aZ:=z7 aJ;clear aJ hW;go_wp2;go_ret;exact⟨a8,c8,rfl,aZ.o.1,b6.o.trans (aZ.o.2.1.mono wF)⟩
theorem q1w(f:Fr)(a:Option Addr)(c:Nat)(w:World)(hf:f.Ok)(hl:f.b.length<=1000000)(hx:RdB w (.slice a f.b.length c) f.b)(hm:z2l f=true):
  Calls prog 85 #[frV f (.slice a f.b.length c)] w fun e w'=>∃a c,e= .returned (.tuple #[.slice a (z0L f).length c,.int .u16 0])/\w'.ownsRow w.heap.size 5 1 (.slice a (z0L f).length c) (z0L f).length (z0c (z0L f))/\Below w.heap.size w w':=by
 have Y:=z2N.made w f (.slice a f.b.length c);have hX:=z7 (hx.low (q5 w (.cells (z0b f (.slice a f.b.length c)) 51)));have N:=z7 (q5 w (.cells (z0b f (.slice a f.b.length c)) 51));have a1:(w.alloc (.cells (z0b f (.slice a f.b.length c)) 51)).heap.size=w.heap.size+1:=wH
 have HM:=z7 hm;have R:=z7 hf;have HA:=z7 Y;clear hx hm hf Y;have I:frV f (.slice a f.b.length c)= .agg #[.int .u8 f.kind,.int .u32 f.epoch,.int .u32 f.series,.int .u32 f.chunk,.int .u32 f.bits,.int .u32 f.cnt,.int .u32 f.count,.bool f.closed,.int .u64 f.sum,.slice a f.b.length c,.int .i64 f.n]:=rfl;have U:=z7 I;rw[I];clear I;go_enter func85,ntmps85;go_wp2_with fail;rw[<-U.o];refine(y4R f a c _ R.o hl hX.o).mono ?_;rintro e w2 ⟨rfl,hb⟩;rw[HM.o];have J:=HA.o.low hb;obtain⟨c0,c1,c2,c3,c4,c5,c6,c7,c8,c9,a0⟩:=J.cells;have O:=z7 (hX.o.low hb);have A:Hid (Below w.heap.size w w2):=z7 (N.o.trans (hb.mono wF));clear hb J;go_wp2_with fail;rw[<-U.o];refine(y6L f a c _ R.o hl O.o).mono ?_;rintro e w3 ⟨a3,c3,rfl,ho,hb⟩;have HO:=z7 (z0f ho (show w.heap.size<=w2.heap.size+1 by have:=A.o.size;omega));have L:=z7 (A.o.trans (hb.mono A.o.size));clear ho hb;go_wp2;go_ret2;exact⟨a3,c3,rfl,HO.o,L.o⟩
theorem y4O(f:Fr)(a:Option Addr)(c:Nat)(w:World)(L:f.Ok)(hl:f.b.length<=1000000)(O:RdB w (.slice a f.b.length c) f.b)(N:z2l f=false):
  Calls prog 85 #[frV f (.slice a f.b.length c)] w fun e w'=>e= .returned (.tuple #[.slice none 0 0,.int .u16 70])/\Below w.heap.size w w':=by
 have hX:=z7 (O.low (q5 w (.cells (z0b f (.slice a f.b.length c)) 51)));have I:=z7 (q5 w (.cells (z0b f (.slice a f.b.length c)) 51));have a0:(w.alloc (.cells (z0b f (.slice a f.b.length c)) 51)).heap.size=w.heap.size+1:=wH
 have U:=z7 N;have R:=z7 L;clear O N L;have A:frV f (.slice a f.b.length c)= .agg #[.int .u8 f.kind,.int .u32 f.epoch,.int .u32 f.series,.int .u32 f.chunk,.int .u32 f.bits,.int .u32 f.cnt,.int .u32 f.count,.bool f.closed,.int .u64 f.sum,.slice a f.b.length c,.int .i64 f.n]:=rfl;have Y:=z7 A;rw[A];clear A;go_enter func85,ntmps85;go_wp2_with fail;rw[<-Y.o];refine(y4R f a c _ R.o hl hX.o).mono ?_;rintro e w2 ⟨rfl,hb⟩;rw[U.o];have J:Hid (Below w.heap.size w w2):=z7 (I.o.trans (hb.mono wF));clear hb;go_wp2;go_ret2;exact⟨rfl,J.o⟩
theorem addr_add_add(a:Addr)(i j:Nat):(a.add i).add j=a.add (i+j):=by
 unfold Addr.add;split<;>split<;>split<;>simp_all<;>omega
theorem RdB.drop{w:World}{a:Option Addr}{c:Nat}{l:List UInt8}(h:RdB w (.slice a l.length c) l)(k:Nat)(O:k<l.length)(c':Nat):RdB w (.slice (a.map fun x=>x.add k) (l.length - k) c') (l.drop k):=by
 obtain⟨N,⟨A,R⟩|⟨I,c2,A,J⟩⟩:=h
 .omega
 simp only[wO,oP]at A;obtain⟨rfl,rfl⟩:=A;refine⟨by simp[z0c],.inr ⟨I.add k,c',wH,fun j u L=>?_⟩⟩;rw[addr_add_add];refine J (k+j) u ?_;simpa[z0c]using L
theorem RdB.take{w:World}{a:Option Addr}{c:Nat}{l:List UInt8}(h:RdB w (.slice a l.length c) l)(k:Nat)(R:k<=l.length)(N:0<l.length):RdB w (.slice a k c) (l.take k):=by
 obtain⟨O,⟨I,U⟩|⟨J,c2,I,L⟩⟩:=h
 .omega
 simp only[wO,oP]at I;obtain⟨rfl,rfl⟩:=I;have e:(l.take k).length=k:=by simp;omega
 show Rd _ _ 1 (l.take k).length _;rw[e];refine⟨by simp[z0c];omega,.inr ⟨J,c,rfl,fun j u A=>L j u ?_⟩⟩;simp only[z0c,rX,ik]at A ⊢;split at A
 .exact A
 cases A
theorem q0n(q p:Nat)(O:q≠p)(a:Option Addr)(c k:Nat)(l:List UInt8)(w:World)(A:RdB (w.setCell ⟨q,0,none⟩ (.int .i64 ((k:Int)+4))) (.slice a l.length c) l)(Y:l.length<=4096)(R:l.length<=c)(L:c<=9223372036854775807)(U:k+4<=l.length)
  (hq:w.cell? ⟨q,0,none⟩=some (.int .i64 k)) (N:w.frozen? ⟨q,0,none⟩=false) (hp:w.cell? ⟨p,0,none⟩=some (.slice a l.length c)):
  Calls prog 77 #[.pointer (some ⟨q,0,none⟩),.pointer (some ⟨p,0,none⟩)] w fun e w'=>e= .returned (.int .u32 (unB ((l.drop k).take 4):Nat))/\w'=w.setCell ⟨q,0,none⟩ (.int .i64 ((k:Int)+4)):=by
 have hd:=A.drop k wF (c - k);have e:l.length - k=(l.drop k).length:=wH
 rw[e]at hd;have I:=z7 hd;have J:=z7 e;clear A hd e;go_enter func77,ntmps77;go_wp2_with fail;rw[J.o];refine(y8W _ (c - k) (l.drop k) _ I.o (by simp;omega) (by simp;omega) wF).mono ?_;rintro e w' ⟨rfl,rfl⟩;go_wp2;go_ret;exact⟨rfl,rfl⟩
theorem y5G(I:Addr)(l:List UInt8)(c:Nat)(w:World)(N:RdB w (.slice (some I) l.length c) l)(hl:l.length<=70368744177664):
  Calls prog 78 #[.slice (some I) l.length c] w fun e w'=>∃a c,e= .returned (.slice a l.length c)/\w'.ownsRow w.heap.size 5 1 (.slice a l.length c) l.length (z0c l)/\Below w.heap.size w w':=by
 have hn:=fun(w:World)=>iq (P:=prog) w 47 5 (some I) l.length c 0 0 underlying47;have A:RdB (w.alloc (.cells #[] 5)) (.slice (some I) l.length c) l:=N.low (q5 _ _);have U:=z7 A;clear N A;go_enter func78,ntmps78;go_wp2_with (at_builtin;refine z6o rfl (.tmp 5) (.tmp 6) 47 rfl w.heap.size 5 underlying47 z4C _ [] rfl (rk w #[] 0 wE wG rfl) _ l rfl U.o (by simp;omega) wH ?_);intro Y co w2 J L _;have hb:Below w.heap.size w w2:=(wD.alloc wE _).grown L wH (by simp[Value.ownBlock]);have R:=z7 J;have O:=z7 hb;clear J L hb;go_wp2;go_ret;exact⟨Y,co,rfl,R.o,O.o⟩
theorem y5T(x y:Value)(l m:List UInt8)(w:World)(A:RdB w x l)(I:RdB w y m):
  Calls prog 80 #[x,y] w fun e w'=>e= .returned (.bool (l==m))/\w=w':=by
 have Y:=z7D l _ _ A;have v2:=z7D m _ _ I;have N:=z9X l;have O:=z9X m;have J:=A.oneCell;have L:=I.oneCell;obtain⟨R,c1,rfl⟩:=A.head;obtain⟨U,c2,rfl⟩:=I.head;clear A I J L;go_enter func80,ntmps80;go_wp2;go_ret;exact⟨z1c (by first|rfl|simp[N,O]),rfl⟩
theorem z7f(a:Option Addr)(A c:Nat)(n:Int)(w:World)(I:A<=9223372036854775807):
  Calls prog 71 #[.agg #[.slice a A c,.int .i64 n]] w fun e w'=>e= .returned (.bool (decide (n=0)&&decide (A=0)))/\Below w.heap.size w w':=by
 go_enter func71,ntmps71;go_wp2;all_goals go_ret
 all_goals refine⟨z1c ?_,q5 _ _⟩
 all_goals rw[uc];simp[*]
theorem y0V(w:World)(cs:Array Value)(e:TypeId)(j:Nat):(w.alloc (.cells cs e)).cell? ⟨w.heap.size,j,none⟩=cs[j]? :=pT (w.alloc (.cells cs e)) w.heap.size j cs e (0,0) (j8 w _)
def z7i(b:List UInt8)(i:Nat):Nat:=(b.getD (i/8) 0).toNat/2^(7 - i%8)%2
theorem q6d(a:Option Addr)(c:Nat)(b:List UInt8)(n:Int)(i:Nat)(w:World)(hx:RdB w (.slice a b.length c) b)(hl:b.length<=1000000)(L:i/8<b.length):
  Calls prog 119 #[.agg #[.slice a b.length c,.int .i64 n],.int .i64 i] w fun e w'=>e= .returned (.int .u8 (z7i b i:Nat))/\Below w.heap.size w w':=by
 obtain⟨O,I,c0,Y,U,J⟩:=hx.at L;simp only[wO,oP]at Y;obtain⟨rfl,rfl⟩:=Y;have hg:b[i/8]=b.getD (i/8) 0:=by simp[List.getD,wL L]
 have A:=((q5 w (.cells #[.slice (some ⟨O,I,none⟩) b.length c,.int .i64 n] 49)).cell (p:=⟨O,I+i/8,none⟩) J).trans U;rw[hg]at A;have N:Hid (z7i b i=(b.getD (i/8) 0).toNat/2^(7 - i%8)%2):=z7 rfl
 generalize b.getD (i/8) 0=y at A N
 have hy:=y.toNat_lt;have i0:0<=(i:Int)/8:=wF
 have i1:(i:Int)/8<b.length:=wF
 have i4:(i:Int)<=8000000:=wF
 clear hx U hg L;go_enter func119,ntmps119;go_wp2;go_ret;refine⟨y9D ?_,q5 _ _⟩;have e:((y.toNat:Int)/2^(7 - i%8))=((y.toNat/2^(7 - i%8):Nat):Int):=wH
 rw[e,N.o];have h1:y.toNat/2^(7 - i%8)<=y.toNat:=dd _ _;have R:=rq (y.toNat/2^(7 - i%8)) 1 wF wF;rw[qQ]at R;exact R
theorem q5g(b:List UInt8)(i:Nat):z7i b i<2:=gk _ wG
def y4u(b:List UInt8)(n:Nat):Bool:=(List.range (8*b.length)).all fun i=>decide (i<n) || decide (z7i b i=0)
theorem z7t{b:List UInt8}{n:Nat}(h:∀j,n<=j->j<8*b.length->z7i b j=0):y4u b n=true:=by
 unfold y4u;rw[gu];intro j A;rw[rI]at A;by_cases e:j<n
 .simp[e]
 simp[h j wF A]
theorem y0Z{b:List UInt8}{n j:Nat}(I:n<=j)(A:j<8*b.length)(J:z7i b j≠0):y4u b n=false:=by
 unfold y4u;rw[ru];intro h;have:=gu.1 h j (rI.2 A);simp at this;omega
theorem q1U:∀(y:Fin 256) (r:Fin 8),(y.val&&&(255>>>r.val)=0)↔∀j:Fin 8,r<=j->y.val/2^(7 - j.val)%2=0:=by decide+kernel
theorem y8A(b:List UInt8)(k:Nat)(h:(b.length:Int)=(k:Int)/8+min ((k:Int)%8) 1):z2C b k=y4u b k:=by
 unfold z2C;rw[wQ h,wQ (by omega:(0:Int)<=k)];simp only[pL];by_cases hk:k%8=0
 .rw[wQ (by omega:(k:Int)%8=0),z7t fun j N O=>by omega];rfl
 rw[wM (by omega:¬(k:Int)%8=0),qd];have e:((k:Int)%8).toNat=k%8:=wF
 rw[e];have L:=q1U ⟨(b.getD (b.length - 1) 0).toNat,(b.getD (b.length - 1) 0).toNat_lt⟩ ⟨k%8,wF⟩;simp only at L;by_cases A:(b.getD (b.length - 1) 0).toNat&&&255>>>(k%8)=0
 .rw[wQ A];refine(z7t fun j N O=>?_).symm;have R:=L.1 A ⟨j%8,wF⟩ (by show k%8<=j%8;omega);unfold z7i;rw[show j/8=b.length - 1 by omega];exact R
 rw[wM A];have U:¬∀j:Fin 8,(⟨k%8,wF⟩:Fin 8)<=j->(b.getD (b.length - 1) 0).toNat/2^(7 - j.val)%2=0:=fun h=>A (L.2 h);obtain⟨j,Y⟩:=Classical.not_forall.1 U;obtain⟨I,J⟩:=Classical.not_imp.1 Y;have a0:k%8<=j.val:=I;refine(y0Z (j:=8*(b.length - 1)+j.val) wF wF ?_).symm;unfold z7i;rw[show(8*(b.length - 1)+j.val)/8=b.length - 1 by omega,show(8*(b.length - 1)+j.val)%8=j.val by omega];exact J
theorem q4H(a:Option Addr)(c m:Nat)(b:List UInt8)(n:Int)(i:Nat)(w:World)(J:m=b.length)(L:RdB w (.slice a m c) b)(I:m<=1000000)(A:i/8<m):
  Calls prog 119 #[.agg #[.slice a m c,.int .i64 n],.int .i64 i] w fun e w'=>e= .returned (.int .u8 (z7i b i:Nat))/\Below w.heap.size w w':=by
 subst J;exact q6d a c b n i w L I A
theorem y3U(a:Option Addr)(c:Nat)(b:List UInt8)(n:Int)(w:World)(hx:RdB w (.slice a b.length c) b)(hl:b.length<=1000000)(h0: -9223372036854775808<=n)(h1:n<=9223372036854775807):
  Calls prog 72 #[.agg #[.slice a b.length c,.int .i64 n]] w fun e w'=>e= .returned (.bool (z2C b n))/\Below w.heap.size w w':=by
 obtain⟨A,O⟩:=zN b.length;have HX:=z7 hx;clear hx;have Y:=z7 O;rw[<-O]at HX hl ⊢;clear O;by_cases R:0<=n/\(A:Int)=n/8+min (n%8) 1
 case neg=>
  have hs:Hid (z2C b n=false):=z7 (by
   unfold z2C;rw[<-Y.o];by_cases h:0<=n
   .rw[wQ h,wM (fun h2=>R ⟨h,h2⟩)];rfl
   rw[wM h];rfl)
  have HO:=z7 R;clear R;by_cases U:A=0
  .have z1:((A:Int) !=0)=false:=(by simp[U]);have HZ:=z7 U;clear U;go_enter func72,ntmps72;go_wp2;all_goals first|(exfalso;have:=HO.o;have:=HZ.o;omega)|(go_ret;exact⟨z1c hs.o.symm,q5 _ _⟩)
  have z1:((A:Int) !=0)=true:=(by simp;omega);have HZ:=z7 U;clear U;go_enter func72,ntmps72;go_wp2;all_goals first|(exfalso;have:=HO.o;have:=HZ.o;omega)|(go_ret;exact⟨z1c hs.o.symm,q5 _ _⟩)
 obtain⟨aI,a0⟩:=R;obtain⟨J,rfl⟩:∃J:Nat,n=(J:Int):=⟨n.toNat,wF⟩;have g1:((J:Int)<0)=False:=wH
 have i0:(J:Int)<=8*(A:Int):=wF
 have i1:(A:Int)=0\/8*((A:Int) - 1)<J:=wF
 have hs:Hid (z2C b J=y4u b J):=z7 (y8A b J (by rw[<-Y.o];exact a0));have HE:=z7 a0;have I:∃N,N=w.alloc (.cells #[.slice a A c,.int .i64 J] 49):=⟨_,rfl⟩;obtain⟨N,I⟩:=I;have c0:N.cell? ⟨w.heap.size,0,none⟩=some (.slice a A c):=by rw[I,y0V];rfl
 have c1:N.cell? ⟨w.heap.size,1,none⟩=some (.int .i64 J):=by rw[I,y0V];rfl
 have a7:w.heap.size<N.heap.size:=by rw[I];simp
 have a5:RdB N (.slice a A c) b:=by
  have h:=HX.o;rw[Y.o]at h ⊢;rw[I];exact RdB.low h (q5 _ _)
 have a4:Below w.heap.size w N:=by rw[I];exact q5 _ _
 have aB:=z7 a5;have a2:=z7 a4;have aA:=z7 I;have C0:=z7 c0;have C1:=z7 c1;have hj:Hid (∀wr,Below N.heap.size N wr->Below w.heap.size w wr):=z7 fun wr h=>a2.o.trans (h.mono a2.o.size);clear I a5 a4 c0 c1 a0;go_enter func72,ntmps72;by_cases U:A=0
 .have z1:((A:Int) !=0)=false:=by simp[U]
  have HZ:=z7 U;have a1:Hid (z2C b (J:Int)=true):=z7 (by
   rw[hs.o];exact z7t fun j h1 h2=>by have:=Y.o;omega)
  have hk:J=0:=wF
  subst hk;subst U;go_wp2;refine wp_loop_rounds 1 ?_;rw[rounds_succ];go_wp2;go_ret;exact⟨z1c a1.o.symm,q5 _ _⟩
 have z1:((A:Int) !=0)=true:=by simp;omega
 have i2:8*((A:Int) - 1)<J:=wF
 clear i1;go_wp2;rw[<-aA.o];go_loopw[3] (fun i wr=>∃k:Nat,J<=k/\k<=8*A/\i= .int .i64 k/\Hid (∀j,J<=j->j<k->z7i b j=0)/\Hid (Below N.heap.size N wr)) (fun i _=>8*A - (intOf i).toNat)
 case atStart=>exact⟨J,wJ _,wF,rfl,z7 (fun j h1 h2=>wF),z7 wD⟩
 case round=>
  obtain⟨k,aE,aG,rfl,a8,hb⟩:=hrel;have d0:=(hb.o.cell (p:=⟨w.heap.size,0,none⟩) a7).trans C0.o;have d1:=(hb.o.cell (p:=⟨w.heap.size,1,none⟩) a7).trans C1.o;have aC:=hb.o.size;by_cases aH:k<8*A
  .go_wp2_with fail;refine(q4H a c A b J k wr Y.o (aB.o.low hb.o) wF wF).mono ?_;rintro e w2 ⟨rfl,a6⟩;have a3:=z7 (hb.o.trans (a6.mono aC));have aF:=q5g b k;clear a6 d0 d1;by_cases L:z7i b k=0
   .have e0:((z7i b k:Int)==1)=false:=(by simp[L]);have a9:=z7 L;clear L;go_wp2
    go_roundw
    case rel=>exact⟨k+1,wF,wF,by go_num,z7 (fun j h1 h2=>by
     by_cases e:j=k
     .rw[e];exact a9.o
     exact a8.o j h1 wF),a3⟩
    case measure=>simp[intOf];omega
   have e0:((z7i b k:Int)==1)=true:=(by rw[mq];omega);have hf:Hid (z2C b (J:Int)=false):=z7 (by rw[hs.o];exact y0Z aE (by have:=Y.o;omega) L);clear L;go_wp2;go_ret;exact⟨z1c hf.o.symm,hj.o _ a3.o⟩
  obtain rfl:k=8*A:=wF
  have a1:Hid (z2C b (J:Int)=true):=z7 (by
   rw[hs.o];exact z7t fun j h1 h2=>a8.o j h1 (by have:=Y.o;omega))
  go_wp2;go_ret;exact⟨z1c a1.o.symm,hj.o _ hb.o⟩
theorem q4R(f:Fr)(a:Option Addr)(c:Nat)(w:World)(hf:f.Ok)(hl:f.b.length<=1000000)(U:RdB w (.slice a f.b.length c) f.b)(O:f.kind=1):
  Calls prog 34 #[frV f (.slice a f.b.length c)] w fun e w'=>e= .returned (.bool (z2l f))/\Below w.heap.size w w':=by
 have hm:Hid (z2l f=(z5E f&&(decide (f.series=0)&&(decide (f.chunk=0/\f.bits=0/\f.cnt=0)&&(decide (f.count=0)&&(!f.closed&&decide (f.sum=0))))))):=z7 (by unfold z2l;rw[wZ O]);have k1:((f.kind:Int)==1)=true:=by simp[O]
 clear O;have R:=z2N.made w f (.slice a f.b.length c);have hX:=z7 (U.low (q5 w (.cells (z0b f (.slice a f.b.length c)) 51)));obtain⟨kind,epoch,series,chunk,L,cnt,count,closed,sum,b,n⟩:=f;obtain⟨o1,o2,o3,o4,o5,o6,o7,o8,o9,a1⟩:=hf;simp only at*;have J:=z7 R;unfold frV z0b;unfold z0b at J hX;clear R U;go_enter func34,ntmps34;go_wp2_with fail;refine(z7f a b.length c n _ wF).mono ?_;rintro e w2 ⟨rfl,hb⟩;have I:=J.o.low hb;obtain⟨c0,c1,c2,c3,c4,c5,c6,c7,c8,c9,a0⟩:=I.cells;have N:Hid (Below w.heap.size w w2):=z7 ((q5 w _).trans (hb.mono wH));obtain⟨nb,A⟩:=zN ((decide (n=0)&&decide (b.length=0)));rw[<-A];have Y:=z7 A;clear hb I J A;go_wp2;all_goals go_ret
 all_goals refine⟨z1c ?_,N.o⟩
 all_goals rw[hm.o]
 all_goals try unfold z5E
 all_goals try simp only
 all_goals try rw[<-Y.o]
 all_goals try simp[*]
 all_goals try (rw[uc];simp)
theorem q3N(f:Fr)(a:Option Addr)(c:Nat)(w:World)(hf:f.Ok)(hl:f.b.length<=1000000)(U:RdB w (.slice a f.b.length c) f.b)(J:f.kind=4):
  Calls prog 34 #[frV f (.slice a f.b.length c)] w fun e w'=>e= .returned (.bool (z2l f))/\Below w.heap.size w w':=by
 have hm:Hid (z2l f=(z5E f&&(decide (f.count=0)&&!f.closed))):=z7 (by unfold z2l;rw[wR wF,wZ (.inl J)]);have k1:((f.kind:Int)==1)=false:=by simp[J]
 have k4:((f.kind:Int)==4)=true:=by simp[J]
 clear J;have R:=z2N.made w f (.slice a f.b.length c);have hX:=z7 (U.low (q5 w (.cells (z0b f (.slice a f.b.length c)) 51)));obtain⟨kind,epoch,series,chunk,N,cnt,count,closed,sum,b,n⟩:=f;obtain⟨o1,o2,o3,o4,o5,o6,o7,o8,o9,a1⟩:=hf;simp only at*;have L:=z7 R;unfold frV z0b;unfold z0b at L hX;clear R U;go_enter func34,ntmps34;go_wp2_with fail;refine(z7f a b.length c n _ wF).mono ?_;rintro e w2 ⟨rfl,hb⟩;have I:=L.o.low hb;obtain⟨c0,c1,c2,c3,c4,c5,c6,c7,c8,c9,a0⟩:=I.cells;have O:Hid (Below w.heap.size w w2):=z7 ((q5 w _).trans (hb.mono wH));obtain⟨nb,A⟩:=zN ((decide (n=0)&&decide (b.length=0)));rw[<-A];have Y:=z7 A;clear hb I L A;go_wp2;all_goals go_ret
 all_goals refine⟨z1c ?_,O.o⟩
 all_goals rw[hm.o]
 all_goals try unfold z5E
 all_goals try simp only
 all_goals try rw[<-Y.o]
 all_goals try simp[*]
 all_goals try (rw[uc];simp)
theorem q3I(f:Fr)(a:Option Addr)(c:Nat)(w:World)(hf:f.Ok)(hl:f.b.length<=1000000)(U:RdB w (.slice a f.b.length c) f.b)(J:f.kind=5):
  Calls prog 34 #[frV f (.slice a f.b.length c)] w fun e w'=>e= .returned (.bool (z2l f))/\Below w.heap.size w w':=by
 have hm:Hid (z2l f=(z5E f&&(decide (f.count=0)&&!f.closed))):=z7 (by unfold z2l;rw[wR wF,wZ (.inr J)]);have k1:((f.kind:Int)==1)=false:=by simp[J]
 have k4:((f.kind:Int)==4)=false:=by simp[J]
 have k5:((f.kind:Int)==5)=true:=by simp[J]
 clear J;have R:=z2N.made w f (.slice a f.b.length c);have hX:=z7 (U.low (q5 w (.cells (z0b f (.slice a f.b.length c)) 51)));obtain⟨kind,epoch,series,chunk,N,cnt,count,closed,sum,b,n⟩:=f;obtain⟨o1,o2,o3,o4,o5,o6,o7,o8,o9,a1⟩:=hf;simp only at*;have L:=z7 R;unfold frV z0b;unfold z0b at L hX;clear R U;go_enter func34,ntmps34;go_wp2_with fail;refine(z7f a b.length c n _ wF).mono ?_;rintro e w2 ⟨rfl,hb⟩;have I:=L.o.low hb;obtain⟨c0,c1,c2,c3,c4,c5,c6,c7,c8,c9,a0⟩:=I.cells;have O:Hid (Below w.heap.size w w2):=z7 ((q5 w _).trans (hb.mono wH));obtain⟨nb,A⟩:=zN ((decide (n=0)&&decide (b.length=0)));rw[<-A];have Y:=z7 A;clear hb I L A;go_wp2;all_goals go_ret
 all_goals refine⟨z1c ?_,O.o⟩
 all_goals rw[hm.o]
 all_goals try unfold z5E
 all_goals try simp only
 all_goals try rw[<-Y.o]
 all_goals try simp[*]
 all_goals try (rw[uc];simp)
theorem q5d(f:Fr)(a:Option Addr)(c:Nat)(w:World)(hf:f.Ok)(hl:f.b.length<=1000000)(hx:RdB w (.slice a f.b.length c) f.b)(J:f.kind=2):
  Calls prog 34 #[frV f (.slice a f.b.length c)] w fun e w'=>e= .returned (.bool (z2l f))/\Below w.heap.size w w':=by
 have hm:Hid (z2l f=z5B f):=z7 (by unfold z2l;rw[wR wF,wR wF,wR wF,wZ J]);have k1:((f.kind:Int)==1)=false:=by simp[J]
 have k4:((f.kind:Int)==4)=false:=by simp[J]
 have k5:((f.kind:Int)==5)=false:=by simp[J]
 have k3:((f.kind:Int)==3)=false:=by simp[J]
 have k2:((f.kind:Int)==2)=true:=by simp[J]
 clear J;have hA:=z2N.made w f (.slice a f.b.length c);have hX:=z7 (hx.low (q5 w (.cells (z0b f (.slice a f.b.length c)) 51)));obtain⟨kind,epoch,series,chunk,a0,cnt,count,closed,sum,b,n⟩:=f;obtain⟨o1,o2,o3,o4,o5,o6,o7,o8,o9,a1⟩:=hf;simp only at*;have HA:=z7 hA;unfold frV z0b;unfold z0b at HA hX;clear hA hx;go_enter func34,ntmps34;go_wp2_with fail;refine(z7f a b.length c n _ wF).mono ?_;rintro e w2 ⟨rfl,hb⟩;have A:=HA.o.low hb;obtain⟨c0,c1,c2,c3,c4,c5,c6,c7,c8,c9,R⟩:=A.cells;have I:Hid (Below w.heap.size w w2):=z7 ((q5 w _).trans (hb.mono wH));have N:=z7 A;have O:=z7 (hX.o.low hb);obtain⟨nb,Y⟩:=zN ((decide (n=0)&&decide (b.length=0)));rw[<-Y];clear hb A HA Y;go_wp2_with fail;refine(y3U a c b n _ O.o wF o9 a1).mono ?_;rintro e w3 ⟨rfl,hb⟩;clear c0 c1 c2 c3 c4 c5 c6 c7 c8 c9 R;have A:=N.o.low hb;obtain⟨c0,c1,c2,c3,c4,c5,c6,c7,c8,c9,R⟩:=A.cells;have U:Hid (Below w.heap.size w w3):=z7 (I.o.trans (hb.mono I.o.size));obtain⟨sb,L⟩:=zN (z2C b n);rw[<-L];have HS:=z7 L;clear hb A L N O hX I;go_wp2;all_goals go_ret
 all_goals refine⟨z1c ?_,U.o⟩
 all_goals rw[hm.o]
 all_goals unfold z5B
 all_goals try simp only
 all_goals try rw[<-HS.o]
 all_goals try simp[*]
 all_goals try (rw[uc];simp;omega)
 all_goals try (intros;omega)
theorem q3T(f:Fr)(a:Option Addr)(c:Nat)(w:World)(hf:f.Ok)(hl:f.b.length<=1000000)(hx:RdB w (.slice a f.b.length c) f.b)(J:f.kind=3):
  Calls prog 34 #[frV f (.slice a f.b.length c)] w fun e w'=>e= .returned (.bool (z2l f))/\Below w.heap.size w w':=by
 have hm:Hid (z2l f=(decide (f.bits=0/\f.cnt=0/\f.sum=0)&&z5B f)):=z7 (by unfold z2l;rw[wR wF,wR wF,wZ J]);have k1:((f.kind:Int)==1)=false:=by simp[J]
 have k4:((f.kind:Int)==4)=false:=by simp[J]
 have k5:((f.kind:Int)==5)=false:=by simp[J]
 have k2:((f.kind:Int)==2)=false:=by simp[J]
 have k3:((f.kind:Int)==3)=true:=by simp[J]
 clear J;have hA:=z2N.made w f (.slice a f.b.length c);have hX:=z7 (hx.low (q5 w (.cells (z0b f (.slice a f.b.length c)) 51)));obtain⟨kind,epoch,series,chunk,a0,cnt,count,closed,sum,b,n⟩:=f;obtain⟨o1,o2,o3,o4,o5,o6,o7,o8,o9,a1⟩:=hf;simp only at*;have HA:=z7 hA;unfold frV z0b;unfold z0b at HA hX;clear hA hx;go_enter func34,ntmps34;go_wp2_with fail;refine(z7f a b.length c n _ wF).mono ?_;rintro e w2 ⟨rfl,hb⟩;have A:=HA.o.low hb;obtain⟨c0,c1,c2,c3,c4,c5,c6,c7,c8,c9,R⟩:=A.cells;have I:Hid (Below w.heap.size w w2):=z7 ((q5 w _).trans (hb.mono wH));have N:=z7 A;have O:=z7 (hX.o.low hb);obtain⟨nb,Y⟩:=zN ((decide (n=0)&&decide (b.length=0)));rw[<-Y];clear hb A HA Y;go_wp2_with fail;refine(y3U a c b n _ O.o wF o9 a1).mono ?_;rintro e w3 ⟨rfl,hb⟩;clear c0 c1 c2 c3 c4 c5 c6 c7 c8 c9 R;have A:=N.o.low hb;obtain⟨c0,c1,c2,c3,c4,c5,c6,c7,c8,c9,R⟩:=A.cells;have U:Hid (Below w.heap.size w w3):=z7 (I.o.trans (hb.mono I.o.size));obtain⟨sb,L⟩:=zN (z2C b n);rw[<-L];have HS:=z7 L;clear hb A L N O hX I;go_wp2;all_goals go_ret
 all_goals refine⟨z1c ?_,U.o⟩
 all_goals rw[hm.o]
 all_goals unfold z5B
 all_goals try simp only
 all_goals try rw[<-HS.o]
 all_goals try simp[*]
 all_goals try (rw[uc];simp;omega)
 all_goals try (intros;omega)
theorem q3c(f:Fr)(a:Option Addr)(c:Nat)(w:World)(hf:f.Ok)(hl:f.b.length<=1000000)(R:RdB w (.slice a f.b.length c) f.b)(hk:f.kind≠1/\f.kind≠2/\f.kind≠3/\f.kind≠4/\f.kind≠5):
  Calls prog 34 #[frV f (.slice a f.b.length c)] w fun e w'=>e= .returned (.bool (z2l f))/\Below w.heap.size w w':=by
 have hm:Hid (z2l f=false):=z7 (by unfold z2l;rw[wR wF,wR wF,wR wF,wR wF]);have k1:((f.kind:Int)==1)=false:=by rw[ux];omega
 have k4:((f.kind:Int)==4)=false:=by rw[ux];omega
 have k5:((f.kind:Int)==5)=false:=by rw[ux];omega
 have k3:((f.kind:Int)==3)=false:=by rw[ux];omega
 have k2:((f.kind:Int)==2)=false:=by rw[ux];omega
 clear hk;have O:=z2N.made w f (.slice a f.b.length c);have Y:=z7 (R.low (q5 w (.cells (z0b f (.slice a f.b.length c)) 51)));obtain⟨kind,epoch,series,chunk,L,cnt,count,closed,sum,b,n⟩:=f;obtain⟨o1,o2,o3,o4,o5,o6,o7,o8,o9,a0⟩:=hf;simp only at*;have J:=z7 O;unfold frV z0b;unfold z0b at J Y;clear O R;go_enter func34,ntmps34;go_wp2_with fail;refine(z7f a b.length c n _ wF).mono ?_;rintro e w2 ⟨rfl,hb⟩;have A:=J.o.low hb;obtain⟨c0,c1,c2,c3,c4,c5,c6,c7,c8,c9,U⟩:=A.cells;have N:Hid (Below w.heap.size w w2):=z7 ((q5 w _).trans (hb.mono wH));obtain⟨nb,I⟩:=zN ((decide (n=0)&&decide (b.length=0)));rw[<-I];clear hb A J I;go_wp2;go_ret;exact⟨z1c hm.o.symm,N.o⟩
theorem q5N(f:Fr)(a:Option Addr)(c:Nat)(w:World)(A:f.Ok)(I:f.b.length<=1000000)(J:RdB w (.slice a f.b.length c) f.b):
  Calls prog 34 #[frV f (.slice a f.b.length c)] w fun e w'=>e= .returned (.bool (z2l f))/\Below w.heap.size w w':=by
 by_cases L:f.kind=1
 .exact q4R f a c w A I J L
 by_cases N:f.kind=2
 .exact q5d f a c w A I J N
 by_cases O:f.kind=3
 .exact q3T f a c w A I J O
 by_cases R:f.kind=4
 .exact q3N f a c w A I J R
 by_cases U:f.kind=5
 .exact q3I f a c w A I J U
 exact q3c f a c w A I J ⟨L,N,O,R,U⟩
def beW(n:Nat):Nat->List UInt8
 | 0=> []
 | k+1=>UInt8.ofNat (n/256^k)::beW n k
theorem q4e(n:Nat):beW n 4=be4 n:=by
 simp[beW,be4]
theorem q0G{n:Nat}(h:n<18446744073709551616):beW n 8=be4 (n/4294967296)++be4 (n%4294967296):=by
 simp only[beW,be4,uY,uW];refine congr (uS List.cons ?_) (congr (uS List.cons ?_) (congr (uS List.cons ?_) (congr (uS List.cons ?_) (congr (uS List.cons ?_) (congr (uS List.cons ?_) (congr (uS List.cons ?_) (congr (uS List.cons ?_) rfl)))))));all_goals
  apply rC;simp only[oo];try omega
theorem y1V(n:Nat):∀k,(beW n k).length=k
 | 0=>rfl
 | k+1=>by rw[beW,wW,y1V n k]
theorem y9L{W w:World}{B n width:Nat}{v:Value}{l:List UInt8}(h:z4P W B v l w)(hn:n<18446744073709551616)(hw:width<=8)(hl:l.length<=2000000):
  Calls prog 35 #[v,.int .u64 n,.int .i64 width] w fun e w'=>∃a c,e= .returned (.slice a (l++beW n width).length c)/\z4P W B (.slice a (l++beW n width).length c) (l++beW n width) w':=by
 obtain⟨a0,c0,rfl⟩:=h.head;have HR:=z7 h;clear h;obtain⟨R,I⟩:=zN (l++beW n width);rw[<-I];have O:=z7 I;clear I;go_enter func35,ntmps35;go_wp2;go_loopw[0,7] (fun v i wr=>∃(i':Int) (m:Nat) (L:List UInt8) (U:Option Addr) (c':Nat),i= .int .i64 i'/\ -1<=i'/\i'<8/\v= .slice U m c'/\m<=2000008/\Hid (m=L.length)/\Hid (L++beW n (i'+1).toNat=R)/\Hid (z4P W B (.slice U m c') L wr)) (fun _ i _=>(intOf i+1).toNat)
 case atStart=>exact⟨_,_,l,_,_,rfl,wF,wF,rfl,wF,rfl,by rw[show((width:Int) - 1+1).toNat=width by omega];exact z7 O.o.symm,HR⟩
 case round=>
  obtain⟨i,m,L,U,c',rfl,aC,aE,rfl,hm,A,hL,I⟩:=hrel;by_cases aF:0<=i
  .obtain⟨k,rfl⟩:∃k:Nat,i=(k:Int):=⟨i.toNat,wF⟩;obtain⟨y,hy⟩:∃y:UInt8,y=UInt8.ofNat (n/256^k):=⟨_,rfl⟩;have a6:((n:Int)/2^(8*k)%256)=(y.toNat:Int):=by
    rw[hy,oo];have e:(2:Int)^(8*k)=((256^k:Nat):Int):=(by rw[Int.pow_mul];simp);rw[e];rfl
   have a5:RdB (wr.alloc (.cells #[.int .u8 ((n:Int)/2^(8*k)%256)] 5)) (.slice (some ⟨wr.heap.size,0,none⟩) 1 1) [y]:=
    z9U (l:= [y]) (e:=5) (fr:=(0,0)) (by rw[j8,a6];rfl) wH 1
   have a8:=z7 a5;have a7:=z7 (I.o.to (q5 wr (.cells #[.int .u8 ((n:Int)/2^(8*k)%256)] 5)));have a2:Hid ((L++ [y])++beW n k=R):=z7 (by
    have h:=hL.o;rw[show((k:Int)+1).toNat=k+1 by omega,beW,<-hy]at h;simpa using h)
   have a4:Hid ((L++ [y]).length<=2000008/\(L++ [y]).length=m+1):=z7 (by
    have h:=uS List.length (a2.o.trans O.o);have:=A.o;simp only[wP,y1V,wW,ob]at h;have h5:(L++ [y]).length=m+1:=(by simp;omega);omega)
   clear a5 a6 hy;go_wp2_with (at_builtin;refine wpList_copy_own rfl (.tmp 14) (.tmp 21) 47 rfl W B 5 underlying47 z4C (.slice U m c') L rfl a7.o _ [y] rfl a8.o (by have:=A.o;simp;omega) ?_);intro Y a1 w2 a3 aA;have J:=z7 a3;clear a3 aA;have e1:L.length+1=m+1:=(by rw[A.o]);have N:Hid (z9d W B 5 (.slice Y (m+1) a1) (L++ [y]) w2):=(by rw[<-e1];exact J);rw[e1];clear J e1;have aB:m+1<=2000008:=(by have:=a4.o;omega);go_wp2
   go_roundw
   case rel=>exact⟨(k:Int) - 1,m+1,L++ [y],Y,a1,rfl,wF,wF,rfl,aB,z7 a4.o.2.symm,by rw[show((k:Int) - 1+1).toNat=k by omega];exact a2,N⟩
   case measure=>simp[intOf]<;>omega
  have hi:i= -1:=wF;subst hi;have a9:L=R:=(by have h:=hL.o;simp[beW]at h;exact h);subst a9;go_wp2;go_ret;refine⟨U,c',?_,?_⟩
  .rw[<-A.o];rfl
  rw[<-A.o];exact I.o
def y5c(W:World)(B:Nat)(a:Option Addr)(m c:Nat)(l:List UInt8)(w:World):Prop:=m=l.length/\z4P W B (.slice a m c) l w
theorem z4b{W w:World}{B n m:Nat}{a:Option Addr}{c:Nat}{l:List UInt8}(h:y5c W B a m c l w)(A:Nat)(L:A=m+4)(N:n<18446744073709551616)(R:m<=2000000):
  Calls prog 35 #[.slice a m c,.int .u64 n,.int .i64 4] w fun e w'=>∃a' c',e= .returned (.slice a' A c')/\y5c W B a' A c' (l++be4 n) w':=by
 obtain⟨O,J⟩:=h;refine(y9L (width:=4) J N wF wF).mono ?_;rintro e w' ⟨a',c',rfl,I⟩;rw[q4e]at I ⊢;have e:A=(l++be4 n).length:=by rw[wP,z4W];omega
 rw[<-e]at I ⊢;exact⟨a',c',rfl,e,I⟩
theorem y6o{W w:World}{B n m:Nat}{a:Option Addr}{c:Nat}{l:List UInt8}(h:y5c W B a m c l w)(A:Nat)(N:A=m+8)(J:n<18446744073709551616)(R:m<=2000000):
  Calls prog 35 #[.slice a m c,.int .u64 n,.int .i64 8] w fun e w'=>∃a' c',e= .returned (.slice a' A c')/\y5c W B a' A c' (l++be4 (n/4294967296)++be4 (n%4294967296)) w':=by
 obtain⟨O,L⟩:=h;refine(y9L (width:=8) L J wF wF).mono ?_;rintro e w' ⟨a',c',rfl,I⟩;rw[q0G J,<-wj]at I ⊢;have e:A=(l++be4 (n/4294967296)++be4 (n%4294967296)).length:=by simp only[wP,z4W];omega
 rw[<-e]at I ⊢;exact⟨a',c',rfl,e,I⟩
theorem q0C{f:Fr}(h:z5B f=true):0<=f.n/\f.n<4294967296:=by
 unfold z5B z2C at h;simp at h;omega
theorem y0R{f:Fr}(h:z2l f=true):0<=f.n/\f.n<4294967296/\f.b.length<=4052:=by
 unfold z2l at h;split at h
 .unfold z5E at h;simp at h;rw[h.1.1,h.1.2];simp
 split at h
 .unfold z5E at h;simp at h;rw[h.1.1,h.1.2];simp
 split at h
 .have:=q0C (mu.1 h).2;unfold z5B at h;simp at h;omega
 split at h
 .have:=q0C h;unfold z5B at h;simp at h;omega
 cases h
theorem z8j(f:Fr)(a:Option Addr)(c:Nat)(w:World)(hf:f.Ok)(hl:f.b.length<=1000000)(hx:RdB w (.slice a f.b.length c) f.b)(hm:z2l f=true):
  Calls prog 11 #[frV f (.slice a f.b.length c)] w fun e w'=>∃a m c,e= .returned (.tuple #[.slice a m c,.int .i64 0])/\(m=(z0L f).length/\w'.ownsRow w.heap.size 5 1 (.slice a m c) m (z0c (z0L f)))/\Below w.heap.size w w':=by
 have hA:=z2N.made w f (.slice a f.b.length c);have hX:=z7 (hx.low (q5 w (.cells (z0b f (.slice a f.b.length c)) 51)));have bX:=z7 (q5 w (.cells (z0b f (.slice a f.b.length c)) 51));have bY:(w.alloc (.cells (z0b f (.slice a f.b.length c)) 51)).heap.size=w.heap.size+1:=wH
 have HM:=z7 hm;have HF:=z7 hf;have HA:=z7 hA;obtain⟨n0,n1,_⟩:=y0R hm;obtain⟨o1,o2,o3,o4,o5,o6,o7,o8,o9,bD⟩:=hf;clear hx hm hA;have b7:frV f (.slice a f.b.length c)= .agg #[.int .u8 f.kind,.int .u32 f.epoch,.int .u32 f.series,.int .u32 f.chunk,.int .u32 f.bits,.int .u32 f.cnt,.int .u32 f.count,.bool f.closed,.int .u64 f.sum,.slice a f.b.length c,.int .i64 f.n]:=rfl;have HV:=z7 b7;rw[b7];clear b7;go_enter func11,ntmps11;go_wp2_with fail;rw[<-HV.o];refine(q5N f a c _ HF.o hl hX.o).mono ?_;rintro e w2 ⟨rfl,hb⟩;rw[HM.o];have aH:Hid (Below w.heap.size w w2):=z7 (bX.o.trans (hb.mono wF));have aU:=HA.o.low hb;have a0:=z7 aU;have bM:=z7 (hX.o.low hb);obtain⟨c0,c1,c2,c3,c4,O,R,U,Y,c9,I⟩:=aU.cells;have bZ:w.heap.size<w2.heap.size:=aU.lt;clear hb aU;go_wp2_with fail;have bS:=rowIs_made w2 w2.heap.size [0x44,0x59,UInt8.ofNat f.kind] #[.int .u8 68,.int .u8 89,.int .u8 f.kind] rfl (by
  simp only[z0c,uI,pQ,oo,List.toArray];rw[dh o1];rfl) wH
 have bN:y5c w2 w2.heap.size (some ⟨w2.heap.size,0,none⟩) 3 3 [0x44,0x59,UInt8.ofNat f.kind] (w2.alloc (.cells #[.int .u8 68,.int .u8 89,.int .u8 f.kind] 5)):=⟨rfl,bS⟩;have aD:=z7 bN;obtain⟨L0,b4⟩:=zN ( [0x44,0x59,UInt8.ofNat f.kind]);rw[<-b4]at aD;have b8:=z7 b4;clear bS bN b4;refine(z4b aD.o 7 rfl wF wF).mono ?_;rintro e W1 ⟨a1,d1,rfl,A⟩;clear c0 c1 c2 c3 c4 O R U Y c9 I;obtain⟨c0,c1,c2,c3,c4,O,R,U,Y,c9,I⟩:=(a0.o.low A.2.2.1).cells;obtain⟨L1,J⟩:=zN (L0++be4 f.epoch);rw[<-J]at A;have b9:=z7 J;have bG:=z7 A;clear A J aD;go_wp2_with fail;refine(z4b bG.o 11 rfl wF wF).mono ?_;rintro e W2 ⟨a2,d2,rfl,A⟩;clear c0 c1 c2 c3 c4 O R U Y c9 I;obtain⟨c0,c1,c2,c3,c4,O,R,U,Y,c9,I⟩:=(a0.o.low A.2.2.1).cells;obtain⟨L2,J⟩:=zN (L1++be4 f.series);rw[<-J]at A;have bA:=z7 J;have bH:=z7 A;clear A J bG;go_wp2_with fail;refine(z4b bH.o 15 rfl wF wF).mono ?_;rintro e W3 ⟨a3,d3,rfl,A⟩;clear c0 c1 c2 c3 c4 O R U Y c9 I;obtain⟨c0,c1,c2,c3,c4,O,R,U,Y,c9,I⟩:=(a0.o.low A.2.2.1).cells;obtain⟨L3,J⟩:=zN (L2++be4 f.chunk);rw[<-J]at A;have bB:=z7 J;have bI:=z7 A;clear A J bH;go_wp2_with fail;refine(z4b bI.o 19 rfl wF wF).mono ?_;rintro e W4 ⟨a4,d4,rfl,A⟩;clear c0 c1 c2 c3 c4 O R U Y c9 I;obtain⟨c0,c1,c2,c3,c4,O,R,U,Y,c9,I⟩:=(a0.o.low A.2.2.1).cells
 obtain⟨L4,J⟩:=zN (L3++be4 f.bits);rw[<-J]at A;have bC:=z7 J;have bJ:=z7 A;clear A J bI;go_wp2_with fail;refine(z4b bJ.o 23 rfl wF wF).mono ?_;rintro e W5 ⟨a5,d5,rfl,A⟩;clear c0 c1 c2 c3 c4 O R U Y c9 I;obtain⟨c0,c1,c2,c3,c4,O,R,U,Y,c9,I⟩:=(a0.o.low A.2.2.1).cells;obtain⟨L5,J⟩:=zN (L4++be4 f.cnt);rw[<-J]at A;have bE:=z7 J;have bL:=z7 A;clear A J bJ;go_wp2_with fail;refine(z4b bL.o 27 rfl wF wF).mono ?_;rintro e W6 ⟨a6,d6,rfl,A⟩;clear c0 c1 c2 c3 c4 O R U Y c9 I;obtain⟨c0,c1,c2,c3,c4,O,R,U,Y,c9,I⟩:=(a0.o.low A.2.2.1).cells;obtain⟨L6,J⟩:=zN (L5++be4 f.count);rw[<-J]at A;have bF:=z7 J;have aG:=z7 A;clear A J bL;have bO:f.closed=true\/f.closed=false:=by cases f.closed<;>simp
 rcases bO with b6|b6
 .have aV:Hid (y1J f.closed=1):=z7 (by rw[b6];rfl);have aT:RdB (W6.alloc (.cells #[.int .u8 1] 5)) (.slice (some ⟨W6.heap.size,0,none⟩) 1 1) [1]:=
   z9U (l:= [1]) (e:=5) (fr:=(0,0)) (by rw[j8];rfl) wH 1
  have aL:=z7 aT;have aC:=z7 (aG.o.2.to (q5 W6 (.cells #[.int .u8 1] 5)));have aR:L6.length=27:=aG.o.1.symm;have aE:=z7 aR;clear aT aR aG;go_wp2_with (at_builtin;refine wpList_copy_own rfl (.tmp 49) (.tmp 51) 47 rfl w2 w2.heap.size 5 underlying47 z4C (.slice a6 27 d6) L6 rfl aC.o _ [1] rfl aL.o (by rw[aE.o];simp) ?_);intro a7 d7 W7 aF b5;have aO:L6.length+1=28:=by rw[aE.o]
  rw[aO]at aF ⊢;have A:y5c w2 w2.heap.size a7 28 d7 (L6++ [1]) W7:=⟨by simp[aE.o],aF⟩;clear c0 c1 c2 c3 c4 O R U Y c9 I aC aL aO aF b5;obtain⟨c0,c1,c2,c3,c4,O,R,U,Y,c9,I⟩:=(a0.o.low A.2.2.1).cells;obtain⟨L7,J⟩:=zN (L6++ [(1:UInt8)]);rw[<-J]at A;have aX:=z7 J;have aC:=z7 A;clear A J;go_wp2_with fail;refine(y6o aC.o 36 rfl wF wF).mono ?_;rintro e W8 ⟨a8,d8,rfl,A⟩;clear c0 c1 c2 c3 c4 O R U Y c9 I;obtain⟨c0,c1,c2,c3,c4,O,R,U,Y,c9,I⟩:=(a0.o.low A.2.2.1).cells;obtain⟨L8,J⟩:=zN (L7++be4 (f.sum/4294967296)++be4 (f.sum%4294967296));rw[<-J]at A;have aY:=z7 J;have aI:=z7 A;clear A J aC;obtain⟨N,hN⟩:∃N:Nat,f.n=(N:Int):=⟨f.n.toNat,wF⟩;rw[hN]at I;have HN:=z7 hN;have bV:N<4294967296:=wF
  clear hN n0 n1;go_wp2_with fail;refine(z4b aI.o 40 rfl wF wF).mono ?_;rintro e W9 ⟨a9,d9,rfl,A⟩;clear c0 c1 c2 c3 c4 O R U Y c9 I;obtain⟨c0,c1,c2,c3,c4,O,R,U,Y,c9,I⟩:=(a0.o.low A.2.2.1).cells;have hH:L8++be4 N=z1S f:=by
   rw[aY.o,aX.o,bF.o,bE.o,bC.o,bB.o,bA.o,b9.o,b8.o,<-aV.o];unfold z1S;rw[HN.o,show((N:Int)%4294967296).toNat=N by omega]
  rw[hH]at A;have aJ:=z7 A;have aM:=z7 (bM.o.low A.2.2.1);clear A aI hH;go_wp2_with (at_builtin;refine wpList_copy_own rfl (.tmp 63) (.tmp 66) 47 rfl w2 w2.heap.size 5 underlying47 z4C (.slice a9 40 d9) (z1S f) rfl aJ.o.2 _ f.b rfl aM.o (by rw[z2w];omega) ?_);intro b0 b2 aW L _;rw[show z1S f++f.b=z2J f from rfl]at L;have aS:(z2J f).length=40+f.b.length:=by simp[z2J,z2w]
  have aN:(z1S f).length+f.b.length=(z2J f).length:=by simp[z2J]
  rw[aN]at L ⊢;obtain⟨M,hM⟩:=zN (z2J f);rw[<-hM]at L aS ⊢;have bU:M.length<=1000040:=wF
  have aZ:=z7 hM;have aA:=z7 L;clear L hM aJ aM c0 c1 c2 c3 c4 O R U Y c9 I aS aN;go_wp2_with fail;refine(q0c _ M _ (z0d aA.o.1) wF).mono ?_;rintro e w' ⟨rfl,rfl⟩;have bR:=z8t M;go_wp2_with fail;refine(z4b (⟨rfl,aA.o⟩:y5c w2 w2.heap.size b0 M.length b2 M aW) (M.length+4) rfl wF wF).mono ?_;rintro e bT ⟨b1,b3,rfl,A⟩;have hW:z0L f=M++be4 (z3e M):=by rw[aZ.o];rfl
  rw[<-hW]at A;have aB:=z7 A;clear A hW aA;go_wp2;go_ret2;refine⟨b1,M.length+4,b3,rfl,?_,aH.o.trans (aB.o.2.2.1.mono aH.o.size)⟩;have h1:=aB.o.2.1;have h2:=aB.o.1;exact⟨h2,z0f (by rw[<-h2]at h1;exact h1) aH.o.size⟩
 have aV:Hid (y1J f.closed=0):=z7 (by rw[b6];rfl);have aT:RdB (W6.alloc (.cells #[.int .u8 0] 5)) (.slice (some ⟨W6.heap.size,0,none⟩) 1 1) [0]:=
  z9U (l:= [0]) (e:=5) (fr:=(0,0)) (by rw[j8];rfl) wH 1
 have aL:=z7 aT;have aC:=z7 (aG.o.2.to (q5 W6 (.cells #[.int .u8 0] 5)));have aR:L6.length=27:=aG.o.1.symm;have aE:=z7 aR;clear aT aR aG;go_wp2_with (at_builtin;refine wpList_copy_own rfl (.tmp 49) (.tmp 51) 47 rfl w2 w2.heap.size 5 underlying47 z4C (.slice a6 27 d6) L6 rfl aC.o _ [0] rfl aL.o (by rw[aE.o];simp) ?_);intro a7 d7 W7 aF b5;have aO:L6.length+1=28:=by rw[aE.o]
 rw[aO]at aF ⊢;have A:y5c w2 w2.heap.size a7 28 d7 (L6++ [0]) W7:=⟨by simp[aE.o],aF⟩;clear c0 c1 c2 c3 c4 O R U Y c9 I aC aL aO aF b5;obtain⟨c0,c1,c2,c3,c4,O,R,U,Y,c9,I⟩:=(a0.o.low A.2.2.1).cells;obtain⟨L7,J⟩:=zN (L6++ [(0:UInt8)]);rw[<-J]at A;have aX:=z7 J;have aC:=z7 A;clear A J;go_wp2_with fail;refine(y6o aC.o 36 rfl wF wF).mono ?_;rintro e W8 ⟨a8,d8,rfl,A⟩;clear c0 c1 c2 c3 c4 O R U Y c9 I;obtain⟨c0,c1,c2,c3,c4,O,R,U,Y,c9,I⟩:=(a0.o.low A.2.2.1).cells;obtain⟨L8,J⟩:=zN (L7++be4 (f.sum/4294967296)++be4 (f.sum%4294967296));rw[<-J]at A;have aY:=z7 J;have aI:=z7 A;clear A J aC;obtain⟨N,hN⟩:∃N:Nat,f.n=(N:Int):=⟨f.n.toNat,wF⟩;rw[hN]at I;have HN:=z7 hN;have bV:N<4294967296:=wF
 clear hN n0 n1;go_wp2_with fail;refine(z4b aI.o 40 rfl wF wF).mono ?_;rintro e W9 ⟨a9,d9,rfl,A⟩;clear c0 c1 c2 c3 c4 O R U Y c9 I;obtain⟨c0,c1,c2,c3,c4,O,R,U,Y,c9,I⟩:=(a0.o.low A.2.2.1).cells;have hH:L8++be4 N=z1S f:=by
  rw[aY.o,aX.o,bF.o,bE.o,bC.o,bB.o,bA.o,b9.o,b8.o,<-aV.o];unfold z1S;rw[HN.o,show((N:Int)%4294967296).toNat=N by omega]
 rw[hH]at A;have aJ:=z7 A;have aM:=z7 (bM.o.low A.2.2.1);clear A aI hH;go_wp2_with (at_builtin;refine wpList_copy_own rfl (.tmp 63) (.tmp 66) 47 rfl w2 w2.heap.size 5 underlying47 z4C (.slice a9 40 d9) (z1S f) rfl aJ.o.2 _ f.b rfl aM.o (by rw[z2w];omega) ?_);intro b0 b2 aW L _;rw[show z1S f++f.b=z2J f from rfl]at L;have aS:(z2J f).length=40+f.b.length:=by simp[z2J,z2w]
 have aN:(z1S f).length+f.b.length=(z2J f).length:=by simp[z2J]
 rw[aN]at L ⊢;obtain⟨M,hM⟩:=zN (z2J f);rw[<-hM]at L aS ⊢;have bU:M.length<=1000040:=wF
 have aZ:=z7 hM;have aA:=z7 L;clear L hM aJ aM c0 c1 c2 c3 c4 O R U Y c9 I aS aN;go_wp2_with fail;refine(q0c _ M _ (z0d aA.o.1) wF).mono ?_;rintro e w' ⟨rfl,rfl⟩;have bR:=z8t M;go_wp2_with fail;refine(z4b (⟨rfl,aA.o⟩:y5c w2 w2.heap.size b0 M.length b2 M aW) (M.length+4) rfl wF wF).mono ?_;rintro e bT ⟨b1,b3,rfl,A⟩;have hW:z0L f=M++be4 (z3e M):=by rw[aZ.o];rfl
 rw[<-hW]at A;have aB:=z7 A;clear A hW aA;go_wp2;go_ret2;refine⟨b1,M.length+4,b3,rfl,?_,aH.o.trans (aB.o.2.2.1.mono aH.o.size)⟩;have h1:=aB.o.2.1;have h2:=aB.o.1;exact⟨h2,z0f (by rw[<-h2]at h1;exact h1) aH.o.size⟩

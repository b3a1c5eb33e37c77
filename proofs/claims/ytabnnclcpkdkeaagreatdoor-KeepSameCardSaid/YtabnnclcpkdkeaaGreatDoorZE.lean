/- Walks over package sync's Once and packa. -/
import Derived.Test.YtabnnclcpkdkeaaGreatDoorZBase
import Derived.Tactics
import Derived.Tactics2
import Derived.Defers
import Derived.Laws.Pointers
import Derived.Laws.LoneSync
import Derived.RegionTactic
import Derived.RegionCalls
import Derived.Laws.BitsAllLaws
namespace Go.Proofs.YtabnnclcpkdkeaaGreatDoor
open Go.Proofs.Tryz
set_option linter.all false
set_option maxRecDepth 100000
set_option maxHeartbeats 0
open Go.RowKit
theorem y7f(w:World):(callFunc 207 #[]).run prog w= .ok (.value (.tuple #[])) w:=run_call_mark0 func207 (by kernel_rfl) (by kernel_rfl) (by kernel_rfl) .disable (by kernel_rfl) w
theorem q0o(w:World):(callFunc 209 #[]).run prog w= .ok (.value (.tuple #[])) w:=run_call_mark0 func209 (by kernel_rfl) (by kernel_rfl) (by kernel_rfl) .enable (by kernel_rfl) w
theorem q2F(a:Addr)(w:World):(callFunc 210 #[.pointer (some a)]).run prog w= .ok (.value (.tuple #[])) w:=run_call_marked func210 (by kernel_rfl) (by kernel_rfl) (by kernel_rfl) .acquire (by kernel_rfl) a w
theorem q3r(a:Addr)(w:World):(callFunc 212 #[.pointer (some a)]).run prog w= .ok (.value (.tuple #[])) w:=run_call_marked func212 (by kernel_rfl) (by kernel_rfl) (by kernel_rfl) .releaseMerge (by kernel_rfl) a w
theorem z8Q(a:Addr)(x:Value)(u:FrameMode)(w:World)(N:w.cell? a=some x)(O:w.frozen? a=false):
  CallsD prog 177 #[.pointer (some a),.bool true] u w fun e L w'=>L=u/\(e= .returned (.tuple #[])/\w'=w.drew.setCell a (.int .u32 1)):=by
 have A:w.drew.cell? a=some x:=by go_simp
 have I:w.drew.frozen? a=false:=by go_simp
 have J:=run_call_store (P:=prog) func198 (by kernel_rfl) (by kernel_rfl) (by kernel_rfl) (by kernel_rfl) (k:= .u32) (y:=1) A I
 go_enter_d func177,ntmps177
 go_wp2
 go_region_calls
 all_goals (go_end0;exact⟨rfl,rfl⟩)
theorem z7K(a:Addr)(u:FrameMode)(w:World)(I:w.cell? a=some (.int .i32 1))(L:w.frozen? a=false):
  CallsD prog 176 #[.pointer (some a)] u w fun e N w'=>N=u/\(e= .returned (.tuple #[])/\w'=w.setCell a (.int .i32 0)):=by
 have hd:=y7f;have O:=q0o;have R:=q3r;have A:=run_call_add (P:=prog) func213 (by kernel_rfl) (by kernel_rfl) (by kernel_rfl) .i32 (by kernel_rfl) (y:= -1) (s:=0) I L (by simp[go_sem];rfl);have J:=rD (P:=prog) (src:=343) (dst:=347) underlying343 underlying347 (by kernel_rfl) I
 go_enter_d func176,ntmps176
 go_wp2
 go_end0
 go_wp2
 go_end0
 exact⟨rfl,rfl⟩
theorem y8o(a:Addr)(w:World)(I:w.cell? a=some (.int .i32 0))(N:w.frozen? a=false):
  Calls prog 175 #[.pointer (some a)] w fun e w'=>e= .returned (.tuple #[])/\w'=w.setCell a (.int .i32 1):=by
 have hd:=y7f;have R:=q0o;have O:=q2F;have J:=run_call_cas_hit (P:=prog) func208 (by kernel_rfl) (by kernel_rfl) (by kernel_rfl) .i32 (by kernel_rfl) (y:=1) I N;have A:(w.setCell a (.int .i32 1)).cell? a=some (.int .i32 1):=gm w a _ I;have L:=rD (P:=prog) (src:=343) (dst:=347) underlying343 underlying347 (by kernel_rfl) A;go_enter func175,ntmps175;go_wp2;first|go_end0|(simp only[Exit.inBlock,Exit.then];refine wU (eK rfl _ _ _) rfl ?_)|refine wU (eK rfl _ _ _) rfl ?_
 go_wp2
 go_end0
 exact⟨rfl,rfl⟩
theorem z4U(a:Addr)(d:Int)(b:Bool)(w:World)(A:w.cell? a=some (.int .u32 d))(hb:(d !=0)=b):
  Calls prog 147 #[.pointer (some a)] w fun e w'=>e= .returned (.bool b)/\w=w':=by
 have I:=run_call_load (P:=prog) func174 (by kernel_rfl) (by kernel_rfl) (by kernel_rfl) .u32 (by kernel_rfl) A;subst hb;go_enter func147,ntmps147;go_wp2;go_ret;exact⟨rfl,rfl⟩
theorem q2d(a:Addr)(A:Value)(w:World)(I:w.cell? a=some (.int .u32 1)):
  Calls prog 120 #[.pointer (some a),A] w fun e w'=>e= .returned (.tuple #[])/\w=w':=by
 go_enter func120,ntmps120;go_wp2_with (go_at_call 147;refine(z4U a 1 true _ I rfl).mono ?_;rintro e w' ⟨rfl,rfl⟩)
 go_end0
 exact⟨rfl,rfl⟩
def y9K(R:World->World->Prop)(b o:Nat)(w1 w2:World):Prop:=
 w2.cell? ⟨b,o,none⟩=w1.cell? ⟨b,o,none⟩/\w2.cell? ⟨b,o+1,none⟩=w1.cell? ⟨b,o+1,none⟩/\w2.frozen? ⟨b,o,none⟩=false/\w2.frozen? ⟨b,o+1,none⟩=false/\R w1 w2
theorem q0O(R:World->World->Prop)(b o f:Nat)(first A:Array Value)(w:World)
  (h0:w.cell? ⟨b,o,none⟩=some (.int .u32 0)) (N:w.cell? ⟨b,o+1,none⟩=some (.int .i32 0))
  (f0:w.frozen? ⟨b,o,none⟩=false) (f1:w.frozen? ⟨b,o+1,none⟩=false)
  (O:Calls prog f (first++A) (w.setCell ⟨b,o+1,none⟩ (.int .i32 1)) fun e w'=>e= .returned (.tuple #[])/\y9K R b o (w.setCell ⟨b,o+1,none⟩ (.int .i32 1)) w')
  (J:∀w',(callFunc f (first++A)).run prog w'= .ok (.enter f (first++A)) w'):
  Calls prog 148 #[.pointer (some ⟨b,o,none⟩),.func (.func f) first A] w fun e w'=>e= .returned (.tuple #[])/\
   ∃I,R (w.setCell ⟨b,o+1,none⟩ (.int .i32 1)) I/\w'=(I.drew.setCell ⟨b,o,none⟩ (.int .u32 1)).setCell ⟨b,o+1,none⟩ (.int .i32 0):=by
 have a0:(w.setCell ⟨b,o+1,none⟩ (.int .i32 1)).cell? ⟨b,o,none⟩=some (.int .u32 0):=(eu _ ⟨b,o+1,none⟩ ⟨b,o,none⟩ _ wH).trans h0;have Y:(w.setCell ⟨b,o+1,none⟩ (.int .i32 1)).cell? ⟨b,o+1,none⟩=some (.int .i32 1):=gm w _ _ N;have U:=z7 O;clear O
 go_enter_defers func148,ntmps148
 go_wp2_with (go_at_call 175;refine(y8o ⟨b,o+1,none⟩ _ N f1).mono ?_;rintro e w' ⟨rfl,rfl⟩);go_wp2_with (go_at_call 147;refine(z4U ⟨b,o,none⟩ 0 false _ a0 rfl).mono ?_;rintro e w' ⟨rfl,rfl⟩);refine U.o.mono ?_;rintro e I ⟨rfl,c0,c1,z0,z1,hR⟩;have d0:=c0.trans a0;have d1:=c1.trans Y;clear c0 c1;go_wp2;refine tQ (f:=177) (args:= #[.pointer (some ⟨b,o,none⟩),.bool true]) wH (by simp[go_sem]) ?_;refine(z8Q ⟨b,o,none⟩ (.int .u32 0) .returning _ d0 z0).mono ?_;rintro e u' L ⟨rfl,rfl,rfl⟩;refine tQ (f:=176) (args:= #[.pointer (some ⟨b,o+1,none⟩)]) (by simp[settle]) (by simp[go_sem]) ?_;refine(z7K ⟨b,o+1,none⟩ _ _ ?_ (by simp[z1])).mono ?_
 .refine(eu _ ⟨b,o,none⟩ ⟨b,o+1,none⟩ _ wH).trans ?_;rw[qp];exact d1
 rintro e u' L ⟨rfl,rfl,rfl⟩;simp[Leaves,settle,results,Tryz.results148];exact⟨I,hR,rfl⟩
theorem y8e(R:World->World->Prop)(b o f:Nat)(first A:Array Value)(w:World)
  (L:w.cell? ⟨b,o,none⟩=some (.int .u32 0)) (h1:w.cell? ⟨b,o+1,none⟩=some (.int .i32 0))
  (Y:w.frozen? ⟨b,o,none⟩=false) (f1:w.frozen? ⟨b,o+1,none⟩=false)
  (N:Calls prog f (first++A) (w.setCell ⟨b,o+1,none⟩ (.int .i32 1)) fun e w'=>e= .returned (.tuple #[])/\y9K R b o (w.setCell ⟨b,o+1,none⟩ (.int .i32 1)) w')
  (I:∀w',(callFunc f (first++A)).run prog w'= .ok (.enter f (first++A)) w'):
  Calls prog 120 #[.pointer (some ⟨b,o,none⟩),.func (.func f) first A] w fun e w'=>e= .returned (.tuple #[])/\
   ∃J,R (w.setCell ⟨b,o+1,none⟩ (.int .i32 1)) J/\w'=(J.drew.setCell ⟨b,o,none⟩ (.int .u32 1)).setCell ⟨b,o+1,none⟩ (.int .i32 0):=by
 have U:=z7 N;have O:=z7 I;clear N I;go_enter func120,ntmps120;go_wp2_with (go_at_call 147;refine(z4U ⟨b,o,none⟩ 0 false _ L rfl).mono ?_;rintro e w' ⟨rfl,rfl⟩);refine(q0O R b o f first A _ L h1 Y f1 U.o O.o).mono ?_;rintro e w' ⟨rfl,J,hR,rfl⟩;go_wp2
 go_end0
 exact⟨rfl,J,hR,rfl⟩
def q6g(n:Nat):Value:= .int .u32 n
def y2S:List Value:=List.replicate 256 (.int .u32 0)
def y8D:List Value:=(List.range 256).map fun i=>q6g (z3c 8 i)
def y3i(d st made:Int)(T:List Value):Array Value:=(.int .u32 d:: .int .i32 st:: .int .u32 0:: .int .i64 made::T).toArray
structure z2c (w:World) (tb:Nat) (d st made:Int) (T:List Value):Prop where
 cells:w.heap[tb]? =some (.cells (y3i d st made T) 238 (0,0))
 len:T.length=256
theorem z2c.heads{w:World}{I:Nat}{d J A:Int}{T:List Value}(h:z2c w I d J A T):
  w.cell? ⟨I,0,none⟩=some (.int .u32 d)/\w.cell? ⟨I,1,none⟩=some (.int .i32 J)/\w.cell? ⟨I,3,none⟩=some (.int .i64 A)/\(∀o,w.frozen? ⟨I,o,none⟩=false)/\I<w.heap.size:=by
 refine⟨?_,?_,?_,fun o=>by simp[World.frozen?,h.cells],(wI.1 h.cells).1⟩<;>simp[World.cell?,h.cells,y3i]
theorem z2c.cell{w:World}{I:Nat}{d J A:Int}{T:List Value}(h:z2c w I d J A T)(k:Nat):w.cell? ⟨I,4+k,none⟩=T[k]? :=by
 rw[Nat.add_comm];simp[World.cell?,h.cells,y3i]
theorem z2c.same{w w':World}{I:Nat}{d J A:Int}{T:List Value}(h:z2c w I d J A T)(L:w'.heap[I]? =w.heap[I]?):z2c w' I d J A T:=⟨L.trans h.cells,h.len⟩
theorem z2c.low{w w':World}{J:Nat}{d I A:Int}{T:List Value}(h:z2c w J d I A T)(hb:Below w.heap.size w w'):z2c w' J d I A T:=h.same (hb.block _ h.heads.2.2.2.2)
theorem z2c.set{w:World}{I:Nat}{d J A:Int}{T:List Value}(h:z2c w I d J A T)(k:Nat)(u:Value):z2c (w.setCell ⟨I,4+k,none⟩ u) I d J A (T.set k u):=
 ⟨by rw[z0a h.cells,Nat.add_comm];simp[y3i],by simpa using h.len⟩
theorem z2c.set3{w:World}{I:Nat}{d J A:Int}{T:List Value}(h:z2c w I d J A T)(m:Int):z2c (w.setCell ⟨I,3,none⟩ (.int .i64 m)) I d J m T:=
 ⟨by rw[z0a h.cells];simp[y3i],h.len⟩
theorem z2c.set1{w:World}{I:Nat}{d J A:Int}{T:List Value}(h:z2c w I d J A T)(m:Int):z2c (w.setCell ⟨I,1,none⟩ (.int .i32 m)) I d m A T:=
 ⟨by rw[z0a h.cells];simp[y3i],h.len⟩
theorem z2c.set0{w:World}{I:Nat}{d J A:Int}{T:List Value}(h:z2c w I d J A T)(m:Int):z2c (w.setCell ⟨I,0,none⟩ (.int .u32 m)) I m J A T:=
 ⟨by rw[z0a h.cells];simp[y3i],h.len⟩
theorem Chg.set{I:Nat}(w:World)(o:Nat)(u:Value):Chg [I] [I] w (w.setCell ⟨I,o,none⟩ u):=
 ⟨rfl,rfl,rfl,by simp[World.setCell],fun k _ A=>q7 (by simpa using A),fun k A=> .inl A⟩
theorem y8M:Tryz.zeroCells238=y3i 0 0 0 y2S:=by kernel_rfl
theorem q5I(w:World):Calls prog 75 #[] w fun e w'=>
  e= .returned (.pointer (some ⟨w.heap.size,0,none⟩))/\w'=w.alloc (.cells (y3i 0 0 0 y2S) 238):=by
 rw[<-y8M];go_enter func75,ntmps75;go_wp2;go_ret;exact⟨rfl,rfl⟩
theorem z2c.made(w:World):z2c (w.alloc (.cells (y3i 0 0 0 y2S) 238)) w.heap.size 0 0 0 y2S:=
 ⟨qZ,by rw[y2S,ir]⟩
theorem q0N(c:Nat)(h:c<4294967296):bits .xor .u32 ((c:Int)/2) (bits .and .u32 2197175160 (-(bits .and .u32 (c:Int) 1)%4294967296))=((step1 c:Nat):Int):=by
 have N:bits .and .u32 (c:Int) 1=((c%2:Nat):Int):=by
  have:=tR c 1 h wF;rw[nat_mask1]at this;exact this
 rw[N];unfold step1;have A:=qR c;rcases A with A|A
 .rw[A];have I:=tR 2197175160 0 wF wF;have e:(-((0:Nat):Int))%4294967296=((0:Nat):Int):=wF
  rw[e,show(2197175160:Int)=((2197175160:Nat):Int)from rfl,I];have J:=my (c/2) 0 wF wF;simpa using J
 rw[A];have I:=tR 2197175160 4294967295 wF wF;have e:(-((1:Nat):Int))%4294967296=((4294967295:Nat):Int):=wF
 rw[e,show(2197175160:Int)=((2197175160:Nat):Int)from rfl,I];have J:=my (c/2) 2197175160 wF wF;have L:2197175160&&&4294967295=2197175160:=wG
 rw[L];simpa[y5L]using J
theorem y9n(a:Addr)(x y:Int)(w:World)(I:w.cell? a=some (.int .i64 x))(J:w.frozen? a=false)(L:0<=x)(N:x<=1000)(O:0<=y)(R:y<=1000):
  Calls prog 149 #[.pointer (some a),.int .i64 y] w fun e w'=>e= .returned (.int .i64 (x+y))/\w'=w.setCell a (.int .i64 (x+y)):=by
 have A:=run_call_add (P:=prog) func178 (by kernel_rfl) (by kernel_rfl) (by kernel_rfl) .i64 (by kernel_rfl) (y:=y) (s:=x+y) I J (by have e:IntKind.i64.wrap (x+y)=x+y:=by {rw[uL];omega};simp[go_sem,Op.intArith,e]);go_enter func149,ntmps149;go_wp2;go_ret;exact⟨rfl,rfl⟩
theorem q4F(J:Nat)(d st I:Int)(T:List Value)(w:World)(h:z2c w J d st I T)(a6:0<=I)(a7:I<=1000):
  Calls prog 121 #[.pointer (some ⟨J,0,none⟩)] w fun e w'=>e= .returned (.tuple #[])/\z2c w' J d st (I+1) y8D/\Chg [J] [J] w w':=by
 have H:=z7 h;clear h;go_enter func121,ntmps121;go_wp2;go_loopw[4] (fun i wr=>∃(k:Nat),k<=256/\i= .int .i64 k/\Hid (∃T,z2c wr J d st I T/\(∀j,j<k->T[j]? =some (q6g (z3c 8 j)))/\Chg [J] [J] w wr)) (fun i _=>256 - (intOf i).toNat)
 case atStart=>exact⟨0,uA _,rfl,T,H.o,fun j hj=>absurd hj (Nat.not_lt_zero j),Chg.refl _ _⟩
 case round=>
  obtain⟨k,hk,rfl,hT⟩:=hrel;by_cases O:k<256
  .have a8:(0:Int)<=k:=wF;have a9:(k:Int)<256:=wF;obtain⟨wo,rfl⟩:∃wo:World,wo=wr:=⟨_,rfl⟩;go_wp2
   go_loop [3,9] (fun c j=>∃(n m:Nat),m<=8/\n<4294967296/\c= .int .u32 n/\j= .int .i64 m/\Hid (n=z3c m k)) (fun _ j=>8 - (intOf j).toNat)
   case atStart=>exact⟨k,0,wF,wF,rfl,rfl,rfl⟩
   case round=>
    obtain⟨n,m,hm,hn,rfl,rfl,Y⟩:=hrel;by_cases aA:m<8
    .have a0:=q0N n hn;have a2:=y2d (c:=n) hn;obtain⟨n2,U⟩:=zN (step1 n);rw[<-U]at a0 a2;have HS:=z7 a0;have a3:Hid (n2=z3c (m+1) k):=(by rw[U,Y.o,z8l];exact rfl);clear a0 U;go_wp2;rw[HS.o]
     go_round
     case rel=>exact⟨n2,m+1,wF,wF,rfl,by go_num,a3⟩
     case measure=>simp[intOf];omega
    obtain rfl:m=8:=wF
    obtain⟨T,A,L,N⟩:=hT.o;have z:=A.heads.2.2.2.1;have a1:T[k]? =some (T[k]'(by rw[A.len];exact O)):=wL (by rw[A.len];exact O);have c1:wo.cell? ⟨J,4+k,none⟩=some (T[k]'(by rw[A.len];exact O)):=(A.cell k).trans a1
    generalize T[k]'(by rw[A.len];exact O)=tk at c1
    have z1:=z (4+k);have R:Hid (∃T,z2c (wo.setCell ⟨J,4+k,none⟩ (.int .u32 n)) J d st I T/\(∀j,j<k+1->T[j]? =some (q6g (z3c 8 j)))/\Chg [J] [J] w (wo.setCell ⟨J,4+k,none⟩ (.int .u32 n))):=by
     refine⟨T.set k (.int .u32 n),A.set k _,fun j hj=>?_,N.trans (Chg.set _ _ _)⟩;rw[tD];by_cases e:k=j
     .subst e;rw[wZ rfl,wZ (by rw[A.len];exact O),Y.o];rfl
     rw[wR e];exact L j wF
    clear A L N a1 z Y hT;go_wp2
    go_roundw
    case rel=>exact⟨k+1,wF,by go_num,R⟩
    case measure=>simp[intOf];omega
  obtain rfl:k=256:=wF
  obtain⟨T,A,L,N⟩:=hT.o;have c3:=A.heads.2.2.1;have z3:=A.heads.2.2.2.1 3;have a5:T=y8D:=by
   apply qW;intro j;by_cases hj:j<256
   .rw[L j hj];simp[y8D,hj]
   rw[uw (by rw[A.len];omega),uw (by simp[y8D];omega)]
  subst a5;have R:=z7 (A.set3 (I+1));have a4:=z7 (N.trans (Chg.set wr 3 (.int .i64 (I+1))));clear A L N hT;go_wp2_with (go_at_call 149;refine(y9n ⟨J,3,none⟩ I 1 _ c3 z3 a6 a7 wF wF).mono ?_;rintro e w' ⟨rfl,rfl⟩)
  go_end0
  exact⟨rfl,R.o,a4.o⟩
theorem q2l(n:Nat):((n:Int)%2==1)=decide (n%2=1):=by
 rw[uc];simp;omega
theorem q2Y(c:Nat)(b:UInt8)(w:World)(hc:c<4294967296):
  Calls prog 73 #[.int .u32 c,.int .u8 b.toNat] w fun e w'=>e= .returned (.int .u32 (upd c b:Nat))/\w=w':=by
 have hb:=b.toNat_lt;have hx:=my c b.toNat hc wF;have O:c^^^b.toNat<4294967296:=ky (n:=32) hc wF;obtain⟨n0,N⟩:=zN (c^^^b.toNat);rw[<-N]at O hx;have a1:Hid (upd c b=z3c 8 n0):=by rw[N];exact rfl
 clear N;go_enter func73,ntmps73;go_wp2
 go_loop [0,5] (fun c j=>∃(n m:Nat),m<=8/\n<4294967296/\c= .int .u32 n/\j= .int .i64 m/\Hid (n=z3c m n0)) (fun _ j=>8 - (intOf j).toNat)
 case atStart=>exact⟨n0,0,wF,O,rfl,rfl,rfl⟩
 case round=>
  clear hx;obtain⟨n,m,hm,hn,rfl,rfl,U⟩:=hrel;by_cases a2:m<8
  .have L:=y2d (c:=n) hn;have A:Hid (step1 n=z3c (m+1) n0):=(by rw[U.o,z8l];exact rfl);have Y:=q2l n;by_cases I:n%2=1
   .have a0:((n:Int)%2==1)=true:=(by rw[Y];simpa using I);have J:bits .xor .u32 ((n:Int)/2) 2197175160=((step1 n:Nat):Int):=by
     have:=my (n/2) 2197175160 wF wF;unfold step1;rw[wZ I];simpa[y5L]using this
    obtain⟨n2,R⟩:=zN (step1 n);rw[<-R]at J L A;have HS:=z7 J;clear J R Y I;go_wp2;rw[HS.o]
    go_round
    case rel=>exact⟨n2,m+1,wF,wF,rfl,by go_num,A⟩
    case measure=>simp[intOf];omega
   have a0:((n:Int)%2==1)=false:=(by rw[Y];simpa using I);have J:step1 n=n/2:=(by unfold step1;rw[wR I,qK]);rw[J]at L A;clear J Y I;go_wp2
   go_round
   case rel=>exact⟨n/2,m+1,wF,wF,by go_num,by go_num,A⟩
   case measure=>simp[intOf];omega
  obtain rfl:m=8:=wF
  go_wp2;go_ret;exact⟨by rw[a1.o,<-U.o];rfl,rfl⟩
def Tab(w:World)(tb:Nat)(f:Bool):Prop:=z2c w tb (if f then 1 else 0) 0 (if f then 1 else 0) (if f then y8D else y2S)
theorem Tab.low{w w':World}{A:Nat}{f:Bool}(h:Tab w A f)(hb:Below w.heap.size w w'):Tab w' A f:=z2c.low h hb
theorem q0p(c:Nat)(h:c<4294967296):bits .xor .u32 4294967295 (c:Int)=((4294967295^^^c:Nat):Int):=by
 simpa using my 4294967295 c wF h
theorem q0c(x:Value)(l:List UInt8)(w:World)(J:RdB w x l)(hl:l.length<=9223372036854775807):
  Calls prog 36 #[x] w fun e w'=>e= .returned (.int .u32 (z3e l:Nat))/\w=w':=by
 obtain⟨a,c,rfl⟩:=J.head;have U:=z7 J;clear J;go_enter func36,ntmps36;go_wp2
 go_loop [3,4] (fun c j=>∃(n m:Nat),m<=l.length/\n<4294967296/\c= .int .u32 n/\j= .int .i64 m/\Hid (n=z4g 4294967295 (l.take m))) (fun _ j=>l.length - (intOf j).toNat)
 case atStart=>exact⟨4294967295,0,wF,wF,rfl,rfl,rfl⟩
 case round=>
  obtain⟨n,m,hm,N,rfl,rfl,I⟩:=hrel;by_cases L:m<l.length
  .obtain⟨b,a0,c',R,hc,hb⟩:=U.o.at L;simp only[wO,oP]at R;obtain⟨rfl,rfl⟩:=R;have O:=y9u l[m] (c:=n) N;have A:Hid (upd n l[m]=z4g 4294967295 (l.take (m+1))):=by
    exact z7 (by rw[I.o,oi L,z7T];rfl)
   have i1:(0:Int)<=m:=wF;have i2:(m:Int)<l.length:=wF
   generalize l[m]=y at hc O A
   go_wp2_with (go_at_call 73;refine(q2Y n y _ N).mono ?_;rintro e w' ⟨rfl,rfl⟩)
   go_round
   case rel=>exact⟨_,m+1,wF,O,rfl,by go_num,A⟩
   case measure=>simp[intOf];omega
  obtain rfl:m=l.length:=wF
  have J:=q0p n N;have Y:=z7 J;clear J;go_wp2;go_ret;rw[ui]at I;exact⟨by unfold z3e;rw[<-I.o,<-Y.o];rfl,rfl⟩
theorem q2S(c:Nat)(b:UInt8)(h:c<4294967296):
  bits .xor .u8 ((c:Int)%256) (b.toNat:Int)=((c%256^^^b.toNat:Nat):Int)/\c%256^^^b.toNat<256/\bits .xor .u32 ((c:Int)/256) ((z3c 8 (c%256^^^b.toNat):Nat):Int)=((upd c b:Nat):Int):=by
 have hb:=b.toNat_lt;have A:=u8_xor_nat (c%256) b.toNat wF wF;have J:c%256^^^b.toNat<2^8:=ky wF wF;have L:=y2J 8 (c:=c%256^^^b.toNat) wF;have I:=my (c/256) (z3c 8 (c%256^^^b.toNat)) wF wF;refine⟨by simpa using A,wF,?_⟩;rw[<-q1Y];simpa using I
theorem q0J(A:Nat)(w:World):(callFunc 121 (#[.pointer (some ⟨A,0,none⟩)]++ #[])).run prog w= .ok (.enter 121 (#[.pointer (some ⟨A,0,none⟩)]++ #[])) w:=by
 kernel_rfl
theorem q1m(A:Nat)(w:World)(R:Tab w A false):
  Calls prog 120 #[.pointer (some ⟨A,0,none⟩),.func (.func 121) #[.pointer (some ⟨A,0,none⟩)] #[]] w fun e w'=>e= .returned (.tuple #[])/\Tab w' A true/\Chg [A] [A] w w':=by
 have J:=z2c.set1 R 1;obtain⟨h0,h1,_,U,_⟩:=z2c.heads R;refine(y8e (fun w1 I=>z2c I A 0 1 1 y8D/\Chg [A] [A] w1 I) A 0 _ _ _ w h0 h1 (U 0) (U 1) ?_ (q0J A)).mono ?_
 .refine(q4F A 0 1 0 y2S _ J wF wF).mono ?_;rintro e w' ⟨rfl,L,N⟩;obtain⟨a0,Y,_,az,_⟩:=J.heads;obtain⟨b0,b1,_,O,_⟩:=L.heads;exact⟨rfl,b0.trans a0.symm,b1.trans Y.symm,O 0,O 1,L,N⟩
 rintro e w' ⟨rfl,I,⟨L,N⟩,rfl⟩;refine⟨rfl,z2c.set1 (z2c.set0 (w:=I.drew) (L.same rfl) 1) 0,?_⟩;have h4:Chg [A] [A] I I.drew:=⟨rfl,rfl,rfl,wJ _,fun _ _ _=>rfl,fun _ h=> .inl h⟩;exact((((Chg.set w 1 _).trans N).trans h4).trans (Chg.set _ 0 _)).trans (Chg.set _ 1 _)
theorem q5a(A:Nat)(f:Bool)(w:World)(I:Tab w A f):
  Calls prog 120 #[.pointer (some ⟨A,0,none⟩),.func (.func 121) #[.pointer (some ⟨A,0,none⟩)] #[]] w fun e w'=>e= .returned (.tuple #[])/\Tab w' A true/\Chg [A] [A] w w':=by
 cases f with
 | false=>exact q1m A w I
 | true=>
  refine(q2d ⟨A,0,none⟩ _ w (z2c.heads I).1).mono ?_;rintro e w' ⟨rfl,rfl⟩;exact⟨rfl,I,Chg.refl _ _⟩
theorem q6l(I:Nat)(f:Bool)(x:Value)(A:List (List UInt8))(w0:World)(hT:Tab w0 I f)(Y:∀w',Chg [I] [I] w0 w'->y1s w' x A)(hl:A.length<=9223372036854775807)(a4:∀l∈A,l.length<=9223372036854775807):
  Calls prog 76 #[.pointer (some ⟨I,0,none⟩),x] w0 fun e w'=>e= .returned (.int .u32 (z3e A.flatten:Nat))/\Tab w' I true/\Chg [I] [I] w0 w':=by
 obtain⟨a,c,rfl⟩:=(Y w0 (Chg.refl _ _)).head;have HX:=z7 Y;have HT:=z7 hT;have HL:=z7 a4;clear Y hT a4;go_enter func76,ntmps76;go_wp2_with (go_at_call 120;refine(q5a I f _ HT.o).mono ?_;rintro e w ⟨rfl,a0,L⟩;replace HX:=z7 (HX.o w L);replace HT:=z7 a0;have HC:=z7 L;clear a0 L)
 go_loop [5,18] (fun c j=>∃(n m:Nat),m<=A.length/\n<4294967296/\c= .int .u32 n/\j= .int .i64 m/\Hid (n=z4g 4294967295 (A.take m).flatten)) (fun _ j=>A.length - (intOf j).toNat)
 case atStart=>exact⟨4294967295,0,wF,wF,rfl,rfl,rfl⟩
 case round=>
  obtain⟨n,m,hm,U,rfl,rfl,R⟩:=hrel;by_cases O:m<A.length
  .obtain⟨b,aC,c',v,he,hc,hv,hb⟩:=HX.o.at O;simp only[wO,oP]at he;obtain⟨rfl,rfl⟩:=he;have a8:=HL.o _ (ug O);obtain⟨l,N⟩:=zN (A[m]);have a7:Hid ((A.take (m+1)).flatten=(A.take m).flatten++l):=by
    exact z7 (by rw[oi O,N,rU];simp)
   rw[<-N]at hv a8;clear N;obtain⟨a2,c2,rfl⟩:=hv.head;have HV:=z7 hv;have i1:(0:Int)<=m:=wF;have i2:(m:Int)<A.length:=wF;clear hv;go_wp2
   go_loop [5,24] (fun c j=>∃(n k:Nat),k<=l.length/\n<4294967296/\c= .int .u32 n/\j= .int .i64 k/\Hid (n=z4g 4294967295 ((A.take m).flatten++l.take k))) (fun _ j=>l.length - (intOf j).toNat)
   case atStart=>exact⟨n,0,wF,U,rfl,rfl,z7 (by rw[R.o];simp)⟩
   case round=>
    obtain⟨n,k,hk,U,rfl,rfl,a5⟩:=hrel;by_cases a3:k<l.length
    .obtain⟨b3,aA,c3,a1,a6,aB⟩:=HV.o.at a3;simp only[wO,oP]at a1;obtain⟨rfl,rfl⟩:=a1;obtain⟨u1,u2,u3⟩:=q2S n l[k] U;have h2:=y9u l[k] (c:=n) U;have J:Hid (upd n l[k]=z4g 4294967295 ((A.take m).flatten++l.take (k+1))):=by
      exact z7 (by rw[a5.o,oi a3,<-wj,z7T (b:= [_])];rfl)
     have ht:w.cell? ⟨I,4+(n%256^^^l[k].toNat),none⟩=some (.int .u32 (z3c 8 (n%256^^^l[k].toNat):Nat)):=by
      have:=(z2c.cell HT.o (n%256^^^l[k].toNat)).trans (c:=some (q6g (z3c 8 (n%256^^^l[k].toNat)))) (by simp[y8D,u2]);exact this
     have k1:(0:Int)<=k:=wF;have k2:(k:Int)<l.length:=wF;obtain⟨y,hy⟩:=zN (l[k]);rw[<-hy]at a6 u1 u2 u3 h2 J ht;obtain⟨q,hq⟩:=zN (n%256^^^y.toNat);rw[<-hq]at u1 u2 u3 ht;have q2:(q:Int)<256:=wF;clear hy hq;have U3:=z7 u3;clear u3;go_wp2;rw[U3.o]
     go_round
     case rel=>exact⟨_,k+1,wF,h2,rfl,by go_num,J⟩
     case measure=>simp[intOf];omega
    obtain rfl:k=l.length:=wF
    have a9:Hid (n=z4g 4294967295 (A.take (m+1)).flatten):=z7 (by rw[a7.o,a5.o,ui]);go_wp2
    go_round
    case rel=>exact⟨n,m+1,wF,U,rfl,by go_num,a9⟩
    case measure=>simp[intOf];omega
  obtain rfl:m=A.length:=wF
  have Y:=q0p n U;have HZ:=z7 Y;clear Y;rw[ui]at R;go_wp2;go_ret;exact⟨by unfold z3e;rw[<-R.o,<-HZ.o];rfl,HT.o,HC.o⟩

/-
  Walks over package sync's Once and package sync/atomic's words, in one goroutine, the lock free: contracts at any address.
-/
import Derived.Tactics
import Derived.Tactics2
import Derived.Defers
import Derived.Laws.Pointers
import Derived.Laws.LoneSync
import Derived.RegionTactic
import Derived.RegionCalls
import Derived.Laws.BitsAllLaws
import Derived.Test.YtpocjegemokjgaaGreatDoorZReg4RdReg5Map
import Derived.Lib.SlBytesConst
import Derived.Laws.StructEq
namespace Go.Proofs.YtpocjegemokjgaaGreatDoor
open Go.Proofs.Tryz
set_option linter.all false
set_option maxRecDepth 100000
set_option maxHeartbeats 12800000
open Go.RowKit
theorem y4I(w:World):(callFunc 197 #[]).run prog w= .ok (.value (.tuple #[])) w:=run_call_mark0 func197 (by kernel_rfl) (by kernel_rfl) (by kernel_rfl) .disable (by kernel_rfl) w
theorem y8i(w:World):(callFunc 199 #[]).run prog w= .ok (.value (.tuple #[])) w:=run_call_mark0 func199 (by kernel_rfl) (by kernel_rfl) (by kernel_rfl) .enable (by kernel_rfl) w
theorem q1S(a:Addr)(w:World):(callFunc 200 #[.pointer (some a)]).run prog w= .ok (.value (.tuple #[])) w:=run_call_marked func200 (by kernel_rfl) (by kernel_rfl) (by kernel_rfl) .acquire (by kernel_rfl) a w
theorem q1l(a:Addr)(w:World):(callFunc 202 #[.pointer (some a)]).run prog w= .ok (.value (.tuple #[])) w:=run_call_marked func202 (by kernel_rfl) (by kernel_rfl) (by kernel_rfl) .releaseMerge (by kernel_rfl) a w
theorem z7W(a:Addr)(x:Value)(u:FrameMode)(w:World)(L:w.cell? a=some x)(N:w.frozen? a=false):
  CallsD prog 166 #[.pointer (some a),.bool true] u w fun e J w'=>J=u/\(e= .returned (.tuple #[])/\w'=w.drew.setCell a (.int .u32 1)):=by
 have A:w.drew.cell? a=some x:=by go_simp
 have B:w.drew.frozen? a=false:=by go_simp
 have I:=run_call_store (P:=prog) func187 (by kernel_rfl) (by kernel_rfl) (by kernel_rfl) (by kernel_rfl) (k:= .u32) (y:=1) A B
 go_enter_d func166,ntmps166
 go_wp2
 go_region_calls
 all_goals (go_end0;exact⟨rfl,rfl⟩)
theorem z6Y(a:Addr)(u:FrameMode)(w:World)(B:w.cell? a=some (.int .i32 1))(J:w.frozen? a=false):
  CallsD prog 165 #[.pointer (some a)] u w fun e L w'=>L=u/\(e= .returned (.tuple #[])/\w'=w.setCell a (.int .i32 0)):=by
 have hd:=y4I;have N:=y8i;have O:=q1l;have A:=run_call_add (P:=prog) func203 (by kernel_rfl) (by kernel_rfl) (by kernel_rfl) .i32 (by kernel_rfl) (y:= -1) (s:=0) B J (by simp[go_sem];rfl);have I:=run_convert_to_unsafe (P:=prog) (src:=330) (dst:=334) underlying330 underlying334 (by kernel_rfl) B
 go_enter_d func165,ntmps165
 go_wp2
 go_end0
 go_wp2
 go_end0
 exact⟨rfl,rfl⟩
theorem y7w(a:Addr)(w:World)(B:w.cell? a=some (.int .i32 0))(L:w.frozen? a=false):
  Calls prog 164 #[.pointer (some a)] w fun e w'=>e= .returned (.tuple #[])/\w'=w.setCell a (.int .i32 1):=by
 have hd:=y4I;have O:=y8i;have N:=q1S;have I:=run_call_cas_hit (P:=prog) func198 (by kernel_rfl) (by kernel_rfl) (by kernel_rfl) .i32 (by kernel_rfl) (y:=1) B L;have A:(w.setCell a (.int .i32 1)).cell? a=some (.int .i32 1):=World.cell?_setCell_same w a _ B;have J:=run_convert_to_unsafe (P:=prog) (src:=330) (dst:=334) underlying330 underlying334 (by kernel_rfl) A;go_enter func164,ntmps164;go_wp2;first|go_end0|(simp only[Exit.inBlock,Exit.then];refine bodyPost_ret (results_none rfl _ _ _) rfl ?_)|refine bodyPost_ret (results_none rfl _ _ _) rfl ?_
 go_wp2
 go_end0
 exact⟨rfl,rfl⟩
theorem z4D(a:Addr)(d:Int)(b:Bool)(w:World)(A:w.cell? a=some (.int .u32 d))(hb:(d !=0)=b):
  Calls prog 137 #[.pointer (some a)] w fun e w'=>e= .returned (.bool b)/\w=w':=by
 have B:=run_call_load (P:=prog) func163 (by kernel_rfl) (by kernel_rfl) (by kernel_rfl) .u32 (by kernel_rfl) A;subst hb;go_enter func137,ntmps137;go_wp2;go_ret;exact⟨rfl,rfl⟩
theorem q0c(a:Addr)(B:Value)(w:World)(I:w.cell? a=some (.int .u32 1)):
  Calls prog 108 #[.pointer (some a),B] w fun e w'=>e= .returned (.tuple #[])/\w=w':=by
 have A:∀(x:Bool) (w:World),(Op.unary .not (.bool x)).run prog w= .ok (.bool (!x)) w:=fun _ _=>rfl;go_enter func108,ntmps108;go_wp2_with (go_at_call 137;refine(z4D a 1 true _ I rfl).mono ?_;rintro e w' ⟨rfl,rfl⟩)
 go_end0
 exact⟨rfl,rfl⟩
def y8j(R:World->World->Prop)(b o:Nat)(w1 w2:World):Prop:=
 w2.cell? ⟨b,o,none⟩=w1.cell? ⟨b,o,none⟩/\w2.cell? ⟨b,o+1,none⟩=w1.cell? ⟨b,o+1,none⟩/\w2.frozen? ⟨b,o,none⟩=false/\w2.frozen? ⟨b,o+1,none⟩=false/\R w1 w2
theorem y8W(R:World->World->Prop)(b o f:Nat)(first cap:Array Value)(w:World)
  (h0:w.cell? ⟨b,o,none⟩=some (.int .u32 0)) (J:w.cell? ⟨b,o+1,none⟩=some (.int .i32 0))
  (f0:w.frozen? ⟨b,o,none⟩=false) (f1:w.frozen? ⟨b,o+1,none⟩=false)
  (L:Calls prog f (first++cap) (w.setCell ⟨b,o+1,none⟩ (.int .i32 1)) fun e w'=>e= .returned (.tuple #[])/\y8j R b o (w.setCell ⟨b,o+1,none⟩ (.int .i32 1)) w')
  (B:∀w',(callFunc f (first++cap)).run prog w'= .ok (.enter f (first++cap)) w'):
  Calls prog 138 #[.pointer (some ⟨b,o,none⟩),.func (.func f) first cap] w fun e w'=>e= .returned (.tuple #[])/\
   ∃A,R (w.setCell ⟨b,o+1,none⟩ (.int .i32 1)) A/\w'=(A.drew.setCell ⟨b,o,none⟩ (.int .u32 1)).setCell ⟨b,o+1,none⟩ (.int .i32 0):=by
 have a0:(w.setCell ⟨b,o+1,none⟩ (.int .i32 1)).cell? ⟨b,o,none⟩=some (.int .u32 0):=(World.cell?_setCell_other _ ⟨b,o+1,none⟩ ⟨b,o,none⟩ _ (by simp)).trans h0;have U:(w.setCell ⟨b,o+1,none⟩ (.int .i32 1)).cell? ⟨b,o+1,none⟩=some (.int .i32 1):=World.cell?_setCell_same w _ _ J;have N:∀(x:Bool) (w:World),(Op.unary .not (.bool x)).run prog w= .ok (.bool (!x)) w:=fun _ _=>rfl;have O:=z7 L;clear L
 go_enter_defers func138,ntmps138
 go_wp2_with (go_at_call 164;refine(y7w ⟨b,o+1,none⟩ _ J f1).mono ?_;rintro e w' ⟨rfl,rfl⟩);go_wp2_with (go_at_call 137;refine(z4D ⟨b,o,none⟩ 0 false _ a0 rfl).mono ?_;rintro e w' ⟨rfl,rfl⟩);refine O.o.mono ?_;rintro e A ⟨rfl,c0,c1,z0,z1,hR⟩;have Y:=c0.trans a0;have d1:=c1.trans U;clear c0 c1;go_wp2;refine leaves_cons (f:=166) (args:= #[.pointer (some ⟨b,o,none⟩),.bool true]) (by simp) (by simp[go_sem]) ?_;refine(z7W ⟨b,o,none⟩ (.int .u32 0) .returning _ Y z0).mono ?_;rintro e u' I ⟨rfl,rfl,rfl⟩;refine leaves_cons (f:=165) (args:= #[.pointer (some ⟨b,o+1,none⟩)]) (by simp[settle]) (by simp[go_sem]) ?_;refine(z6Y ⟨b,o+1,none⟩ _ _ ?_ (by simp[z1])).mono ?_
 ·refine(World.cell?_setCell_other _ ⟨b,o,none⟩ ⟨b,o+1,none⟩ _ (by simp)).trans ?_;rw[World.cell?_drew];exact d1
 rintro e u' I ⟨rfl,rfl,rfl⟩;simp[Leaves,settle,results,Tryz.results138];exact⟨A,hR,rfl⟩
theorem y7u(R:World->World->Prop)(b o f:Nat)(first cap:Array Value)(w:World)
  (I:w.cell? ⟨b,o,none⟩=some (.int .u32 0)) (Y:w.cell? ⟨b,o+1,none⟩=some (.int .i32 0))
  (U:w.frozen? ⟨b,o,none⟩=false) (f1:w.frozen? ⟨b,o+1,none⟩=false)
  (J:Calls prog f (first++cap) (w.setCell ⟨b,o+1,none⟩ (.int .i32 1)) fun e w'=>e= .returned (.tuple #[])/\y8j R b o (w.setCell ⟨b,o+1,none⟩ (.int .i32 1)) w')
  (A:∀w',(callFunc f (first++cap)).run prog w'= .ok (.enter f (first++cap)) w'):
  Calls prog 108 #[.pointer (some ⟨b,o,none⟩),.func (.func f) first cap] w fun e w'=>e= .returned (.tuple #[])/\
   ∃B,R (w.setCell ⟨b,o+1,none⟩ (.int .i32 1)) B/\w'=(B.drew.setCell ⟨b,o,none⟩ (.int .u32 1)).setCell ⟨b,o+1,none⟩ (.int .i32 0):=by
 have O:=z7 J;have N:=z7 A;clear J A;have L:∀(x:Bool) (w:World),(Op.unary .not (.bool x)).run prog w= .ok (.bool (!x)) w:=fun _ _=>rfl;go_enter func108,ntmps108;go_wp2_with (go_at_call 137;refine(z4D ⟨b,o,none⟩ 0 false _ I rfl).mono ?_;rintro e w' ⟨rfl,rfl⟩);refine(y8W R b o f first cap _ I Y U f1 O.o N.o).mono ?_;rintro e w' ⟨rfl,B,hR,rfl⟩;go_wp2
 go_end0
 exact⟨rfl,B,hR,rfl⟩
def q3Y(n:Nat):Value:= .int .u32 n
def y1u:List Value:=List.replicate 256 (.int .u32 0)
def y6v:List Value:=(List.range 256).map fun i=>q3Y (z2K 8 i)
def y2n(d st made:Int)(T:List Value):Array Value:=(.int .u32 d:: .int .i32 st:: .int .u32 0:: .int .i64 made::T).toArray
structure z1F (w:World) (tb:Nat) (d st made:Int) (T:List Value):Prop where
 cells:w.heap[tb]? =some (.cells (y2n d st made T) 221 (0,0))
 len:T.length=256
theorem z1F.heads{w:World}{A:Nat}{d B made:Int}{T:List Value}(h:z1F w A d B made T):
  w.cell? ⟨A,0,none⟩=some (.int .u32 d)/\w.cell? ⟨A,1,none⟩=some (.int .i32 B)/\w.cell? ⟨A,3,none⟩=some (.int .i64 made)/\(∀o,w.frozen? ⟨A,o,none⟩=false)/\A<w.heap.size:=by
 refine⟨?_,?_,?_,fun o=>by simp[World.frozen?,h.cells],(Array.getElem?_eq_some_iff.1 h.cells).1⟩<;>simp[World.cell?,h.cells,y2n]
theorem z1F.cell{w:World}{A:Nat}{d B made:Int}{T:List Value}(h:z1F w A d B made T)(k:Nat):w.cell? ⟨A,4+k,none⟩=T[k]? :=by
 rw[Nat.add_comm];simp[World.cell?,h.cells,y2n]
theorem z1F.same{w w':World}{A:Nat}{d B made:Int}{T:List Value}(h:z1F w A d B made T)(I:w'.heap[A]? =w.heap[A]?):z1F w' A d B made T:=⟨I.trans h.cells,h.len⟩
theorem z1F.low{w w':World}{B:Nat}{d A made:Int}{T:List Value}(h:z1F w B d A made T)(hb:Below w.heap.size w w'):z1F w' B d A made T:=h.same (hb.block _ h.heads.2.2.2.2)
theorem z1F.set{w:World}{A:Nat}{d B made:Int}{T:List Value}(h:z1F w A d B made T)(k:Nat)(u:Value):z1F (w.setCell ⟨A,4+k,none⟩ u) A d B made (T.set k u):=
 ⟨by rw[z0a h.cells,Nat.add_comm];simp[y2n],by simpa using h.len⟩
theorem z1F.set3{w:World}{A:Nat}{d B made:Int}{T:List Value}(h:z1F w A d B made T)(m:Int):z1F (w.setCell ⟨A,3,none⟩ (.int .i64 m)) A d B m T:=
 ⟨by rw[z0a h.cells];simp[y2n],h.len⟩
theorem z1F.set1{w:World}{A:Nat}{d B made:Int}{T:List Value}(h:z1F w A d B made T)(m:Int):z1F (w.setCell ⟨A,1,none⟩ (.int .i32 m)) A d m made T:=
 ⟨by rw[z0a h.cells];simp[y2n],h.len⟩
theorem z1F.set0{w:World}{A:Nat}{d B made:Int}{T:List Value}(h:z1F w A d B made T)(m:Int):z1F (w.setCell ⟨A,0,none⟩ (.int .u32 m)) A m B made T:=
 ⟨by rw[z0a h.cells];simp[y2n],h.len⟩
theorem Chg.set{B:Nat}(w:World)(o:Nat)(u:Value):Chg [B] [B] w (w.setCell ⟨B,o,none⟩ u):=
 ⟨rfl,rfl,rfl,by simp[World.setCell],fun k _ A=>q7 (by simpa using A),fun k A=> .inl A⟩
theorem y7H:Tryz.zeroCells221=y2n 0 0 0 y1u:=by kernel_rfl
theorem q4q(w:World):Calls prog 63 #[] w fun e w'=>
  e= .returned (.pointer (some ⟨w.heap.size,0,none⟩))/\w'=w.alloc (.cells (y2n 0 0 0 y1u) 221):=by
 rw[<-y7H];go_enter func63,ntmps63;go_wp2;go_ret;exact⟨rfl,rfl⟩
theorem z1F.made(w:World):z1F (w.alloc (.cells (y2n 0 0 0 y1u) 221)) w.heap.size 0 0 0 y1u:=
 ⟨Array.getElem?_push_size,by rw[y1u,List.length_replicate]⟩
theorem q0b(c:Nat)(h:c<4294967296):bits .xor .u32 ((c:Int)/2) (bits .and .u32 2197175160 (-(bits .and .u32 (c:Int) 1)%4294967296))=((step1 c:Nat):Int):=by
 have L:bits .and .u32 (c:Int) 1=((c%2:Nat):Int):=by
  have:=u32_and_nat c 1 h (by omega);rw[nat_mask1]at this;exact this
 rw[L];unfold step1;have A:=Nat.mod_two_eq_zero_or_one c;rcases A with A|A
 ·rw[A];have B:=u32_and_nat 2197175160 0 (by omega) (by omega);have e:(-((0:Nat):Int))%4294967296=((0:Nat):Int):=by omega
  rw[e,show(2197175160:Int)=((2197175160:Nat):Int)from rfl,B];have I:=u32_xor_nat (c/2) 0 (by omega) (by omega);simpa using I
 ·rw[A];have B:=u32_and_nat 2197175160 4294967295 (by omega) (by omega);have e:(-((1:Nat):Int))%4294967296=((4294967295:Nat):Int):=by omega
  rw[e,show(2197175160:Int)=((2197175160:Nat):Int)from rfl,B];have I:=u32_xor_nat (c/2) 2197175160 (by omega) (by omega);have J:2197175160&&&4294967295=2197175160:=by decide
  rw[J];simpa[y5I]using I
theorem y6B(a:Addr)(x y:Int)(w:World)(B:w.cell? a=some (.int .i64 x))(I:w.frozen? a=false)(J:0<=x)(L:x<=1000)(N:0<=y)(O:y<=1000):
  Calls prog 139 #[.pointer (some a),.int .i64 y] w fun e w'=>e= .returned (.int .i64 (x+y))/\w'=w.setCell a (.int .i64 (x+y)):=by
 have A:=run_call_add (P:=prog) func167 (by kernel_rfl) (by kernel_rfl) (by kernel_rfl) .i64 (by kernel_rfl) (y:=y) (s:=x+y) B I (by have e:IntKind.i64.wrap (x+y)=x+y:=by {rw[IntKind.wrap_i64];omega};simp[go_sem,Op.intArith,e]);go_enter func139,ntmps139;go_wp2;go_ret;exact⟨rfl,rfl⟩
theorem q0w(B:Nat)(d st made:Int)(T:List Value)(w:World)(h:z1F w B d st made T)(a4:0<=made)(a5:made<=1000):
  Calls prog 109 #[.pointer (some ⟨B,0,none⟩)] w fun e w'=>e= .returned (.tuple #[])/\z1F w' B d st (made+1) y6v/\Chg [B] [B] w w':=by
 have H:=z7 h;clear h;go_enter func109,ntmps109;go_wp2;go_loopw[4] (fun i wr=>∃(k:Nat),k<=256/\i= .int .i64 k/\Hid (∃T,z1F wr B d st made T/\(∀j,j<k->T[j]? =some (q3Y (z2K 8 j)))/\Chg [B] [B] w wr)) (fun i _=>256 - (intOf i).toNat)
 case atStart=>exact⟨0,Nat.zero_le _,rfl,T,H.o,fun j Y=>absurd Y (Nat.not_lt_zero j),Chg.refl _ _⟩
 case round=>
  obtain⟨k,hk,rfl,hT⟩:=hrel;by_cases hlt:k<256
  ·have a6:(0:Int)<=k:=(by omega);have a7:(k:Int)<256:=(by omega);obtain⟨wo,rfl⟩:∃wo:World,wo=wr:=⟨_,rfl⟩;go_wp2
   go_loop [3,9] (fun c j=>∃(n m:Nat),m<=8/\n<4294967296/\c= .int .u32 n/\j= .int .i64 m/\Hid (n=z2K m k)) (fun _ j=>8 - (intOf j).toNat)
   case atStart=>exact⟨k,0,by omega,by omega,rfl,rfl,rfl⟩
   case round=>
    obtain⟨n,m,hm,hn,rfl,rfl,O⟩:=hrel;by_cases hlm:m<8
    ·have R:=q0b n hn;have a0:=y0O (c:=n) hn;obtain⟨n2,N⟩:=zN (step1 n);rw[<-N]at R a0;have HS:=z7 R;have a1:Hid (n2=z2K (m+1) k):=(by rw[N,O.o,z7f];exact rfl);clear R N;go_wp2;rw[HS.o]
     go_round
     case rel=>exact⟨n2,m+1,by omega,by omega,rfl,by go_num,a1⟩
     case measure=>simp[intOf];omega
    ·obtain rfl:m=8:=by omega
     obtain⟨T,A,I,J⟩:=hT.o;have z:=A.heads.2.2.2.1;have U:T[k]? =some (T[k]'(by rw[A.len];exact hlt)):=List.getElem?_eq_getElem (by rw[A.len];exact hlt);have c1:wo.cell? ⟨B,4+k,none⟩=some (T[k]'(by rw[A.len];exact hlt)):=(A.cell k).trans U
     generalize T[k]'(by rw[A.len];exact hlt)=tk at c1
     have z1:=z (4+k);have L:Hid (∃T,z1F (wo.setCell ⟨B,4+k,none⟩ (.int .u32 n)) B d st made T/\(∀j,j<k+1->T[j]? =some (q3Y (z2K 8 j)))/\Chg [B] [B] w (wo.setCell ⟨B,4+k,none⟩ (.int .u32 n))):=by
      refine⟨T.set k (.int .u32 n),A.set k _,fun j Y=>?_,J.trans (Chg.set _ _ _)⟩;rw[List.getElem?_set];by_cases e:k=j
      ·subst e;rw[if_pos rfl,if_pos (by rw[A.len];exact hlt),O.o];rfl
      ·rw[if_neg e];exact I j (by omega)
     clear A I J U z O hT;go_wp2
     go_roundw
     case rel=>exact⟨k+1,by omega,by go_num,L⟩
     case measure=>simp[intOf];omega
  ·obtain rfl:k=256:=by omega
   obtain⟨T,A,I,J⟩:=hT.o;have c3:=A.heads.2.2.1;have z3:=A.heads.2.2.2.1 3;have a3:T=y6v:=by
    apply List.ext_getElem?;intro j;by_cases Y:j<256
    ·rw[I j Y];simp[y6v,Y]
    ·rw[List.getElem?_eq_none (by rw[A.len];omega),List.getElem?_eq_none (by simp[y6v];omega)]
   subst a3;have L:=z7 (A.set3 (made+1));have a2:=z7 (J.trans (Chg.set wr 3 (.int .i64 (made+1))));clear A I J hT;go_wp2_with (go_at_call 139;refine(y6B ⟨B,3,none⟩ made 1 _ c3 z3 a4 a5 (by omega) (by omega)).mono ?_;rintro e w' ⟨rfl,rfl⟩)
   go_end0
   exact⟨rfl,L.o,a2.o⟩
theorem q1L(n:Nat):((n:Int)%2==1)=decide (n%2=1):=by
 rw[Bool.eq_iff_iff];simp;omega
theorem q0D(c:Nat)(b:UInt8)(w:World)(hc:c<4294967296):
  Calls prog 61 #[.int .u32 c,.int .u8 b.toNat] w fun e w'=>e= .returned (.int .u32 (upd c b:Nat))/\w=w':=by
 have hb:=b.toNat_lt;have hx:=u32_xor_nat c b.toNat hc (by omega);have L:c^^^b.toNat<4294967296:=Nat.xor_lt_two_pow (n:=32) hc (by omega);obtain⟨U,J⟩:=zN (c^^^b.toNat);rw[<-J]at L hx;have a0:Hid (upd c b=z2K 8 U):=by rw[J];exact rfl
 clear J;go_enter func61,ntmps61;go_wp2
 go_loop [0,5] (fun c j=>∃(n m:Nat),m<=8/\n<4294967296/\c= .int .u32 n/\j= .int .i64 m/\Hid (n=z2K m U)) (fun _ j=>8 - (intOf j).toNat)
 case atStart=>exact⟨U,0,by omega,L,rfl,rfl,rfl⟩
 case round=>
  clear hx;obtain⟨n,m,hm,hn,rfl,rfl,O⟩:=hrel;by_cases hlm:m<8
  ·have I:=y0O (c:=n) hn;have A:Hid (step1 n=z2K (m+1) U):=(by rw[O.o,z7f];exact rfl);have R:=q1L n;by_cases hod:n%2=1
   ·have Y:((n:Int)%2==1)=true:=(by rw[R];simpa using hod);have B:bits .xor .u32 ((n:Int)/2) 2197175160=((step1 n:Nat):Int):=by
     have:=u32_xor_nat (n/2) 2197175160 (by omega) (by omega);unfold step1;rw[if_pos hod];simpa[y5I]using this
    obtain⟨n2,N⟩:=zN (step1 n);rw[<-N]at B I A;have HS:=z7 B;clear B N R hod;go_wp2;rw[HS.o]
    go_round
    case rel=>exact⟨n2,m+1,by omega,by omega,rfl,by go_num,A⟩
    case measure=>simp[intOf];omega
   ·have Y:((n:Int)%2==1)=false:=(by rw[R];simpa using hod);have B:step1 n=n/2:=(by unfold step1;rw[if_neg hod,Nat.xor_zero]);rw[B]at I A;clear B R hod;go_wp2
    go_round
    case rel=>exact⟨n/2,m+1,by omega,by omega,by go_num,by go_num,A⟩
    case measure=>simp[intOf];omega
  ·obtain rfl:m=8:=by omega
   go_wp2;go_ret;exact⟨by rw[a0.o,<-O.o];rfl,rfl⟩
def Tab(w:World)(tb:Nat)(f:Bool):Prop:=z1F w tb (if f then 1 else 0) 0 (if f then 1 else 0) (if f then y6v else y1u)
theorem Tab.low{w w':World}{A:Nat}{f:Bool}(h:Tab w A f)(hb:Below w.heap.size w w'):Tab w' A f:=z1F.low h hb
theorem y7S(c:Nat)(h:c<4294967296):bits .xor .u32 4294967295 (c:Int)=((4294967295^^^c:Nat):Int):=by
 simpa using u32_xor_nat 4294967295 c (by omega) h
theorem y8c(x:Value)(l:List UInt8)(w:World)(I:RdB w x l)(hl:l.length<=9223372036854775807):
  Calls prog 28 #[x] w fun e w'=>e= .returned (.int .u32 (z2J l:Nat))/\w=w':=by
 obtain⟨a,c,rfl⟩:=I.head;have O:=z7 I;clear I;go_enter func28,ntmps28;go_wp2
 go_loop [3,4] (fun c j=>∃(n m:Nat),m<=l.length/\n<4294967296/\c= .int .u32 n/\j= .int .i64 m/\Hid (n=z3O 4294967295 (l.take m))) (fun _ j=>l.length - (intOf j).toNat)
 case atStart=>exact⟨4294967295,0,by omega,by omega,rfl,rfl,rfl⟩
 case round=>
  obtain⟨n,m,hm,J,rfl,rfl,B⟩:=hrel;by_cases hlt:m<l.length
  ·obtain⟨b,Y,c',N,U,hb⟩:=O.o.at hlt;simp only[Value.slice.injEq,true_and]at N;obtain⟨rfl,rfl⟩:=N;have L:=y6q l[m] (c:=n) J;have A:Hid (upd n l[m]=z3O 4294967295 (l.take (m+1))):=by
    exact z7 (by rw[B.o,List.take_succ_eq_append_getElem hlt,z7y];rfl)
   have i1:(0:Int)<=m:=(by omega);have i2:(m:Int)<l.length:=by omega
   generalize l[m]=y at U L A
   go_wp2_with (go_at_call 61;refine(q0D n y _ J).mono ?_;rintro e w' ⟨rfl,rfl⟩)
   go_round
   case rel=>exact⟨_,m+1,by omega,L,rfl,by go_num,A⟩
   case measure=>simp[intOf];omega
  ·obtain rfl:m=l.length:=by omega
   have I:=y7S n J;have R:=z7 I;clear I;go_wp2;go_ret;rw[List.take_length]at B;exact⟨by unfold z2J;rw[<-B.o,<-R.o];rfl,rfl⟩
theorem q1f(c:Nat)(b:UInt8)(h:c<4294967296):
  bits .xor .u8 ((c:Int)%256) (b.toNat:Int)=((c%256^^^b.toNat:Nat):Int)/\c%256^^^b.toNat<256/\bits .xor .u32 ((c:Int)/256) ((z2K 8 (c%256^^^b.toNat):Nat):Int)=((upd c b:Nat):Int):=by
 have hb:=b.toNat_lt;have A:=u8_xor_nat (c%256) b.toNat (by omega) (by omega);have I:c%256^^^b.toNat<2^8:=Nat.xor_lt_two_pow (by omega) (by omega);have J:=y1J 8 (c:=c%256^^^b.toNat) (by omega);have B:=u32_xor_nat (c/256) (z2K 8 (c%256^^^b.toNat)) (by omega) (by omega);refine⟨by simpa using A,by omega,?_⟩;rw[<-y9M];simpa using B
theorem y9l(A:Nat)(w:World):(callFunc 109 (#[.pointer (some ⟨A,0,none⟩)]++ #[])).run prog w= .ok (.enter 109 (#[.pointer (some ⟨A,0,none⟩)]++ #[])) w:=by
 kernel_rfl
theorem y9m(A:Nat)(w:World)(O:Tab w A false):
  Calls prog 108 #[.pointer (some ⟨A,0,none⟩),.func (.func 109) #[.pointer (some ⟨A,0,none⟩)] #[]] w fun e w'=>e= .returned (.tuple #[])/\Tab w' A true/\Chg [A] [A] w w':=by
 have I:=z1F.set1 O 1;obtain⟨h0,h1,_,R,_⟩:=z1F.heads O;refine(y7u (fun w1 B=>z1F B A 0 1 1 y6v/\Chg [A] [A] w1 B) A 0 _ _ _ w h0 h1 (R 0) (R 1) ?_ (y9l A)).mono ?_
 ·refine(q0w A 0 1 0 y1u _ I (by omega) (by omega)).mono ?_;rintro e w' ⟨rfl,J,L⟩;obtain⟨a0,U,_,az,_⟩:=I.heads;obtain⟨Y,b1,_,N,_⟩:=J.heads;exact⟨rfl,Y.trans a0.symm,b1.trans U.symm,N 0,N 1,J,L⟩
 ·rintro e w' ⟨rfl,B,⟨J,L⟩,rfl⟩;refine⟨rfl,z1F.set1 (z1F.set0 (w:=B.drew) (J.same rfl) 1) 0,?_⟩;have h4:Chg [A] [A] B B.drew:=⟨rfl,rfl,rfl,Nat.le_refl _,fun _ _ _=>rfl,fun _ h=> .inl h⟩;exact((((Chg.set w 1 _).trans L).trans h4).trans (Chg.set _ 0 _)).trans (Chg.set _ 1 _)
theorem q2X(A:Nat)(f:Bool)(w:World)(B:Tab w A f):
  Calls prog 108 #[.pointer (some ⟨A,0,none⟩),.func (.func 109) #[.pointer (some ⟨A,0,none⟩)] #[]] w fun e w'=>e= .returned (.tuple #[])/\Tab w' A true/\Chg [A] [A] w w':=by
 cases f with
 | false=>exact y9m A w B
 | true=>
  refine(q0c ⟨A,0,none⟩ _ w (z1F.heads B).1).mono ?_;rintro e w' ⟨rfl,rfl⟩;exact⟨rfl,B,Chg.refl _ _⟩
theorem q4p(B:Nat)(f:Bool)(x:Value)(A:List (List UInt8))(w0:World)(hT:Tab w0 B f)(R:∀w',Chg [B] [B] w0 w'->y0q w' x A)(hl:A.length<=9223372036854775807)(a0:∀l∈A,l.length<=9223372036854775807):
  Calls prog 64 #[.pointer (some ⟨B,0,none⟩),x] w0 fun e w'=>e= .returned (.int .u32 (z2J A.flatten:Nat))/\Tab w' B true/\Chg [B] [B] w0 w':=by
 obtain⟨a,c,rfl⟩:=(R w0 (Chg.refl _ _)).head;have HX:=z7 R;have HT:=z7 hT;have HL:=z7 a0;clear R hT a0;go_enter func64,ntmps64;go_wp2_with (go_at_call 108;refine(q2X B f _ HT.o).mono ?_;rintro e w ⟨rfl,U,J⟩;replace HX:=z7 (HX.o w J);replace HT:=z7 U;have HC:=z7 J;clear U J)
 go_loop [5,18] (fun c j=>∃(n m:Nat),m<=A.length/\n<4294967296/\c= .int .u32 n/\j= .int .i64 m/\Hid (n=z3O 4294967295 (A.take m).flatten)) (fun _ j=>A.length - (intOf j).toNat)
 case atStart=>exact⟨4294967295,0,by omega,by omega,rfl,rfl,rfl⟩
 case round=>
  obtain⟨n,m,hm,O,rfl,rfl,N⟩:=hrel;by_cases hlt:m<A.length
  ·obtain⟨b,a9,c',v,he,hc,hv,hb⟩:=HX.o.at hlt;simp only[Value.slice.injEq,true_and]at he;obtain⟨rfl,rfl⟩:=he;have a5:=HL.o _ (List.getElem_mem hlt);obtain⟨l,L⟩:=zN (A[m]);have a4:Hid ((A.take (m+1)).flatten=(A.take m).flatten++l):=by
    exact z7 (by rw[List.take_succ_eq_append_getElem hlt,L,List.flatten_append];simp)
   rw[<-L]at hv a5;clear L;obtain⟨a2,c2,rfl⟩:=hv.head;have HV:=z7 hv;have i1:(0:Int)<=m:=(by omega);have i2:(m:Int)<A.length:=(by omega);clear hv;go_wp2
   go_loop [5,24] (fun c j=>∃(n k:Nat),k<=l.length/\n<4294967296/\c= .int .u32 n/\j= .int .i64 k/\Hid (n=z3O 4294967295 ((A.take m).flatten++l.take k))) (fun _ j=>l.length - (intOf j).toNat)
   case atStart=>exact⟨n,0,by omega,O,rfl,rfl,z7 (by rw[N.o];simp)⟩
   case round=>
    obtain⟨n,k,hk,O,rfl,rfl,a1⟩:=hrel;by_cases hlk:k<l.length
    ·obtain⟨b3,a7,c3,Y,a3,a8⟩:=HV.o.at hlk;simp only[Value.slice.injEq,true_and]at Y;obtain⟨rfl,rfl⟩:=Y;obtain⟨u1,u2,u3⟩:=q1f n l[k] O;have h2:=y6q l[k] (c:=n) O;have I:Hid (upd n l[k]=z3O 4294967295 ((A.take m).flatten++l.take (k+1))):=by
      exact z7 (by rw[a1.o,List.take_succ_eq_append_getElem hlk,<-List.append_assoc,z7y (b:= [_])];rfl)
     have ht:w.cell? ⟨B,4+(n%256^^^l[k].toNat),none⟩=some (.int .u32 (z2K 8 (n%256^^^l[k].toNat):Nat)):=by
      have:=(z1F.cell HT.o (n%256^^^l[k].toNat)).trans (c:=some (q3Y (z2K 8 (n%256^^^l[k].toNat)))) (by simp[y6v,u2]);exact this
     have k1:(0:Int)<=k:=(by omega);have k2:(k:Int)<l.length:=(by omega);obtain⟨y,hy⟩:=zN (l[k]);rw[<-hy]at a3 u1 u2 u3 h2 I ht;obtain⟨q,hq⟩:=zN (n%256^^^y.toNat);rw[<-hq]at u1 u2 u3 ht;have q2:(q:Int)<256:=(by omega);clear hy hq;have U3:=z7 u3;clear u3;go_wp2;rw[U3.o]
     go_round
     case rel=>exact⟨_,k+1,by omega,h2,rfl,by go_num,I⟩
     case measure=>simp[intOf];omega
    ·obtain rfl:k=l.length:=by omega
     have a6:Hid (n=z3O 4294967295 (A.take (m+1)).flatten):=z7 (by rw[a4.o,a1.o,List.take_length]);go_wp2
     go_round
     case rel=>exact⟨n,m+1,by omega,O,rfl,by go_num,a6⟩
     case measure=>simp[intOf];omega
  ·obtain rfl:m=A.length:=by omega
   have R:=y7S n O;have HZ:=z7 R;clear R;rw[List.take_length]at N;go_wp2;go_ret;exact⟨by unfold z2J;rw[<-N.o,<-HZ.o];rfl,HT.o,HC.o⟩
theorem z4n:(prog.info? 5).map (fun i=>(i.zero,i.size,i.bytes))=some (some (.int .u8 0),1,1):=by kernel_rfl
theorem q2k{w:World}{n:Nat}{J:List Value}{I:List (List UInt8)}{e:TypeId}{fr:Nat×Nat}(B:w.heap[n]? =some (.cells J.toArray e fr))(L:J.length=I.length)(O:0<I.length)
  (h:∀(i:Nat) (v:Value) (l:List UInt8),J[i]? =some v->I[i]? =some l->RdB w v l) (c:Nat):y0q w (.slice (some ⟨n,0,none⟩) I.length c) I:=by
 refine⟨J,⟨by simpa using L,.inr ⟨⟨n,0,none⟩,c,rfl,fun j u N=>?_⟩⟩,L,h⟩;have A:(⟨n,0,none⟩:Addr).add j=⟨n,j,none⟩:=by unfold Addr.add;split<;>simp_all
 rw[A,cell_of_row w n j J.toArray e fr B];simpa using N
theorem z8T{w:World}{n:Nat}{l:List UInt8}{e:TypeId}{fr:Nat×Nat}(B:w.heap[n]? =some (.cells (z0b l).toArray e fr))(J:0<l.length)(c:Nat):RdB w (.slice (some ⟨n,0,none⟩) l.length c) l:=by
 refine⟨by simp[z0b],.inr ⟨⟨n,0,none⟩,c,rfl,fun j u I=>?_⟩⟩;have A:(⟨n,0,none⟩:Addr).add j=⟨n,j,none⟩:=by unfold Addr.add;split<;>simp_all
 rw[A,cell_of_row w n j _ e fr B];simpa using I
theorem heap_alloc_old(w:World)(o:Obj){k:Nat}(h:k<w.heap.size):(w.alloc o).heap[k]? =w.heap[k]? :=Below.heap_alloc w o k h
theorem z8p(w:World):Calls prog 63 #[] w fun e w'=>e= .returned (.pointer (some ⟨w.heap.size,0,none⟩))/\Tab w' w.heap.size false/\Below w.heap.size w w'/\w.heap.size<w'.heap.size:=by
 refine(q4q w).mono ?_;rintro e w' ⟨rfl,rfl⟩;exact⟨rfl,z1F.made w,(Below.refl _ _).alloc (Nat.le_refl _) _,by simp⟩
theorem Tab.alloc{w:World}{A:Nat}{f:Bool}(h:Tab w A f)(o:Obj):Tab (w.alloc o) A f:=h.low ((Below.refl _ _).alloc (Nat.le_refl _) _)
theorem Tab.lt{w:World}{A:Nat}{f:Bool}(h:Tab w A f):A<w.heap.size:=(z1F.heads h).2.2.2.2
theorem z3n{w:World}{n:Nat}(o:Obj)(h:n=w.heap.size):(w.alloc o).heap[n]? =some o:=by rw[h];exact j8 w o
theorem y4L(B:Nat)(f:Bool)(N:List Value)(A:List (List UInt8))(n:Nat)(w0:World)(R:Tab w0 B f)(I:w0.heap[n]? =some (.cells N.toArray 47 (0,0)))(U:N.length=A.length)(hp:0<A.length)(Y:n≠B)
  (hv:∀w',Chg [B] [B] w0 w'->∀(i:Nat) (v:Value) (l:List UInt8),N[i]? =some v->A[i]? =some l->RdB w' v l) (L:∀l∈A,l.length<=9223372036854775807) (J:A.length<=9223372036854775807):
  Calls prog 64 #[.pointer (some ⟨B,0,none⟩),.slice (some ⟨n,0,none⟩) A.length A.length] w0 fun e w'=>e= .returned (.int .u32 (z2J A.flatten:Nat))/\Tab w' B true/\Chg [B] [B] w0 w':=
 q4p B f _ A w0 R (fun w' O=>q2k (w:=w') (by rw[O.block n (Array.getElem?_eq_some_iff.1 I).1 (by simpa using Y)];exact I) U hp (hv w' O) _) J L
theorem z7m(A:Nat)(f:Bool)(v:Value)(l:List UInt8)(n:Nat)(w0:World)(L:Tab w0 A f)(B:w0.heap[n]? =some (.cells #[v] 47 (0,0)))(R:n≠A)
  (U:∀w',Chg [A] [A] w0 w'->RdB w' v l) (O:l.length<=9223372036854775807):
  Calls prog 64 #[.pointer (some ⟨A,0,none⟩),.slice (some ⟨n,0,none⟩) 1 1] w0 fun e w'=>e= .returned (.int .u32 (z2J l:Nat))/\Tab w' A true/\Chg [A] [A] w0 w':=by
 have h:=y4L A f [v] [l] n w0 L B rfl (by simp) R (fun w' N i v' Y I J=>by
  cases i with
  | zero=>simp at I J;subst I;subst J;exact U w' N
  | succ i=>simp at I) (by simpa using O) (by simp)
 simpa using h
structure CS (W:World) (tb:Nat) (f:Bool) (w:World):Prop where
 tab:Tab w tb f
 low:Below W.heap.size W w
 ge:W.heap.size<=tb
theorem CS.alloc{W w:World}{A:Nat}{f:Bool}(h:CS W A f w)(o:Obj):CS W A f (w.alloc o):=⟨h.tab.alloc o,h.low.alloc h.low.size o,h.ge⟩
theorem CS.to{W w w':World}{A:Nat}{f:Bool}(h:CS W A f w)(hb:Below w.heap.size w w'):CS W A f w':=⟨h.tab.low hb,h.low.trans (hb.mono h.low.size),h.ge⟩
theorem CS.sum{W w w':World}{A:Nat}{f:Bool}(h:CS W A f w)(I:Tab w' A true)(B:Chg [A] [A] w w'):CS W A true w':=⟨I,h.low.trans (B.below h.low.size (by simpa using h.ge)),h.ge⟩
theorem CS.rd{W w w':World}{A:Nat}{f:Bool}(h:CS W A f w)(B:Chg [A] [A] w w'){v:Value}{l:List UInt8}(I:RdB W v l):RdB w' v l:=
 I.low (h.low.trans (B.below h.low.size (by simpa using h.ge)))
theorem CS.lt{W w:World}{A:Nat}{f:Bool}(h:CS W A f w):A<w.heap.size:=h.tab.lt
theorem q1g{W w w':World}(hb:Below W.heap.size W w)(B:Tab w' w.heap.size false)(A:Below w.heap.size w w'):CS W w.heap.size false w':=⟨B,hb.trans (A.mono hb.size),hb.size⟩
structure y4n (w:World) (tb base:Nat) (v:Value) (l:List UInt8):Prop where
 row:w.ownsRow base 5 1 v l.length (z0b l)
 ge:tb<base
theorem y4n.rd{w:World}{A base:Nat}{v:Value}{l:List UInt8}(h:y4n w A base v l):RdB w v l:=z0e h.row
theorem y4n.to{w w':World}{A base:Nat}{v:Value}{l:List UInt8}(h:y4n w A base v l)(hb:Below w.heap.size w w'):y4n w' A base v l:=⟨ownsRow_below h.row hb (Nat.le_refl _),h.ge⟩
theorem y4n.chg{w w':World}{A base:Nat}{v:Value}{l:List UInt8}(h:y4n w A base v l)(I:Chg [A] [A] w w'):y4n w' A base v l:=
 ⟨j7 h.row fun k B=>I.block k (h.row.lt k B).2 (by have:=(h.row.lt k B).1;have:=h.ge;simp;omega),h.ge⟩
theorem y7r{n:Nat}(h:n<4294967296):z0b (be4 n)= [.int .u8 ((n:Int)/16777216),.int .u8 ((n:Int)/65536%256),.int .u8 ((n:Int)/256%256),.int .u8 ((n:Int)%256)]:=by
 simp only[z0b,be4,List.map_cons,List.map_nil,UInt8.toNat_ofNat',List.cons.injEq,Value.int.injEq,true_and,and_true];omega
theorem q3A{n:Nat}(w:World)(h:n<4294967296):RdB (w.alloc (.cells #[.int .u8 ((n:Int)/16777216),.int .u8 ((n:Int)/65536%256),.int .u8 ((n:Int)/256%256),.int .u8 ((n:Int)%256)] 5)) (.slice (some ⟨w.heap.size,0,none⟩) 4 4) (be4 n):=by
 refine z8T (l:=be4 n) (e:=5) (fr:=(0,0)) ?_ (by simp[be4]) 4;rw[j8,y7r h]
def q2I(w:World)(base:Nat)(v:Value)(l:List UInt8)(e:Ending)(w':World):Prop:=
 ∃g cap,e= .returned (.slice (some ⟨g,0,none⟩) l.length cap)/\base<=g/\w'.ownsRow base 5 1 (.slice (some ⟨g,0,none⟩) l.length cap) l.length (z0b l)/\Below base w w'
theorem q5v(v:Value)(l:List UInt8)(n base:Nat)(w:World)(hn:n<4294967296)(A:w.ownsRow base 5 1 v l.length (z0b l))(hl:l.length<=2000000)(hb:base<=w.heap.size):
  Calls prog 111 #[v,.int .u32 n] w (q2I w base v (l++be4 n)):=by
 have hr:=q3A w hn;obtain⟨a0,c0,rfl⟩:=(z0e A).head;have N:=z7 (ownsRow_below A (q5 w (.cells #[.int .u8 ((n:Int)/16777216),.int .u8 ((n:Int)/65536%256),.int .u8 ((n:Int)/256%256),.int .u8 ((n:Int)%256)] 5)) (Nat.le_refl _));have O:=z7 hr;clear hr;go_enter func111,ntmps111;go_wp2_with (at_builtin;refine z5A rfl (.tmp 5) (.tmp 17) 47 rfl base 5 underlying47 z4n _ l rfl N.o _ (be4 n) rfl O.o (by simp[be4];omega) (by simp;omega) ?_);intro ao R w3 B Y h3;have J:∀k,(Value.slice a0 l.length c0).ownBlock=some k->base<=k:=fun k hk=>(A.lt k hk).1;have I:Below base w w3:=((Below.refl base w).alloc hb _).grown Y (by simp;omega) J;obtain⟨g,cap,L,hg⟩:=z2z B (by intro e;have:=B.1;rw[e]at B;rcases B.2 with⟨_,hz⟩|⟨_,_,_,hz,_⟩<;>simp[be4]at hz);have U:l.length+(be4 n).length=(l++be4 n).length:=by simp
 rw[U]at L B h3 ⊢;simp only[Value.slice.injEq,true_and]at L;obtain⟨rfl,rfl⟩:=L;have HP:Hid (q2I w base (.slice a0 l.length c0) (l++be4 n) (.returned (.slice (some ⟨g,0,none⟩) (l++be4 n).length R)) w3):=⟨g,R,rfl,hg,B,I⟩;clear B Y h3 J I U O N A;go_wp2;go_ret;exact HP.o
theorem q3T(b:Bool)(w:World):Calls prog 112 #[.bool b] w fun e w'=>e= .returned (.int .u8 ((y1L b).toNat:Nat))/\w=w':=by
 cases b;all_goals
  go_enter func112,ntmps112;go_wp2;go_ret;exact⟨rfl,rfl⟩
def q4D(x:Value):Prop:=∃a n c,x= .slice a n c/\n<=c/\c<=9223372036854775807
theorem q4D.mk{a:Option Addr}{n c:Nat}(A:n<=c)(B:c<=9223372036854775807):q4D (.slice a n c):=⟨a,n,c,rfl,A,B⟩
theorem y7E(a:Option Addr)(c:Nat)(l:List UInt8)(w:World)(U:RdB w (.slice a l.length c) l)(hl:4<=l.length)(hc:l.length<=c)(a0:c<=9223372036854775807):
  Calls prog 62 #[.slice a l.length c] w fun e w'=>e= .returned (.int .u32 (unB (l.take 4):Nat))/\w=w':=by
 have HX:=z7 U;clear U;go_enter func62,ntmps62;go_wp2
 go_loop [3,9] (fun v j=>∃(n m:Nat),m<=4/\v= .int .u32 n/\n<256^m/\j= .int .i64 m/\Hid (n=unB (l.take m))) (fun _ j=>4 - (intOf j).toNat)
 case atStart=>exact⟨0,0,by omega,rfl,by simp,rfl,rfl⟩
 case round=>
  obtain⟨n,m,hm,rfl,hn,rfl,N⟩:=hrel;by_cases hlt:m<4
  ·have A:m<l.length:=(by omega);obtain⟨b,a2,c',R,O,hb⟩:=HX.o.at A;simp only[Value.slice.injEq,true_and]at R;obtain⟨rfl,rfl⟩:=R;have a1:n<16777216:=Nat.lt_of_lt_of_le hn (Nat.pow_le_pow_right (n:=256) (by omega) (by omega:m<=3));have J:=l[m].toNat_lt;have I:bits .or .u32 ((n:Int)*256) (l[m].toNat:Int)=((n*256+l[m].toNat:Nat):Int):=by
    have:=u32_or_nat (n*256) l[m].toNat (by omega) (by omega);rw[nat_join 8 _ _ (by omega) (by omega)]at this;simpa using this
   have L:n*256+l[m].toNat<256^(m+1):=(by rw[Nat.pow_succ];omega);have B:Hid (n*256+l[m].toNat=unB (l.take (m+1))):=z7 (by rw[N.o,List.take_succ_eq_append_getElem A,q1X]);obtain⟨y,Y⟩:=zN (l[m]);rw[<-Y]at O J I L B;have HO:=z7 I;have i0:(0:Int)<=m:=(by omega);have i1:(m:Int)<4:=(by omega);clear I Y;go_wp2;rw[HO.o]
   go_round
   case rel=>exact⟨_,m+1,by omega,rfl,L,by go_num,B⟩
   case measure=>simp[intOf];omega
  ·obtain rfl:m=4:=by omega
   go_wp2;go_ret;exact⟨by rw[<-N.o];rfl,rfl⟩
theorem z0V{a b:Bool}(h:a=b):Ending.returned (.bool a)=Ending.returned (.bool b):=by rw[h]
theorem y8s{k:IntKind}{a b:Int}(h:a=b):Ending.returned (.int k a)=Ending.returned (.int k b):=by rw[h]
def j9(f:Fr)(x:Value):Array Value:= #[.int .u8 f.kind,.int .u32 f.epoch,.int .u32 f.series,.int .u32 f.chunk,.int .u32 f.bits,.int .u32 f.cnt,.int .u32 f.count,.bool f.closed,.int .u64 f.sum,x,.int .i64 f.n]
def frV(f:Fr)(x:Value):Value:= .agg (j9 f x)
theorem y3B(a:Option Addr)(len c:Nat)(n:Int)(w:World)(A:len<=9223372036854775807):
  Calls prog 110 #[.agg #[.slice a len c,.int .i64 n]] w fun e w'=>e= .returned (.bool (decide (n=0)&&decide (len=0)))/\Below w.heap.size w w':=by
 go_enter func110,ntmps110;go_wp2;all_goals go_ret
 all_goals refine⟨z0V ?_,q5 _ _⟩
 ·rw[Bool.eq_iff_iff];simp[*]
 ·rw[Bool.eq_iff_iff];simp[*]
theorem z9H(n:Int)(w:World)(A:0<=n)(B:n<=9223372036854775807):
  Calls prog 133 #[.int .i64 n] w fun e w'=>e= .returned (.int .i64 (n/8+min (n%8) 1))/\w=w':=by
 go_enter func133,ntmps133;go_wp2;all_goals go_ret
 all_goals exact⟨y8s (by omega),rfl⟩
theorem y9z(y:UInt8)(k:Int)(A:0<=k)(B:k<8):bits .and .u8 (y.toNat:Int) (255/2^k.toNat)=((y.toNat&&&(255>>>k.toNat):Nat):Int):=by
 have e:(255/2^k.toNat:Int)=((255>>>k.toNat:Nat):Int):=by
  rw[Nat.shiftRight_eq_div_pow];simp
 have I:255>>>k.toNat<=255:=by rw[Nat.shiftRight_eq_div_pow];exact Nat.div_le_self _ _
 rw[e];exact u8_and_nat y.toNat (255>>>k.toNat) (by have:=y.toNat_lt;omega) (by omega)
theorem z0k{B n:Nat}{w w':World}(h:Below B w w'):Below B w (w'.drewN n):=⟨h.os,h.tape,h.output,h.size,h.block⟩
theorem z2M(a:Option Addr)(c:Nat)(b:List UInt8)(n:Int)(w:World)(hx:RdB w (.slice a b.length c) b)(hl:b.length<=9223372036854775807)(h0: -9223372036854775808<=n)(O:n<=9223372036854775807):
  Calls prog 101 #[.agg #[.slice a b.length c,.int .i64 n]] w fun e w'=>e= .returned (.bool (z1Q b n))/\Below w.heap.size w w':=by
 have HX:=z7 hx;clear hx;by_cases hn:n<0
 ·have a0:decide (n<0)=true:=by simpa using hn
  go_enter func101,ntmps101;go_wp2;go_quiet (fail)
  go_wp2;go_ret;exact⟨z0V (by unfold z1Q;rw[decide_eq_false (by omega)];rfl),z0k (q5 _ _)⟩
 have a0:decide (n<0)=false:=by simpa using hn
 have A:0<=n:=by omega
 clear hn;by_cases hlen:(b.length:Int)=n/8+min (n%8) 1
 case neg=>
  have Y:((b.length:Int) !=n/8+min (n%8) 1)=true:=by simpa using hlen
  have J:Hid (z1Q b n=false):=z7 (by unfold z1Q;rw[decide_eq_false hlen];simp);clear hlen;go_enter func101,ntmps101;go_wp2;go_quiet ((go_at_call 133;exact Calls.quiet_of_same ((z9H n _ A O).mono fun e w' h=>⟨h.1,h.2.symm⟩)))
  go_wp2;go_ret;exact⟨z0V J.o.symm,z0k (q5 _ _)⟩
 have Y:((b.length:Int) !=n/8+min (n%8) 1)=false:=by simpa using hlen
 by_cases hk:n%8=0
 ·have U:(n%8==0)=true:=by simpa using hk
  have J:Hid (z1Q b n=true):=z7 (by unfold z1Q;rw[decide_eq_true hlen,decide_eq_true A,decide_eq_true hk];rfl);clear hlen hk;go_enter func101,ntmps101;go_wp2;go_quiet ((go_at_call 133;exact Calls.quiet_of_same ((z9H n _ A O).mono fun e w' h=>⟨h.1,h.2.symm⟩)))
  go_wp2;go_quiet (fail)
  go_wp2;go_ret;exact⟨z0V J.o.symm,z0k (z0k (q5 _ _))⟩
 ·have U:(n%8==0)=false:=by simpa using hk
  have hp:0<b.length:=by omega
  obtain⟨N,I,c0,he,L,R⟩:=HX.o.at (k:=b.length - 1) (by omega);simp only[Value.slice.injEq,true_and]at he;obtain⟨rfl,rfl⟩:=he;have hg:b[b.length - 1]=b.getD (b.length - 1) 0:=by simp[List.getD,List.getElem?_eq_getElem (show b.length - 1<b.length by omega)]
  rw[hg]at L;have B:=y9z (b.getD (b.length - 1) 0) (n%8) (by omega) (by omega);have J:Hid (z1Q b n=((((b.getD (b.length - 1) 0).toNat&&&(255>>>(n%8).toNat):Nat):Int)==0)):=z7 (by
   unfold z1Q;rw[decide_eq_true hlen,decide_eq_true A,decide_eq_false hk];simp only[Bool.true_and,Bool.false_or];rw[Bool.eq_iff_iff];simp only[decide_eq_true_eq,beq_iff_eq];omega)
  generalize b.getD (b.length - 1) 0=y at L B J
  have a1:(w.alloc (.cells #[.slice (some ⟨N,I,none⟩) b.length c,.int .i64 n] 49)).cell? ⟨N,I+(b.length - 1),none⟩=some (.int .u8 y.toNat):=((q5 w _).cell (p:=⟨N,I+(b.length - 1),none⟩) R).trans L;have i0:(0:Int)<=(b.length:Int) - 1:=by omega
  have i1:(b.length:Int) - 1<b.length:=by omega
  have i2:0<=n%8:=by omega
  have i3:n%8<8:=by omega
  have HL:=z7 B;clear hlen hk B hg L;go_enter func101,ntmps101;go_wp2;go_quiet ((go_at_call 133;exact Calls.quiet_of_same ((z9H n _ A O).mono fun e w' h=>⟨h.1,h.2.symm⟩)))
  go_wp2;go_quiet (fail)
  go_wp2;go_ret;exact⟨z0V (by rw[J.o,<-HL.o]),z0k (z0k (q5 _ _))⟩
def z2t(w:World)(q:Nat)(f:Fr)(x:Value):Prop:=w.heap[q]? =some (.cells (j9 f x) 51 (0,0))
theorem z2t.cells{w:World}{q:Nat}{f:Fr}{x:Value}(h:z2t w q f x):
  w.cell? ⟨q,0,none⟩=some (.int .u8 f.kind)/\w.cell? ⟨q,1,none⟩=some (.int .u32 f.epoch)/\w.cell? ⟨q,2,none⟩=some (.int .u32 f.series)/\w.cell? ⟨q,3,none⟩=some (.int .u32 f.chunk)/\w.cell? ⟨q,4,none⟩=some (.int .u32 f.bits)/\w.cell? ⟨q,5,none⟩=some (.int .u32 f.cnt)/\
   w.cell? ⟨q,6,none⟩=some (.int .u32 f.count)/\w.cell? ⟨q,7,none⟩=some (.bool f.closed)/\w.cell? ⟨q,8,none⟩=some (.int .u64 f.sum)/\w.cell? ⟨q,9,none⟩=some x/\w.cell? ⟨q,10,none⟩=some (.int .i64 f.n):=by
 unfold z2t at h;refine⟨?_,?_,?_,?_,?_,?_,?_,?_,?_,?_,?_⟩<;>simp[World.cell?,h,j9]
theorem z2t.made(w:World)(f:Fr)(x:Value):z2t (w.alloc (.cells (j9 f x) 51)) w.heap.size f x:=j8 w _
theorem z2t.lt{w:World}{q:Nat}{f:Fr}{x:Value}(h:z2t w q f x):q<w.heap.size:=(Array.getElem?_eq_some_iff.1 h).1
theorem z2t.low{w w':World}{q:Nat}{f:Fr}{x:Value}(h:z2t w q f x)(hb:Below w.heap.size w w'):z2t w' q f x:=(hb.block q h.lt).trans h
theorem q4s(f:Fr)(a:Option Addr)(c:Nat)(w:World)(hf:f.Ok)(hl:f.b.length<=1000000)(R:RdB w (.slice a f.b.length c) f.b)(N:f.kind=1):
  Calls prog 67 #[frV f (.slice a f.b.length c)] w fun e w'=>e= .returned (.bool (z1D f))/\Below w.heap.size w w':=by
 have hm:Hid (z1D f=(z4r f&&(decide (f.series=0)&&(decide (f.chunk=0/\f.bits=0/\f.cnt=0)&&(decide (f.count=0)&&(!f.closed&&decide (f.sum=0))))))):=z7 (by unfold z1D;rw[if_pos N]);have k1:((f.kind:Int)==1)=true:=by simp[N]
 clear N;have O:=z2t.made w f (.slice a f.b.length c);have hX:=z7 (R.low (q5 w (.cells (j9 f (.slice a f.b.length c)) 51)));obtain⟨kind,epoch,series,chunk,J,cnt,count,closed,sum,b,n⟩:=f;obtain⟨o1,o2,o3,o4,o5,o6,o7,o8,o9,a0⟩:=hf;simp only at*;have I:=z7 O;unfold frV j9;unfold j9 at I hX;clear O R;go_enter func67,ntmps67;go_wp2_with fail;refine(y3B a b.length c n _ (by omega)).mono ?_;rintro e w2 ⟨rfl,hb⟩;have B:=I.o.low hb;obtain⟨c0,c1,c2,c3,c4,c5,c6,c7,c8,c9,Y⟩:=B.cells;have L:Hid (Below w.heap.size w w2):=z7 ((q5 w _).trans (hb.mono (by simp)));obtain⟨nb,A⟩:=zN ((decide (n=0)&&decide (b.length=0)));rw[<-A];have U:=z7 A;clear hb B I A;go_wp2;all_goals go_ret
 all_goals refine⟨z0V ?_,L.o⟩
 all_goals rw[hm.o]
 all_goals unfold z4r
 all_goals simp only
 all_goals rw[<-U.o]
 all_goals try simp[*]
 all_goals try (rw[Bool.eq_iff_iff];simp)
theorem q3d(f:Fr)(a:Option Addr)(c:Nat)(w:World)(hf:f.Ok)(hl:f.b.length<=1000000)(R:RdB w (.slice a f.b.length c) f.b)(I:f.kind=4):
  Calls prog 67 #[frV f (.slice a f.b.length c)] w fun e w'=>e= .returned (.bool (z1D f))/\Below w.heap.size w w':=by
 have hm:Hid (z1D f=(z4r f&&(decide (f.count=0)&&!f.closed))):=z7 (by unfold z1D;rw[if_neg (by omega),if_pos (.inl I)]);have k1:((f.kind:Int)==1)=false:=by simp[I]
 have k4:((f.kind:Int)==4)=true:=by simp[I]
 clear I;have O:=z2t.made w f (.slice a f.b.length c);have hX:=z7 (R.low (q5 w (.cells (j9 f (.slice a f.b.length c)) 51)));obtain⟨kind,epoch,series,chunk,L,cnt,count,closed,sum,b,n⟩:=f;obtain⟨o1,o2,o3,o4,o5,o6,o7,o8,o9,a0⟩:=hf;simp only at*;have J:=z7 O;unfold frV j9;unfold j9 at J hX;clear O R;go_enter func67,ntmps67;go_wp2_with fail;refine(y3B a b.length c n _ (by omega)).mono ?_;rintro e w2 ⟨rfl,hb⟩;have B:=J.o.low hb;obtain⟨c0,c1,c2,c3,c4,c5,c6,c7,c8,c9,Y⟩:=B.cells;have N:Hid (Below w.heap.size w w2):=z7 ((q5 w _).trans (hb.mono (by simp)));obtain⟨nb,A⟩:=zN ((decide (n=0)&&decide (b.length=0)));rw[<-A];have U:=z7 A;clear hb B J A;go_wp2;all_goals go_ret
 all_goals refine⟨z0V ?_,N.o⟩
 all_goals rw[hm.o]
 all_goals unfold z4r
 all_goals simp only
 all_goals rw[<-U.o]
 all_goals try simp[*]
 all_goals try (rw[Bool.eq_iff_iff];simp)
theorem q4g(f:Fr)(a:Option Addr)(c:Nat)(w:World)(hf:f.Ok)(hl:f.b.length<=1000000)(R:RdB w (.slice a f.b.length c) f.b)(I:f.kind=5):
  Calls prog 67 #[frV f (.slice a f.b.length c)] w fun e w'=>e= .returned (.bool (z1D f))/\Below w.heap.size w w':=by
 have hm:Hid (z1D f=(z4r f&&(decide (f.count=0)&&!f.closed))):=z7 (by unfold z1D;rw[if_neg (by omega),if_pos (.inr I)]);have k1:((f.kind:Int)==1)=false:=by simp[I]
 have k4:((f.kind:Int)==4)=false:=by simp[I]
 have k5:((f.kind:Int)==5)=true:=by simp[I]
 clear I;have O:=z2t.made w f (.slice a f.b.length c);have hX:=z7 (R.low (q5 w (.cells (j9 f (.slice a f.b.length c)) 51)));obtain⟨kind,epoch,series,chunk,L,cnt,count,closed,sum,b,n⟩:=f;obtain⟨o1,o2,o3,o4,o5,o6,o7,o8,o9,a0⟩:=hf;simp only at*;have J:=z7 O;unfold frV j9;unfold j9 at J hX;clear O R;go_enter func67,ntmps67;go_wp2_with fail;refine(y3B a b.length c n _ (by omega)).mono ?_;rintro e w2 ⟨rfl,hb⟩;have B:=J.o.low hb;obtain⟨c0,c1,c2,c3,c4,c5,c6,c7,c8,c9,Y⟩:=B.cells;have N:Hid (Below w.heap.size w w2):=z7 ((q5 w _).trans (hb.mono (by simp)));obtain⟨nb,A⟩:=zN ((decide (n=0)&&decide (b.length=0)));rw[<-A];have U:=z7 A;clear hb B J A;go_wp2;all_goals go_ret
 all_goals refine⟨z0V ?_,N.o⟩
 all_goals rw[hm.o]
 all_goals unfold z4r
 all_goals simp only
 all_goals rw[<-U.o]
 all_goals try simp[*]
 all_goals try (rw[Bool.eq_iff_iff];simp)
theorem q1m(f:Fr)(a:Option Addr)(c:Nat)(w:World)(hf:f.Ok)(hl:f.b.length<=1000000)(hx:RdB w (.slice a f.b.length c) f.b)(I:f.kind=3)(L:f.bits=0/\f.cnt=0/\f.sum=0):
  Calls prog 67 #[frV f (.slice a f.b.length c)] w fun e w'=>e= .returned (.bool (z1D f))/\Below w.heap.size w w':=by
 have hm:Hid (z1D f=(decide (f.bits=0/\f.cnt=0/\f.sum=0)&&z4t f)):=z7 (by unfold z1D;rw[if_neg (by omega),if_neg (by omega),if_pos I]);have k1:((f.kind:Int)==1)=false:=by simp[I]
 have k4:((f.kind:Int)==4)=false:=by simp[I]
 have k5:((f.kind:Int)==5)=false:=by simp[I]
 have k3:((f.kind:Int)==3)=true:=by simp[I]
 have z1:((f.bits:Int) !=0)=false:=by simp[L.1]
 have z2:((f.cnt:Int) !=0)=false:=by simp[L.2.1]
 have z3:((f.sum:Int) !=0)=false:=by simp[L.2.2]
 have HZ:=z7 L;clear I L;have U:=z2t.made w f (.slice a f.b.length c);have Y:=z7 (hx.low (q5 w (.cells (j9 f (.slice a f.b.length c)) 51)));obtain⟨kind,epoch,series,chunk,A,cnt,count,closed,sum,b,n⟩:=f;obtain⟨o1,o2,o3,o4,o5,o6,o7,o8,o9,O⟩:=hf;simp only at*;have R:=z7 U;unfold frV j9;unfold j9 at R Y;clear U hx;go_enter func67,ntmps67;have hW:Hid (Below w.heap.size w (w.alloc (.cells #[.int .u8 kind,.int .u32 epoch,.int .u32 series,.int .u32 chunk,.int .u32 A,.int .u32 cnt,.int .u32 count,.bool closed,.int .u64 sum,.slice a b.length c,.int .i64 n] 51))):=z7 (q5 w _);go_wp2_with (go_at_call 101;refine(z2M a c b n _ Y.o (by omega) o9 O).mono ?_;rintro e w2 ⟨rfl,hb⟩;have J:=R.o.low hb;obtain⟨c0,c1,c2,c3,c4,c5,c6,c7,c8,c9,a0⟩:=J.cells;have N:Hid (Below w.heap.size w w2):=z7 ((q5 w _).trans (hb.mono (by simp)));obtain⟨nb,B⟩:=zN (z1Q b n);rw[<-B];have HN:=z7 B;clear hb J B);all_goals try go_wp2
 all_goals go_ret
 all_goals refine⟨z0V ?_,by first|exact N.o|exact hW.o⟩
 all_goals rw[hm.o,decide_eq_true HZ.o]
 all_goals unfold z4t
 all_goals simp only
 all_goals try rw[<-HN.o]
 all_goals try simp[*]
 all_goals try (rw[Bool.eq_iff_iff];simp;omega)
 all_goals try (intros;omega)
theorem q1n(f:Fr)(a:Option Addr)(c:Nat)(w:World)(O:f.Ok)(B:f.kind=3)(I:¬(f.bits=0/\f.cnt=0/\f.sum=0)):
  Calls prog 67 #[frV f (.slice a f.b.length c)] w fun e w'=>e= .returned (.bool (z1D f))/\Below w.heap.size w w':=by
 have J:Hid (z1D f=false):=z7 (by unfold z1D;rw[if_neg (by omega),if_neg (by omega),if_pos B,decide_eq_false I];rfl);have R:((f.kind:Int)==1)=false:=by simp[B]
 have Y:((f.kind:Int)==4)=false:=by simp[B]
 have k5:((f.kind:Int)==5)=false:=by simp[B]
 have U:((f.kind:Int)==3)=true:=by simp[B]
 clear B;obtain⟨kind,epoch,series,chunk,A,cnt,count,closed,sum,b,n⟩:=f;simp only at*;unfold frV j9;by_cases g1:A=0
 ·have L:((A:Int) !=0)=false:=by simp[g1]
  by_cases g2:cnt=0
  ·have N:((cnt:Int) !=0)=false:=(by simp[g2]);have z3:((sum:Int) !=0)=true:=(by rw[bne_iff_ne];omega);clear g1 g2 I;go_enter func67,ntmps67;go_wp2;go_ret;exact⟨z0V J.o.symm,q5 _ _⟩
  ·have N:((cnt:Int) !=0)=true:=(by rw[bne_iff_ne];omega);clear g1 g2 I;go_enter func67,ntmps67;go_wp2;go_ret;exact⟨z0V J.o.symm,q5 _ _⟩
 ·have L:((A:Int) !=0)=true:=by rw[bne_iff_ne];omega
  clear g1 I;go_enter func67,ntmps67;go_wp2;go_ret;exact⟨z0V J.o.symm,q5 _ _⟩
theorem q3g(f:Fr)(a:Option Addr)(c:Nat)(w:World)(hf:f.Ok)(hl:f.b.length<=1000000)(Y:RdB w (.slice a f.b.length c) f.b)(B:f.kind=2):
  Calls prog 67 #[frV f (.slice a f.b.length c)] w fun e w'=>e= .returned (.bool (z1D f))/\Below w.heap.size w w':=by
 have hm:Hid (z1D f=z4t f):=z7 (by unfold z1D;rw[if_neg (by omega),if_neg (by omega),if_neg (by omega),if_pos B]);have k1:((f.kind:Int)==1)=false:=by simp[B]
 have k4:((f.kind:Int)==4)=false:=by simp[B]
 have k5:((f.kind:Int)==5)=false:=by simp[B]
 have k3:((f.kind:Int)==3)=false:=by simp[B]
 have k2:((f.kind:Int)==2)=true:=by simp[B]
 clear B;have R:=z2t.made w f (.slice a f.b.length c);have U:=z7 (Y.low (q5 w (.cells (j9 f (.slice a f.b.length c)) 51)));obtain⟨kind,epoch,series,chunk,A,cnt,count,closed,sum,b,n⟩:=f;obtain⟨o1,o2,o3,o4,o5,o6,o7,o8,o9,N⟩:=hf;simp only at*;have O:=z7 R;unfold frV j9;unfold j9 at O U;clear R Y;go_enter func67,ntmps67;have hW:Hid (Below w.heap.size w (w.alloc (.cells #[.int .u8 kind,.int .u32 epoch,.int .u32 series,.int .u32 chunk,.int .u32 A,.int .u32 cnt,.int .u32 count,.bool closed,.int .u64 sum,.slice a b.length c,.int .i64 n] 51))):=z7 (q5 w _);go_wp2_with (go_at_call 101;refine(z2M a c b n _ U.o (by omega) o9 N).mono ?_;rintro e w2 ⟨rfl,hb⟩;have J:=O.o.low hb;obtain⟨c0,c1,c2,c3,c4,c5,c6,c7,c8,c9,a0⟩:=J.cells;have L:Hid (Below w.heap.size w w2):=z7 ((q5 w _).trans (hb.mono (by simp)));obtain⟨nb,I⟩:=zN (z1Q b n);rw[<-I];have HN:=z7 I;clear hb J I);all_goals try go_wp2
 all_goals go_ret
 all_goals refine⟨z0V ?_,by first|exact L.o|exact hW.o⟩
 all_goals rw[hm.o]
 all_goals unfold z4t
 all_goals simp only
 all_goals try rw[<-HN.o]
 all_goals try simp[*]
 all_goals try (rw[Bool.eq_iff_iff];simp;omega)
 all_goals try (intros;omega)
theorem q3L(f:Fr)(a:Option Addr)(c:Nat)(w:World)(N:f.Ok)(Y:f.b.length<=1000000)(I:RdB w (.slice a f.b.length c) f.b)(O:f.kind≠1/\f.kind≠2/\f.kind≠3/\f.kind≠4/\f.kind≠5):
  Calls prog 67 #[frV f (.slice a f.b.length c)] w fun e w'=>e= .returned (.bool (z1D f))/\Below w.heap.size w w':=by
 have R:Hid (z1D f=false):=z7 (by unfold z1D;rw[if_neg (by omega),if_neg (by omega),if_neg (by omega),if_neg (by omega)]);have k1:((f.kind:Int)==1)=false:=by rw[beq_eq_false_iff_ne];omega
 have k4:((f.kind:Int)==4)=false:=by rw[beq_eq_false_iff_ne];omega
 have k5:((f.kind:Int)==5)=false:=by rw[beq_eq_false_iff_ne];omega
 have k3:((f.kind:Int)==3)=false:=by rw[beq_eq_false_iff_ne];omega
 have k2:((f.kind:Int)==2)=false:=by rw[beq_eq_false_iff_ne];omega
 clear O;have B:=z2t.made w f (.slice a f.b.length c);have L:=z7 (I.low (q5 w (.cells (j9 f (.slice a f.b.length c)) 51)));obtain⟨kind,epoch,series,chunk,A,cnt,count,closed,sum,b,n⟩:=f;obtain⟨o1,o2,o3,o4,o5,o6,o7,o8,o9,U⟩:=N;simp only at*;have J:=z7 B;unfold frV j9;unfold j9 at J L;clear B I;go_enter func67,ntmps67;go_wp2;go_ret;exact⟨z0V R.o.symm,q5 _ _⟩
theorem y3F(f:Fr)(a:Option Addr)(c:Nat)(w:World)(A:f.Ok)(B:f.b.length<=1000000)(I:RdB w (.slice a f.b.length c) f.b):
  Calls prog 67 #[frV f (.slice a f.b.length c)] w fun e w'=>e= .returned (.bool (z1D f))/\Below w.heap.size w w':=by
 by_cases h1:f.kind=1
 ·exact q4s f a c w A B I h1
 by_cases h2:f.kind=2
 ·exact q3g f a c w A B I h2
 by_cases h3:f.kind=3
 ·by_cases hz:f.bits=0/\f.cnt=0/\f.sum=0
  ·exact q1m f a c w A B I h3 hz
  ·exact q1n f a c w A h3 hz
 by_cases h4:f.kind=4
 ·exact q3d f a c w A B I h4
 by_cases h5:f.kind=5
 ·exact q4g f a c w A B I h5
 exact q3L f a c w A B I ⟨h1,h2,h3,h4,h5⟩

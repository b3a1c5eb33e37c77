/- The laws of check sums. -/
import Derived.Test.YtabnnclcpkdkeaaGreatDoorZD
import Derived.Test.YtabnnclcpkdkeaaGreatDoorZE
import Derived.Lib.SlBytesConst
import Derived.Deep.DeepCutAuto
namespace Go.Proofs.YtabnnclcpkdkeaaGreatDoor
open Go.Proofs.Tryz
set_option linter.all false
set_option maxRecDepth 100000
set_option maxHeartbeats 0
open Go.RowKit
theorem z4C:(prog.info? 5).map (fun i=>(i.zero,i.size,i.bytes))=some (some (.int .u8 0),1,1):=by kernel_rfl
theorem q3K{w:World}{n:Nat}{L:List Value}{J:List (List UInt8)}{e:TypeId}{fr:Nat×Nat}(I:w.heap[n]? =some (.cells L.toArray e fr))(N:L.length=J.length)(R:0<J.length)
  (h:∀(i:Nat) (v:Value) (l:List UInt8),L[i]? =some v->J[i]? =some l->RdB w v l) (c:Nat):y1s w (.slice (some ⟨n,0,none⟩) J.length c) J:=by
 refine⟨L,⟨by simpa using N,.inr ⟨⟨n,0,none⟩,c,rfl,fun j u O=>?_⟩⟩,N,h⟩;have A:(⟨n,0,none⟩:Addr).add j=⟨n,j,none⟩:=by unfold Addr.add;split<;>simp_all
 rw[A,pT w n j L.toArray e fr I];simpa using O
theorem z9U{w:World}{n:Nat}{l:List UInt8}{e:TypeId}{fr:Nat×Nat}(I:w.heap[n]? =some (.cells (z0c l).toArray e fr))(L:0<l.length)(c:Nat):RdB w (.slice (some ⟨n,0,none⟩) l.length c) l:=by
 refine⟨by simp[z0c],.inr ⟨⟨n,0,none⟩,c,rfl,fun j u J=>?_⟩⟩;have A:(⟨n,0,none⟩:Addr).add j=⟨n,j,none⟩:=by unfold Addr.add;split<;>simp_all
 rw[A,pT w n j _ e fr I];simpa using J
theorem heap_alloc_old(w:World)(o:Obj){k:Nat}(h:k<w.heap.size):(w.alloc o).heap[k]? =w.heap[k]? :=ub w o k h
theorem z9v(w:World):Calls prog 75 #[] w fun e w'=>e= .returned (.pointer (some ⟨w.heap.size,0,none⟩))/\Tab w' w.heap.size false/\Below w.heap.size w w'/\w.heap.size<w'.heap.size:=by
 refine(q5I w).mono ?_;rintro e w' ⟨rfl,rfl⟩;exact⟨rfl,z2c.made w,wD.alloc wE _,wH⟩
theorem Tab.alloc{w:World}{A:Nat}{f:Bool}(h:Tab w A f)(o:Obj):Tab (w.alloc o) A f:=h.low (wD.alloc wE _)
theorem Tab.lt{w:World}{A:Nat}{f:Bool}(h:Tab w A f):A<w.heap.size:=(z2c.heads h).2.2.2.2
theorem z3C{w:World}{n:Nat}(o:Obj)(h:n=w.heap.size):(w.alloc o).heap[n]? =some o:=by rw[h];exact j8 w o
theorem y6l(I:Nat)(f:Bool)(O:List Value)(A:List (List UInt8))(n:Nat)(w0:World)(U:Tab w0 I f)(J:w0.heap[n]? =some (.cells O.toArray 47 (0,0)))(Y:O.length=A.length)(hp:0<A.length)(hn:n≠I)
  (hv:∀w',Chg [I] [I] w0 w'->∀(i:Nat) (v:Value) (l:List UInt8),O[i]? =some v->A[i]? =some l->RdB w' v l) (N:∀l∈A,l.length<=9223372036854775807) (L:A.length<=9223372036854775807):
  Calls prog 76 #[.pointer (some ⟨I,0,none⟩),.slice (some ⟨n,0,none⟩) A.length A.length] w0 fun e w'=>e= .returned (.int .u32 (z3e A.flatten:Nat))/\Tab w' I true/\Chg [I] [I] w0 w':=
 q6l I f _ A w0 U (fun w' R=>q3K (w:=w') (by rw[R.block n (wI.1 J).1 (by simpa using hn)];exact J) Y hp (hv w' R) _) L N
theorem z7W(A:Nat)(f:Bool)(v:Value)(l:List UInt8)(n:Nat)(w0:World)(N:Tab w0 A f)(I:w0.heap[n]? =some (.cells #[v] 47 (0,0)))(U:n≠A)
  (Y:∀w',Chg [A] [A] w0 w'->RdB w' v l) (R:l.length<=9223372036854775807):
  Calls prog 76 #[.pointer (some ⟨A,0,none⟩),.slice (some ⟨n,0,none⟩) 1 1] w0 fun e w'=>e= .returned (.int .u32 (z3e l:Nat))/\Tab w' A true/\Chg [A] [A] w0 w':=by
 have h:=y6l A f [v] [l] n w0 N I rfl wH U (fun w' O i v' l' J L=>by
  cases i with
  | zero=>simp at J L;subst J;subst L;exact Y w' O
  | succ i=>simp at J) (by simpa using R) wH
 simpa using h
structure CS (W:World) (tb:Nat) (f:Bool) (w:World):Prop where
 tab:Tab w tb f
 low:Below W.heap.size W w
 ge:W.heap.size<=tb
theorem CS.alloc{W w:World}{A:Nat}{f:Bool}(h:CS W A f w)(o:Obj):CS W A f (w.alloc o):=⟨h.tab.alloc o,h.low.alloc h.low.size o,h.ge⟩
theorem CS.to{W w w':World}{A:Nat}{f:Bool}(h:CS W A f w)(hb:Below w.heap.size w w'):CS W A f w':=⟨h.tab.low hb,h.low.trans (hb.mono h.low.size),h.ge⟩
theorem CS.sum{W w w':World}{A:Nat}{f:Bool}(h:CS W A f w)(J:Tab w' A true)(I:Chg [A] [A] w w'):CS W A true w':=⟨J,h.low.trans (I.below h.low.size (by simpa using h.ge)),h.ge⟩
theorem CS.rd{W w w':World}{A:Nat}{f:Bool}(h:CS W A f w)(I:Chg [A] [A] w w'){v:Value}{l:List UInt8}(J:RdB W v l):RdB w' v l:=
 J.low (h.low.trans (I.below h.low.size (by simpa using h.ge)))
theorem CS.lt{W w:World}{A:Nat}{f:Bool}(h:CS W A f w):A<w.heap.size:=h.tab.lt
theorem q5h{W w w':World}(hb:Below W.heap.size W w)(I:Tab w' w.heap.size false)(A:Below w.heap.size w w'):CS W w.heap.size false w':=⟨I,hb.trans (A.mono hb.size),hb.size⟩
structure y7V (w:World) (tb base:Nat) (v:Value) (l:List UInt8):Prop where
 row:w.ownsRow base 5 1 v l.length (z0c l)
 ge:tb<base
theorem y7V.rd{w:World}{A base:Nat}{v:Value}{l:List UInt8}(h:y7V w A base v l):RdB w v l:=z0d h.row
theorem y7V.to{w w':World}{A base:Nat}{v:Value}{l:List UInt8}(h:y7V w A base v l)(hb:Below w.heap.size w w'):y7V w' A base v l:=⟨ownsRow_below h.row hb wE,h.ge⟩
theorem y7V.chg{w w':World}{A base:Nat}{v:Value}{l:List UInt8}(h:y7V w A base v l)(J:Chg [A] [A] w w'):y7V w' A base v l:=
 ⟨j7 h.row fun k I=>J.block k (h.row.lt k I).2 (by have:=(h.row.lt k I).1;have:=h.ge;simp;omega),h.ge⟩
theorem y8g{n:Nat}(h:n<4294967296):z0c (be4 n)= [.int .u8 ((n:Int)/16777216),.int .u8 ((n:Int)/65536%256),.int .u8 ((n:Int)/256%256),.int .u8 ((n:Int)%256)]:=by
 simp only[z0c,be4,uI,pQ,oo,mz,Value.int.injEq,oP,dc];omega
theorem q5T{n:Nat}(w:World)(h:n<4294967296):RdB (w.alloc (.cells #[.int .u8 ((n:Int)/16777216),.int .u8 ((n:Int)/65536%256),.int .u8 ((n:Int)/256%256),.int .u8 ((n:Int)%256)] 5)) (.slice (some ⟨w.heap.size,0,none⟩) 4 4) (be4 n):=by
 refine z9U (l:=be4 n) (e:=5) (fr:=(0,0)) ?_ (by simp[be4]) 4;rw[j8,y8g h]
def q3i(w:World)(base:Nat)(v:Value)(l:List UInt8)(e:Ending)(w':World):Prop:=
 ∃g cap,e= .returned (.slice (some ⟨g,0,none⟩) l.length cap)/\base<=g/\w'.ownsRow base 5 1 (.slice (some ⟨g,0,none⟩) l.length cap) l.length (z0c l)/\Below base w w'
theorem q7s(v:Value)(l:List UInt8)(n base:Nat)(w:World)(hn:n<4294967296)(A:w.ownsRow base 5 1 v l.length (z0c l))(hl:l.length<=2000000)(hb:base<=w.heap.size):
  Calls prog 123 #[v,.int .u32 n] w (q3i w base v (l++be4 n)):=by
 have hr:=q5T w hn;obtain⟨a0,c0,rfl⟩:=(z0d A).head;have O:=z7 (ownsRow_below A (q5 w (.cells #[.int .u8 ((n:Int)/16777216),.int .u8 ((n:Int)/65536%256),.int .u8 ((n:Int)/256%256),.int .u8 ((n:Int)%256)] 5)) wE);have R:=z7 hr;clear hr;go_enter func123,ntmps123;go_wp2_with (at_builtin;refine z6o rfl (.tmp 5) (.tmp 17) 47 rfl base 5 underlying47 z4C _ l rfl O.o _ (be4 n) rfl R.o (by simp[be4];omega) (by simp;omega) ?_);intro ao U w3 I h2 h3;have L:∀k,(Value.slice a0 l.length c0).ownBlock=some k->base<=k:=fun k hk=>(A.lt k hk).1;have J:Below base w w3:=((wN base w).alloc hb _).grown h2 (by simp;omega) L;obtain⟨g,a1,N,hg⟩:=z2b I (by intro e;have:=I.1;rw[e]at I;rcases I.2 with⟨_,hz⟩|⟨_,_,_,hz,_⟩<;>simp[be4]at hz);have Y:l.length+(be4 n).length=(l++be4 n).length:=wH
 rw[Y]at N I h3 ⊢;simp only[wO,oP]at N;obtain⟨rfl,rfl⟩:=N;have HP:Hid (q3i w base (.slice a0 l.length c0) (l++be4 n) (.returned (.slice (some ⟨g,0,none⟩) (l++be4 n).length U)) w3):=⟨g,U,rfl,hg,I,J⟩;clear I h2 h3 L J Y R O A;go_wp2;go_ret;exact HP.o
theorem q5m(b:Bool)(w:World):Calls prog 124 #[.bool b] w fun e w'=>e= .returned (.int .u8 ((y1J b).toNat:Nat))/\w=w':=by
 cases b;all_goals
  go_enter func124,ntmps124;go_wp2;go_ret;exact⟨rfl,rfl⟩
def q6Q(x:Value):Prop:=∃a n c,x= .slice a n c/\n<=c/\c<=9223372036854775807
theorem q6Q.mk{a:Option Addr}{n c:Nat}(A:n<=c)(I:c<=9223372036854775807):q6Q (.slice a n c):=⟨a,n,c,rfl,A,I⟩
theorem y8W(a:Option Addr)(c:Nat)(l:List UInt8)(w:World)(Y:RdB w (.slice a l.length c) l)(hl:4<=l.length)(hc:l.length<=c)(a0:c<=9223372036854775807):
  Calls prog 74 #[.slice a l.length c] w fun e w'=>e= .returned (.int .u32 (unB (l.take 4):Nat))/\w=w':=by
 have HX:=z7 Y;clear Y;go_enter func74,ntmps74;go_wp2
 go_loop [3,9] (fun v j=>∃(n m:Nat),m<=4/\v= .int .u32 n/\n<256^m/\j= .int .i64 m/\Hid (n=unB (l.take m))) (fun _ j=>4 - (intOf j).toNat)
 case atStart=>exact⟨0,0,wF,rfl,wH,rfl,rfl⟩
 case round=>
  obtain⟨n,m,hm,rfl,hn,rfl,O⟩:=hrel;by_cases a1:m<4
  .have A:m<l.length:=wF;obtain⟨b,a3,c',U,R,hb⟩:=HX.o.at A;simp only[wO,oP]at U;obtain⟨rfl,rfl⟩:=U;have a2:n<16777216:=wS hn (uU (n:=256) wF (by omega:m<=3));have L:=l[m].toNat_lt;have J:bits .or .u32 ((n:Int)*256) (l[m].toNat:Int)=((n*256+l[m].toNat:Nat):Int):=by
    have:=u32_or_nat (n*256) l[m].toNat wF wF;rw[nat_join 8 _ _ wF wF]at this;simpa using this
   have N:n*256+l[m].toNat<256^(m+1):=(by rw[mc];omega);have I:Hid (n*256+l[m].toNat=unB (l.take (m+1))):=z7 (by rw[O.o,oi A,q2O]);obtain⟨y,hy⟩:=zN (l[m]);rw[<-hy]at R L J N I;have HO:=z7 J;have i0:(0:Int)<=m:=wF;have i1:(m:Int)<4:=wF;clear J hy;go_wp2;rw[HO.o]
   go_round
   case rel=>exact⟨_,m+1,wF,rfl,N,by go_num,I⟩
   case measure=>simp[intOf];omega
  obtain rfl:m=4:=wF
  go_wp2;go_ret;exact⟨by rw[<-O.o];rfl,rfl⟩
theorem z1c{a b:Bool}(h:a=b):Ending.returned (.bool a)=Ending.returned (.bool b):=by rw[h]
theorem y9D{k:IntKind}{a b:Int}(h:a=b):Ending.returned (.int k a)=Ending.returned (.int k b):=by rw[h]
def z0b(f:Fr)(x:Value):Array Value:= #[.int .u8 f.kind,.int .u32 f.epoch,.int .u32 f.series,.int .u32 f.chunk,.int .u32 f.bits,.int .u32 f.cnt,.int .u32 f.count,.bool f.closed,.int .u64 f.sum,x,.int .i64 f.n]
def frV(f:Fr)(x:Value):Value:= .agg (z0b f x)
theorem y4L(a:Option Addr)(A c:Nat)(n:Int)(w:World)(I:A<=9223372036854775807):
  Calls prog 122 #[.agg #[.slice a A c,.int .i64 n]] w fun e w'=>e= .returned (.bool (decide (n=0)&&decide (A=0)))/\Below w.heap.size w w':=by
 go_enter func122,ntmps122;go_wp2;all_goals go_ret
 all_goals refine⟨z1c ?_,q5 _ _⟩
 .rw[uc];simp[*]
 rw[uc];simp[*]
theorem y0l(n:Int)(w:World)(A:0<=n)(I:n<=9223372036854775807):
  Calls prog 118 #[.int .i64 n] w fun e w'=>e= .returned (.int .i64 (n/8+min (n%8) 1))/\w=w':=by
 go_enter func118,ntmps118;go_wp2;all_goals go_ret
 all_goals exact⟨y9D wF,rfl⟩
theorem q2b(y:UInt8)(k:Int)(A:0<=k)(I:k<8):bits .and .u8 (y.toNat:Int) (255/2^k.toNat)=((y.toNat&&&(255>>>k.toNat):Nat):Int):=by
 have e:(255/2^k.toNat:Int)=((255>>>k.toNat:Nat):Int):=by
  rw[pH];simp
 have J:255>>>k.toNat<=255:=by rw[pH];exact dd _ _
 rw[e];exact rq y.toNat (255>>>k.toNat) (by have:=y.toNat_lt;omega) wF
theorem z0j{B n:Nat}{w w':World}(h:Below B w w'):Below B w (w'.drewN n):=⟨h.os,h.tape,h.output,h.size,h.block⟩
theorem z2X(a:Option Addr)(c:Nat)(b:List UInt8)(n:Int)(w:World)(hx:RdB w (.slice a b.length c) b)(hl:b.length<=9223372036854775807)(h0: -9223372036854775808<=n)(Y:n<=9223372036854775807):
  Calls prog 68 #[.agg #[.slice a b.length c,.int .i64 n]] w fun e w'=>e= .returned (.bool (z2C b n))/\Below w.heap.size w w':=by
 have HX:=z7 hx;clear hx;by_cases hn:n<0
 .go_enter func68,ntmps68;go_wp2;go_quiet (fail)
  go_wp2;go_ret;exact⟨z1c (by unfold z2C;rw[wC];rfl),z0j (q5 _ _)⟩
 have a4:decide (n<0)=false:=by simpa using hn
 have I:0<=n:=wF
 clear hn;by_cases A:(b.length:Int)=n/8+min (n%8) 1
 case neg=>
  have a2:((b.length:Int) !=n/8+min (n%8) 1)=true:=by simpa using A
  have O:Hid (z2C b n=false):=z7 (by unfold z2C;rw[wM A];simp);clear A;go_enter func68,ntmps68;go_wp2;go_quiet ((go_at_call 118;exact wz ((y0l n _ I Y).mono fun e w' h=>⟨h.1,h.2.symm⟩)))
  go_wp2;go_ret;exact⟨z1c O.o.symm,z0j (q5 _ _)⟩
 have a2:((b.length:Int) !=n/8+min (n%8) 1)=false:=by simpa using A
 by_cases N:n%8=0
 .have a1:(n%8==0)=true:=by simpa using N
  have O:Hid (z2C b n=true):=z7 (by unfold z2C;rw[wQ A,wQ I,wQ N];rfl);clear A N;go_enter func68,ntmps68;go_wp2;go_quiet ((go_at_call 118;exact wz ((y0l n _ I Y).mono fun e w' h=>⟨h.1,h.2.symm⟩)))
  go_wp2;go_quiet (fail)
  go_wp2;go_ret;exact⟨z1c O.o.symm,z0j (z0j (q5 _ _))⟩
 have a1:(n%8==0)=false:=by simpa using N
 have hp:0<b.length:=wF
 obtain⟨U,L,c0,he,R,a0⟩:=HX.o.at (k:=b.length - 1) wF;simp only[wO,oP]at he;obtain⟨rfl,rfl⟩:=he;have hg:b[b.length - 1]=b.getD (b.length - 1) 0:=by simp[List.getD,wL (show b.length - 1<b.length by omega)]
 rw[hg]at R;have J:=q2b (b.getD (b.length - 1) 0) (n%8) wF wF;have O:Hid (z2C b n=((((b.getD (b.length - 1) 0).toNat&&&(255>>>(n%8).toNat):Nat):Int)==0)):=z7 (by
  unfold z2C;rw[wQ A,wQ I,wM N];simp only[pL,qd];rw[uc];simp only[od,mq];omega)
 generalize b.getD (b.length - 1) 0=y at R J O
 have a3:(w.alloc (.cells #[.slice (some ⟨U,L,none⟩) b.length c,.int .i64 n] 49)).cell? ⟨U,L+(b.length - 1),none⟩=some (.int .u8 y.toNat):=((q5 w _).cell (p:=⟨U,L+(b.length - 1),none⟩) a0).trans R;have i2:0<=n%8:=wF
 have HL:=z7 J;clear A N J hg R;go_enter func68,ntmps68;go_wp2;go_quiet ((go_at_call 118;exact wz ((y0l n _ I Y).mono fun e w' h=>⟨h.1,h.2.symm⟩)))
 go_wp2;go_quiet (fail)
 go_wp2;go_ret;exact⟨z1c (by rw[O.o,<-HL.o]),z0j (z0j (q5 _ _))⟩
structure y0r (W:World) (K:List (Nat×Obj)) (w:World) (q:Nat) (l:List Bool) (a:Option Addr) (m c:Nat) (b:List UInt8):Prop where
 blk:w.heap[q]? =some (.cells #[.slice a m c,.int .i64 l.length] 173 (0,0))
 row:w.ownsRow W.heap.size 5 1 (.slice a m c) m (z0c b)
 len:m=b.length
 bits:z0S b l
 far:(Value.slice a m c).ownBlock≠some q
 up:W.heap.size<=q
 low:Below W.heap.size W w
 kept:∀p∈K,w.heap[p.1]? =some p.2/\p.1≠q/\(Value.slice a m c).ownBlock≠some p.1
def z3y(W:World)(K:List (Nat×Obj))(w:World)(q:Nat)(l:List Bool):Prop:=∃a m c b,y0r W K w q l a m c b
theorem y0r.cells{W w:World}{K:List (Nat×Obj)}{q:Nat}{l:List Bool}{a:Option Addr}{m c:Nat}{b:List UInt8}(h:y0r W K w q l a m c b):∀w':World,w'.heap[q]? =w.heap[q]? ->w'.cell? ⟨q,0,none⟩=some (.slice a m c)/\w'.cell? ⟨q,1,none⟩=some (.int .i64 l.length)/\(∀j,w'.frozen? ⟨q,j,none⟩=false):=fun w' e=>by
 have:=e.trans h.blk;refine⟨?_,?_,?_⟩<;>simp[World.cell?,World.frozen?,this]
theorem y0r.lt{W w:World}{K:List (Nat×Obj)}{q:Nat}{l:List Bool}{a:Option Addr}{m c:Nat}{b:List UInt8}(h:y0r W K w q l a m c b):q<w.heap.size:=(wI.1 h.blk).1
theorem y0r.then{W w w':World}{K:List (Nat×Obj)}{q:Nat}{l:List Bool}{a:Option Addr}{m c:Nat}{b:List UInt8}(h:y0r W K w q l a m c b)(hb:Below w.heap.size w w'):y0r W K w' q l a m c b:=
 ⟨(hb.block q h.lt).trans h.blk,ownsRow_below h.row hb wE,h.len,h.bits,h.far,h.up,h.low.trans (hb.mono h.low.size),fun p A=>⟨(hb.block p.1 (wI.1 (h.kept p A).1).1).trans (h.kept p A).1,(h.kept p A).2⟩⟩
theorem y0r.setRow{W w w':World}{K:List (Nat×Obj)}{q:Nat}{l:List Bool}{a a':Option Addr}{m c A c':Nat}{b L:List UInt8}(h:y0r W K w q l a m c b)(hq:w'.heap[q]? =w.heap[q]?)(hl:Below W.heap.size W w')(hr:w'.ownsRow W.heap.size 5 1 (.slice a' A c') A (z0c L))(hm:A=L.length)(N:(Value.slice a' A c').ownBlock≠some q)(I:∀p∈K,w'.heap[p.1]? =w.heap[p.1]? /\(Value.slice a' A c').ownBlock≠some p.1)(n:Nat)(O:List Bool)(hb:z0S L O)(hn:O.length=l.length+n):
  z3y W K ((w'.setCell ⟨q,0,none⟩ (.slice a' A c')).setCell ⟨q,1,none⟩ (.int .i64 ((l.length:Int)+n))) q O:=by
 have R:=hq.trans h.blk;have U:=z0a R 0 (.slice a' A c');have Y:=z0a U 1 (.int .i64 ((l.length:Int)+n));refine⟨a',A,c',L,?_,?_,hm,hb,N,h.up,?_,fun p J=>⟨?_,(h.kept p J).2.1,(I p J).2⟩⟩
 .rw[Y,hn];simp
 .exact j7 (j7 hr fun k I=>q7 (by rintro rfl;exact N I)) fun k I=>q7 (by rintro rfl;exact N I)
 .exact(hl.setCell (by show W.heap.size<=q;exact h.up) _).setCell (by show W.heap.size<=q;exact h.up) _
 rw[q7 (h.kept p J).2.1,q7 (h.kept p J).2.1,(I p J).1];exact(h.kept p J).1
theorem y0r.setRow0{W w w':World}{K:List (Nat×Obj)}{q:Nat}{l:List Bool}{a:Option Addr}{m c:Nat}{b A:List UInt8}(h:y0r W K w q l a m c b)(hq:w'.heap[q]? =w.heap[q]?)(R:Below W.heap.size W w')(hr:w'.ownsRow W.heap.size 5 1 (.slice a m c) m (z0c A))(U:m=A.length)(J:∀p∈K,w'.heap[p.1]? =w.heap[p.1]?)(n:Nat)(L:List Bool)(hb:z0S A L)(Y:L.length=l.length+n):
  z3y W K (w'.setCell ⟨q,1,none⟩ (.int .i64 ((l.length:Int)+n))) q L:=by
 have N:=hq.trans h.blk;have O:=z0a N 1 (.int .i64 ((l.length:Int)+n));refine⟨a,m,c,A,?_,?_,U,hb,h.far,h.up,?_,fun p I=>⟨?_,(h.kept p I).2⟩⟩
 .rw[O,Y];simp
 .exact j7 hr fun k J=>q7 (by rintro rfl;exact h.far J)
 .exact R.setCell (by show W.heap.size<=q;exact h.up) _
 rw[q7 (h.kept p I).2.1,J p I];exact(h.kept p I).1
theorem q4T{y n:Nat}(A:y<256)(I:n<=8):bits .and .u8 (y:Int) (255*2^(8 - n)%256)=((y&&&(255*2^(8 - n)%256):Nat):Int):=by
 have e:(255*2^(8 - n)%256:Int)=((255*2^(8 - n)%256:Nat):Int):=wH
 rw[e];exact rq y _ A (gk _ wG)
theorem y8R(z:Nat)(A:z<256):z0c [UInt8.ofNat z]= [.int .u8 (z:Int)]:=by simp[z0c,dh A]
theorem y4Y:(prog.info? 5).map (fun i=>(i.zero,i.size,i.bytes))=some (some (.int .u8 0),1,1):=by kernel_rfl
theorem y0K(q y n:Nat)(l:List Bool)(W:World)(K:List (Nat×Obj))(w:World)(h:z3y W K w q l)(hy:y<256)(hn:n<=8)(hl:l.length<=1099511627776):
  Calls prog 69 #[.pointer (some ⟨q,0,none⟩),.int .u8 y,.int .i64 n] w fun e w'=>e= .returned (.tuple #[])/\z3y W K w' q (l++z5X y n):=by
 obtain⟨a,m,c,b,h⟩:=h;have H:=z7 h;obtain⟨i0,b3,bG,bH,bJ⟩:=oq y4Y;obtain⟨z,hz⟩:=zN (y&&&(255*2^(8 - n)%256));have a6:=q4a hy hn;rw[<-hz]at a6;have aR:=z7 a6.1;have cE:=z7 a6.2;rw[<-a6.2];have aH:z<256:=a6.1.1;have b7:=q4T hy hn;rw[<-hz]at b7;obtain⟨N,hN⟩:=zN l.length;obtain⟨k,hk⟩:=zN (N%8);have cN:k<8:=wF
 have cJ:N<=1099511627776:=wF
 have b6:(N:Int).tmod 8=(k:Int):=by rw[hk];exact eh N 8
 have aD:IntKind.i64.wrap ((N:Int)+n)=(N:Int)+n:=z0l wF wF;have cC:IntKind.i64.wrap (8 - (n:Int))=8 - (n:Int):=z0l wF wF;have cO:m<=137438953473:=by have:=h.bits.len;have:=h.len;omega
 obtain⟨c0,c1,cf⟩:=h.cells w rfl;rw[<-hN]at c1;have HN:=z7 hN;have HK:=z7 hk;have HZ:=z7 hz;have bB:=h.lt;clear h hz a6 hN hk;by_cases b4:k=0
 .subst b4;by_cases c9:n=0
  .subst c9;have A:=H.o.setRow0 (w':=w) rfl H.o.low H.o.row H.o.len (fun _ _=>rfl) 0 (l++z5X z 0) (q4v H.o.bits) (by simp[z5X]);rw[<-HN.o]at A;have a8:=z7 A;have cS:IntKind.i64.wrap (N:Int)=N:=z0l wF wF;have e0:=qF (N:Int);clear A;go_enter func69,ntmps69;go_wp2
   go_end0
   have h9:=a8.o;rw[show(N:Int)+((0:Nat):Int)=N by omega]at h9;exact⟨rfl,h9⟩
  have cR:(0:Int)<n:=wF;have A:Hid (∀a' c' w',w'.ownsRow W.heap.size 5 1 (.slice a' (m+1) c') (m+1) (z0c b++ [.int .u8 (z:Int)])->(w.alloc (.cells #[.int .u8 (z:Int)] 5)).grownBy w' (Value.slice a m c).ownBlock->((Value.slice a' (m+1) c').ownBlock=(Value.slice a m c).ownBlock\/(Value.slice a' (m+1) c').ownBlock=some (w.heap.size+1))->
    (w'.heap[q]? =w.heap[q]?)/\z3y W K ((w'.setCell ⟨q,0,none⟩ (.slice a' (m+1) c')).setCell ⟨q,1,none⟩ (.int .i64 ((N:Int)+n))) q (l++z5X z n)):=z7 fun a' c' w' O L hb=>by
   have a5:=q5 w (.cells #[.int .u8 (z:Int)] 5);have hq:w'.heap[q]? =w.heap[q]? :=(L.block q (by simp;omega) (fun e=>H.o.far e.symm)).trans (a5.block q bB);refine⟨hq,?_⟩;rw[HN.o];refine H.o.setRow hq ?_ (by rw[<-y8R z aH]at O;simpa[z0c]using O) (by simp[H.o.len]) ?_ (fun p hp=>?_) n _ (q6K H.o.bits (by have:=HK.o;have:=HN.o;omega) wF hn aR.o) (by simp[z1z])
   .exact(H.o.low.trans (a5.mono H.o.low.size)).grown L (by have:=H.o.low.size;simp;omega) (fun j hj=>(H.o.row.lt j hj).1)
   .rcases hb with e|e
    .rw[e];exact H.o.far
    rw[e];intro e2;simp at e2;omega
   obtain⟨k1,k2,k3⟩:=H.o.kept p hp;have k4:=(wI.1 k1).1;refine⟨(L.block p.1 (by simp;omega) (fun e=>k3 e.symm)).trans (a5.block p.1 k4),?_⟩;rcases hb with e|e
   .rw[e];exact k3
   rw[e];intro e2;simp at e2;omega
  have a5:=q5 w (.cells #[.int .u8 (z:Int)] 5);have bM:=z7 (ownsRow_below H.o.row a5 wE);have aV:=z7 (z3t w #[.int .u8 (z:Int)] 5 1 1 wG rfl);have cB:=H.o.low.size;clear a5;go_enter func69,ntmps69;go_wp2_with (at_builtin;refine z2r rfl (.tmp 27) (.tmp 29) 47 rfl W.heap.size 5 i0 (.int .u8 0) 1 1 underlying47 b3 bG bH bJ rfl wG (.slice a m c) m (z0c b) rfl bM.o (.slice (some ⟨w.heap.size,0,none⟩) 1 1) 1 [.int .u8 (z:Int)] rfl aV.o (by simp[Value.oneCell']) (by unfold maxLen;omega) wF (by simp;omega) ?_;intro v3 w3 aE L b8 hb;obtain⟨a3,c3,rfl⟩:=z1X aE;obtain⟨hq,hF⟩:=A.o a3 c3 w3 aE L (by simpa using hb);obtain⟨cF,bX,cH⟩:=H.o.cells w3 hq;rw[<-HN.o]at bX;have HF:=z7 hF;clear aE L b8 hb hq hF c0 c1 cf)
  go_end0
  exact⟨rfl,HF.o⟩
 have c5:(0:Int)<k:=wF
 have b5:((k:Int)==0)=false:=by simpa using b4
 have bY:=H.o.bits.len;have cL:0<m:=by have:=H.o.len;have:=HK.o;have:=HN.o;omega
 obtain⟨g,rfl⟩:∃g,a=some ⟨g,0,none⟩:=by
  rcases H.o.row.2 with⟨h1,h2⟩|⟨g,cG,cI,h1,_⟩
  .omega
  simp only[wO]at h1;exact⟨g,h1.1⟩
 obtain⟨z0,a0⟩:=zN ((b.getD (b.length - 1) 0).toNat);have aG:z0<256:=by rw[a0];exact(b.getD (b.length - 1) 0).toNat_lt
 obtain⟨z1,a1⟩:=zN (z0 ||| z/2^k);have hd:z/2^k<256:=pS (dd _ _) aH;have bI:z1<256:=by rw[a1];exact qY (n:=8) aG hd
 have cA:bits .or .u8 (z0:Int) ((z:Int)/2^k)=(z1:Int):=by
  rw[a1,show((z:Int)/2^k)=((z/2^k:Nat):Int) by simp];exact u8_or_nat z0 _ aG hd
 have c6:IntKind.i64.wrap ((m:Int) - 1)=((m - 1:Nat):Int):=by rw[z0l wF wF];omega
 have aT:w.cell? ⟨g,m - 1,none⟩=some (.int .u8 (z0:Int)):=by
  have h1:=(z0d H.o.row).2;rcases h1 with⟨h1,_⟩|⟨ad,c',h1,h2⟩
  .cases h1
  simp only[wO,wK]at h1;have h3:=h2 (m - 1) (.int .u8 (z0:Int)) (by
   rw[a0,H.o.len];have:b.length - 1<b.length:=(by have:=H.o.len;omega);simp[z0c,wu,this])
  have e9:(⟨g,0,none⟩:Addr).add (m - 1)=⟨g,m - 1,none⟩:=(by unfold Addr.add;split<;>simp_all);rw[<-h1.1,e9]at h3;exact h3
 have aY:Hid (∀w',Below w.heap.size w w'->w'.cell? ⟨q,0,none⟩=some (.slice (some ⟨g,0,none⟩) m c)/\w'.cell? ⟨g,m - 1,none⟩=some (.int .u8 (z0:Int))):=z7 fun w' hw=>⟨(hw.cell (p:=⟨q,0,none⟩) bB).trans c0,(hw.cell (p:=⟨g,m - 1,none⟩) (H.o.row.lt g rfl).2).trans aT⟩;have c8:m - 1<m:=wF
 have bW:Hid (g≠q):=z7 fun e=>H.o.far (by rw[e];rfl);have bR:=z7 a0;have bS:=z7 a1;clear a0 a1 bY c0 c1 cf aT;go_enter func69,ntmps69;obtain⟨c0,c1,cf⟩:=H.o.cells w rfl;rw[<-HN.o]at c1;go_wp2_with fail;clear c0 c1 cf;refine q6 19 82 (fun D v w'=>Below w.heap.size w w') wD.drew ?_;simp only[z0C];iterate 19 (refine q8.rd ?_ (fun D v w' hD I=>?_) ?_;rotate_left;(obtain⟨c0,c1⟩:=aY.o w' I;clear I hD;go_simp;try rfl);go_simp)
 refine q8.fin (fun v w5 I=>?_);have J:=z7 (H.o.then I);have bZ:=(aY.o w5 I).2;clear I aY;obtain⟨b',aI⟩:=zN (b.set (b.length - 1) (UInt8.ofNat z1));have aZ:=(J.o.row.stored (m - 1) (.int .u8 (z1:Int))).1;have b2:(z0c b).set (m - 1) (.int .u8 (z1:Int))=z0c b':=by
  rw[aI,J.o.len];simp[z0c,qs,dh bI]
 rw[b2]at aZ;have bD:=J.o.row.frozenAt (m - 1);have b9:(w5.setCell ⟨g,m - 1,none⟩ (.int .u8 (z1:Int))).heap[q]? =w5.heap[q]? :=q7 (pz bW.o);have aA:Below W.heap.size W (w5.setCell ⟨g,m - 1,none⟩ (.int .u8 (z1:Int))):=J.o.low.setCell (by show W.heap.size<=g;exact(J.o.row.lt g rfl).1) _;have aC:=q6a (k:=k) (z:=z0) J.o.bits (by rw[HK.o,HN.o]) wF hn aR.o (by rw[bR.o];simp) aG;rw[<-bS.o,<-aI]at aC;have aS:m=b'.length:=by rw[aI,pj];exact J.o.len
 have a9:=z7 aZ;have a4:=z7 b9;have R:=z7 aA;have aO:=z7 aC;have aN:=z7 aS;clear aZ b2 b9 aA aC aI aS;by_cases aJ:8 - k<n
 case neg=>
  have b1:decide ((8:Int) - k<n)=false:=wC;have aL:IntKind.i64.wrap (8 - (k:Int))=8 - (k:Int):=z0l wF wF;have A:=J.o.setRow0 a4.o R.o a9.o aN.o (fun p hp=>q7 (fun e=>(J.o.kept p hp).2.2 (by rw[e];rfl))) n (l++z5X z n) (by have:=aO.o;rw[wR aJ,ue]at this;exact this) (by simp[z1z]);rw[<-HN.o]at A;have a8:=z7 A;obtain⟨c0,c1,cf⟩:=J.o.cells _ a4.o;rw[<-HN.o]at c1;clear A aJ;go_wp2
  go_end0
  exact⟨rfl,a8.o⟩
 have b1:decide ((8:Int) - k<n)=true:=hQ;have aL:IntKind.i64.wrap (8 - (k:Int))=8 - (k:Int):=z0l wF wF;obtain⟨z2,a2⟩:=zN (z*2^(8 - k)%256);have bL:z2<256:=by rw[a2];exact gk _ wG
 have aM:(z:Int)*2^(8 - k)%256=(z2:Int):=by rw[a2];simp
 have aW:IntKind.u8.wrap ((z:Int)*2^(8 - k))=(z2:Int):=by rw[IntKind.wrap_u8];exact aM
 have bT:=z7 a2;clear a2;have A:Hid (∀a' c' w',w'.ownsRow W.heap.size 5 1 (.slice a' (m+1) c') (m+1) (z0c b'++ [.int .u8 (z2:Int)])->(w5.setCell ⟨g,m - 1,none⟩ (.int .u8 (z1:Int))).grownBy w' (Value.slice (some ⟨g,0,none⟩) m c).ownBlock->((Value.slice a' (m+1) c').ownBlock=(Value.slice (some ⟨g,0,none⟩) m c).ownBlock\/∃j,(Value.slice a' (m+1) c').ownBlock=some j/\(w5.setCell ⟨g,m - 1,none⟩ (.int .u8 (z1:Int))).heap.size<=j)->
    (w'.heap[q]? =w5.heap[q]?)/\z3y W K ((w'.setCell ⟨q,0,none⟩ (.slice a' (m+1) c')).setCell ⟨q,1,none⟩ (.int .i64 ((N:Int)+n))) q (l++z5X z n)):=z7 fun a' c' w' O L hb=>by
  have bC:=J.o.lt;have hq:w'.heap[q]? =w5.heap[q]? :=(L.block q (by simpa[World.setCell]using bC) (fun e=>J.o.far e.symm)).trans a4.o;refine⟨hq,?_⟩;rw[HN.o];have hO:=aO.o;rw[wZ aJ,<-bT.o]at hO;refine J.o.setRow hq ?_ (by rw[<-y8R z2 bL]at O;simpa[z0c]using O) (by simp[<-aN.o]) ?_ (fun p hp=>?_) n _ hO (by simp[z1z])
  .exact R.o.grown L (by simpa[World.setCell]using J.o.low.size) (fun j hj=>(a9.o.lt j hj).1)
  .rcases hb with e|⟨j,e,hj⟩
   .rw[e];exact J.o.far
   rw[e];intro e2;simp only[wK]at e2;simp[World.setCell]at hj;omega
  obtain⟨k1,k2,k3⟩:=J.o.kept p hp;have k4:=(wI.1 k1).1;refine⟨(L.block p.1 (by simpa[World.setCell]using k4) (fun e=>k3 e.symm)).trans (q7 (fun e=>k3 (by rw[e];rfl))),?_⟩;rcases hb with e|⟨j,e,hj⟩
  .rw[e];exact k3
  rw[e];intro e2;simp only[wK]at e2;simp[World.setCell]at hj;omega
 have aF:W.heap.size<=(w5.setCell ⟨g,m - 1,none⟩ (.int .u8 (z1:Int))).heap.size:=by simpa[World.setCell]using J.o.low.size
 have aB:q<(w5.setCell ⟨g,m - 1,none⟩ (.int .u8 (z1:Int))).heap.size:=by simpa[World.setCell]using J.o.lt
 obtain⟨c0,c1,cf⟩:=J.o.cells _ a4.o;rw[<-HN.o]at c1;go_wp2_with fail;clear c0 c1 cf;obtain⟨w6,bF⟩:=zN (w5.setCell ⟨g,m - 1,none⟩ (.int .u8 (z1:Int)));rw[<-bF]at a9 a4 R A aF aB ⊢;have aU:Hid (∀w',w6.grownBy w' (Value.slice (some ⟨g,0,none⟩) m c).ownBlock->w'.cell? ⟨q,0,none⟩=some (.slice (some ⟨g,0,none⟩) m c)):=z7 fun w' hg=>(J.o.cells w' ((hg.block q aB (fun e=>J.o.far e.symm)).trans a4.o)).1;have b0:=z7 aF;have bV:=z7 aM;have bU:=z7 aW;have bN:=z7 aL;have bO:=z7 aD;clear bF aB aF cA c6 c8 bZ bD c5 b5 b7 aM aW aL aD cC b6 aJ b1;refine q6 15 82 (fun D v w'=>z7u W.heap.size 5 1 10 11 w6 (.slice (some ⟨g,0,none⟩) m c) m (z0c b') [.int .u8 (z2:Int)] D v w') (z7u.start a9.o) ?_;simp only[z0C];iterate 10 (refine q8.rl ?_ (fun D v w h=>h.read _ wF wF) (fun D v w' hD I=>?_) ?_;rotate_left;(have c0:=aU.o w' I.g;have aM:=bV.o;have aW:=bU.o;have aL:=bN.o;clear I hD;go_simp;try rfl);go_simp)
 refine q8.re (fun D v w' hD I=>?_) ?_
 .have dj:D 11=false:=hD.post 11 _ rfl (by kernel_rfl);have aX:=z7 (z7u.made (cs:= #[.int .u8 (z2:Int)]) (e:=5) wG I dj rfl);clear I hD;go_simp;exact aX.o
 go_simp;refine q8.re (fun D v w' hD I=>?_) ?_
 .have di:D 10=true:=hD.pre 10 (by kernel_rfl);obtain⟨g',h9,bE,cM⟩:=I.s di;have hq:=z7 (I.q hD.self);have cB:=I.g.size;have aX:=z7 I;rw[h9]at bE;have aV:=z7 bE;rw[h9];clear I hD h9;refine z3V _ _ 47 rfl W.heap.size 5 i0 (.int .u8 0) 1 1 underlying47 b3 bG bH bJ rfl wG _ m (z0c b') rfl hq.o _ 1 [.int .u8 (z2:Int)] rfl aV.o (by simp[Value.oneCell']) (by unfold maxLen;omega) wF (by have:=b0.o;omega) ?_;intro v' cT h1 h2 h3 h4;exact⟨v',rfl,z7u.appended wG aX.o di a9.o h1 h2 h4,trivial⟩
 go_simp;iterate 3 (refine q8.rl ?_ (fun D v w h=>h.read _ wF wF) (fun D v w' hD I=>?_) ?_;rotate_left;(have c0:=aU.o w' I.g;clear I hD;go_simp;try rfl);go_simp)
 refine q8.fin (fun v w7 I=>?_);obtain⟨-,a7,c7,h7,Y,U⟩:=I.a rfl;rw[h7]at Y U ⊢;obtain⟨bA,hF⟩:=A.o a7 c7 w7 Y I.g U;obtain⟨c0,c1,cf⟩:=J.o.cells w7 bA;rw[<-HN.o]at c1;have HF:=z7 hF;have aD:=bO.o;clear I h7 Y U bA hF;go_wp2
 go_end0
 exact⟨rfl,HF.o⟩
theorem z3y.low{W w:World}{K:List (Nat×Obj)}{q:Nat}{l:List Bool}(h:z3y W K w q l):Below W.heap.size W w:=by
 obtain⟨a,m,c,b,h⟩:=h;exact h.low
theorem q2e{v k:Nat}(A:k<=8):IntKind.u64.wrap ((v:Int)*2^(8 - k))%256=((z7O v k k:Nat):Int):=by
 unfold z7O;rw[wq,pI,Nat.pow_zero,Nat.div_one,Nat.mod_mul_mod];have e:((v:Int)*2^(8 - k))=((v*2^(8 - k):Nat):Int):=wH
 rw[e];omega
theorem q1k{v k:Nat}:IntKind.u64.wrap ((v:Int)/2^(k - 8))%256=((z7O v k 8:Nat):Int):=by
 unfold z7O;have e:((v:Int)/2^(k - 8))=((v/2^(k - 8):Nat):Int):=wH
 rw[e,wq];omega
theorem q1u(q v width:Nat)(l:List Bool)(W:World)(K:List (Nat×Obj))(w:World)(h:z3y W K w q l)(hv:v<18446744073709551616)(hw:width<=64)(hl:l.length<=549755813888):
  Calls prog 135 #[.pointer (some ⟨q,0,none⟩),.int .u64 v,.int .i64 width] w fun e w'=>e= .returned (.tuple #[])/\z3y W K w' q (l++z3o v width):=by
 have H:=z7 h;clear h;go_enter func135,ntmps135;go_wp2_with fail;go_loopw[2] (fun iv wr=>∃k:Nat,iv= .int .i64 k/\k<=width/\Hid (∃N,z3y W K wr q N/\N++z3o v k=l++z3o v width)) (fun iv _=>match iv with | .int _ j=>j.toNat|_=>0)
 case atStart=>exact⟨width,rfl,wJ _,z7 ⟨l,H.o,rfl⟩⟩
 case round=>
  obtain⟨k,rfl,hk,hr⟩:=hrel;obtain⟨N,hb,he⟩:=hr.o;have HB:=z7 hb;have HE:=z7 he;have Y:N.length<=1099511627776:=by have:=uS List.length he;simp[z1h]at this;omega
  clear hr hb he;by_cases h0:k=0
  .subst h0;go_wp2
   go_end0
   have h9:=HE.o;rw[q1r,ue]at h9;rw[<-h9];exact⟨rfl,HB.o⟩
  have d0:(0:Int)<k:=wF;obtain⟨n,hn⟩:=zN (min k 8);have L:n<=8:=wF;have R:n<=k:=wF;have a1:0<n:=wF;have I:Hid (∀wx,z3y W K wx q (N++z5X (z7O v k n) n)->∃N,z3y W K wx q N/\N++z3o v (k - n)=l++z3o v width):=z7 fun wx hb=>⟨_,hb,by rw[wj,<-y9v R L];exact HE.o⟩;by_cases h8:k<=8
  .obtain rfl:n=k:=wF
   have O:=q2e (v:=v) h8;obtain⟨y,U⟩:=zN (z7O v n n);rw[<-U]at O I;have A:y<256:=(by rw[U];exact(y4a R L).1);have a3:IntKind.i64.wrap (8 - (n:Int))=8 - (n:Int):=z0l wF wF;clear U hn;go_wp2_with fail;refine(y0K q y n N W K wr HB.o A L Y).mono ?_;rintro e w2 ⟨rfl,J⟩;have HF:=z7 (I.o w2 J);rw[pI]at HF;clear J;go_wp2;exact⟨⟨0,rfl,uA _,HF⟩,by show(0:Int).toNat<(n:Int).toNat;omega⟩
  obtain rfl:n=8:=wF
  have a0:¬(k:Int)<=8:=wF;have O:=q1k (v:=v) (k:=k);obtain⟨y,U⟩:=zN (z7O v k 8);rw[<-U]at O I;have A:y<256:=(by rw[U];exact(y4a R L).1);have a2:IntKind.i64.wrap ((k:Int) - 8)=((k - 8:Nat):Int):=(by rw[z0l wF wF];omega);clear U hn;go_wp2_with fail;refine(y0K q y 8 N W K wr HB.o A L Y).mono ?_;rintro e w2 ⟨rfl,J⟩;have HF:=z7 (I.o w2 J);clear J;go_wp2;exact⟨⟨k - 8,rfl,wF,HF⟩,by show((k - 8:Nat):Int).toNat<(k:Int).toNat;omega⟩
structure z0r (w:World) (a:Option Addr) (n c:Nat) (l:List Bool) (b:List UInt8):Prop where
 rd:RdB w (.slice a n c) b
 len:n=b.length
 bits:z0S b l
theorem z0r.low{w w':World}{a:Option Addr}{n c:Nat}{l:List Bool}{b:List UInt8}(h:z0r w a n c l b)(hb:Below w.heap.size w w'):z0r w' a n c l b:=⟨h.rd.low hb,h.len,h.bits⟩
theorem z0r.cell{w:World}{a:Option Addr}{n c:Nat}{l:List Bool}{b:List UInt8}(h:z0r w a n c l b){j:Nat}(L:j<n):∃g A,a=some ⟨g,A,none⟩/\w.cell? ⟨g,A+j,none⟩=some (.int .u8 ((b.getD j 0).toNat:Int))/\g<w.heap.size:=by
 obtain⟨N,A,c0,J,O,I⟩:=h.rd.at (by rw[<-h.len];exact L:j<b.length);simp only[wO]at J;refine⟨N,A,J.1,?_,I⟩;rw[O];have:j<b.length:=by rw[<-h.len];exact L
 simp[wu,this]
theorem q8q(a:Option Addr)(n c:Nat)(l:List Bool)(b:List UInt8)(i:Nat)(w:World)(h:z0r w a n c l b)(hi:i<l.length)(hl:l.length<=1099511627776):
  Calls prog 70 #[.agg #[.slice a n c,.int .i64 l.length],.int .i64 i] w fun e w'=>∃y,e= .returned (.int .u8 (y:Nat))/\y<256/\(∀j,j<8->y.testBit (7 - j)=l.getD (i+j) false)/\Below w.heap.size w w':=by
 have a5:=h.bits.len;have aA:=h.len;obtain⟨g,O,rfl,cz,hg⟩:=h.cell (j:=i/8) wF;obtain⟨z,hz⟩:=zN ((b.getD (i/8) 0).toNat);have aS:z<256:=by rw[hz];exact(b.getD (i/8) 0).toNat_lt
 rw[<-hz]at cz;obtain⟨k,hk⟩:=zN (i%8);obtain⟨q,hq⟩:=zN (i/8);have aM:k<8:=wF
 have aO:q<n:=wF
 have aG:(i:Int).tmod 8=(k:Int):=by rw[hk];exact eh i 8
 have aE:(i:Int).tdiv 8=(q:Int):=by rw[hq];exact qN i 8
 have aF:(i:Int)/8=(q:Int):=wF
 rw[<-hq]at cz hz;obtain⟨N,hN⟩:=zN l.length;rw[<-hN];obtain⟨W1,U⟩:=zN (w.alloc (.cells #[.slice (some ⟨g,O,none⟩) n c,.int .i64 (N:Nat)] 49));have a1:Below w.heap.size w W1:=by rw[U];exact q5 _ _
 have a2:=j8 w (.cells #[.slice (some ⟨g,O,none⟩) n c,.int .i64 (N:Nat)] 49);rw[<-U]at a2;have x0:W1.cell? ⟨w.heap.size,0,none⟩=some (.slice (some ⟨g,O,none⟩) n c):=by rw[pT W1 w.heap.size 0 _ _ (0,0) a2];rfl
 have aI:=(a1.cell (p:=⟨g,O+q,none⟩) hg).trans cz;have HW:=z7 U;have H:=z7 h;have HK:=z7 hk;have HQ:=z7 hq;have HZ:=z7 hz;have R:=z7 a1;have aL:n<=137438953473:=wF
 clear U h hk hq hz hN a2 a5 aA cz a1;have L:z*2^k%256<256:=gk _ wG;have A:Hid (∀J,(b.getD (q+1) 0).toNat=J->∀j,j<8->((z*2^k%256) ||| (if 0<k/\q+1<n then J/2^(8 - k)else 0)).testBit (7 - j)=l.getD (i+j) false):=z7 fun J I=>by
  have:=q5c H.o.bits hi z J (by rw[HZ.o,HQ.o]) (by rw[<-HQ.o];exact I);rw[<-HK.o,<-HQ.o,<-H.o.len]at this;exact this
 clear hi hl;by_cases hc:0<k/\q+1<n
 .obtain⟨a8,a3⟩:=hc;obtain⟨g',aH,e1,a0,_⟩:=H.o.cell a3;simp only[wK,oh,dc]at e1;obtain⟨rfl,rfl⟩:=e1;obtain⟨J,I⟩:=zN ((b.getD (q+1) 0).toNat);have a7:J<256:=by rw[I];exact(b.getD (q+1) 0).toNat_lt
  rw[<-I]at a0;have Y:=A.o J I.symm;rw[wZ ⟨a8,a3⟩]at Y;obtain⟨y,hy⟩:=zN ((z*2^k%256) ||| J/2^(8 - k));have a4:J/2^(8 - k)<256:=pS (dd _ _) a7;have aN:bits .or .u8 ((z:Int)*2^k%256) ((J:Int)/2^(8 - k))=(y:Int):=by
   rw[hy,show((z:Int)*2^k%256)=((z*2^k%256:Nat):Int) by simp,show((J:Int)/2^(8 - k))=((J/2^(8 - k):Nat):Int) by simp];exact u8_or_nat _ _ L a4
  have aC:y<256:=by rw[hy];exact qY (n:=8) L a4
  rw[<-hy]at Y;have HF:=z7 Y;have aJ:=(R.o.cell (p:=⟨g,O+(q+1),none⟩) hg).trans a0;have d2:(q:Int)+1<n:=wF
  have aR:IntKind.i64.wrap (8 - (k:Int))=8 - (k:Int):=z0l wF wF;have aB:IntKind.i64.wrap ((q:Int)+1)=((q+1:Nat):Int):=z0l wF wF;clear I Y hy a0 A;go_enter func70,ntmps70;go_upto_region 1 with fail
  rw[<-HW.o];go_wp2;go_ret;exact⟨y,rfl,aC,HF.o,R.o⟩
 have Y:=A.o _ rfl;rw[wR hc,Nat.or_zero]at Y;obtain⟨y,hy⟩:=zN (z*2^k%256);rw[<-hy]at Y L;have a6:(z:Int)*2^k%256=(y:Int):=by rw[hy];simp
 have HF:=z7 Y;have aB:IntKind.i64.wrap ((q:Int)+1)=((q+1:Nat):Int):=z0l wF wF;clear hy Y A;by_cases a9:k=0
 .subst a9;obtain rfl:y=z:=by rw[Int.pow_zero]at a6;omega
  clear a6;go_enter func70,ntmps70;go_upto_region 1 with fail
  rw[<-HW.o];go_wp2;go_ret;exact⟨y,rfl,L,HF.o,R.o⟩
 have d1:(0:Int)<k:=wF;have d2:decide ((q:Int)+1<n)=false:=wC;go_enter func70,ntmps70;go_upto_region 1 with fail
 rw[<-HW.o];go_wp2;go_ret;exact⟨y,rfl,L,HF.o,R.o⟩

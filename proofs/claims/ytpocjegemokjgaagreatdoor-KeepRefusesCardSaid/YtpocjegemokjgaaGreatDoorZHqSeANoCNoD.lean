/-
  A block of a call's own written whole, or from a place on; rows that lie elsewhere stay.
-/
import Derived.Test.YtpocjegemokjgaaGreatDoorZXoF
namespace Go.Proofs.YtpocjegemokjgaaGreatDoor
open Go.Proofs.Tryz
set_option linter.all false
set_option maxRecDepth 100000
set_option maxHeartbeats 12800000
open Go.RowKit
theorem z0F{w:World}{base e size n b j:Nat}{v u:Value}{A:List Value}(h:w.ownsRow base e size v n A)(hb:b<base):(w.setCell ⟨b,j,none⟩ u).ownsRow base e size v n A:=
 j7 h fun q B=>q7 (by have:=(h.lt q B).1;omega)
theorem z1m{α:Type}(l:List α)(i:Nat)(a b:α):(l.set i a).set i b=l.set i b:=by simp
theorem z4E{K:List (Nat×Obj)}{i b:Nat}{o A:Obj}(B:K[i]? =some (b,o)):(K.set i (b,A))[i]? =some (b,A):=List.getElem?_set_self (List.getElem?_eq_some_iff.1 B).1
theorem Loc.set2{w0 w:World}{K:List (Nat×Obj)}(h:Loc w0 K w)(i:Nat){b:Nat}{t:TypeId}{fr:Nat×Nat}{J L:Value}(B:K[i]? =some (b,.cells #[J,L] t fr))(x0 x1:Value):
  Loc w0 (K.set i (b,.cells #[x0,x1] t fr)) ((w.setCell ⟨b,0,none⟩ x0).setCell ⟨b,1,none⟩ x1):=by
 have I:=h.set i B 0 x0;have A:=I.set i (z4E B) 1 x1;rw[z1m]at A;simpa using A
theorem z5i{w:World}{base e size n b:Nat}{v x0 x1:Value}{A:List Value}(h:w.ownsRow base e size v n A)(hb:b<base):((w.setCell ⟨b,0,none⟩ x0).setCell ⟨b,1,none⟩ x1).ownsRow base e size v n A:=z0F (z0F h hb) hb
theorem Loc.set3{w0 w:World}{K:List (Nat×Obj)}(h:Loc w0 K w)(i:Nat){b:Nat}{t:TypeId}{fr:Nat×Nat}{L N O:Value}(A:K[i]? =some (b,.cells #[L,N,O] t fr))(x0 x1 x2:Value):
  Loc w0 (K.set i (b,.cells #[x0,x1,x2] t fr)) (((w.setCell ⟨b,0,none⟩ x0).setCell ⟨b,1,none⟩ x1).setCell ⟨b,2,none⟩ x2):=by
 have J:=h.set i A 0 x0;have B:=J.set i (z4E A) 1 x1;rw[z1m]at B;have I:=B.set i (z4E A) 2 x2;rw[z1m]at I;simpa using I
theorem Loc.set7{w0 w:World}{K:List (Nat×Obj)}(h:Loc w0 K w)(i:Nat){b:Nat}{t:TypeId}{fr:Nat×Nat}{U Y y2 y3 y4 y5 y6:Value}(A:K[i]? =some (b,.cells #[U,Y,y2,y3,y4,y5,y6] t fr))(x0 x1 x2 x3 x4 x5 x6:Value):
  Loc w0 (K.set i (b,.cells #[x0,x1,x2,x3,x4,x5,x6] t fr)) (((((((w.setCell ⟨b,0,none⟩ x0).setCell ⟨b,1,none⟩ x1).setCell ⟨b,2,none⟩ x2).setCell ⟨b,3,none⟩ x3).setCell ⟨b,4,none⟩ x4).setCell ⟨b,5,none⟩ x5).setCell ⟨b,6,none⟩ x6):=by
 have R:=h.set i A 0 x0;have B:=R.set i (z4E A) 1 x1;rw[z1m]at B;have I:=B.set i (z4E A) 2 x2;rw[z1m]at I;have J:=I.set i (z4E A) 3 x3;rw[z1m]at J;have L:=J.set i (z4E A) 4 x4;rw[z1m]at L;have N:=L.set i (z4E A) 5 x5;rw[z1m]at N;have O:=N.set i (z4E A) 6 x6;rw[z1m]at O;simpa using O
theorem z5k{w:World}{base e size n b:Nat}{v x0 x1 x2 x3 x4 x5 x6:Value}{A:List Value}(h:w.ownsRow base e size v n A)(hb:b<base):(((((((w.setCell ⟨b,0,none⟩ x0).setCell ⟨b,1,none⟩ x1).setCell ⟨b,2,none⟩ x2).setCell ⟨b,3,none⟩ x3).setCell ⟨b,4,none⟩ x4).setCell ⟨b,5,none⟩ x5).setCell ⟨b,6,none⟩ x6).ownsRow base e size v n A:=z0F (z0F (z0F (z0F (z0F (z0F (z0F h hb) hb) hb) hb) hb) hb) hb
theorem Loc.set7_3_4{w0 w:World}{K:List (Nat×Obj)}(h:Loc w0 K w)(i:Nat){b:Nat}{t:TypeId}{fr:Nat×Nat}{L N O U Y y5 y6:Value}(A:K[i]? =some (b,.cells #[L,N,O,U,Y,y5,y6] t fr))(x0 x1 x2 x3:Value):
  Loc w0 (K.set i (b,.cells #[L,N,O,x0,x1,x2,x3] t fr)) ((((w.setCell ⟨b,3,none⟩ x0).setCell ⟨b,4,none⟩ x1).setCell ⟨b,5,none⟩ x2).setCell ⟨b,6,none⟩ x3):=by
 have R:=h.set i A 3 x0;have B:=R.set i (z4E A) 4 x1;rw[z1m]at B;have I:=B.set i (z4E A) 5 x2;rw[z1m]at I;have J:=I.set i (z4E A) 6 x3;rw[z1m]at J;simpa using J
theorem z6m{w:World}{base e size n b:Nat}{v x0 x1 x2 x3:Value}{A:List Value}(h:w.ownsRow base e size v n A)(hb:b<base):((((w.setCell ⟨b,3,none⟩ x0).setCell ⟨b,4,none⟩ x1).setCell ⟨b,5,none⟩ x2).setCell ⟨b,6,none⟩ x3).ownsRow base e size v n A:=z0F (z0F (z0F (z0F h hb) hb) hb) hb
theorem y7L(n low A:Int)(w:World):
  Calls prog 41 #[.int .i64 n,.int .i64 low,.int .i64 A] w fun e w'=>e= .returned (.bool (decide (low<=n)&&decide (n<=A)))/\w'=w:=by
 cases h1:decide (low<=n)with
 | false=>
  go_enter func41,ntmps41;go_wp2;go_ret;exact⟨rfl,rfl⟩
 | true=>
  cases h2:decide (n<=A)with
  | false=>
   go_enter func41,ntmps41;go_wp2;go_ret;exact⟨rfl,rfl⟩
  | true=>
   go_enter func41,ntmps41;go_wp2;go_ret;exact⟨rfl,rfl⟩
structure y6Y (s b c wi t d:Int):Prop where
 s:1<=s/\s<=64
 b:1<=b/\b<=1073741824
 c:1<=c/\c<=24
 w:1<=wi/\wi<=1048576
 t:1<=t/\t<=1000
 d:0<=d/\d<=1048576
theorem z9C{n low A:Int}(h:low<=n/\n<=A)(w:World):Calls prog 41 #[.int .i64 n,.int .i64 low,.int .i64 A] w fun e w'=>e= .returned (.bool true)/\w'=w:=by
 refine(y7L n low A w).mono ?_;rintro e w' ⟨rfl,rfl⟩;rw[decide_eq_true h.1,decide_eq_true h.2];exact⟨rfl,rfl⟩
theorem q2j(s b c B t d:Int)(h:y6Y s b c B t d)(w:World):
  Calls prog 19 #[.agg #[.int .i64 s,.int .i64 b,.int .i64 c,.int .i64 B,.int .i64 t,.int .i64 d]] w fun e w'=>e= .returned (.bool true)/\Below w.heap.size w w':=by
 have I:=z7 (q5 w (.cells #[.int .i64 s,.int .i64 b,.int .i64 c,.int .i64 B,.int .i64 t,.int .i64 d] 30));have J:=z7 (z9C h.s);have L:=z7 (z9C h.b);have N:=z7 (z9C h.c);have O:=z7 (z9C h.w);have R:=z7 (z9C h.t);have U:=z7 (z9C h.d);clear h;go_enter func19,ntmps19;go_wp2_with fail;refine(J.o _).mono ?_;rintro e A ⟨rfl,rfl⟩;go_wp2_with fail;refine(L.o _).mono ?_;rintro e A ⟨rfl,rfl⟩;go_wp2_with fail;refine(N.o _).mono ?_;rintro e A ⟨rfl,rfl⟩;go_wp2_with fail;refine(O.o _).mono ?_;rintro e A ⟨rfl,rfl⟩;go_wp2_with fail;refine(R.o _).mono ?_;rintro e A ⟨rfl,rfl⟩;go_wp2_with fail;refine(U.o _).mono ?_;rintro e A ⟨rfl,rfl⟩;go_wp2;go_ret;exact⟨rfl,I.o⟩
theorem q2g(series ck pb A cnt:Nat)(closed:Bool)(a:Option Addr)(n c:Nat)(l:List Bool)(b:List UInt8)(w:World)(h:z0r w a n c l b)(hl:l.length<=549755813888):
  Calls prog 50 #[.agg #[.int .u8 4,.int .u32 0,.int .u32 series,.int .i64 0,.int .u64 0,.int .u32 ck,.int .u32 pb,.int .u32 A,.int .u32 cnt,.bool closed,.slice a n c,.int .i64 l.length]] w fun e w'=>e= .returned (.bool (decide (A<cnt/\0<l.length/\n<=500)))/\Below w.heap.size w w':=by
 obtain⟨N,Y⟩:=zN l.length;rw[<-Y];have U:=z7 (z2q h.bits);have I:=z7 h.len;have a1:n<=70368744177665:=by have:=h.bits.len;have:=h.len;omega
 have a0:N<=549755813888:=by omega
 have H:=z7 h;have HN:=z7 Y;clear h Y hl;have B:=z7 (((Loc.start w).new (.cells #[.int .u8 4,.int .u32 0,.int .u32 series,.int .i64 0,.int .u64 0,.int .u32 ck,.int .u32 pb,.int .u32 A,.int .u32 cnt,.bool closed,.slice a n c,.int .i64 (N:Nat)] 84)).new' (.cells #[.int .i64 0,.int .u64 0] 71) (n:=w.heap.size+1) (by simp));by_cases h1:A<cnt
 ·have d1:decide ((A:Int)<cnt)=true:=decide_eq_true (by omega);have n1:decide (A<cnt)=true:=decide_eq_true h1;by_cases h2:0<N
  ·have d2:decide ((0:Int)<N)=true:=decide_eq_true (by omega);have n2:decide (0<N)=true:=decide_eq_true h2;by_cases h3:n<=500
   ·have d3:decide ((n:Int)<=500)=true:=decide_eq_true (by omega);have n3:decide (n<=500)=true:=decide_eq_true h3;have J:decide (A<cnt/\0<N/\n<=500)=true:=decide_eq_true ⟨h1,h2,h3⟩;rw[J];clear J h1 h2 h3;go_enter func50,ntmps50;go_wp2_with fail;have L:=z2M a c b N _ (by have:=(H.o.low B.o.low).rd;rw[I.o]at this;exact this) (by have:=I.o;omega) (by omega) (by omega);rw[<-I.o,HN.o,U.o,<-HN.o]at L;refine L.mono ?_;rintro e w2 ⟨rfl,O⟩;have R:=z7 (B.o.call O);clear O L;go_wp2;go_ret;exact⟨rfl,R.o.low⟩
   ·have d3:decide ((n:Int)<=500)=false:=decide_eq_false (by omega);have n3:decide (n<=500)=false:=decide_eq_false h3;have J:decide (A<cnt/\0<N/\n<=500)=false:=decide_eq_false (by omega);rw[J];clear J h1 h2 h3;go_enter func50,ntmps50;go_wp2;go_ret;exact⟨rfl,B.o.low⟩
  ·have d2:decide ((0:Int)<N)=false:=decide_eq_false (by omega);have n2:decide (0<N)=false:=decide_eq_false h2;have J:decide (A<cnt/\0<N/\n<=500)=false:=decide_eq_false (by omega);rw[J];clear J h1 h2;go_enter func50,ntmps50;go_wp2;go_ret;exact⟨rfl,B.o.low⟩
 ·have d1:decide ((A:Int)<cnt)=false:=decide_eq_false (by omega);have n1:decide (A<cnt)=false:=decide_eq_false h1;have J:decide (A<cnt/\0<N/\n<=500)=false:=decide_eq_false (by omega);rw[J];clear J h1;go_enter func50,ntmps50;go_wp2;go_ret;exact⟨rfl,B.o.low⟩
def beN(n width:Nat):List UInt8:=(List.range width).map fun j=>UInt8.ofNat (n/2^(8*(width - 1 - j)))
theorem z3t(n width:Nat):(beN n width).length=width:=by simp[beN]
theorem q2T{n W k:Nat}(A:k<W):(beN n W).take (W - k)=(beN n W).take (W - (k+1))++ [UInt8.ofNat (n/2^(8*k))]:=by
 rw[show W - k=W - (k+1)+1 by omega,List.take_add_one]
 congr 1
 unfold beN;rw[List.getElem?_map,List.getElem?_range (by omega)];simp only[Option.map_some,Option.toList_some];rw[show W - 1 - (W - (k+1))=k by omega]
structure q6k (w0:World) (K:List (Nat×Obj)) (w:World) (q:Nat) (bs:List UInt8) (a:Option Addr) (m c:Nat):Prop where
 blk:w.heap[q]? =some (.cells #[.slice a m c] 229 (0,0))
 row:w.ownsRow w0.heap.size 5 1 (.slice a m c) m (z0b bs)
 len:m=bs.length
 far:(Value.slice a m c).ownBlock≠some q
 up:w0.heap.size<=q
 low:Below w0.heap.size w0 w
 kept:∀p∈K,w.heap[p.1]? =some p.2/\p.1≠q/\(Value.slice a m c).ownBlock≠some p.1
def y2e(w0:World)(K:List (Nat×Obj))(w:World)(q:Nat)(bs:List UInt8):Prop:=∃a m c,q6k w0 K w q bs a m c
theorem z6q(q n W:Nat)(bs:List UInt8)(w0:World)(K:List (Nat×Obj))(w:World)(h:y2e w0 K w q bs)(hn:n<18446744073709551616)(hW:W<=8)(hl:bs.length<=1000000):
  Calls prog 114 #[.pointer (some ⟨q,0,none⟩),.int .u64 n,.int .i64 W] w fun e w'=>e= .returned (.tuple #[])/\y2e w0 K w' q (bs++beN n W):=by
 obtain⟨i0,aE,aL,aM,aN⟩:=info_parts y4e;have H:=z7 h;clear h;go_enter func114,ntmps114;go_wp2_with fail;go_loopw[2] (fun kv wr=>∃k:Nat,kv= .int .i64 k/\k<=W/\Hid (y2e w0 K wr q (bs++(beN n W).take (W - k)))) (fun kv _=>match kv with | .int _ x=>x.toNat|_=>0)
 case atStart=>exact⟨W,rfl,Nat.le_refl _,by simpa using H⟩
 case round=>
  obtain⟨k,rfl,hk,U⟩:=hrel;clear H;by_cases h0:k=0
  ·subst h0;have HF:Hid (y2e w0 K wr q (bs++beN n W)):=z7 (by
    have:=U.o
    rwa [Nat.sub_zero,List.take_of_length_le (by rw[z3t];exact Nat.le_refl _)]at this)
   go_wp2
   go_end0
   exact⟨rfl,HF.o⟩
  ·have d0:decide ((0:Int)<k)=true:=decide_eq_true (by omega);have n0:decide (0<k)=true:=decide_eq_true (by omega);obtain⟨O,a4⟩:∃O,k=O+1:=⟨k - 1,by omega⟩;have aZ:IntKind.i64.wrap ((k:Int) - 1)=(O:Int):=(by rw[z0n (by omega) (by omega)];omega);obtain⟨S,B⟩:=zN (8*O);have aY:IntKind.i64.wrap (8*(O:Int))=(S:Int):=(by rw[z0n (by omega) (by omega)];omega);have aO:S<=64:=(by omega);obtain⟨V,hV⟩:=zN (n/2^S);have aT:(n:Int)/2^S=(V:Int):=(by rw[hV];simp);obtain⟨y,hy⟩:=zN (V%256);have aJ:y<256:=(by omega);have aB:(V:Int)%256=(y:Int):=(by omega);have aI:IntKind.u8.wrap (V:Int)=(y:Int):=(by rw[IntKind.wrap_u8];exact aB);have aA:Hid ((beN n W).take (W - O)=(beN n W).take (W - k)++ [UInt8.ofNat y]):=z7 (by
    have h1:=q2T (n:=n) (W:=W) (k:=O) (by omega);have aG:UInt8.ofNat V=UInt8.ofNat (V%256):=(by apply UInt8.toNat_inj.1;simp);rw[h1,a4,<-B,<-hV,aG,hy])
   obtain⟨cs,Y⟩:=zN (bs++(beN n W).take (W - k));have aU:cs.length<=1000008:=(by rw[Y];simp[z3t];omega);rw[<-Y]at U;have a2:=z7 Y;obtain⟨a,m,c,N⟩:=U.o;have A:=z7 N;have aX:m<=1000008:=(by have:=N.len;omega);have a8:=(Array.getElem?_eq_some_iff.1 N.blk).1;have aH:=N.low.size;have J:Hid (∀w',wr.grownBy w' (Value.slice a m c).ownBlock->w'.heap[q]? =some (.cells #[.slice a m c] 229 (0,0))):=z7 fun w' hg=>(hg.block q a8 (fun e=>A.o.far e.symm)).trans A.o.blk;have aF:O<k/\O<=W:=by omega
   obtain⟨x0,xf,xl⟩:=z0u N.blk;have aR:=z7 aB;have aS:=z7 aI;clear N Y B hV hy U a4;go_wp2_with fail;clear x0 xf;refine q6 14 24 (fun D v w'=>z6D w0.heap.size 5 1 10 11 wr (.slice a m c) m (z0b cs) [.int .u8 (y:Int)] D v w') (z6D.start A.o.row) ?_;simp only[z0v];iterate 10 (refine q8.rl (e:=?_) (fun D v w h=>h.read _ (by omega) (by omega)) (fun D v w' R B=>?_) ?_;rotate_left;(obtain⟨x0,xf,xl⟩:=z0u (J.o w' B.g);clear B R;go_simp;try with_reducible rfl);go_simp)
   refine q8.re (fun D v w' R B=>?_) ?_
   ·have dj:D 11=false:=R.post 11 _ rfl (by kernel_rfl);have a0:=z7 (z6D.made (cs:= #[.int .u8 (y:Int)]) (e:=5) (by decide) B dj rfl);clear B R;go_simp;exact a0.o
   go_simp;refine q8.re (fun D v w' R B=>?_) ?_
   ·have di:D 10=true:=R.pre 10 (by kernel_rfl);obtain⟨g',h9,a9,aV⟩:=B.s di;have hq:=z7 (B.q R.self);have aH:=B.g.size;have a0:=z7 B;rw[h9]at a9;have aC:=z7 a9;rw[h9];clear B R h9;refine z3F _ _ 47 rfl w0.heap.size 5 i0 (.int .u8 0) 1 1 underlying47 aE aL aM aN rfl (by decide) _ m (z0b cs) rfl hq.o _ 1 [.int .u8 (y:Int)] rfl aC.o (by simp[Value.oneCell']) (by unfold maxLen;omega) (by omega) (by omega) ?_;intro v' aD h1 h2 h3 h4;exact⟨v',rfl,z6D.appended (by decide) a0.o di A.o.row h1 h2 h4,trivial⟩
   go_simp;iterate 2 (refine q8.rl (e:=?_) (fun D v w h=>h.read _ (by omega) (by omega)) (fun D v w' R B=>?_) ?_;rotate_left;(obtain⟨x0,xf,xl⟩:=z0u (J.o w' B.g);clear B R;go_simp;try with_reducible rfl);go_simp)
   refine q8.fin (fun v w7 B=>?_);obtain⟨-,a7,c7,h7,L,I⟩:=B.a rfl;rw[h7]at L I ⊢;have a1:=J.o w7 B.g;have a3:Hid (y2e w0 K (w7.setCell ⟨q,0,none⟩ (.slice a7 (m+1) c7)) q (bs++(beN n W).take (W - O))):=z7 (by
    have a5:∀j,(Value.slice a7 (m+1) c7).ownBlock=some j->(some j=(Value.slice a m c).ownBlock\/wr.heap.size<=j):=fun j hj=>by
     rcases I with e|⟨g,e,hg⟩
     ·exact .inl (by rw[<-e];exact hj.symm)
     ·rw[hj]at e;simp only[Option.some.injEq]at e;exact .inr (by omega)
    have a6:∀j,(Value.slice a7 (m+1) c7).ownBlock=some j->j≠q:=fun j hj e=>by
     rcases a5 j hj with e1|e1
     ·exact A.o.far (by rw[<-e1,e])
     ·omega
    refine⟨a7,m+1,c7,?_,?_,?_,fun e=>a6 q e rfl,A.o.up,?_,fun p hp=>?_⟩
    ·have:=z0a a1 0 (.slice a7 (m+1) c7);simpa using this
    ·rw[aA.o,<-List.append_assoc,<-a2.o];have e:z0b (cs++ [UInt8.ofNat y])=z0b cs++ [.int .u8 (y:Int)]:=(by rw[z3m,y7B y aJ]);rw[e];exact j7 L fun j hj=>q7 (a6 j hj)
    ·rw[aA.o,<-List.append_assoc,<-a2.o,List.length_append,A.o.len];rfl
    ·exact((A.o.low).grown B.g A.o.low.size (fun j hj=>(A.o.row.lt j hj).1)).setCell A.o.up _
    ·obtain⟨k1,k2,k3⟩:=A.o.kept p hp;have k4:=(Array.getElem?_eq_some_iff.1 k1).1;refine⟨(q7 k2).trans ((B.g.block p.1 k4 (fun e=>k3 e.symm)).trans k1),k2,fun e=>?_⟩;rcases a5 _ e with e1|e1
     ·exact k3 e1.symm
     ·omega)
   obtain⟨x0,xf,xl⟩:=z0u a1;clear B h7 L I a1;go_wp2;exact⟨⟨O,rfl,aF.2,a3⟩,by show(O:Int).toNat<(k:Int).toNat;omega⟩
def q1o(xs:List Nat):Array Value:=(xs.map fun x=>Value.int .u32 (x:Nat)).toArray
def z8o(xs:List Nat):List UInt8:=xs.flatMap fun x=>beN x 4
theorem y9F{A:List Nat}{k x:Nat}(h:A[k]? =some x):z8o (A.take (k+1))=z8o (A.take k)++beN x 4:=by
 unfold z8o;rw[List.take_add_one,h];simp
theorem z2R(A:List Nat):(z8o A).length=4*A.length:=by
 induction A with
 | nil=>rfl
 | cons x A ih=>
  unfold z8o at ih ⊢;rw[List.flatMap_cons,List.length_append,ih,z3t,List.length_cons];omega
theorem y6Z(q g:Nat)(A:List Nat)(J:List UInt8)(w0:World)(K:List (Nat×Obj))(w:World)(h:y2e w0 K w q J)(hg:(g,.cells (q1o A) 40 (0,0))∈K)(hx:∀x∈A,x<4294967296)(hn:A.length<=100)(hl:J.length<=10000):
  Calls prog 113 #[.pointer (some ⟨q,0,none⟩),.slice (some ⟨g,0,none⟩) A.length A.length] w fun e w'=>e= .returned (.tuple #[])/\y2e w0 K w' q (J++z8o A):=by
 obtain⟨n,O⟩:=zN A.length;rw[<-O];have H:=z7 h;have HX:=z7 hx;have HG:=z7 hg;have U:=z7 O;have a4:n<=100:=by omega
 clear h hx hg O hn;go_enter func113,ntmps113;go_wp2_with fail;go_loopw[8] (fun kv wr=>∃k:Nat,kv= .int .i64 k/\k<=n/\Hid (y2e w0 K wr q (J++z8o (A.take k)))) (fun kv _=>match kv with | .int _ x=>n - x.toNat|_=>0)
 case atStart=>exact⟨0,rfl,Nat.zero_le _,by simpa[z8o]using H⟩
 case round=>
  obtain⟨k,rfl,hk,L⟩:=hrel;clear H;by_cases hkn:k<n
  ·have d0:decide ((k:Int)<n)=true:=decide_eq_true (by omega);have n0:decide (k<n)=true:=decide_eq_true hkn;have Y:k<A.length:=(by have:=U.o;omega);obtain⟨x,I⟩:∃x,A[k]? =some x:=⟨_,List.getElem?_eq_getElem Y⟩;have a7:x<4294967296:=HX.o x (List.mem_of_getElem? I);have a1:wr.cell? ⟨g,k,none⟩=some (.int .u32 (x:Nat)):=by
    obtain⟨a,m,c,a2⟩:=L.o;have hb:=(a2.kept _ HG.o).1;rw[cell_of_row wr g k _ _ (0,0) hb];simp[q1o,I]
   have a8:IntKind.u64.wrap (x:Int)=(x:Int):=(by rw[IntKind.wrap_u64];omega);have a6:IntKind.i64.wrap ((k:Int)+1)=((k+1:Nat):Int):=z0n (by omega) (by omega);obtain⟨k',N⟩:=zN (k+1);rw[<-N]at a6;have a5:Hid (J++z8o (A.take k')=(J++z8o (A.take k))++beN x 4):=z7 (by rw[N,y9F I,List.append_assoc]);have a0:=z7 (z6q q x 4 (J++z8o (A.take k)) w0 K wr L.o (by omega) (by decide) (by rw[List.length_append,z2R,List.length_take];omega));have a3:k'<=n/\k<k':=(by omega);clear N I Y;go_wp2_with fail;refine a0.o.mono ?_;rintro e w2 ⟨rfl,B⟩;rw[<-a5.o]at B;have R:=z7 B;clear B a1;go_wp2;exact⟨⟨k',rfl,a3.1,R⟩,by show n - (k':Int).toNat<n - (k:Int).toNat;omega⟩
  ·have d0:decide ((k:Int)<n)=false:=decide_eq_false (by omega);have n0:decide (k<n)=false:=decide_eq_false hkn;have HF:Hid (y2e w0 K wr q (J++z8o A)):=z7 (by
    have:=L.o
    rwa [List.take_of_length_le (by have:=U.o;omega)]at this)
   go_wp2
   go_end0
   exact⟨rfl,HF.o⟩
structure ApN (B:Nat) (w0:World) (ov:Value) (n m:Nat) (xs ys:List Value) (j:Nat) (D:Nat->Bool) (v:Nat->Value) (w':World):Prop where
 g:w0.grownBy w' ov.ownBlock
 q:D j=false->w'.ownsRow B 5 1 ov n xs
 a:D j=true->∃a c,v j= .slice a (n+m) c/\w'.ownsRow B 5 1 (v j) (n+m) (xs++ys)/\((v j).ownBlock=ov.ownBlock\/∃g,(v j).ownBlock=some g/\w0.heap.size<=g)
theorem ApN.start{B n m j:Nat}{w0:World}{A:Value}{I J:List Value}(h:w0.ownsRow B 5 1 A n I):ApN B w0 A n m I J j (fun _=>false) (fun _=>undef) w0.drew:=
 ⟨⟨rfl,rfl,rfl,Nat.le_refl _,fun _ _ _=>rfl⟩,fun _=>h,fun h=>by cases h⟩
def z6L(series ck pb pc cnt:Nat)(closed:Bool)(N:Nat)(b:List UInt8):List UInt8:=
 [4]++z8o [series,ck,pb,pc,cnt]++beN (if closed then 1 else 0) 1++beN N 2++b
theorem y8R(series ck pb pc cnt:Nat)(closed:Bool)(a:Option Addr)(n c:Nat)(l:List Bool)(b:List UInt8)(hs:series<4294967296)(bN:ck<4294967296)(bO:pb<4294967296)(bR:pc<4294967296)(bL:cnt<4294967296)(hm:pc<cnt/\0<l.length/\n<=500)(w:World)(h:z0r w a n c l b):
  Calls prog 74 #[.agg #[.int .u8 4,.int .u32 0,.int .u32 series,.int .i64 0,.int .u64 0,.int .u32 ck,.int .u32 pb,.int .u32 pc,.int .u32 cnt,.bool closed,.slice a n c,.int .i64 l.length]] w fun e w'=>
   ∃a' m' c',e= .returned (.tuple #[.slice a' m' c',.int .u16 0])/\w'.ownsRow w.heap.size 5 1 (.slice a' m' c') m' (z0b (z6L series ck pb pc cnt closed l.length b))/\m'=(z6L series ck pb pc cnt closed l.length b).length/\Below w.heap.size w w':=by
 obtain⟨i0,b1,b5,b6,b7⟩:=info_parts y4e;have aR:l.length<=4000:=by have:=h.bits.len;have:=h.len;omega
 have aJ:=z7 (fun w' (h':z0r w' a n c l b)=>q2g series ck pb pc cnt closed a n c l b w' h' (by omega));rw[decide_eq_true hm]at aJ;obtain⟨N,hN⟩:=zN l.length;rw[<-hN]at aJ aR ⊢;have bG:n<=500:=hm.2.2;have H:=z7 h;have HN:=z7 hN;have aY:=z7 ((Loc.start w).new (.cells #[.int .u8 4,.int .u32 0,.int .u32 series,.int .i64 0,.int .u64 0,.int .u32 ck,.int .u32 pb,.int .u32 pc,.int .u32 cnt,.bool closed,.slice a n c,.int .i64 (N:Nat)] 84));clear h hN hm;go_enter func74,ntmps74;go_wp2_with fail;refine(aJ.o _ (H.o.low aY.o.low)).mono ?_;rintro e w2 ⟨rfl,b0⟩;have O:=z7 (aY.o.call b0);clear b0;have a3:Hid (∀w':World,w'.heap[w.heap.size]? =w2.heap[w.heap.size]? ->w'.cell? ⟨w.heap.size,0,none⟩=some (.int .u8 4)/\w'.cell? ⟨w.heap.size,1,none⟩=some (.int .u32 0)/\w'.cell? ⟨w.heap.size,2,none⟩=some (.int .u32 series)/\w'.cell? ⟨w.heap.size,3,none⟩=some (.int .i64 0)/\w'.cell? ⟨w.heap.size,4,none⟩=some (.int .u64 0)/\w'.cell? ⟨w.heap.size,5,none⟩=some (.int .u32 ck)/\w'.cell? ⟨w.heap.size,6,none⟩=some (.int .u32 pb)/\w'.cell? ⟨w.heap.size,7,none⟩=some (.int .u32 pc)/\w'.cell? ⟨w.heap.size,8,none⟩=some (.int .u32 cnt)/\w'.cell? ⟨w.heap.size,9,none⟩=some (.bool closed)/\w'.cell? ⟨w.heap.size,10,none⟩=some (.slice a n c)/\w'.cell? ⟨w.heap.size,11,none⟩=some (.int .i64 (N:Nat))):=z7 fun w' e=>by
  have hg:=e.trans (O.o.get 0 rfl);refine⟨?_,?_,?_,?_,?_,?_,?_,?_,?_,?_,?_,?_⟩<;>simp[World.cell?,hg]
 obtain⟨c0,c1,c2,c3,c4,c5,c6,c7,c8,c9,I,J⟩:=a3.o w2 rfl;have l0:=O.o.lt 0 rfl;go_upto_region 5 with fail
 obtain⟨W3,aW,aD⟩:=(((O.o.new (.cells #[.int .u8 4] 5)).new' (.cells #[.slice (some ⟨w2.heap.size,0,none⟩) 1 1] 229) (n:=w2.heap.size+1) (by simp)).new' (.cells #[.int .u32 ck,.int .u32 pb,.int .u32 pc] 45) (n:=w2.heap.size+1+1) (by simp)).named;rw[<-aW];have a9:=z7 aD;clear aD aW c0 c1 c2 c3 c4 c5 c6 c7 c8 c9 I J;obtain⟨q,hq⟩:=zN (w2.heap.size+1);have aS:Hid (∀w':World,w'.heap[w.heap.size]? =W3.heap[w.heap.size]? ->w'.heap[w.heap.size]? =w2.heap[w.heap.size]?):=z7 fun w' e=>e.trans ((a9.o.get 3 rfl).trans (O.o.get 0 rfl).symm);obtain⟨c0,c1,c2,c3,c4,c5,c6,c7,c8,c9,I,J⟩:=a3.o W3 (aS.o W3 rfl);obtain⟨p0,p1,p2,pf⟩:=cells3 (a9.o.get 0 rfl);have l1:=a9.o.lt 3 rfl;have l2:=a9.o.lt 0 rfl;have l3:=a9.o.lt 1 rfl;have bA:Hid (y2e w [(w.heap.size,.cells #[.int .u8 4,.int .u32 0,.int .u32 series,.int .i64 0,.int .u64 0,.int .u32 ck,.int .u32 pb,.int .u32 pc,.int .u32 cnt,.bool closed,.slice a n c,.int .i64 (N:Nat)] 84 (0,0)),(W3.heap.size,.cells (q1o [series,ck,pb,pc,cnt]) 40 (0,0))] (W3.alloc (.cells (q1o [series,ck,pb,pc,cnt]) 40)) (w2.heap.size+1) [4]):=z7 (by
  have aC:=a9.o.new (.cells (q1o [series,ck,pb,pc,cnt]) 40);have bC:=a9.o.ge 2 rfl;refine⟨some ⟨w2.heap.size,0,none⟩,1,1,aC.get 2 rfl,⟨rfl,.inr ⟨w2.heap.size,1,#[.int .u8 4],rfl,bC,aC.get 3 rfl,Nat.le_refl _,by decide,rfl,rfl⟩⟩,rfl,fun e=>?_,by omega,aC.low,fun p hp=>?_⟩
  ·simp only[Value.ownBlock,Option.some.injEq]at e;omega
  ·simp only[List.mem_cons,List.not_mem_nil,or_false]at hp;rcases hp with rfl|rfl
   ·exact⟨aC.get 4 rfl,by simp only;omega,fun e=>by simp only[Value.ownBlock,Option.some.injEq]at e;omega⟩
   ·exact⟨aC.get 0 rfl,by simp only;omega,fun e=>by simp only[Value.ownBlock,Option.some.injEq]at e;omega⟩)
 have b4:∀x∈ [series,ck,pb,pc,cnt],x<4294967296:=fun x hx=>by
  simp only[List.mem_cons,List.not_mem_nil,or_false]at hx;rcases hx with rfl|rfl|rfl|rfl|rfl<;>assumption
 have b8:=z7 (y6Z (w2.heap.size+1) W3.heap.size [series,ck,pb,pc,cnt] [4] w _ _ bA.o (by simp) b4 (by simp) (by simp));clear hq b4;go_wp2_with fail;refine b8.o.mono ?_;rintro e w5 ⟨rfl,h5⟩;have H5:=z7 h5;obtain⟨a5,m5,bM,aI⟩:=h5;have b2:=(aI.kept _ List.mem_cons_self).1;clear c0 c1 c2 c3 c4 c5 c6 c7 c8 c9 I J p0 p1 p2 pf;obtain⟨c0,c1,c2,c3,c4,c5,c6,c7,c8,c9,I,J⟩:=a3.o w5 (b2.trans (O.o.get 0 rfl).symm);clear b2 aI;have bT:IntKind.u64.wrap (N:Int)=(N:Int):=by rw[IntKind.wrap_u64];omega
 have bS:IntKind.u64.wrap 1=1:=by rw[IntKind.wrap_u64];rfl
 cases closed with
 | true=>
  have aL:=z7 (z6q (w2.heap.size+1) 1 1 _ w _ w5 H5.o (by decide) (by decide) (by simp[z2R]));go_wp2_with fail;refine aL.o.mono ?_;rintro e w6 ⟨rfl,h6⟩;have H6:=z7 h6;obtain⟨a6,m6,b9,a8⟩:=h6;have aE:=(a8.kept _ List.mem_cons_self).1;clear c0 c1 c2 c3 c4 c5 c6 c7 c8 c9 I J a8;obtain⟨c0,c1,c2,c3,c4,c5,c6,c7,c8,c9,I,J⟩:=a3.o w6 (aE.trans (O.o.get 0 rfl).symm);have aM:=z7 (z6q (w2.heap.size+1) N 2 _ w _ w6 H6.o (by omega) (by decide) (by simp[z2R,z3t]));clear aE;go_wp2_with fail;refine aM.o.mono ?_;rintro e w7 ⟨rfl,h7⟩;have H7:=z7 h7;obtain⟨a7,m7,R,Y⟩:=h7;have a2:=(Y.kept _ List.mem_cons_self).1;have a4:=z7 Y;clear c0 c1 c2 c3 c4 c5 c6 c7 c8 c9 I J;obtain⟨c0,c1,c2,c3,c4,c5,c6,c7,c8,c9,I,J⟩:=a3.o w7 (a2.trans (O.o.get 0 rfl).symm);go_wp2_with fail;obtain⟨B7,a1⟩:=zN ( [4]++z8o [series,ck,pb,pc,cnt]++beN 1 1++beN N 2);have A:=a4;rw[<-a1]at A;have aF:Hid (z6L series ck pb pc cnt true N b=B7++b):=z7 (by unfold z6L;rw[a1];rfl);have aZ:B7.length<=100:=by rw[a1];simp[z2R,z3t]
  have bF:m7<=100:=by have:=A.o.len;omega
  have aV:=(Array.getElem?_eq_some_iff.1 A.o.blk).1;have aX:=(Array.getElem?_eq_some_iff.1 a2).1;have b3:=A.o.low.size;have bB:b.length<=500:=by have:=H.o.len;omega
  have L:Hid (∀w',w7.grownBy w' (Value.slice a7 m7 R).ownBlock->w'.heap[w2.heap.size+1]? =some (.cells #[.slice a7 m7 R] 229 (0,0))):=z7 fun w' hg=>(hg.block _ aV (fun e=>A.o.far e.symm)).trans A.o.blk;have aU:Hid (∀w',w7.grownBy w' (Value.slice a7 m7 R).ownBlock->w'.heap[w.heap.size]? =w2.heap[w.heap.size]?):=z7 fun w' hg=>(hg.block _ aX (fun e=>(A.o.kept _ List.mem_cons_self).2.2 e.symm)).trans (a2.trans (O.o.get 0 rfl).symm);have aH:Hid (∀w',w7.grownBy w' (Value.slice a7 m7 R).ownBlock->Rd w' (.slice a n c) 1 b.length (z0b b)):=z7 fun w' hg=>by
   have h1:=(H.o.low A.o.low).rd;by_cases h0:0<b.length
   ·obtain⟨g,bI,aO,_,bE⟩:=H.o.cell (j:=0) (by rw[H.o.len];exact h0);refine h1.keep fun k hk=>?_;rw[aO]at hk;simp only[Value.ownBlock,Option.some.injEq]at hk;subst hk;exact hg.block _ (by omega) (fun e=>by have:=(A.o.row.lt _ e.symm).1;omega)
   ·have:b= []:=List.eq_nil_of_length_eq_zero (by omega);subst this;refine⟨h1.1,h1.2.imp id ?_⟩;rintro⟨ad,c',e1,e2⟩;exact⟨ad,c',e1,fun j u hu=>by simp[z0b]at hu⟩
  clear Y a4 a1 c0 c1 c2 c3 c4 c5 c6 c7 c8 c9 I J a2;refine q6 11 100 (fun D v w'=>ApN w.heap.size w7 (.slice a7 m7 R) m7 b.length (z0b B7) (z0b b) 8 D v w') (ApN.start A.o.row) ?_;simp only[z0v];iterate 8 (refine q8.rl (e:=?_) (fun D v w h=>⟨h.g,h.q,h.a⟩) (fun D v w' hD B=>?_) ?_;rotate_left;(obtain⟨x0,xf,xl⟩:=z0u (L.o w' B.g);obtain⟨c0,c1,c2,c3,c4,c5,c6,c7,c8,c9,I,J⟩:=a3.o w' (aU.o w' B.g);clear B hD;go_simp;try with_reducible rfl);go_simp)
  refine q8.re (fun D v w' hD B=>?_) ?_
  ·have hq:=z7 (B.q hD.self);have hg:=z7 B.g;have bH:=B.g.size;have aN:=z7 (aH.o w' B.g);clear B hD;refine z3F _ _ 47 rfl w.heap.size 5 i0 (.int .u8 0) 1 1 underlying47 b1 b5 b6 b7 rfl (by decide) _ m7 (z0b B7) rfl hq.o _ b.length (z0b b) rfl aN.o (z4C b) (by unfold maxLen;omega) (by omega) (by omega) ?_;intro v' bJ h1 h2 h3 h4;obtain⟨aa,ac,rfl⟩:=z2n h1;refine⟨_,rfl,⟨hg.o.trans h2,(fun e=>by rw[z1L]at e;cases e),fun _=>⟨aa,ac,z0p _ _ _,by rw[z0p];exact h1,by rw[z0p];exact h4.imp id fun e=>⟨_,e,hg.o.size⟩⟩⟩,trivial⟩
  go_simp;iterate 2 (refine q8.rl (e:=?_) (fun D v w h=>⟨h.g,h.q,h.a⟩) (fun D v w' hD B=>?_) ?_;rotate_left;(obtain⟨x0,xf,xl⟩:=z0u (L.o w' B.g);clear B hD;go_simp;try with_reducible rfl);go_simp)
  refine q8.fin (fun v w8 B=>?_);obtain⟨aa,ac,hv,a0,U⟩:=B.a rfl;rw[hv]at a0 U ⊢;have aG:=L.o w8 B.g;obtain⟨x0,xf,xl⟩:=z0u aG;have aT:Hid (∀j,(Value.slice aa (m7+b.length) ac).ownBlock=some j->j≠w2.heap.size+1):=z7 fun j hj e=>by
   rcases U with e1|⟨g,e1,hg⟩
   ·exact A.o.far (by rw[<-e1,hj,e])
   ·rw[hj]at e1;simp only[Option.some.injEq]at e1;omega
  have aB:=z7 a0;have aA:Hid (Below w.heap.size w w8):=z7 (A.o.low.grown B.g A.o.low.size (fun j hj=>(A.o.row.lt j hj).1));clear B hv a0 U aG;go_wp2;go_ret2;refine⟨aa,m7+b.length,ac,rfl,?_,?_,aA.o.setCell A.o.up _⟩
  ·rw[aF.o,z3m];exact j7 aB.o fun j hj=>q7 (aT.o j hj)
  ·rw[aF.o,List.length_append,A.o.len]
 | false=>
  have aL:=z7 (z6q (w2.heap.size+1) 0 1 _ w _ w5 H5.o (by decide) (by decide) (by simp[z2R]));go_wp2_with fail;refine aL.o.mono ?_;rintro e w6 ⟨rfl,h6⟩;have H6:=z7 h6;obtain⟨a6,m6,b9,a8⟩:=h6;have aE:=(a8.kept _ List.mem_cons_self).1;clear c0 c1 c2 c3 c4 c5 c6 c7 c8 c9 I J a8;obtain⟨c0,c1,c2,c3,c4,c5,c6,c7,c8,c9,I,J⟩:=a3.o w6 (aE.trans (O.o.get 0 rfl).symm);have aM:=z7 (z6q (w2.heap.size+1) N 2 _ w _ w6 H6.o (by omega) (by decide) (by simp[z2R,z3t]));clear aE;go_wp2_with fail;refine aM.o.mono ?_;rintro e w7 ⟨rfl,h7⟩;have H7:=z7 h7;obtain⟨a7,m7,R,Y⟩:=h7;have a2:=(Y.kept _ List.mem_cons_self).1;have a4:=z7 Y;clear c0 c1 c2 c3 c4 c5 c6 c7 c8 c9 I J;obtain⟨c0,c1,c2,c3,c4,c5,c6,c7,c8,c9,I,J⟩:=a3.o w7 (a2.trans (O.o.get 0 rfl).symm);go_wp2_with fail;obtain⟨B7,a1⟩:=zN ( [4]++z8o [series,ck,pb,pc,cnt]++beN 0 1++beN N 2);have A:=a4;rw[<-a1]at A;have aF:Hid (z6L series ck pb pc cnt false N b=B7++b):=z7 (by unfold z6L;rw[a1];rfl);have aZ:B7.length<=100:=by rw[a1];simp[z2R,z3t]
  have bF:m7<=100:=by have:=A.o.len;omega
  have aV:=(Array.getElem?_eq_some_iff.1 A.o.blk).1;have aX:=(Array.getElem?_eq_some_iff.1 a2).1;have b3:=A.o.low.size;have bB:b.length<=500:=by have:=H.o.len;omega
  have L:Hid (∀w',w7.grownBy w' (Value.slice a7 m7 R).ownBlock->w'.heap[w2.heap.size+1]? =some (.cells #[.slice a7 m7 R] 229 (0,0))):=z7 fun w' hg=>(hg.block _ aV (fun e=>A.o.far e.symm)).trans A.o.blk;have aU:Hid (∀w',w7.grownBy w' (Value.slice a7 m7 R).ownBlock->w'.heap[w.heap.size]? =w2.heap[w.heap.size]?):=z7 fun w' hg=>(hg.block _ aX (fun e=>(A.o.kept _ List.mem_cons_self).2.2 e.symm)).trans (a2.trans (O.o.get 0 rfl).symm);have aH:Hid (∀w',w7.grownBy w' (Value.slice a7 m7 R).ownBlock->Rd w' (.slice a n c) 1 b.length (z0b b)):=z7 fun w' hg=>by
   have h1:=(H.o.low A.o.low).rd;by_cases h0:0<b.length
   ·obtain⟨g,bI,aO,_,bE⟩:=H.o.cell (j:=0) (by rw[H.o.len];exact h0);refine h1.keep fun k hk=>?_;rw[aO]at hk;simp only[Value.ownBlock,Option.some.injEq]at hk;subst hk;exact hg.block _ (by omega) (fun e=>by have:=(A.o.row.lt _ e.symm).1;omega)
   ·have:b= []:=List.eq_nil_of_length_eq_zero (by omega);subst this;refine⟨h1.1,h1.2.imp id ?_⟩;rintro⟨ad,c',e1,e2⟩;exact⟨ad,c',e1,fun j u hu=>by simp[z0b]at hu⟩
  clear Y a4 a1 c0 c1 c2 c3 c4 c5 c6 c7 c8 c9 I J a2;refine q6 11 100 (fun D v w'=>ApN w.heap.size w7 (.slice a7 m7 R) m7 b.length (z0b B7) (z0b b) 8 D v w') (ApN.start A.o.row) ?_;simp only[z0v];iterate 8 (refine q8.rl (e:=?_) (fun D v w h=>⟨h.g,h.q,h.a⟩) (fun D v w' hD B=>?_) ?_;rotate_left;(obtain⟨x0,xf,xl⟩:=z0u (L.o w' B.g);obtain⟨c0,c1,c2,c3,c4,c5,c6,c7,c8,c9,I,J⟩:=a3.o w' (aU.o w' B.g);clear B hD;go_simp;try with_reducible rfl);go_simp)
  refine q8.re (fun D v w' hD B=>?_) ?_
  ·have hq:=z7 (B.q hD.self);have hg:=z7 B.g;have bH:=B.g.size;have aN:=z7 (aH.o w' B.g);clear B hD;refine z3F _ _ 47 rfl w.heap.size 5 i0 (.int .u8 0) 1 1 underlying47 b1 b5 b6 b7 rfl (by decide) _ m7 (z0b B7) rfl hq.o _ b.length (z0b b) rfl aN.o (z4C b) (by unfold maxLen;omega) (by omega) (by omega) ?_;intro v' bJ h1 h2 h3 h4;obtain⟨aa,ac,rfl⟩:=z2n h1;refine⟨_,rfl,⟨hg.o.trans h2,(fun e=>by rw[z1L]at e;cases e),fun _=>⟨aa,ac,z0p _ _ _,by rw[z0p];exact h1,by rw[z0p];exact h4.imp id fun e=>⟨_,e,hg.o.size⟩⟩⟩,trivial⟩
  go_simp;iterate 2 (refine q8.rl (e:=?_) (fun D v w h=>⟨h.g,h.q,h.a⟩) (fun D v w' hD B=>?_) ?_;rotate_left;(obtain⟨x0,xf,xl⟩:=z0u (L.o w' B.g);clear B hD;go_simp;try with_reducible rfl);go_simp)
  refine q8.fin (fun v w8 B=>?_);obtain⟨aa,ac,hv,a0,U⟩:=B.a rfl;rw[hv]at a0 U ⊢;have aG:=L.o w8 B.g;obtain⟨x0,xf,xl⟩:=z0u aG;have aT:Hid (∀j,(Value.slice aa (m7+b.length) ac).ownBlock=some j->j≠w2.heap.size+1):=z7 fun j hj e=>by
   rcases U with e1|⟨g,e1,hg⟩
   ·exact A.o.far (by rw[<-e1,hj,e])
   ·rw[hj]at e1;simp only[Option.some.injEq]at e1;omega
  have aB:=z7 a0;have aA:Hid (Below w.heap.size w w8):=z7 (A.o.low.grown B.g A.o.low.size (fun j hj=>(A.o.row.lt j hj).1));clear B hv a0 U aG;go_wp2;go_ret2;refine⟨aa,m7+b.length,ac,rfl,?_,?_,aA.o.setCell A.o.up _⟩
  ·rw[aF.o,z3m];exact j7 aB.o fun j hj=>q7 (aT.o j hj)
  ·rw[aF.o,List.length_append,A.o.len]

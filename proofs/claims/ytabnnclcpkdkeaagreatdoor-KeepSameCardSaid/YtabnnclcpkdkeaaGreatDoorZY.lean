/- A book in memory. -/
import Derived.Test.YtabnnclcpkdkeaaGreatDoorZW
import Derived.Test.YtabnnclcpkdkeaaGreatDoorZX
namespace Go.Proofs.YtabnnclcpkdkeaaGreatDoor
open Go.Proofs.Tryz
set_option linter.all false
set_option maxRecDepth 100000
set_option maxHeartbeats 0
open Go.RowKit Go.Maps
structure z1J where
 a:Option Addr
 c:Nat
 b:List UInt8
 ea:Option Addr
 ec:Nat
 p:z0R
def z1J.vals(x:z1J)(cl:Bool):List Value:= [.slice x.a x.b.length x.c,.int .i64 (x.p.l.length:Nat),.slice x.ea x.p.st.length x.ec,.int .i64 ((z0o z0i x.p.st).n:Nat),.int .i64 (z0o z0i x.p.st).last,.int .i64 (z0o z0i x.p.st).delta,.bool (z0o z0i x.p.st).val.has,.int .u64 ((z0o z0i x.p.st).val.prev:Nat),.int .u8 ((z0o z0i x.p.st).val.lead:Nat),.int .u8 ((z0o z0i x.p.st).val.width:Nat),.bool cl]
theorem z1J.vals_len(x:z1J)(cl:Bool):(x.vals cl).length=11:=rfl
structure z1J.Ok (T:Nat->Prop) (w:World) (x:z1J):Prop where
 rd:Kept T w fun w=>z0r w x.a x.b.length x.c x.p.l x.b
 ends:Kept T w fun w=>Rd w (.slice x.ea x.p.st.length x.ec) 1 x.p.st.length (z2K (z1C x.p.st))
 ok:x.p.Ok
 cap:x.p.st.length<=x.ec
theorem z1J.Ok.next{T:Nat->Prop}{w w':World}{x:z1J}(h:x.Ok T w)(A:∀k,T k->w'.heap[k]? =w.heap[k]?):x.Ok T w':=⟨h.rd.next A,h.ends.next A,h.ok,h.cap⟩
theorem z1J.Ok.mono{T A:Nat->Prop}{w:World}{x:z1J}(h:x.Ok T w)(I:∀k,T k->A k):x.Ok A w:=⟨h.rd.mono I,h.ends.mono I,h.ok,h.cap⟩
abbrev z1Z:z1J:=⟨none,0, [],none,0,z1Y⟩
theorem y5V:z1Z.vals false= [.slice none 0 0,.int .i64 0,.slice none 0 0,.int .i64 0,.int .i64 0,.int .i64 0,.bool false,.int .u64 0,.int .u8 0,.int .u8 0,.bool false]:=rfl
theorem y3T(T:Nat->Prop)(w:World):z1Z.Ok T w:=
 ⟨fun w' _=>⟨by exact z0d (uN w' 0 5 1),rfl,by exact z0S.nil⟩,fun w' _=>by exact z0d (uN w' 0 3 1),y4C,wJ _⟩
structure z0I where
 sb:Nat
 g:Nat
 cap:Nat
 T:Nat->Prop
 done:List z1J
 cur:z1J
def z0I.In(X:z0I)(k:Nat):Prop:=k=X.sb\/k=X.g\/X.T k
def z0I.ser(X:z0I):z0T:=⟨X.done.map z1J.p,X.cur.p⟩
def z0I.cells(X:z0I):List Value:=X.done.flatMap (fun x=>x.vals true)++X.cur.vals false
theorem z8y(l:List z1J)(b:Bool):(l.flatMap (fun x=>x.vals b)).length=l.length*11:=by
 induction l with
 | nil=>rfl
 | cons x l ih=>rw[uH,wP,ih,z1J.vals_len,wW];omega
theorem z0I.cells_at(X:z0I){j:Nat}(A:j<11):X.cells[X.done.length*11+j]? =(X.cur.vals false)[j]? :=by
 unfold z0I.cells;rw[uO (by rw[z8y];omega),z8y]
 congr 1
 omega
structure z0H (w:World) (X:z0I):Prop where
 blk:w.heap[X.sb]? =some (.cells #[.slice (some ⟨X.g,0,none⟩) (X.done.length+1) X.cap,.int .i64 (z4h X.ser.done),.bool (z5Y X.ser.done)] 125 (0,0))
 row:w.ownsRow 0 108 11 (.slice (some ⟨X.g,0,none⟩) (X.done.length+1) X.cap) (X.done.length+1) X.cells
 ne:X.sb≠X.g
 far:¬X.T X.sb/\¬X.T X.g
 lt:∀k,X.T k->k<w.heap.size
 done:∀x∈X.done,x.Ok X.T w/\0<x.p.st.length
 cur:X.cur.Ok X.T w
theorem z0H.lts{w:World}{X:z0I}(h:z0H w X):∀k,X.In k->k<w.heap.size:=by
 rintro k (rfl|rfl|A)
 .exact(wI.1 h.blk).1
 .exact(h.row.lt X.g rfl).2
 exact h.lt k A
theorem z0H.keep{w w':World}{X:z0I}(h:z0H w X)(A:∀k,X.In k->w'.heap[k]? =w.heap[k]?)(L:w.heap.size<=w'.heap.size):z0H w' X:=by
 have I:∀k,X.T k->w'.heap[k]? =w.heap[k]? :=fun k I=>A k (.inr (.inr I));refine⟨(A _ (.inl rfl)).trans h.blk,j7 h.row fun b hb=>?_,h.ne,h.far,fun k A=>wS (h.lt k A) L,fun x J=>⟨(h.done x J).1.next I,(h.done x J).2⟩,h.cur.next I⟩;simp only[Value.ownBlock,wK]at hb;exact A b (.inr (.inl hb.symm))
theorem z0H.low{w w':World}{X:z0I}(h:z0H w X)(hb:Below w.heap.size w w'):z0H w' X:=h.keep (fun k A=>hb.block k (h.lts k A)) hb.size
theorem z0H.ok{w:World}{X:z0I}(h:z0H w X):X.ser.Ok:=
 ⟨fun p I=>by
  obtain⟨x,A,rfl⟩:=uC.1 I;exact⟨(h.done x A).1.ok,(h.done x A).2⟩,h.cur.ok⟩
theorem z0H.at{w:World}{X:z0I}(h:z0H w X){j:Nat}{v:Value}(N:(X.cur.vals false)[j]? =some v):w.cell? ⟨X.g,X.done.length*11+j,none⟩=some v:=by
 have A:=(z0d h.row).2;have J:j<11:=by
  have:=(wY.1 N).1
  rwa [z1J.vals_len]at this
 rcases A with A|⟨R,U,A,O⟩
 .exact absurd A.2 wF
 have L:=O (X.done.length*11+j) v (by rw[X.cells_at J];exact N);simp only[wO,wK]at A;rw[<-A.1]at L;have I:(⟨X.g,0,none⟩:Addr).add (X.done.length*11+j)=⟨X.g,X.done.length*11+j,none⟩:=by unfold Addr.add;split<;>simp_all
 rw[I]at L;exact L
theorem z0H.cells{w:World}{X:z0I}(h:z0H w X):w.cell? ⟨X.sb,0,none⟩=some (.slice (some ⟨X.g,0,none⟩) (X.done.length+1) X.cap)/\w.cell? ⟨X.sb,1,none⟩=some (.int .i64 (z4h X.ser.done))/\w.cell? ⟨X.sb,2,none⟩=some (.bool (z5Y X.ser.done))/\∀j,w.frozen? ⟨X.sb,j,none⟩=false:=cells3 h.blk
theorem z8w(X:z0I)(U:X.done.length<=1000000000)(w:World)(h:z0H w X):
  Calls prog 50 #[.pointer (some ⟨X.sb,0,none⟩)] w fun e w'=>e= .returned (.pointer (some ⟨X.g,X.done.length*11,none⟩))/\Below w.heap.size w w':=by
 obtain⟨c0, -, -, -⟩:=h.cells;have N:=h.lts X.sb (.inl rfl);obtain⟨sb,J⟩:=zN X.sb;obtain⟨g,L⟩:=zN X.g;obtain⟨n,A⟩:=zN X.done.length;obtain⟨O,I⟩:=zN X.cap;rw[<-J,<-L,<-A,<-I]at c0;rw[<-J]at N ⊢;rw[<-L,<-A];rw[<-A]at U;clear h J L A I;have Y:IntKind.i64.wrap ((n:Int)+1 - 1)=(n:Int):=by rw[uL];omega
 have R:(0:Int)<=n/\(n:Int)<n+1:=wF
 go_enter func50,ntmps50;go_wp2_with fail;go_quiet (fail)
 go_wp2;go_ret;exact⟨rfl,z0j wD⟩
theorem z1J.Ok.n{T:Nat->Prop}{w:World}{x:z1J}(h:x.Ok T w):(z0o z0i x.p.st).n=x.p.st.length:=(z3T h.ok.rd).2.1
theorem y1F(X:z0I)(Y:X.done.length<=1000000000)(w:World)(h:z0H w X):
  Calls prog 97 #[.pointer (some ⟨X.sb,0,none⟩)] w fun e w'=>e= .returned (.tuple #[.int .i64 (z6X X.ser).1,.bool (z6X X.ser).2])/\Below w.heap.size w w':=by
 have J:=h.cur.n;have N:=z7 (z8w X Y w h);have O:=z7 h;by_cases R:0<X.cur.p.st.length
 .have I:z6X X.ser=(y2Y X.cur.p,true):=wZ R;rw[I];have U:decide (0<(z0o z0i X.cur.p.st).n)=true:=hQ;go_enter func97,ntmps97;go_wp2_with fail;refine N.o.mono ?_;rintro e w1 ⟨rfl,hb⟩;have A:=O.o.low hb;have c3:=A.at (j:=3) rfl;have c4:=A.at (j:=4) rfl;have L:=z7 hb;clear hb A I J;go_wp2;go_ret2;exact⟨rfl,L.o⟩
 have I:z6X X.ser=(z4h X.ser.done,z5Y X.ser.done):=wR R;rw[I];have U:decide (0<(z0o z0i X.cur.p.st).n)=false:=wC;go_enter func97,ntmps97;go_wp2_with fail;refine N.o.mono ?_;rintro e w1 ⟨rfl,hb⟩;have A:=O.o.low hb;have c3:=A.at (j:=3) rfl;obtain⟨x0,x1,x2,xf⟩:=A.cells;have L:=z7 hb;clear hb A I J;go_wp2_with fail;go_quiet (fail)
 go_wp2;go_ret2;exact⟨rfl,z0j L.o⟩
def z1P(s:z0T):Nat×Nat×Nat:=(s.done.length,s.cur.l.length,s.cur.st.length)
theorem z0I.done_len(X:z0I):X.ser.done.length=X.done.length:=by unfold z0I.ser;simp
theorem y8F(X:z0I)(hn:X.done.length<=1000000000)(w:World)(h:z0H w X):
  Calls prog 30 #[.pointer (some ⟨X.sb,0,none⟩)] w fun e w'=>e= .returned (z4k (z1P X.ser))/\Below w.heap.size w w':=by
 have I:=z7 ((Loc.start w).new (.cells #[.int .u32 0,.int .u32 0,.int .u32 0] 45));have HL:=z7 (z8w X hn _ (h.low I.o.low));have HS:=z7 (h.low I.o.low);have U:z1P X.ser=(X.done.length,X.cur.p.l.length,X.cur.p.st.length):=by unfold z1P;rw[X.done_len];rfl
 rw[U];have R:=h.cur.ok.bits;have Y:=h.cur.ok.len;have a0:IntKind.i64.wrap ((X.done.length:Int)+1 - 1)=(X.done.length:Int):=by rw[uL];omega
 have a1:IntKind.u32.wrap (X.done.length:Int)=(X.done.length:Int):=by rw[eP];omega
 have a2:IntKind.u32.wrap (X.cur.p.l.length:Int)=(X.cur.p.l.length:Int):=by rw[eP];omega
 have a3:IntKind.u32.wrap (X.cur.p.st.length:Int)=(X.cur.p.st.length:Int):=by rw[eP];omega
 clear h U;go_enter func30,ntmps30;go_wp2_with fail;refine HL.o.mono ?_;rintro e w1 ⟨rfl,hb⟩;have O:=z7 (I.o.call hb);have J:=z7 (HS.o.low hb);clear hb;go_wp2_with fail;refine q6 20 26 (fun D v w'=>Below w1.heap.size w1 w') wD.drew ?_;simp only[z0C];iterate 20 (refine q8.rd ?_ (fun D v w' hD A=>?_) ?_;rotate_left;(obtain⟨x0,x1,x2,xf⟩:=(J.o.low A).cells;have a4:=(J.o.low A).lts X.sb (.inl rfl);have a5:=(J.o.low A).lts X.g (.inr (.inl rfl));have c1:=(J.o.low A).at (j:=1) rfl;have c2:=(J.o.low A).at (j:=2) rfl;clear A hD;go_simp;try rfl);go_simp)
 refine q8.fin (fun v w3 A=>?_);have L:=z7 (O.o.call A);clear A;obtain⟨y0,y1,y2,yf⟩:=cells3 (L.o.get 0 rfl);go_wp2;have N:=L.o.set3 0 rfl (.int .u32 (X.done.length:Nat)) (.int .u32 (X.cur.p.l.length:Nat)) (.int .u32 (X.cur.p.st.length:Nat));refine wU (y0N rfl _ _ w.heap.size _ _ _ rfl (N.get 0 rfl) rfl) rfl ?_;exact⟨rfl,N.low⟩
structure z0h where
 most:Nat
 size:Nat
 all:List (Int×z0T)
def q2w:Value->Bool
 | .pointer _=>true
 | _=>false
def q8u(X:z0I):Value:= .pointer (some ⟨X.sb,0,none⟩)
abbrev y0S (w:World) (mb:Nat) (E:List (Int×z0I)):Prop:=z3X w prog 40 z4e q2w q8u mb E
theorem z8m(w:World):(zeroValue 97).run prog w= .ok (.pointer none) w:=by kernel_rfl
def j9(b:z0h)(id:Nat):z0T:=(z0J (id:Int) b.all).getD z4T
structure z0w (w:World) (bb mb:Nat) (E:List (Int×z0I)) (b:z0h) (B:Nat) (S:Nat->Prop):Prop where
 blk:w.heap[bb]? =some (.cells #[.int .i64 (b.most:Nat),.int .i64 (b.size:Nat),.map (some mb)] 144 (0,0))
 map:y0S w mb E
 ne:bb≠mb
 own:S bb/\S mb
 each:∀p∈E,z0H w p.2/\∀k,p.2.In k->S k/\k≠bb/\k≠mb
 apart:∀p∈E,∀q∈E,p.1≠q.1->∀k,p.2.In k->¬q.2.In k
 lo:∀k,S k->B<=k/\k<w.heap.size
 all:b.all=E.map fun p=>(p.1,p.2.ser)
 few:E.length<=b.most/\b.most<=64
 size:1<=b.size/\b.size<=24
theorem z0w.keep{w w':World}{A L B:Nat}{E:List (Int×z0I)}{b:z0h}{S:Nat->Prop}(h:z0w w A L E b B S)(I:∀k,S k->w'.heap[k]? =w.heap[k]?)(O:w.heap.size<=w'.heap.size):z0w w' A L E b B S:=
 ⟨(I A h.own.1).trans h.blk,h.map.same (I L h.own.2),h.ne,h.own,fun p J=>⟨(h.each p J).1.keep (fun k R=>I k ((h.each p J).2 k R).1) O,(h.each p J).2⟩,h.apart,fun k N=>⟨(h.lo k N).1,wS (h.lo k N).2 O⟩,h.all,h.few,h.size⟩
theorem z0w.low{w w':World}{A I B:Nat}{E:List (Int×z0I)}{b:z0h}{S:Nat->Prop}(h:z0w w A I E b B S)(hb:Below w.heap.size w w'):z0w w' A I E b B S:=h.keep (fun k J=>hb.block k (h.lo k J).2) hb.size
theorem z0w.only{w w':World}{A J B:Nat}{E:List (Int×z0I)}{b:z0h}{S S':Nat->Prop}(h:z0w w A J E b B S)(hb:z0n S' w w')(hd:∀k,S k->¬S' k):z0w w' A J E b B S:=h.keep (fun k I=>hb.block k (h.lo k I).2 (hd k I)) hb.size
theorem z9F{α β:Type}(f:α->β)(k:Int)(E:List (Int×α)):z0J k (E.map fun p=>(p.1,f p.2))=(z0J k E).map f:=by
 unfold z0J
 induction E with
 | nil=>rfl
 | cons p E ih=>
  rw[uI,dt,dt];by_cases h:p.1=k
  .simp[h]
  simp only[h,qu];exact ih
theorem z0w.get{w:World}{A I B:Nat}{E:List (Int×z0I)}{b:z0h}{S:Nat->Prop}(h:z0w w A I E b B S)(id:Nat):j9 b id=((z0J (id:Int) E).map z0I.ser).getD z4T:=by
 unfold j9;rw[h.all,z9F]
theorem z0w.cells{w:World}{A I B:Nat}{E:List (Int×z0I)}{b:z0h}{S:Nat->Prop}(h:z0w w A I E b B S):w.cell? ⟨A,0,none⟩=some (.int .i64 (b.most:Nat))/\w.cell? ⟨A,1,none⟩=some (.int .i64 (b.size:Nat))/\w.cell? ⟨A,2,none⟩=some (.map (some I))/\∀j,w.frozen? ⟨A,j,none⟩=false:=cells3 h.blk
theorem y8Z(A I:Nat)(R:1<=A/\A<=64)(U:1<=I/\I<=24)(w:World):
  Calls prog 21 #[.int .i64 A,.int .i64 I] w fun e w'=>∃O mb S,e= .returned (.pointer (some ⟨O,0,none⟩))/\z0w w' O mb [] ⟨A,I, []⟩ w.heap.size S/\Below w.heap.size w w':=by
 have i0:¬((A:Int)<1):=wF
 have i1:¬((64:Int)<A):=wF
 have i2:¬((I:Int)<1):=wF
 have i3:¬((24:Int)<I):=wF
 have i4:¬((A:Int)>64):=wF
 have i5:¬((I:Int)>24):=wF
 have a0:= @run_makeMap prog;go_enter func21,ntmps21;go_wp2;go_ret;have J:=q5 w (.map #[] 0);have L:=J.trans ((q5 (w.alloc (.map #[] 0)) (.cells #[.int .i64 A,.int .i64 I,.map (some w.heap.size)] 144)).mono wH);have Y:=j8 (w.alloc (.map #[] 0)) (.cells #[.int .i64 A,.int .i64 I,.map (some w.heap.size)] 144);refine⟨w.heap.size+1,rfl,⟨w.heap.size,fun k=>k=w.heap.size\/k=w.heap.size+1,⟨?_,?_,wF,⟨.inr rfl,.inl rfl⟩,(fun p N=>by cases N),(fun p N=>by cases N),fun k hk=>?_,rfl,⟨wH,R.2⟩,U⟩⟩,L⟩
 .simpa using Y
 .exact z3X.low (y0z w) (q5 _ _)
 rcases hk with rfl|rfl
 .exact⟨wJ _,by simp;omega⟩
 exact⟨wF,wH⟩
theorem q6m{w:World}{I g:Nat}(J:w.heap[g]? =some (.cells #[.slice none 0 0,.int .i64 0,.slice none 0 0,.int .i64 0,.int .i64 0,.int .i64 0,.bool false,.int .u64 0,.int .u8 0,.int .u8 0,.bool false] 108 (0,0)))(L:w.heap[I]? =some (.cells #[.slice (some ⟨g,0,none⟩) 1 1,.int .i64 0,.bool false] 125 (0,0)))(A:I≠g):
  z0H w ⟨I,g,1,fun _=>False, [],z1Z⟩:=
 ⟨L,⟨rfl,.inr ⟨g,1,_,rfl,uA _,J,wJ _,wG,rfl,rfl⟩⟩,A,⟨fun h=>h,fun h=>h⟩,fun k N=>N.elim,(fun x O=>by cases O),y3T _ w⟩
theorem q0X(w:World):(Instr.makeSlice 123 (.int .i64 1) (.int .i64 1)).run prog w= .ok (.slice (some ⟨w.heap.size,0,none⟩) 1 1) (w.alloc (.cells #[.slice none 0 0,.int .i64 0,.slice none 0 0,.int .i64 0,.int .i64 0,.int .i64 0,.bool false,.int .u64 0,.int .u8 0,.int .u8 0,.bool false] 108)):=by kernel_rfl
def y9c(g:Option z0I)(s:z0T)(w:World)(e:Ending)(w':World):Prop:=∃X,e= .returned (.pointer (some ⟨X.sb,0,none⟩))/\z0H w' X/\X.ser=s/\Below w.heap.size w w'/\(g=some X\/(g=none/\∀k,X.In k->w.heap.size<=k))
theorem z9G(bb mb B:Nat)(E:List (Int×z0I))(b:z0h)(S:Nat->Prop)(id:Nat)(Y:id<4294967296)(w:World)(h:z0w w bb mb E b B S):
  Calls prog 28 #[.pointer (some ⟨bb,0,none⟩),.int .u32 id] w (y9c (z0J (id:Int) E) (j9 b id) w):=by
 have J:=h.get id;obtain⟨c0,c1,c2,cf⟩:=h.cells;have lb:=(h.lo bb h.own.1).2;have HM:=z7 h.map;cases hg:z0J (id:Int) E with
 | some X=>
  rw[hg]at J;have hX:=(h.each _ (z1q hg)).1;have HF:Hid (∀w',Below w.heap.size w w'->y9c (some X) (j9 b id) w (.returned (.pointer (some ⟨X.sb,0,none⟩))) w'):=z7 fun w' hb=>⟨X,rfl,hX.low hb,J.symm,hb,.inl rfl⟩;have A:=z7 hg;clear h hX J hg;go_enter func28,ntmps28;go_wp2_with (at_lookup;refine z5O z4S rfl _ _ 142 rfl 97 underlying142 (z8m _) rfl rfl HM.o (id:Int) rfl (z9r Y) (some X) A.o (.pointer (some ⟨X.sb,0,none⟩)) rfl ?_);go_ret;exact HF.o _ wD
 | none=>
  rw[hg]at J;have HF:Hid (∀w' L,Below w.heap.size w w'->z0H w' L->L.ser=z4T->(∀k,L.In k->w.heap.size<=k)->y9c none (j9 b id) w (.returned (.pointer (some ⟨L.sb,0,none⟩))) w'):=z7 fun w' L hb I h2 h3=>⟨L,rfl,I,h2.trans J.symm,hb,.inr ⟨rfl,h3⟩⟩;have A:=z7 hg;have a2:=q0X;clear h J hg;go_enter func28,ntmps28;go_wp2_with (at_lookup;refine z5O z4S rfl _ _ 142 rfl 97 underlying142 (z8m _) rfl rfl HM.o (id:Int) rfl (z9r Y) none A.o (.pointer none) rfl ?_);go_ret;have R:=q5 w (.cells #[.slice none 0 0,.int .i64 0,.slice none 0 0,.int .i64 0,.int .i64 0,.int .i64 0,.bool false,.int .u64 0,.int .u8 0,.int .u8 0,.bool false] 108);have N:=j8 w (.cells #[.slice none 0 0,.int .i64 0,.slice none 0 0,.int .i64 0,.int .i64 0,.int .i64 0,.bool false,.int .u64 0,.int .u8 0,.int .u8 0,.bool false] 108);obtain⟨w1,a0⟩:=zN (w.alloc (.cells #[.slice none 0 0,.int .i64 0,.slice none 0 0,.int .i64 0,.int .i64 0,.int .i64 0,.bool false,.int .u64 0,.int .u8 0,.int .u8 0,.bool false] 108));have a1:w1.heap.size=w.heap.size+1:=by rw[a0];simp
  rw[<-a0]at R N ⊢;have U:=q5 w1 (.cells #[.slice (some ⟨w.heap.size,0,none⟩) 1 1,.int .i64 0,.bool false] 125);have O:=j8 w1 (.cells #[.slice (some ⟨w.heap.size,0,none⟩) 1 1,.int .i64 0,.bool false] 125);have h0:=(U.block w.heap.size wF).trans N;rw[a1]at O;exact HF.o _ ⟨w.heap.size+1,w.heap.size,1,fun _=>False, [],z1Z⟩ (R.trans (U.mono wF)) (q6m h0 O wF) rfl (fun k hk=>by
   rcases hk with I|I|I
   .simp only at I;omega
   .simp only at I;omega
   exact I.elim)
def z3Q(b:z0h)(id:Nat):Nat:=if z0J (id:Int) b.all=none/\b.most<=b.all.length then 121 else 0
theorem q0w(bb mb B:Nat)(E:List (Int×z0I))(b:z0h)(S:Nat->Prop)(id:Nat)(a0:id<4294967296)(w:World)(h:z0w w bb mb E b B S):
  Calls prog 96 #[.pointer (some ⟨bb,0,none⟩),.int .u32 id] w fun e w'=>e= .returned (.int .u16 (z3Q b id:Nat))/\Below w.heap.size w w':=by
 have L:b.all.length=E.length:=by rw[h.all];simp
 have A:z0J (id:Int) b.all=(z0J (id:Int) E).map z0I.ser:=by rw[h.all,z9F]
 have R:=h.few;have H:=z7 h;cases hg:z0J (id:Int) E with
 | some X=>
  rw[hg]at A;have O:z3Q b id=0:=by unfold z3Q;rw[A];simp
  rw[O];have N:=z7 hg;clear h O A hg;go_enter func96,ntmps96;go_wp2_with fail;refine q6 19 24 (fun D v w'=>Below w.heap.size w w') wD.drew ?_;simp only[z0C];iterate 8 (refine q8.rd ?_ (fun D v w' Y J=>?_) ?_;rotate_left;(have I:=H.o.low J;obtain⟨c0,c1,c2,cf⟩:=I.cells;have lb:=(I.lo bb I.own.1).2;have a2:=z5T z4S 142 97 underlying142 (z8m w') rfl I.map (id:Int) (z9r a0) (some X) N.o (.pointer (some ⟨X.sb,0,none⟩)) rfl;clear J Y;go_simp;try rfl);go_simp)
  iterate 10 (refine q8.sk (fun D v w h=>h) ?_;go_simp)
  (refine q8.rd ?_ (fun D v w' Y J=>?_) ?_;rotate_left;(clear J Y;go_simp;try rfl);go_simp)
  refine q8.fin (fun v w3 J=>?_);go_wp2;go_ret;exact⟨rfl,J⟩
 | none=>
  rw[hg]at A;obtain⟨n,hn⟩:=zN E.length;obtain⟨m,hm⟩:=zN b.most;by_cases hr:m<=n
  .have O:z3Q b id=121:=(by unfold z3Q;rw[A,L,<-hm,<-hn];simp[hr]);rw[O];have N:=z7 hg;have HN:=z7 hn;have U:=z7 hm;clear h O A hg hn hm L R;go_enter func96,ntmps96;go_wp2_with fail;refine q6 19 24 (fun D v w'=>Below w.heap.size w w') wD.drew ?_;simp only[z0C];iterate 19 (refine q8.rd ?_ (fun D v w' Y J=>?_) ?_;rotate_left;(have I:=H.o.low J;obtain⟨c0,c1,c2,cf⟩:=I.cells;rw[<-U.o]at c0;have lb:=(I.lo bb I.own.1).2;have a2:=z5T z4S 142 97 underlying142 (z8m w') rfl I.map (id:Int) (z9r a0) none N.o (.pointer none) rfl;have a1:=tK I.map underlying142 3;rw[y4S,<-HN.o]at a1;clear J Y;go_simp;try rfl);go_simp)
   refine q8.fin (fun v w3 J=>?_);go_wp2;go_ret;exact⟨rfl,J⟩
  have O:z3Q b id=0:=(by unfold z3Q;rw[A,L,<-hm,<-hn];simp[hr]);rw[O];have N:=z7 hg;have HN:=z7 hn;have U:=z7 hm;clear h O A hg hn hm L R;go_enter func96,ntmps96;go_wp2_with fail;refine q6 19 24 (fun D v w'=>Below w.heap.size w w') wD.drew ?_;simp only[z0C];iterate 19 (refine q8.rd ?_ (fun D v w' Y J=>?_) ?_;rotate_left;(have I:=H.o.low J;obtain⟨c0,c1,c2,cf⟩:=I.cells;rw[<-U.o]at c0;have lb:=(I.lo bb I.own.1).2;have a2:=z5T z4S 142 97 underlying142 (z8m w') rfl I.map (id:Int) (z9r a0) none N.o (.pointer none) rfl;have a1:=tK I.map underlying142 3;rw[y4S,<-HN.o]at a1;clear J Y;go_simp;try rfl);go_simp)
  refine q8.fin (fun v w3 J=>?_);go_wp2;go_ret;exact⟨rfl,J⟩
def z7o(b:z0h)(id:Nat)(t:Int):Nat:=if z3Q b id=0 then(if(z6X (j9 b id)).2=true/\t<=(z6X (j9 b id)).1 then 120 else 0)else z3Q b id
theorem y3x(b:z0h)(id:Nat):z3Q b id=0\/z3Q b id=121:=by unfold z3Q;split<;>simp
theorem q7u(bb mb B:Nat)(E:List (Int×z0I))(b:z0h)(S:Nat->Prop)(id:Nat)(a2:id<4294967296)(t:Int)(v:Nat)(Y:(j9 b id).done.length<=1000000000)(w:World)(h:z0w w bb mb E b B S):
  Calls prog 49 #[.pointer (some ⟨bb,0,none⟩),.int .u32 id,.agg #[.int .i64 t,.int .u64 v]] w fun e w'=>e= .returned (.int .u16 (z7o b id t:Nat))/\Below w.heap.size w w':=by
 have R:=z7 ((Loc.start w).new (.cells #[.int .i64 t,.int .u64 v] 79));have H:=z7 h;have HR:=z7 (q0w bb mb B E b S id a2 _ (h.low R.o.low));have a1:=z7 (fun w1 (hb:z0w w1 bb mb E b B S)=>z9G bb mb B E b S id a2 w1 hb);have O:=z7 Y;rcases y3x b id with hr|hr
 .obtain⟨T,is,hT⟩:∃T is,(T,is)=z6X (j9 b id):=⟨_,_,rfl⟩;have hm:z7o b id t=if is=true/\t<=T then 120 else 0:=by unfold z7o;rw[wZ hr,<-hT]
  rw[hm];rw[hr]at HR;have HT:=z7 hT;clear h hr hm hT Y;cases is with
  | false=>
   simp only[po,false_and,ei];go_enter func49,ntmps49;go_wp2_with fail;refine HR.o.mono ?_;rintro e w1 ⟨rfl,hb⟩;have I:=z7 (R.o.call hb);clear hb;go_wp2_with fail;refine(a1.o _ (H.o.low I.o.low)).mono ?_;rintro e w2 ⟨X,rfl,U,A,hb, -⟩;have N:=z7 (I.o.call hb);have J:=z7 (y1F X (by have:=O.o;rw[<-A,X.done_len]at this;exact this) w2 U);rw[A,<-HT.o]at J;clear hb U A;go_wp2_with fail;refine J.o.mono ?_;rintro e w3 ⟨rfl,hb⟩;have L:=z7 (N.o.call hb);clear hb;go_wp2;go_ret;exact⟨rfl,L.o.low⟩
  | true=>
   by_cases a0:t<=T
   .rw[wZ ⟨rfl,a0⟩];have d1:decide (t<=T)=true:=wQ a0;clear a0;go_enter func49,ntmps49;go_wp2_with fail;refine HR.o.mono ?_;rintro e w1 ⟨rfl,hb⟩;have I:=z7 (R.o.call hb);clear hb;go_wp2_with fail;refine(a1.o _ (H.o.low I.o.low)).mono ?_;rintro e w2 ⟨X,rfl,U,A,hb, -⟩;have N:=z7 (I.o.call hb);have J:=z7 (y1F X (by have:=O.o;rw[<-A,X.done_len]at this;exact this) w2 U);rw[A,<-HT.o]at J;clear hb U A;go_wp2_with fail;refine J.o.mono ?_;rintro e w3 ⟨rfl,hb⟩;have L:=z7 (N.o.call hb);clear hb;obtain⟨y0,y1,yf⟩:=z0m (L.o.get 0 rfl);go_wp2;go_ret;exact⟨rfl,L.o.low⟩
   rw[wR (by simp;omega)];have d1:decide (t<=T)=false:=wM a0;clear a0;go_enter func49,ntmps49;go_wp2_with fail;refine HR.o.mono ?_;rintro e w1 ⟨rfl,hb⟩;have I:=z7 (R.o.call hb);clear hb;go_wp2_with fail;refine(a1.o _ (H.o.low I.o.low)).mono ?_;rintro e w2 ⟨X,rfl,U,A,hb, -⟩;have N:=z7 (I.o.call hb);have J:=z7 (y1F X (by have:=O.o;rw[<-A,X.done_len]at this;exact this) w2 U);rw[A,<-HT.o]at J;clear hb U A;go_wp2_with fail;refine J.o.mono ?_;rintro e w3 ⟨rfl,hb⟩;have L:=z7 (N.o.call hb);clear hb;obtain⟨y0,y1,yf⟩:=z0m (L.o.get 0 rfl);go_wp2;go_ret;exact⟨rfl,L.o.low⟩
 have hm:z7o b id t=121:=by unfold z7o;rw[wR wF,hr]
 rw[hm];rw[hr]at HR;obtain⟨T,is,hT⟩:∃T is,(T,is)=z6X (j9 b id):=⟨_,_,rfl⟩;have HT:=z7 hT;clear h hr hm hT Y;go_enter func49,ntmps49;go_wp2_with fail;refine HR.o.mono ?_;rintro e w1 ⟨rfl,hb⟩;have I:=z7 (R.o.call hb);clear hb;go_wp2_with fail;refine(a1.o _ (H.o.low I.o.low)).mono ?_;rintro e w2 ⟨X,rfl,U,A,hb, -⟩;have N:=z7 (I.o.call hb);have J:=z7 (y1F X (by have:=O.o;rw[<-A,X.done_len]at this;exact this) w2 U);rw[A,<-HT.o]at J;clear hb U A;go_wp2_with fail;refine J.o.mono ?_;rintro e w3 ⟨rfl,hb⟩;have L:=z7 (N.o.call hb);clear hb;go_wp2;go_ret;exact⟨rfl,L.o.low⟩
def z0I.put(X:z0I)(x:z1J)(T':Nat->Prop):z0I:=⟨X.sb,X.g,X.cap,fun k=>X.T k\/T' k,X.done,x⟩
theorem z0H.setLast{w w':World}{X:z0I}{x:z1J}{N:Nat->Prop}(h:z0H w X)(hx:x.Ok N w)(I:∀k,N k->k<w.heap.size/\k≠X.sb/\k≠X.g)(hw:w'=w.setCells X.g (X.done.length*11) (x.vals false)):
  z0H w' (X.put x N)/\z0n (fun k=>k=X.g) w w':=by
 subst hw;have Y:z0n (fun k=>k=X.g) w (w.setCells X.g (X.done.length*11) (x.vals false)):=z0n.setCells (S:=fun k=>k=X.g) rfl _ _ _;have A:∀k,k<w.heap.size->k≠X.g->(w.setCells X.g (X.done.length*11) (x.vals false)).heap[k]? =w.heap[k]? :=fun k A hn=>Y.block k A hn;have hs:(w.setCells X.g (X.done.length*11) (x.vals false)).heap.size=w.heap.size:=size_setCells _ _ _;have R:∀k,X.T k->(w.setCells X.g (X.done.length*11) (x.vals false)).heap[k]? =w.heap[k]? :=fun k I=>A k (h.lt k I) (fun e=>h.far.2 (e▸I));have L:∀k,N k->(w.setCells X.g (X.done.length*11) (x.vals false)).heap[k]? =w.heap[k]? :=fun k J=>A k (I k J).1 (I k J).2.2;refine⟨⟨?_,?_,h.ne,⟨fun e=>?_,fun e=>?_⟩,fun k e=>?_,fun y hy=>⟨((h.done y hy).1.next R).mono fun k A=> .inl A,(h.done y hy).2⟩,(hx.next L).mono fun k A=> .inr A⟩,Y⟩
 .exact(A X.sb (h.lts _ (.inl rfl)) h.ne).trans h.blk
 .have O:=z7y (x.vals false) (X.done.length*11) _ _ h.row;have U:=z9x (x.vals false) (X.done.flatMap fun x=>x.vals true) (X.cur.vals false) rfl;rw[z8y]at U;unfold z0I.cells at O;rw[U]at O;exact O
 .rcases e with e|e
  .exact h.far.1 e
  exact(I _ e).2.1 rfl
 .rcases e with e|e
  .exact h.far.2 e
  exact(I _ e).2.2 rfl
 rw[hs];rcases e with e|e
 .exact h.lt k e
 exact(I k e).1
theorem z0H.lastAt{w:World}{X:z0I}(h:z0H w X){o:Nat}(A:o=X.done.length*11):∀j v,(X.cur.vals false).toArray[j]? =some v->w.cell? ⟨X.g,o+j,none⟩=some v:=fun j v I=>by
 subst A;exact h.at (by simpa using I)
theorem z0H.lastSome{w:World}{X:z0I}(h:z0H w X){o:Nat}(I:o=X.done.length*11):∀j,j<11->(w.cell? ⟨X.g,o+j,none⟩).isSome=true:=fun j A=>by
 have:j<(X.cur.vals false).length:=A;rw[h.lastAt I j _ (by rw[List.getElem?_toArray];exact wL this)];rfl
theorem z3w:(prog.underlying 108).map z6N=some true:=by kernel_rfl
theorem q1X:(prog.info? 108).map (fun i=>(i.zero,i.size,i.bytes))=some (some (.agg #[.slice none 0 0,.int .i64 0,.slice none 0 0,.int .i64 0,.int .i64 0,.int .i64 0,.bool false,.int .u64 0,.int .u8 0,.int .u8 0,.bool false]),11,112):=by kernel_rfl
theorem z1a:(prog.info? 108).map (·.size)=some 11:=by kernel_rfl
theorem z1J.one(x:z1J)(cl:Bool):(x.vals cl).toArray.all (·.oneCell')=true:=by simp[z1J.vals,Value.oneCell']
theorem y7B(X:z0I)(x:z1J)(T':Nat->Prop)(hn:X.done.length<=1000000000)(w:World)(h:z0H w X)(hx:x.Ok T' w)(hT:∀k,T' k->k<w.heap.size/\k≠X.sb/\k≠X.g):
  Calls prog 53 #[.pointer (some ⟨X.sb,0,none⟩),.agg (x.vals false).toArray] w fun e w'=>e= .returned (.tuple #[])/\z0H w' (X.put x T')/\z0n (fun k=>k=X.g) w w':=by
 have R:=z7 ((Loc.start w).new (.cells (x.vals false).toArray 108));have HS:=z7 (h.low R.o.low);have Y:=z7 (z8w X hn);obtain⟨o,ho⟩:=zN (X.done.length*11);rw[<-ho]at Y;have HO:=z7 ho;have HX:=z7 hx;have HT:=z7 hT;have a2:=z7 (h.lts X.g (.inr (.inl rfl)));clear h hx hT ho hn;go_enter func53,ntmps53;go_wp2_with fail;obtain⟨w1,a1,a0⟩:=R.o.named;rw[<-a1]at HS ⊢;have U:=z7 a0;clear a0 a1;refine q6 4 29 (fun D v w'=>Below w1.heap.size w1 w') wD.drew ?_;simp only[z0C];(refine q8.rd ?_ (fun D v w' N A=>?_) ?_;rotate_left;(clear A N;go_simp;try rfl);go_simp)
 refine q8.ca (.pointer (some ⟨X.g,o,none⟩)) (fun D v w' N A=>?_) ?_;(focus (have HZ:=z7 A;clear A N;skip;go_simp;go_at_call 50;refine(Y.o w' (HS.o.low HZ.o)).mono ?_;rintro e a3 ⟨rfl,hb⟩;exact⟨rfl,HZ.o.trans (hb.mono HZ.o.size)⟩));go_simp;refine q8.rl (.agg (x.vals false).toArray) (fun D v w h=>h) (fun D v w' N A=>z1E _ _ rfl _ 0 rfl _ (z1o ((U.o.call A).get 0 rfl)) z3w z1a) ?_;go_simp;(refine q8.rd ?_ (fun D v w' N A=>?_) ?_;rotate_left;(have l2:=(HS.o.low A).lts X.g (.inr (.inl rfl));clear A N;go_simp;try rfl);go_simp)
 refine q8.fin (fun v w2 A=>?_);have I:=z7 (U.o.call A);have J:=z7 (HS.o.low A);clear A;refine z0e rfl _ _ _ rfl X.g o rfl (x.vals false).toArray rfl (J.o.lastSome HO.o) J.o.row.frozenAt z1a (x.one false) ?_;obtain⟨w3,L⟩:=zN (w2.setCells X.g o (x.vals false).toArray.toList);have h3:=J.o.setLast (w':=w3) (HX.o.next fun k O=>I.o.low.block k (HT.o k O).1) (fun k O=>⟨by have:=(HT.o k O).1;have:=I.o.low.size;omega,(HT.o k O).2⟩) (by rw[L,HO.o]);have hg:w3.heap[w.heap.size]? =some (.cells (x.vals false).toArray 108 (0,0)):=(h3.2.block _ (I.o.lt 0 rfl) (fun e=>by have:=a2.o;omega)).trans (I.o.get 0 rfl);rw[<-L];have H3:=z7 h3;clear h3 L;obtain⟨x0,x1,x2,x3,x4,x5,x6,x7,x8,x9,a4,xf⟩:=z0t hg;clear hg;go_wp2
 go_end0
 exact⟨rfl,H3.o.1,(z0n.of_below I.o.low).trans H3.o.2 fun k O=> .inl O⟩
theorem y7i(l:List z0R)(p:z0R):z4h (l++ [p])=y2Y p/\z5Y (l++ [p])=true:=by
 unfold z4h z5Y;simp
theorem y6W(X:z0I)(x:z1J)(T':Nat->Prop)(hn:X.done.length<=1000000000)(w:World)(h:z0H w X)(hx:x.Ok T' w)(hT:∀k,T' k->k<w.heap.size/\k≠X.sb/\k≠X.g)(h0:0<x.p.st.length):
  Calls prog 53 #[.pointer (some ⟨X.sb,0,none⟩),.agg (x.vals true).toArray] w fun e w'=>e= .returned (.tuple #[])/\∃g' aF,z0H w' ⟨X.sb,g',aF,fun k=>X.T k\/T' k,X.done++ [x],z1Z⟩/\z0n (fun k=>k=X.g\/k=X.sb) w w'/\(g'=X.g\/w.heap.size<=g'):=by
 obtain⟨iP,aD,b1,b0,aW⟩:=oq q1X;have a7:=z7 ((Loc.start w).new (.cells (x.vals true).toArray 108));have HS:=z7 (h.low a7.o.low);have a9:=z7 (z8w X hn);have aT:=z7 hn;obtain⟨o,ho⟩:=zN (X.done.length*11);rw[<-ho]at a9;have HO:=z7 ho;have HX:=z7 hx;have HT:=z7 hT;have aS:=z7 (kh (h.lts X.sb (.inl rfl)) (h.lts X.g (.inr (.inl rfl))));clear h hx hT ho hn;go_enter func53,ntmps53;go_wp2_with fail;obtain⟨w1,aN,aG⟩:=a7.o.named;rw[<-aN]at HS ⊢;have a8:=z7 aG;clear aG aN;refine q6 4 29 (fun D v w'=>Below w1.heap.size w1 w') wD.drew ?_;simp only[z0C];(refine q8.rd ?_ (fun D v w' hD O=>?_) ?_;rotate_left;(clear O hD;go_simp;try rfl);go_simp)
 refine q8.ca (.pointer (some ⟨X.g,o,none⟩)) (fun D v w' hD O=>?_) ?_;(focus (have HZ:=z7 O;clear O hD;skip;go_simp;go_at_call 50;refine(a9.o w' (HS.o.low HZ.o)).mono ?_;rintro e b8 ⟨rfl,hb⟩;exact⟨rfl,HZ.o.trans (hb.mono HZ.o.size)⟩));go_simp;refine q8.rl (.agg (x.vals true).toArray) (fun D v w h=>h) (fun D v w' hD O=>z1E _ _ rfl _ 0 rfl _ (z1o ((a8.o.call O).get 0 rfl)) z3w z1a) ?_;go_simp;(refine q8.rd ?_ (fun D v w' hD O=>?_) ?_;rotate_left;(have l2:=(HS.o.low O).lts X.g (.inr (.inl rfl));clear O hD;go_simp;try rfl);go_simp)
 refine q8.fin (fun v w2 O=>?_);have J:=z7 (a8.o.call O);have I:=z7 (HS.o.low O);clear O;refine z0e rfl _ _ _ rfl X.g o rfl (x.vals true).toArray rfl (I.o.lastSome HO.o) I.o.row.frozenAt z1a (x.one true) ?_;obtain⟨w3,a2⟩:=zN (w2.setCells X.g o (x.vals true).toArray.toList);have a1:z0n (fun k=>k=X.g) w2 w3:=by rw[a2];exact z0n.setCells (S:=fun k=>k=X.g) rfl _ _ _
 have hg:w3.heap[w.heap.size]? =some (.cells (x.vals true).toArray 108 (0,0)):=(a1.block _ (J.o.lt 0 rfl) (fun e=>by have:=aS.o.2;omega)).trans (J.o.get 0 rfl);have U:w3.ownsRow 0 108 11 (.slice (some ⟨X.g,0,none⟩) (X.done.length+1) X.cap) (X.done.length+1) ((X.done++ [x]).flatMap fun x=>x.vals true):=by
  have h1:=z7y (x.vals true) (X.done.length*11) _ _ I.o.row;have h2:=z9x (x.vals true) (X.done.flatMap fun x=>x.vals true) (X.cur.vals false) rfl;rw[z8y]at h2;unfold z0I.cells at h1;rw[h2,<-HO.o]at h1;rw[uk,ij,a2];exact h1
 have Y:w3.heap[X.sb]? =some (.cells #[.slice (some ⟨X.g,0,none⟩) (X.done.length+1) X.cap,.int .i64 (z4h X.ser.done),.bool (z5Y X.ser.done)] 125 (0,0)):=(a1.block _ (I.o.lts X.sb (.inl rfl)) I.o.ne).trans I.o.blk;rw[<-a2];have aV:=z7 U;have aU:=z7 a1;have aZ:=z7 Y;obtain⟨x0,x1,x2,x3,x4,x5,x6,x7,x8,x9,b5,xf⟩:=z0t hg;obtain⟨s0,s1,s2,sf⟩:=cells3 Y;clear hg a2 U a1 Y;go_upto_region 4 with fail
 obtain⟨w4,R⟩:=zN ((w3.setCell ⟨X.sb,1,none⟩ (.int .i64 (z0o z0i x.p.st).last)).setCell ⟨X.sb,2,none⟩ (.bool true));rw[<-R];have N:w4.heap[X.sb]? =some (.cells #[.slice (some ⟨X.g,0,none⟩) (X.done.length+1) X.cap,.int .i64 (z0o z0i x.p.st).last,.bool true] 125 (0,0)):=by
  rw[R,z0a (z0a aZ.o 1 _) 2 _];rfl
 have aL:∀k,k≠X.sb->w4.heap[k]? =w3.heap[k]? :=fun k A=>by rw[R,q7 A,q7 A]
 have b3:w4.heap.size=w3.heap.size:=by rw[R];simp[World.setCell]
 have aA:Hid (z0n (fun k=>k=X.g\/k=X.sb) w2 w4):=z7 (by
  rw[R];exact(aU.o.mono fun k A=> .inl (.inl A)).trans ((z0n.setCell (S:=fun k=>k=X.g\/k=X.sb) _ _ (.inr rfl)).trans (z0n.setCell (S:=fun k=>k=X.g\/k=X.sb) _ _ (.inr rfl)) fun k h=> .inl h) fun k h=> .inl h)
 have aB:Hid (w4.ownsRow 0 108 11 (.slice (some ⟨X.g,0,none⟩) (X.done.length+1) X.cap) (X.done.length+1) ((X.done++ [x]).flatMap fun x=>x.vals true)):=z7 (j7 aV.o fun b hb=>by
  simp only[Value.ownBlock,wK]at hb;exact aL b (by rw[<-hb];exact I.o.ne.symm))
 obtain⟨s0,s1,s2,sf⟩:=cells3 N;have l4:=(wI.1 N).1;have aC:=z7 N;obtain⟨n,hn⟩:=zN (X.done.length+1);have b7:n<=1000000001:=by rw[hn];have:=aT.o;omega
 rw[<-hn]at aB s0;have HN:=z7 hn;clear b3 N R aL x0 x1 x2 x3 x4 x5 x6 x7 x8 x9 b5 xf hn;have aY:Hid (Rd (w4.alloc (.cells #[.slice none 0 0,.int .i64 0,.slice none 0 0,.int .i64 0,.int .i64 0,.int .i64 0,.bool false,.int .u64 0,.int .u8 0,.int .u8 0,.bool false] 108)) (.slice (some ⟨w4.heap.size,0,none⟩) 1 1) 11 1 (z1Z.vals false)):=z7 (z3t _ _ _ 1 11 wG rfl);have aX:=z7 (aB.o.alloc (.cells #[.slice none 0 0,.int .i64 0,.slice none 0 0,.int .i64 0,.int .i64 0,.int .i64 0,.bool false,.int .u64 0,.int .u8 0,.int .u8 0,.bool false] 108));go_wp2_with (at_builtin;go_loud (refine z1I rfl _ _ 123 rfl 0 108 iP _ 11 112 underlying123 aD b1 b0 aW rfl wG (some ⟨X.g,0,none⟩) n X.cap _ rfl aX.o _ 1 (z1Z.vals false) rfl aY.o wG (by simp[y5V,Value.oneCell']) (by unfold maxLen;omega) wF (uA _) ?_;intro g5 c5 w5 h5 L aJ;(have H5:=z7 h5;have aR:=z7 L;have aO:=z7 aJ;have a0:=(L.block X.sb (by simp;omega) (fun e=>by simp only[Value.ownBlock,wK]at e;exact I.o.ne e)).trans ((heap_alloc_old w4 _ l4).trans aC.o);obtain⟨t0,t1,t2,tf⟩:=cells3 a0;have aE:=z7 a0;clear a0 h5 L aJ)))
 go_end0
 obtain⟨w6,a3⟩:=zN (w5.setCell ⟨X.sb,0,none⟩ (.slice (some ⟨g5,0,none⟩) (n+1) c5));rw[<-a3];have b2:=aA.o.size;have b4:z0n (fun k=>k=X.g\/k=X.sb) w4 w5:=((z0n.of_below (q5 w4 _)).trans (z0n.grown (S:=fun k=>k=X.g\/k=X.sb) aR.o fun k A=>by simp only[Value.ownBlock,wK]at A;exact .inl A.symm) fun k A=> .inl A);have a6:z0n (fun k=>k=X.g\/k=X.sb) w2 w6:=by
  rw[a3];exact(aA.o.trans b4 fun k A=> .inl A).trans (z0n.setCell (S:=fun k=>k=X.g\/k=X.sb) _ _ (.inr rfl)) fun k A=> .inl A
 have L:g5=X.g\/w4.heap.size<g5:=by
  rcases aO.o with e|e
  .simp only[Value.ownBlock,wK]at e;exact .inl e.symm
  rw[e];right;simp
 have a5:g5≠X.sb:=by
  rcases L with e|e
  .rw[e];exact I.o.ne.symm
  omega
 have aH:∀k,X.T k\/T' k->w6.heap[k]? =w2.heap[k]? :=fun k A=>a6.block k (by
   rcases A with A|A
   .exact I.o.lt k A
   .exact wS (HT.o k A).1 J.o.low.size) (by
   rintro(rfl|rfl)
   .rcases A with A|A
    .exact I.o.far.2 A
    exact(HT.o _ A).2.2 rfl
   rcases A with A|A
   .exact I.o.far.1 A
   exact(HT.o _ A).2.1 rfl)
 have aM:(X.done++ [x]).map z1J.p=X.done.map z1J.p++ [x.p]:=by rw[uV];rfl
 have aI:=y7i (X.done.map z1J.p) x.p;have a4:(X.done++ [x]).length+1=n+1:=by rw[HN.o,wP,pP]
 refine⟨rfl,g5,c5,⟨?_,?_,a5.symm,⟨fun e=>?_,fun e=>?_⟩,fun k A=>?_,fun y hy=>?_,y3T _ _⟩,(z0n.of_below J.o.low).trans a6 fun k A=> .inl A,?_⟩
 .show w6.heap[X.sb]? =some (.cells #[.slice (some ⟨g5,0,none⟩) ((X.done++ [x]).length+1) c5,.int .i64 (z4h ((X.done++ [x]).map z1J.p)),.bool (z5Y ((X.done++ [x]).map z1J.p))] 125 (0,0));rw[a3,z0a aE.o 0 _,aM,aI.1,aI.2,a4];rfl
 .show w6.ownsRow 0 108 11 (.slice (some ⟨g5,0,none⟩) ((X.done++ [x]).length+1) c5) ((X.done++ [x]).length+1) _;rw[a4];refine j7 H5.o fun b hb=>?_;simp only[Value.ownBlock,wK]at hb;rw[a3];exact q7 (by rw[<-hb];exact a5)
 .rcases e with e|e
  .exact I.o.far.1 e
  exact(HT.o _ e).2.1 rfl
 .have b6:g5<w2.heap.size:=by
   rcases e with e|e
   .exact I.o.lt _ e
   exact wS (HT.o _ e).1 J.o.low.size
  rcases L with e5|e5
  .rcases e with e|e
   .exact I.o.far.2 (e5▸e)
   exact(HT.o _ e).2.2 e5
  omega
 .have:k<w2.heap.size:=by
   rcases A with A|A
   .exact I.o.lt _ A
   exact wS (HT.o _ A).1 J.o.low.size
  have:=a6.size;omega
 .rcases uB.1 hy with hy|hy
  .exact⟨((I.o.done y hy).1.mono fun k A=> .inl A).next aH,(I.o.done y hy).2⟩
  rw[uD]at hy;subst hy;exact⟨((HX.o.next fun k A=>J.o.low.block k (HT.o k A).1).mono fun k A=> .inr A).next aH,h0⟩
 rcases L with e|e
 .exact .inl e
 have:=J.o.low.size;exact .inr wF
theorem y9U(X:z0I)(x:z1J)(cl:Bool)(I:Nat->Prop)(U:X.done.length<=1000000000)(w:World)(h:z0H w X)(Y:x.Ok I w)(R:∀k,I k->k<w.heap.size/\k≠X.sb/\k≠X.g)(h0:0<x.p.st.length):
  Calls prog 53 #[.pointer (some ⟨X.sb,0,none⟩),.agg (x.vals cl).toArray] w fun e w'=>e= .returned (.tuple #[])/\∃L:z0I,L.sb=X.sb/\L.ser=z4F X.ser x.p cl/\z0H w' L/\z0n (fun k=>k=X.g\/k=X.sb) w w'/\(∀k,L.In k->X.In k\/I k\/w.heap.size<=k):=by
 cases cl with
 | false=>
  refine(y7B X x I U w h Y R).mono ?_;rintro e w' ⟨rfl,N,O⟩;refine⟨rfl,X.put x I,rfl,rfl,N,O.mono fun k A=> .inl (.inl A),fun k A=>?_⟩;rcases A with A|A|A|A
  .exact .inl (.inl A)
  .exact .inl (.inr (.inl A))
  .exact .inl (.inr (.inr A))
  exact .inr (.inl A)
 | true=>
  refine(y6W X x I U w h Y R h0).mono ?_;rintro e w' ⟨rfl,g',J,N,O,h3⟩;refine⟨rfl,⟨X.sb,g',J,fun k=>X.T k\/I k,X.done++ [x],z1Z⟩,rfl,?_,N,O,fun k A=>?_⟩
  .show z0T.mk ((X.done++ [x]).map z1J.p) z1Y=_;rw[uV];rfl
  rcases A with A|A|A|A
  .exact .inl (.inl A)
  .rcases h3 with e|e
   .exact .inl (.inr (.inl (A.trans e)))
   exact .inr (.inr (by rw[show k=g' from A];exact e))
  .exact .inl (.inr (.inr A))
  exact .inr (.inl A)
section
variable {α β:Type}
theorem y3O(f:α->β)(x:Int×α):∀E:List (Int×α),(mins z4e x E).map (fun p=>(p.1,f p.2))=mins z4e (x.1,f x.2) (E.map fun p=>(p.1,f p.2))
 | []=>rfl
 | y::r=>by
  unfold mins;rw[uI];simp only;split
  .rw[uI,uI]
  rw[uI,y3O f x r]
theorem q1l(f:α->β)(k:Int)(v:α)(E:List (Int×α)):(z1d z4e k v E).map (fun p=>(p.1,f p.2))=z1d z4e k (f v) (E.map fun p=>(p.1,f p.2)):=by
 unfold z1d;rw[y3O]
 congr 1
 unfold z2x;rw[ko];rfl
def z9H(E:List (Int×α)):Prop:=E.Pairwise fun p q=>p.1≠q.1
theorem z9H.same{E:List (Int×α)}(h:z9H E){p q:Int×α}(L:p∈E)(N:q∈E)(e:p.1=q.1):p=q:=by
 induction E with
 | nil=>cases L
 | cons y r ih=>
  obtain⟨J,O⟩:=uj.1 h;rcases wy.1 L with rfl|I
  .rcases wy.1 N with rfl|A
   .rfl
   exact absurd e (J q A)
  rcases wy.1 N with rfl|A
  .exact absurd e.symm (J p I)
  exact ih O I A
theorem z9H.get{E:List (Int×α)}(h:z9H E){k:Int}{v:α}(A:(k,v)∈E):z0J k E=some v:=by
 cases hg:z0J k E with
 | none=>exact absurd rfl (z8C hg _ A)
 | some u=>
  have:=h.same A (z1q hg) rfl;rw[wk]at this;rw[this.2]
theorem z9H.mins{x:Int×α}:∀{E:List (Int×α)},z9H E->(∀p∈E,p.1≠x.1)->z9H (Go.Proofs.YtabnnclcpkdkeaaGreatDoor.mins z4e x E)
 | [],_,_=>qn _ _
 | y::r,h,hx=>by
  obtain⟨I,J⟩:=uj.1 h;unfold Go.Proofs.YtabnnclcpkdkeaaGreatDoor.mins;split
  .exact uj.2 ⟨fun q A=>(hx q A).symm,h⟩
  refine uj.2 ⟨fun q A=>?_,z9H.mins J fun p L=>hx p (uJ _ L)⟩;rcases(y2H z4e x q r).1 A with rfl|A
  .exact hx y uK
  exact I q A
theorem z9H.put{E:List (Int×α)}(h:z9H E)(k:Int)(v:α):z9H (z1d z4e k v E):=by
 unfold z1d;refine z9H.mins (List.Pairwise.filter _ h) fun p A=>?_;exact((z2L k p E).1 A).2
theorem q1x{E:List (Int×α)}{k:Int}(h:z0J k E=none):z2x k E=E:=dv.2 fun p A=>by simpa using z8C h p A
theorem q4Y{E:List (Int×α)}(h:z9H E)(k:Int)(v:α):(z1d z4e k v E).length=if z0J k E=none then E.length+1 else E.length:=by
 unfold z1d;rw[z6F];split
 .rename_i A;rw[q1x A]
 rename_i A;cases hg2:z0J k E with
 | none=>exact absurd hg2 A
 | some u=>
  have L:=z1q hg2;have R:((k,u)::z2x k E).Perm E:=by
   clear A hg2
   induction E with
   | nil=>cases L
   | cons y r ih=>
    obtain⟨J,O⟩:=uj.1 h;unfold z2x;rw[ot];rcases wy.1 L with rfl|N
    .have e:(r.filter fun q=>decide (q.1≠k))=r:=dv.2 fun q U=>by simpa using(J q U).symm
     rw[wR wH,e]
    have I:y.1≠k:=J _ N;rw[wZ (by simpa using I)];exact(qO y _ _).trans ((ih O N).cons y)
  have:=R.length_eq;simpa using this
end
theorem z3X.uniq{w:World}{A:Nat}{E:List (Int×z0I)}(h:y0S w A E):z9H E:=(z3X.mok h z4S).1.1
def z0h.set(b:z0h)(id:Nat)(s:z0T):z0h:=⟨b.most,b.size,z1d z4e (id:Int) s b.all⟩
theorem z0w.upd{w w':World}{Y mb B:Nat}{E:List (Int×z0I)}{b:z0h}{S:Nat->Prop}(h:z0w w Y mb E b B S)(id:Nat)(U:z0I)(a5:z0H w' U)(a6:y0S w' mb (z1d z4e (id:Int) U E))(hs:w.heap.size<=w'.heap.size)
  (a2:∀k,U.In k->(∃X,z0J (id:Int) E=some X/\X.In k)\/w.heap.size<=k)
  (a0:∀k,S k->k≠mb->(∀X,z0J (id:Int) E=some X->¬X.In k)->w'.heap[k]? =w.heap[k]?) (a4:z0J (id:Int) E=none->E.length<b.most):
  ∃S',z0w w' Y mb (z1d z4e (id:Int) U E) (b.set id U.ser) B S'/\∀k,S' k->S k\/w.heap.size<=k:=by
 have hU:=h.map.uniq;have J:∀X,z0J (id:Int) E=some X->∀k,X.In k->S k/\k≠Y/\k≠mb:=fun X O k A=>(h.each _ (z1q O)).2 k A;have a8:∀p∈E,p.1≠(id:Int)->∀k,p.2.In k->w'.heap[k]? =w.heap[k]? :=fun p L R k A=>a0 k ((h.each p L).2 k A).1 ((h.each p L).2 k A).2.2 fun X O I=>h.apart p L _ (z1q O) R k A I;have N:∀k,U.In k->k≠Y/\k≠mb/\B<=k/\k<w'.heap.size:=fun k A=>by
  refine⟨?_,?_,?_,a5.lts k A⟩<;>rcases a2 k A with⟨X,O,I⟩|a1
  .exact(J X O k I).2.1
  .have:=(h.lo Y h.own.1).2;omega
  .exact(J X O k I).2.2
  .have:=(h.lo mb h.own.2).2;omega
  .exact(h.lo k (J X O k I).1).1
  have:=(h.lo Y h.own.1);omega
 refine⟨fun k=>S k\/U.In k,⟨?_,a6,h.ne,⟨.inl h.own.1,.inl h.own.2⟩,fun p L=>?_,fun p L q hq R k A a3=>?_,fun k A=>?_,?_,⟨?_,h.few.2⟩,h.size⟩,fun k A=>?_⟩
 .refine(a0 Y h.own.1 h.ne fun X O A=>?_).trans h.blk;exact(J X O Y A).2.1 rfl
 .rcases(z2d z4e _ _ p E).1 L with rfl|⟨L,R⟩
  .exact⟨a5,fun k A=>⟨.inr A,(N k A).1,(N k A).2.1⟩⟩
  exact⟨(h.each p L).1.keep (a8 p L R) hs,fun k A=>⟨.inl ((h.each p L).2 k A).1,((h.each p L).2 k A).2⟩⟩
 .have key:∀r∈E,r.1≠(id:Int)->r.2.In k->¬U.In k:=fun r hr aB a9 I=>by
   rcases a2 k I with⟨X,O,I⟩|a1
   .exact h.apart r hr _ (z1q O) aB k a9 I
   have:=(h.lo k ((h.each r hr).2 k a9).1).2;omega
  rcases(z2d z4e _ _ p E).1 L with rfl|⟨L,aA⟩
  .rcases(z2d z4e _ _ q E).1 hq with rfl|⟨hq,a7⟩
   .exact R rfl
   exact key q hq a7 a3 A
  rcases(z2d z4e _ _ q E).1 hq with rfl|⟨hq,a7⟩
  .exact key p L aA A a3
  exact h.apart p L q hq R k A a3
 .rcases A with A|A
  .exact⟨(h.lo k A).1,wS (h.lo k A).2 hs⟩
  exact⟨(N k A).2.2.1,(N k A).2.2.2⟩
 .show z1d z4e (id:Int) U.ser b.all=_;rw[h.all,<-q1l]
 .show(z1d z4e (id:Int) U E).length<=b.most;rw[q4Y hU];have:=h.few.1;split
  .rename_i hg;have:=a4 hg;omega
  exact this
 rcases A with A|A
 .exact .inl A
 rcases a2 k A with⟨X,O,I⟩|a1
 .exact .inl (J X O k I).1
 exact .inr a1
section
variable {P:Program} {w:World} {a:Act} {o:Oper} {K:Act->World->Prop} {Q:Exit->Act->World->Prop}
theorem y1q(t ty e:TypeId)(i:TypeInfo)(z:Value)(J N:Nat)(ht:P.underlying t=some (.slice e))(hi:P.info? e=some i)(hz:i.zero=some z)
  (a0:i.size=J) (a4:i.bytes=N) (a7:z.cells.size=J)
  (b:Option Addr) (n:Nat) (xs:List Value) (U:Rd w (.slice b n n) J n xs)
  (ad:Addr) (m c:Nat) (A:List Value) (hl:A.length=m*J) (R:∀j u,A[j]? =some u->w.cell? (ad.add j)=some u) (hm:0<m)
  (a1:n+m<=maxLen) (L:(n+m)*N<=140737488355328):
  ∃c' w',(Builtin.append_ #[t,t] ty #[.slice b n n,.slice (some ad) m c]).run P w= .ok (.slice (some ⟨w.heap.size,0,none⟩) (n+m) c') w'/\w'.ownsRow w.heap.size e J (.slice (some ⟨w.heap.size,0,none⟩) (n+m) c') (n+m) (xs++A)/\Below w.heap.size w w':=by
 subst a0;subst a4;have a2:n+m<=9223372036854775807:=by simp only[maxLen]at a1;omega
 have Y:(xs++A).length=(n+m)*i.size:=by rw[wP,U.1,hl,ic]
 have O:∀(I:Nat),I<n+m->
   (w.drew.alloc (.cells (xs.toArray++A.toArray++Builtin.zeroCells z.cells (grownCap w (n+m) I e - (n+m))) e)).ownsRow w.heap.size e i.size
    (.slice (some ⟨w.heap.size,0,none⟩) (n+m) (grownCap w (n+m) I e)) (n+m) (xs++A)/\
   Below w.heap.size w (w.drew.alloc (.cells (xs.toArray++A.toArray++Builtin.zeroCells z.cells (grownCap w (n+m) I e - (n+m))) e)):=by
  intro I ho;have a6:=grownCap_ge w (n+m) I e;have a5:grownCap w (n+m) I e<=maxLen:=rm w (n+m) I e a1;refine⟨⟨Y,.inr ⟨w.heap.size,_,_,rfl,wJ _,heap_alloc_new w.drew _,a6,a5,?_,?_⟩⟩,(q5 w.drew _).trans wD |>fun h=>⟨h.os,h.tape,h.output,h.size,h.block⟩⟩
  .simp only[Array.size_append,oz,size_zeroCells,a7,U.1,hl,<-ic]
   congr 1
   omega
  simp only[Array.toList_append,wj];rw[<-wj,<-Y];exact List.take_left
 rcases U.2 with⟨he,a8⟩|⟨a3,c2,he,hc⟩
 .simp only[wO]at he;obtain⟨rfl,rfl, -⟩:=he;have hx:xs= []:=wT (by simpa using U.1);subst hx;obtain⟨g1,g2⟩:=O 0 wF;refine⟨_,_,?_,g1,g2⟩;have:=run_append_nil (P:=P) w t ty e i z ht hi hz ad m c A hl R hm wF (by have hb:=L;simp only[uZ]at hb;omega);simpa using this
 simp only[wO,oP]at he;obtain⟨rfl,rfl⟩:=he;obtain⟨g1,g2⟩:=O n wF;exact⟨_,_,run_append_grow (P:=P) w t ty e i z ht hi hz a3 n n xs U.1 hc ad m c A hl R wF wF (growslice_fits wF L),g1,g2⟩
theorem y2P(s x:Operand)(t:TypeId)
  (ho:o.op= .call {callee:= .builtin .append,args:= #[s,x],argTypes:= #[t,t]})
  (e:TypeId) (i:TypeInfo) (z:Value) (A I:Nat) (ht:P.underlying t=some (.slice e)) (hi:P.info? e=some i) (hz:i.zero=some z)
  (O:i.size=A) (Y:i.bytes=I) (a1:z.cells.size=A)
  (b:Option Addr) (n:Nat) (xs:List Value) (hs:a.eval s= .slice b n n) (a0:Rd w (.slice b n n) A n xs)
  (R:Addr) (m c:Nat) (J:List Value) (hx:a.eval x= .slice (some R) m c) (hl:J.length=m*A) (N:∀j u,J[j]? =some u->w.cell? (R.add j)=some u) (hm:0<m)
  (U:n+m<=maxLen) (L:(n+m)*I<=140737488355328)
  (h:∀c' w',w'.ownsRow w.heap.size e A (.slice (some ⟨w.heap.size,0,none⟩) (n+m) c') (n+m) (xs++J)->Below w.heap.size w w'->K (a.put o.dst (.slice (some ⟨w.heap.size,0,none⟩) (n+m) c')) w'):o.wp P a w K Q:=by
 obtain⟨c',w',hr,h2,h3⟩:=y1q (P:=P) (w:=w) t o.type e i z A I ht hi hz O Y a1 b n xs a0 R m c J hl N hm U L;unfold Oper.wp execOp;simp only[ho,resolve,invoke,builtin,gh,gi,me,List.map_toArray,uI,pQ,hs,hx,hr];exact h c' w' h2 h3
end

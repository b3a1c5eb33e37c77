/- The walks of xor's Sound. -/
import Derived.Test.YtabnnclcpkdkeaaGreatDoorZJ
import Derived.Test.YtabnnclcpkdkeaaGreatDoorZK
namespace Go.Proofs.YtabnnclcpkdkeaaGreatDoor
open Go.Proofs.Tryz
set_option linter.all false
set_option maxRecDepth 100000
set_option maxHeartbeats 0
open Go.RowKit
theorem y5A(J:Bool)(prev A width:Nat)(hl:A<256)(hw:width<256)(w:World):
  Calls prog 164 #[.agg #[.bool J,.int .u64 prev,.int .u8 A,.int .u8 width]] w fun e w'=>e= .returned (.bool (z1x ⟨J,prev,A,width⟩))/\Below w.heap.size w w':=by
 have hb:=q5 w (.cells #[.bool J,.int .u64 prev,.int .u8 A,.int .u8 width] 104);have I:=z7 hb;clear hb;cases J with
 | false=>
  have L:z1x ⟨false,prev,A,width⟩=decide (prev=0/\A=0/\width=0):=by unfold z1x zeroV;simp
  rw[L];clear L;by_cases O:prev=0
  .subst O;by_cases R:A=0
   .subst R;by_cases U:width=0
    .subst U;go_enter func164,ntmps164;go_wp2;go_ret;exact⟨rfl,I.o⟩
    have N:((width:Int)==0)=false:=(by simp;omega);go_enter func164,ntmps164;go_wp2;go_ret;exact⟨by rw[wC];rfl,I.o⟩
   have N:((A:Int)==0)=false:=(by simp;omega);go_enter func164,ntmps164;go_wp2;go_ret;exact⟨by rw[wC];rfl,I.o⟩
  have N:((prev:Int)==0)=false:=(by simp;omega);go_enter func164,ntmps164;go_wp2;go_ret;exact⟨by rw[wC];rfl,I.o⟩
 | true=>
  have a0:IntKind.i64.wrap ((A:Int)+width)=(A:Int)+width:=z0l wF wF;have L:z1x ⟨true,prev,A,width⟩=decide (A<=31/\A+width<=64/\(0<width\/A=0)):=rfl;rw[L];clear L;by_cases O:A<=31
  .have Y:decide ((A:Int)<=31)=true:=hQ;by_cases R:A+width<=64
   .have d2:decide ((A:Int)+width<=64)=true:=hQ;by_cases U:0<width
    .go_enter func164,ntmps164;go_wp2;go_ret;exact⟨by rw[hQ];rfl,I.o⟩
    obtain rfl:width=0:=wF
    by_cases h4:A=0
    .subst h4;go_enter func164,ntmps164;go_wp2;go_ret;exact⟨rfl,I.o⟩
    have d4:((A:Int)==0)=false:=(by simp;omega);go_enter func164,ntmps164;go_wp2;go_ret;exact⟨by rw[wC];rfl,I.o⟩
   have d2:decide ((A:Int)+width<=64)=false:=wC;go_enter func164,ntmps164;go_wp2;go_ret;exact⟨by rw[wC];rfl,I.o⟩
  have Y:decide ((A:Int)<=31)=false:=wC;go_enter func164,ntmps164;go_wp2;go_ret;exact⟨by rw[wC];rfl,I.o⟩
theorem q4X(I:Bool)(prev A width:Nat)(L:A<256)(N:width<256)(w:World):
  Calls prog 166 #[.agg #[.bool I,.int .u64 prev,.int .u8 A,.int .u8 width]] w fun e w'=>e= .returned (.agg #[.int .i64 A,.int .i64 width])/\Below w.heap.size w w':=by
 have J:=z7 (((Loc.start w).new (.cells #[.bool I,.int .u64 prev,.int .u8 A,.int .u8 width] 104)).new' (.cells #[.int .i64 A,.int .i64 width] 298) (n:=w.heap.size+1) wH);go_enter func166,ntmps166;go_wp2;refine wU (y7M rfl _ _ (w.heap.size+1) _ _ rfl (J.o.get 0 rfl) rfl) rfl ?_;exact⟨rfl,J.o.low⟩
theorem y1D(A I:Nat)(h:A+I<=64)(w:World):
  Calls prog 168 #[.agg #[.int .i64 A,.int .i64 I]] w fun e w'=>e= .returned (.int .i64 (64 - A - I:Nat))/\Below w.heap.size w w':=by
 have J:=z7 (q5 w (.cells #[.int .i64 A,.int .i64 I] 298));have L:IntKind.i64.wrap (64 - (A:Int))=64 - A:=z0l wF wF;have N:IntKind.i64.wrap (64 - (A:Int) - I)=((64 - A - I:Nat):Int):=by rw[z0l wF wF];omega
 go_enter func168,ntmps168;go_wp2;go_ret;exact⟨rfl,J.o⟩
theorem q3w(A I:Int)(O:0<=A)(R:A<=1000)(U:0<=I)(Y:I<=1000)(w:World):
  Calls prog 168 #[.agg #[.int .i64 A,.int .i64 I]] w fun e w'=>e= .returned (.int .i64 (64 - A - I))/\Below w.heap.size w w':=by
 have J:=z7 (q5 w (.cells #[.int .i64 A,.int .i64 I] 298));have L:IntKind.i64.wrap (64 - A)=64 - A:=z0l wF wF;have N:IntKind.i64.wrap (64 - A - I)=64 - A - I:=z0l wF wF;go_enter func168,ntmps168;go_wp2;go_ret;exact⟨rfl,J.o⟩
theorem y3A(d:Nat)(hd:d<18446744073709551616)(h0:d≠0)(w:World)(hT:z1H w):
  Calls prog 169 #[.int .u64 d] w fun e w'=>e= .returned (.agg #[.int .i64 (z3E d:Nat),.int .i64 (z2n d:Nat)])/\Below w.heap.size w w':=by
 have J:=q4f hd h0;have N:=z7 (q3j d hd);have O:=z7 (q6V d hd);obtain⟨L,hL⟩:=zN (lz d);obtain⟨T,I⟩:=zN (tz d);obtain⟨A,R⟩:=zN (z3E d);obtain⟨S,hS⟩:=zN (z2n d);have Y:A=min L 31:=by rw[R,hL];rfl
 have a0:S=64 - A - T:=by rw[hS,R,I];rfl
 rw[<-hL]at N J;rw[<-I]at O J;rw[<-R,<-hS];have hm:min (L:Int) 31=(A:Int):=wF
 have e1:IntKind.i64.wrap (64 - (A:Int))=64 - A:=z0l wF wF;have e2:IntKind.i64.wrap (64 - (A:Int) - T)=(S:Int):=by rw[z0l wF wF];omega
 have U:=z7 (hT.low (q5 w (.cells #[.int .i64 0,.int .i64 0] 298)));have HL:=z7 ((Loc.start w).new (.cells #[.int .i64 A,.int .i64 S] 298));clear hL I R hS Y a0 J h0 hT;go_enter func169,ntmps169;go_wp2_with fail;refine(N.o _).mono ?_;rintro e w1 ⟨rfl,rfl⟩;go_wp2_with fail;refine(O.o _ U.o).mono ?_;rintro e w1 ⟨rfl,rfl⟩;go_wp2;refine wU (y7M rfl _ _ w.heap.size _ _ rfl (HL.o.get 0 rfl) rfl) rfl ?_;exact⟨rfl,HL.o.low⟩
theorem q3G(J N d:Nat)(a6:J+N<=64)(hd:d<18446744073709551616)(w:World)(hT:z1H w):
  Calls prog 167 #[.agg #[.int .i64 J,.int .i64 N],.int .u64 d] w fun e w'=>e= .returned (.bool (z5s J N d))/\Below w.heap.size w w':=by
 have a0:=z7 (q3j d hd);have a2:=z7 (q6V d hd);unfold z5s;obtain⟨L,hL⟩:=zN (lz d);obtain⟨T,a5⟩:=zN (tz d);rw[<-hL]at a0 ⊢;rw[<-a5]at a2 ⊢;obtain⟨W1,a3⟩:=zN (w.alloc (.cells #[.int .i64 J,.int .i64 N] 298));have HL:=(Loc.start w).new (.cells #[.int .i64 J,.int .i64 N] 298);rw[<-a3]at HL;have HL:=z7 HL;have a4:Hid (∀w',Below W1.heap.size W1 w'->z1H w'):=z7 fun w' hb=>hT.low (HL.o.call hb).low;have O:Hid (∀w',Below W1.heap.size W1 w'->w'.cell? ⟨w.heap.size,0,none⟩=some (.int .i64 J)/\w'.cell? ⟨w.heap.size,1,none⟩=some (.int .i64 N)):=z7 fun w' hb=>by
  obtain⟨c0,c1,cf⟩:=z0m ((HL.o.call hb).get 0 rfl);exact⟨c0,c1⟩
 have a1:=z7 (y1D J N a6);obtain⟨D0,I⟩:=zN (64 - J - N);rw[<-I]at a1 ⊢;have HW:=z7 a3;clear hL a5 I hT a3;by_cases h0:0<N
 .have n0:decide (0<N)=true:=hQ;by_cases h1:J<=L
  .have n1:decide (J<=L)=true:=hQ;by_cases h2:D0<=T
   .have n2:decide (D0<=T)=true:=hQ;have hr:decide (0<N/\J<=L/\D0<=T)=true:=hQ;rw[hr];clear hr h0 h1 h2;go_enter func167,ntmps167;go_upto_region 1 with fail
    rw[<-HW.o];refine q6 17 22 (fun D v w'=>Below W1.heap.size W1 w') wD.drew ?_;simp only[z0C];iterate 4 (refine q8.rd ?_ (fun D v w' I A=>?_) ?_;rotate_left;(obtain⟨x0,x1⟩:=O.o w' A;clear A I;go_simp;try rfl);go_simp)
    (refine q8.rd ?_ (fun D v w' I A=>?_) ?_;rotate_left;(obtain⟨x0,x1⟩:=O.o w' A;clear A I;go_simp;try rfl);go_simp)
    refine q8.ca (.int .i64 (L:Nat)) (fun D v w' I A=>?_) ?_
    .have U:=z7 A;clear A I;go_simp;go_at_call 191;refine(a0.o w').mono ?_;rintro e Y ⟨rfl,R⟩;exact⟨rfl,by rw[R];exact U.o⟩
    go_simp;iterate 3 (refine q8.rd ?_ (fun D v w' I A=>?_) ?_;rotate_left;(obtain⟨x0,x1⟩:=O.o w' A;clear A I;go_simp;try rfl);go_simp)
    iterate 2 (refine q8.rd ?_ (fun D v w' I A=>?_) ?_;rotate_left;(obtain⟨x0,x1⟩:=O.o w' A;clear A I;go_simp;try rfl);go_simp)
    (refine q8.rd ?_ (fun D v w' I A=>?_) ?_;rotate_left;(obtain⟨x0,x1⟩:=O.o w' A;clear A I;go_simp;try rfl);go_simp)
    refine q8.ca (.int .i64 T) (fun D v w' I A=>?_) ?_
    .have U:=z7 A;clear A I;go_simp;go_at_call 192;refine(a2.o w' (a4.o w' U.o)).mono ?_;rintro e Y ⟨rfl,R⟩;exact⟨rfl,by rw[R];exact U.o⟩
    go_simp;(refine q8.rd ?_ (fun D v w' I A=>?_) ?_;rotate_left;(obtain⟨x0,x1⟩:=O.o w' A;clear A I;go_simp;try rfl);go_simp)
    refine q8.ca (.int .i64 D0) (fun D v w' I A=>?_) ?_
    .have U:=z7 A;clear A I;go_simp;go_at_call 168;refine(a1.o w').mono ?_;rintro e Y ⟨rfl,R⟩;exact⟨rfl,U.o.trans (R.mono U.o.size)⟩
    go_simp;iterate 2 (refine q8.rd ?_ (fun D v w' I A=>?_) ?_;rotate_left;(obtain⟨x0,x1⟩:=O.o w' A;clear A I;go_simp;try rfl);go_simp)
    refine q8.fin (fun v w5 A=>?_);have HF:=z7 ((HL.o.call A).low);clear A;go_wp2;go_ret;exact⟨rfl,HF.o⟩
   have n2:decide (D0<=T)=false:=wC;have hr:decide (0<N/\J<=L/\D0<=T)=false:=wC;rw[hr];clear hr h0 h1 h2;go_enter func167,ntmps167;go_upto_region 1 with fail
   rw[<-HW.o];refine q6 17 22 (fun D v w'=>Below W1.heap.size W1 w') wD.drew ?_;simp only[z0C];iterate 4 (refine q8.rd ?_ (fun D v w' I A=>?_) ?_;rotate_left;(obtain⟨x0,x1⟩:=O.o w' A;clear A I;go_simp;try rfl);go_simp)
   (refine q8.rd ?_ (fun D v w' I A=>?_) ?_;rotate_left;(obtain⟨x0,x1⟩:=O.o w' A;clear A I;go_simp;try rfl);go_simp)
   refine q8.ca (.int .i64 (L:Nat)) (fun D v w' I A=>?_) ?_
   .have U:=z7 A;clear A I;go_simp;go_at_call 191;refine(a0.o w').mono ?_;rintro e Y ⟨rfl,R⟩;exact⟨rfl,by rw[R];exact U.o⟩
   go_simp;iterate 3 (refine q8.rd ?_ (fun D v w' I A=>?_) ?_;rotate_left;(obtain⟨x0,x1⟩:=O.o w' A;clear A I;go_simp;try rfl);go_simp)
   iterate 2 (refine q8.rd ?_ (fun D v w' I A=>?_) ?_;rotate_left;(obtain⟨x0,x1⟩:=O.o w' A;clear A I;go_simp;try rfl);go_simp)
   (refine q8.rd ?_ (fun D v w' I A=>?_) ?_;rotate_left;(obtain⟨x0,x1⟩:=O.o w' A;clear A I;go_simp;try rfl);go_simp)
   refine q8.ca (.int .i64 T) (fun D v w' I A=>?_) ?_
   .have U:=z7 A;clear A I;go_simp;go_at_call 192;refine(a2.o w' (a4.o w' U.o)).mono ?_;rintro e Y ⟨rfl,R⟩;exact⟨rfl,by rw[R];exact U.o⟩
   go_simp;(refine q8.rd ?_ (fun D v w' I A=>?_) ?_;rotate_left;(obtain⟨x0,x1⟩:=O.o w' A;clear A I;go_simp;try rfl);go_simp)
   refine q8.ca (.int .i64 D0) (fun D v w' I A=>?_) ?_
   .have U:=z7 A;clear A I;go_simp;go_at_call 168;refine(a1.o w').mono ?_;rintro e Y ⟨rfl,R⟩;exact⟨rfl,U.o.trans (R.mono U.o.size)⟩
   go_simp;iterate 2 (refine q8.rd ?_ (fun D v w' I A=>?_) ?_;rotate_left;(obtain⟨x0,x1⟩:=O.o w' A;clear A I;go_simp;try rfl);go_simp)
   refine q8.fin (fun v w5 A=>?_);have HF:=z7 ((HL.o.call A).low);clear A;go_wp2;go_ret;exact⟨rfl,HF.o⟩
  have n1:decide (J<=L)=false:=wC;have hr:decide (0<N/\J<=L/\D0<=T)=false:=wC;rw[hr];clear hr h0 h1;go_enter func167,ntmps167;go_upto_region 1 with fail
  rw[<-HW.o];refine q6 17 22 (fun D v w'=>Below W1.heap.size W1 w') wD.drew ?_;simp only[z0C];iterate 4 (refine q8.rd ?_ (fun D v w' I A=>?_) ?_;rotate_left;(obtain⟨x0,x1⟩:=O.o w' A;clear A I;go_simp;try rfl);go_simp)
  (refine q8.rd ?_ (fun D v w' I A=>?_) ?_;rotate_left;(obtain⟨x0,x1⟩:=O.o w' A;clear A I;go_simp;try rfl);go_simp)
  refine q8.ca (.int .i64 (L:Nat)) (fun D v w' I A=>?_) ?_
  .have U:=z7 A;clear A I;go_simp;go_at_call 191;refine(a0.o w').mono ?_;rintro e Y ⟨rfl,R⟩;exact⟨rfl,by rw[R];exact U.o⟩
  go_simp;iterate 3 (refine q8.rd ?_ (fun D v w' I A=>?_) ?_;rotate_left;(obtain⟨x0,x1⟩:=O.o w' A;clear A I;go_simp;try rfl);go_simp)
  iterate 2 (refine q8.rd ?_ (fun D v w' I A=>?_) ?_;rotate_left;(obtain⟨x0,x1⟩:=O.o w' A;clear A I;go_simp;try rfl);go_simp)
  iterate 5 (refine q8.sk (fun D v w h=>h) ?_;go_simp)
  (refine q8.rd ?_ (fun D v w' I A=>?_) ?_;rotate_left;(obtain⟨x0,x1⟩:=O.o w' A;clear A I;go_simp;try rfl);go_simp)
  refine q8.fin (fun v w5 A=>?_);have HF:=z7 ((HL.o.call A).low);clear A;go_wp2;go_ret;exact⟨rfl,HF.o⟩
 have n0:decide (0<N)=false:=wC;have hr:decide (0<N/\J<=L/\D0<=T)=false:=wC;rw[hr];clear hr h0;go_enter func167,ntmps167;go_upto_region 1 with fail
 rw[<-HW.o];refine q6 17 22 (fun D v w'=>Below W1.heap.size W1 w') wD.drew ?_;simp only[z0C];iterate 4 (refine q8.rd ?_ (fun D v w' I A=>?_) ?_;rotate_left;(obtain⟨x0,x1⟩:=O.o w' A;clear A I;go_simp;try rfl);go_simp)
 iterate 5 (refine q8.sk (fun D v w h=>h) ?_;go_simp)
 iterate 2 (refine q8.rd ?_ (fun D v w' I A=>?_) ?_;rotate_left;(obtain⟨x0,x1⟩:=O.o w' A;clear A I;go_simp;try rfl);go_simp)
 iterate 5 (refine q8.sk (fun D v w h=>h) ?_;go_simp)
 (refine q8.rd ?_ (fun D v w' I A=>?_) ?_;rotate_left;(obtain⟨x0,x1⟩:=O.o w' A;clear A I;go_simp;try rfl);go_simp)
 refine q8.fin (fun v w5 A=>?_);have HF:=z7 ((HL.o.call A).low);clear A;go_wp2;go_ret;exact⟨rfl,HF.o⟩
theorem y6O(a:Option Addr)(n c:Nat)(l:List Bool)(b:List UInt8)(J:Bool)(prev A width:Nat)(a0:A<256)(hw:width<256)(hs:z1x ⟨J,prev,A,width⟩=true)(w:World)(h:z0r w a n c l b)(hl:l.length<=549755813888):
  Calls prog 138 #[.agg #[.slice a n c,.int .i64 l.length],.agg #[.bool J,.int .u64 prev,.int .u8 A,.int .u8 width]] w fun e w'=>e= .returned (.int .u16 0)/\Below w.heap.size w w':=by
 obtain⟨N,hN⟩:=zN l.length;rw[<-hN];have a2:=z7 (z2V h.bits);have I:=z7 h.len;have a4:n<=70368744177665:=by have:=h.bits.len;have:=h.len;omega
 have a3:N<=549755813888:=wF
 have HS:=z7 (y5A J prev A width a0 hw);rw[hs]at HS;have H:=z7 h;have HN:=z7 hN;clear h hN hs hl a0 hw;have O:=z7 (((Loc.start w).new (.cells #[.slice a n c,.int .i64 (N:Nat)] 49)).new' (.cells #[.bool J,.int .u64 prev,.int .u8 A,.int .u8 width] 104) (n:=w.heap.size+1) wH);go_enter func138,ntmps138;go_wp2_with fail;have L:=z2X a c b N _ (by have:=(H.o.low O.o.low).rd;rw[I.o]at this;exact this) (by have:=I.o;omega) wF wF;rw[<-I.o,HN.o,a2.o,<-HN.o]at L;refine L.mono ?_;rintro e w2 ⟨rfl,U⟩;have R:=z7 (O.o.call U);clear U L;obtain⟨c0,c1,c2,c3,cf⟩:=z1y (R.o.get 0 rfl);go_wp2_with fail;refine(HS.o _).mono ?_;rintro e w3 ⟨rfl,Y⟩;have a1:=z7 (R.o.call Y);clear Y;go_wp2;go_ret;exact⟨rfl,a1.o.low⟩
def z3D(s:z4N)(v:Nat):List (Nat×Nat):=
 if s.has=false then [(v,64)]
 else if v^^^s.prev=0 then [(0,1)]
 else if z5s s.lead s.width (v^^^s.prev)then [(2,2),((v^^^s.prev)/2^(64 - s.lead - s.width),s.width)]
 else [(3,2),(z3E (v^^^s.prev),5),(z2n (v^^^s.prev) - 1,6),((v^^^s.prev)/2^tz (v^^^s.prev),z2n (v^^^s.prev))]
def z4n(ps:List (Nat×Nat)):List Bool:=ps.flatMap fun p=>z3o p.1 p.2
theorem q2i(s:z4N)(v:Nat):z4n (z3D s v)=(z5r s v).1:=by
 unfold z3D z5r;split
 .simp[z4n]
 split
 .rfl
 split
 .simp only[z4n,uH,eQ,ue];rfl
 simp only[z4n,uH,eQ,ue,wj];rfl
theorem q2v{s:z4N}{v:Nat}(I:z1x s=true)(N:v<2^64)(A:s.prev<2^64):∀p∈z3D s v,p.1<18446744073709551616/\p.2<=64:=by
 have L:=y2f N A;unfold z3D;split
 .intro p A;simp only[uD]at A;subst A;exact⟨N,wJ _⟩
 rename_i J;have J:s.has=true:=by simpa using J
 unfold z1x at I;rw[wZ J]at I;have I:=ua I;split
 .intro p A;simp only[uD]at A;subst A;exact⟨wG,wG⟩
 rename_i hd;split
 .intro p A;simp only[wy,ou,kg]at A;rcases A with rfl|rfl
  .exact⟨wG,wG⟩
  exact⟨pS (dd _ _) L,by simp only;omega⟩
 have O:=z9p L hd;intro p A;simp only[wy,ou,kg]at A;rcases A with rfl|rfl|rfl|rfl
 .exact⟨wG,wG⟩
 .exact⟨by simp only;omega,wH⟩
 .exact⟨by simp only;omega,wH⟩
 exact⟨pS (dd _ _) L,by simp only;omega⟩
def z6Z(ps:List (Nat×Nat)):List Value:=ps.flatMap fun p=> [.int .u64 (p.1:Nat),.int .i64 (p.2:Nat)]
def y0I(s:z4N)(v:Nat)(w:World)(e:Ending)(w':World):Prop:=
 ∃g cs,e= .returned (.tuple #[.slice (some ⟨g,0,none⟩) (z3D s v).length (z3D s v).length,.agg #[.bool (z5r s v).2.has,.int .u64 ((z5r s v).2.prev:Nat),.int .u8 ((z5r s v).2.lead:Nat),.int .u8 ((z5r s v).2.width:Nat)]])/\
  w'.heap[g]? =some (.cells cs 264 (0,0))/\cs.toList=z6Z (z3D s v)/\w.heap.size<=g/\Below w.heap.size w w'
theorem y0C{s A:z4N}{v g n:Nat}{J:List (Nat×Nat)}{w w':World}{cs:Array Value}(h:z3D s v=J/\(z5r s v).2=A)(N:w'.heap[g]? =some (.cells cs 264 (0,0)))(O:n=J.length)(L:cs.toList=z6Z J)(I:w.heap.size<=g)(hb:Below w.heap.size w w'):
  y0I s v w (.returned (.tuple #[.slice (some ⟨g,0,none⟩) n n,.agg #[.bool A.has,.int .u64 (A.prev:Nat),.int .u8 (A.lead:Nat),.int .u8 (A.width:Nat)]])) w':=by
 obtain⟨rfl,rfl⟩:=h;subst O;exact⟨g,cs,rfl,N,L,I,hb⟩
theorem q2m(a0:Bool)(prev I width v:Nat)(hs:z1x ⟨a0,prev,I,width⟩=true)(hp:prev<18446744073709551616)(hv:v<18446744073709551616)(w:World)(hT:z1H w):
  Calls prog 139 #[.agg #[.bool a0,.int .u64 prev,.int .u8 I,.int .u8 width],.int .u64 (v:Nat)] w (y0I ⟨a0,prev,I,width⟩ v w):=by
 have aC:=z7 (((Loc.start w).new (.cells #[.bool a0,.int .u64 prev,.int .u8 I,.int .u8 width] 104)).new' (.cells #[.bool true,.int .u64 (v:Nat),.int .u8 0,.int .u8 0] 104) (n:=w.heap.size+1) wH);cases a0 with
 | false=>
  have a7:=z7 (aC.o.new' (.cells #[.int .u64 (v:Nat),.int .i64 64] 264) (n:=w.heap.size+1+1) wH);clear hs hp hv hT;go_enter func139,ntmps139;go_wp2;refine wU (z9C rfl _ _ (w.heap.size+1) _ _ _ _ rfl (a7.o.get 1 rfl) rfl) rfl ?_;exact⟨w.heap.size+1+1,_,rfl,a7.o.get 0 rfl,rfl,a7.o.ge 0 rfl,a7.o.low⟩
 | true=>
  obtain⟨d,hd⟩:=zN (v^^^prev);have hx:bits .xor .u64 (v:Int) (prev:Int)=(d:Int):=by rw[hd];exact rR _ _ hv hp
  have a1:d<18446744073709551616:=by rw[hd];exact y2f hv hp
  have a4:=hs;unfold z1x at a4;simp only[de]at a4;have a4:=ua a4;have aT:I<=31/\width<=64/\I+width<=64:=wF
  have aC:=z7 (((Loc.start w).new (.cells #[.bool true,.int .u64 (v:Nat),.int .u8 I,.int .u8 width] 104)).new' (.cells #[.bool false,.int .u64 0,.int .u8 0,.int .u8 0] 104) (n:=w.heap.size+1) wH);have aV:=z7 (q4X true v I width wF wF);have HD:=z7 hd;clear hs a4 hd hp hv;go_enter func139,ntmps139;go_wp2_with fail;refine(aV.o _).mono ?_;rintro e w2 ⟨rfl,aO⟩;have Y:=z7 (aC.o.call aO);have HT:=z7 (fun w' (hb:Below w.heap.size w w')=>hT.low hb);clear aO hT;obtain⟨c0,c1,c2,c3,cf⟩:=z1y (Y.o.get 1 rfl);obtain⟨r0,r1,r2,r3,rf⟩:=z1y (Y.o.get 0 rfl);have l0:=Y.o.lt 0 rfl;have l1:=Y.o.lt 1 rfl;by_cases h0:d=0
  .subst h0;go_wp2;go_region
   have a9:=((((((Y.o.set 0 rfl 0 (.bool true)).set 0 rfl 1 (.int .u64 (v:Nat))).set 0 rfl 2 (.int .u8 I)).set 0 rfl 3 (.int .u8 width)).new (.cells #[.int .i64 I,.int .i64 width] 298)).new' (.cells #[.int .u64 0,.int .i64 1] 264) (n:=w2.heap.size+1) wH).drew;have a3:Hid (z3D ⟨true,prev,I,width⟩ v= [(0,1)]/\(z5r ⟨true,prev,I,width⟩ v).2=⟨true,v,I,width⟩):=z7 (by
    unfold z3D z5r;simp[HD.o.symm])
   go_wp2;refine wU (z9C rfl _ _ (w.heap.size+1) _ _ _ _ rfl (a9.get 2 rfl) rfl) rfl ?_;exact y0C a3.o (a9.get 0 rfl) rfl rfl (a9.ge 0 rfl) a9.low
  have d0:((d:Int)==0)=false:=(by simp;omega);have HH:=z7 (q3G I width d aT.2.2 a1);have aI:=z7 (y1D I width aT.2.2);obtain⟨D,L⟩:=zN (64 - I - width);rw[<-L]at aI;have aU:=z7 L;have aZ:D<=64:=wF;have a6:=z7 h0;clear L h0;go_wp2_with fail;refine(HH.o _ (HT.o _ (Y.o.new _).low)).mono ?_;rintro e w3 ⟨rfl,aR⟩;have N:=z7 ((Y.o.new (.cells #[.int .i64 I,.int .i64 width] 298)).call aR);clear aR c0 c1 c2 c3 cf r0 r1 r2 r3 rf;obtain⟨c0,c1,c2,c3,cf⟩:=z1y (N.o.get 2 rfl);obtain⟨r0,r1,r2,r3,rf⟩:=z1y (N.o.get 1 rfl);obtain⟨b0,b1,bf⟩:=z0m (N.o.get 0 rfl);have l2:=N.o.lt 0 rfl;have l3:=N.o.lt 1 rfl;have O:Hid (∀w',Below w3.heap.size w3 w'->w'.cell? ⟨w.heap.size,0,none⟩=some (.bool true)/\w'.cell? ⟨w.heap.size,1,none⟩=some (.int .u64 (v:Nat))/\w'.cell? ⟨w.heap.size,2,none⟩=some (.int .u8 I)/\w'.cell? ⟨w.heap.size,3,none⟩=some (.int .u8 width)/\w'.cell? ⟨w2.heap.size,0,none⟩=some (.int .i64 I)/\w'.cell? ⟨w2.heap.size,1,none⟩=some (.int .i64 width)):=z7 fun w' hb=>by
   obtain⟨c0,c1,c2,c3,cf⟩:=z1y ((N.o.call hb).get 2 rfl);obtain⟨b0,b1,bf⟩:=z0m ((N.o.call hb).get 0 rfl);exact⟨c0,c1,c2,c3,b0,b1⟩
  cases hin:z5s I width d with
  | true=>
   obtain⟨q,hq⟩:=zN (d/2^D);have aX:(d:Int)/2^D=(q:Int):=(by rw[hq];simp);have a3:Hid (z3D ⟨true,prev,I,width⟩ v= [(2,2),(q,width)]/\(z5r ⟨true,prev,I,width⟩ v).2=⟨true,v,I,width⟩):=z7 (by
    unfold z3D z5r;simp[HD.o.symm,a6.o,hin,hq,aU.o])
   clear hq hin;go_upto_region 9 with fail
   clear c0 c1 c2 c3 cf b0 b1 bf;refine q6 11 73 (fun D v w'=>SlS w3 264 2 8 10 #[.int .u64 2,.int .i64 2,.int .u64 (q:Nat),.int .i64 width] D v w') (SlS.start _ _ _ _ _ _) ?_;simp only[z0C];iterate 3 (refine q8.rl ?_ (fun D v w h=>⟨h.low,h.made,h.asg⟩) (fun D v w' L J=>?_) ?_;rotate_left;(obtain⟨c0,c1,c2,c3,b0,b1⟩:=O.o w' J.low;clear J L;go_simp;try rfl);go_simp)
   refine q8.ca (.int .i64 (D:Nat)) (fun D v w' L J=>?_) ?_
   .have HS:=z7 J;clear J L;go_simp;go_at_call 168;refine(aI.o w').mono ?_;rintro e aY ⟨rfl,aF⟩;exact⟨rfl,HS.o.call 3 wG wG aF⟩
   go_simp;iterate 4 (refine q8.rl ?_ (fun D v w h=>⟨h.low,h.made,h.asg⟩) (fun D v w' L J=>?_) ?_;rotate_left;(obtain⟨c0,c1,c2,c3,b0,b1⟩:=O.o w' J.low;clear J L;go_simp;try rfl);go_simp)
   refine q8.re (fun D v w' L J=>?_) ?_
   .have dj:D 10=false:=L.post 10 _ rfl (by kernel_rfl);have U:=z7 (SlS.make wG J dj);clear J L;go_simp;exact U.o
   go_simp;(refine q8.rl ?_ (fun D v w h=>⟨h.low,h.made,h.asg⟩) (fun D v w' L J=>?_) ?_;rotate_left;(obtain⟨c0,c1,c2,c3,b0,b1⟩:=O.o w' J.low;clear J L;go_simp;try rfl);go_simp)
   refine q8.re (fun D v w' L J=>?_) ?_
   .have dn:=L.pre 8 (by kernel_rfl);have U:=z7 (SlS.assign wG J dn);clear L J dn;go_simp;first|exact U.o|exact⟨_,rfl,U.o,trivial⟩
   go_simp;refine q8.fin (fun vv w5 J=>?_);obtain⟨g,aG,hg,a2⟩:=J.made rfl;have a5:=(J.asg rfl).2.trans aG;have aJ:=z7 (N.o.call J.low);have aB:=z7 a2;clear J a2;clear O;obtain⟨r0,r1,r2,r3,rf⟩:=z1y (aJ.o.get 1 rfl);rw[a5];go_wp2;have R:=(((aJ.o.set 1 rfl 0 (.bool true)).set 1 rfl 1 (.int .u64 (v:Nat))).set 1 rfl 2 (.int .u8 I)).set 1 rfl 3 (.int .u8 width);refine wU (z9C rfl _ _ (w.heap.size+1) _ _ _ _ rfl (R.get 1 rfl) rfl) rfl ?_;exact y0C a3.o (by rw[q7 wF,q7 wF,q7 wF,q7 wF];exact aB.o) rfl rfl wF R.low
  | false=>
   have aH:=z7 (y3A d a1 a6.o);obtain⟨z1,z2,z3,z4⟩:=z9p a1 a6.o;obtain⟨A,hA⟩:=zN (z3E d);obtain⟨S,J⟩:=zN (z2n d);obtain⟨T,aE⟩:=zN (tz d);obtain⟨q,hq⟩:=zN (d/2^T);have aX:(d:Int)/2^T=(q:Int):=(by rw[hq];simp);have a3:Hid (z3D ⟨true,prev,I,width⟩ v= [(3,2),(A,5),(S - 1,6),(q,S)]/\(z5r ⟨true,prev,I,width⟩ v).2=⟨true,v,A,S⟩):=z7 (by
    unfold z3D z5r;simp[HD.o.symm,a6.o,hin,hq,hA,J,aE])
   rw[<-hA,<-J]at aH z3 z4;rw[<-hA]at z2;rw[<-J]at z1;rw[<-aE]at z4;have aA:=z7 (y1D A S z3);rw[z4]at aA;have aD:T<=64:=wF;have aW:(A:Int)%256=A:=wF;have b3:(S:Int)%256=S:=wF;have b4:IntKind.i64.wrap ((S:Int) - 1)=((S - 1:Nat):Int):=(by rw[z0l wF wF];omega);have b5:IntKind.u64.wrap ((S - 1:Nat):Int)=((S - 1:Nat):Int):=(by rw[wq];omega);have b2:IntKind.u64.wrap (A:Int)=(A:Int):=(by rw[wq];omega);clear hq hin hA J aE z2 z3 z4 z1 O;go_wp2_with fail;refine(aH.o _ (HT.o _ N.o.low)).mono ?_;rintro e w4 ⟨rfl,aS⟩;have a8:=z7 (N.o.call aS);clear aS c0 c1 c2 c3 cf r0 r1 r2 r3 rf b0 b1 bf;obtain⟨c0,c1,c2,c3,cf⟩:=z1y (a8.o.get 2 rfl);obtain⟨r0,r1,r2,r3,rf⟩:=z1y (a8.o.get 1 rfl);obtain⟨b0,b1,bf⟩:=z0m (a8.o.get 0 rfl);go_wp2_with fail;go_region
   go_upto_region 12 with fail
   obtain⟨W6,aN,R⟩:=((((a8.o.set 0 rfl 0 (.int .i64 (A:Nat))).set 0 rfl 1 (.int .i64 (S:Nat))).set 2 rfl 2 (.int .u8 (A:Nat))).set 2 rfl 3 (.int .u8 (S:Nat))).drew.named;rw[<-aN];have R:=z7 R;have O:Hid (∀w',Below W6.heap.size W6 w'->w'.cell? ⟨w.heap.size,0,none⟩=some (.bool true)/\w'.cell? ⟨w.heap.size,1,none⟩=some (.int .u64 (v:Nat))/\w'.cell? ⟨w.heap.size,2,none⟩=some (.int .u8 (A:Nat))/\w'.cell? ⟨w.heap.size,3,none⟩=some (.int .u8 (S:Nat))/\w'.cell? ⟨w2.heap.size,0,none⟩=some (.int .i64 (A:Nat))/\w'.cell? ⟨w2.heap.size,1,none⟩=some (.int .i64 (S:Nat))):=z7 fun w' hb=>by
    obtain⟨c0,c1,c2,c3,cf⟩:=z1y ((R.o.call hb).get 2 rfl);obtain⟨b0,b1,bf⟩:=z0m ((R.o.call hb).get 0 rfl);exact⟨c0,c1,c2,c3,b0,b1⟩
   clear aN c0 c1 c2 c3 cf r0 r1 r2 r3 rf b0 b1 bf;refine q6 20 73 (fun D v w'=>SlS W6 264 4 17 19 #[.int .u64 3,.int .i64 2,.int .u64 (A:Nat),.int .i64 5,.int .u64 (S - 1:Nat),.int .i64 6,.int .u64 (q:Nat),.int .i64 (S:Nat)] D v w') (SlS.start _ _ _ _ _ _) ?_;simp only[z0C];iterate 12 (refine q8.rl ?_ (fun D v w h=>⟨h.low,h.made,h.asg⟩) (fun D v w' L J=>?_) ?_;rotate_left;(obtain⟨c0,c1,c2,c3,b0,b1⟩:=O.o w' J.low;clear J L;go_simp;try rfl);go_simp)
   refine q8.ca (.int .i64 (T:Nat)) (fun D v w' L J=>?_) ?_
   .have HS:=z7 J;clear J L;go_simp;go_at_call 168;refine(aA.o w').mono ?_;rintro e aY ⟨rfl,aF⟩;exact⟨rfl,HS.o.call 12 wG wG aF⟩
   go_simp;iterate 4 (refine q8.rl ?_ (fun D v w h=>⟨h.low,h.made,h.asg⟩) (fun D v w' L J=>?_) ?_;rotate_left;(obtain⟨c0,c1,c2,c3,b0,b1⟩:=O.o w' J.low;clear J L;go_simp;try rfl);go_simp)
   refine q8.re (fun D v w' L J=>?_) ?_
   .have dj:D 19=false:=L.post 19 _ rfl (by kernel_rfl);have U:=z7 (SlS.make wG J dj);clear J L;go_simp;exact U.o
   go_simp;(refine q8.rl ?_ (fun D v w h=>⟨h.low,h.made,h.asg⟩) (fun D v w' L J=>?_) ?_;rotate_left;(obtain⟨c0,c1,c2,c3,b0,b1⟩:=O.o w' J.low;clear J L;go_simp;try rfl);go_simp)
   refine q8.re (fun D v w' L J=>?_) ?_
   .have dn:=L.pre 17 (by kernel_rfl);have U:=z7 (SlS.assign wG J dn);clear L J dn;go_simp;first|exact U.o|exact⟨_,rfl,U.o,trivial⟩
   go_simp;refine q8.fin (fun vv w7 J=>?_);obtain⟨g,aG,hg,a2⟩:=J.made rfl;have a5:=(J.asg rfl).2.trans aG;have aL:=z7 (R.o.call J.low);have aB:=z7 a2;have b6:=R.o.lt 1 rfl;clear J a2 O;obtain⟨r0,r1,r2,r3,rf⟩:=z1y (aL.o.get 1 rfl);rw[a5];go_wp2;have aM:=(((aL.o.set 1 rfl 0 (.bool true)).set 1 rfl 1 (.int .u64 (v:Nat))).set 1 rfl 2 (.int .u8 (A:Nat))).set 1 rfl 3 (.int .u8 (S:Nat));refine wU (z9C rfl _ _ (w.heap.size+1) _ _ _ _ rfl (aM.get 1 rfl) rfl) rfl ?_;exact y0C a3.o (by rw[q7 wF,q7 wF,q7 wF,q7 wF];exact aB.o) rfl rfl wF aM.low
theorem z5M{w:World}{base e A n:Nat}{v:Value}{I:List Value}(h:w.ownsRow base e A v n I):w.drew.ownsRow base e A v n I:=j7 h fun _ _=>rfl
theorem q5o{A:List (Nat×Nat)}{k:Nat}{p:Nat×Nat}(h:A[k]? =some p):(z6Z A)[k*2]? =some (.int .u64 (p.1:Nat))/\(z6Z A)[k*2+1]? =some (.int .i64 (p.2:Nat)):=by
 induction A generalizing k with
 | nil=>simp at h
 | cons q A ih=>
  unfold z6Z at ih ⊢;rw[uH];cases k with
  | zero=>
   simp only[uv,wK]at h;subst h;exact⟨rfl,rfl⟩
  | succ k=>
   rw[kz]at h;obtain⟨I,J⟩:=ih h;rw[show(k+1)*2=k*2+2 by omega];exact⟨I,J⟩
theorem y5u{A:List (Nat×Nat)}{k:Nat}{p:Nat×Nat}(h:A[k]? =some p):z4n (A.take (k+1))=z4n (A.take k)++z3o p.1 p.2:=by
 unfold z4n;rw[uG,h];simp
theorem q1a(s:z4N)(v:Nat):0<(z3D s v).length/\(z3D s v).length<=4:=by
 unfold z3D;split
 .exact⟨wH,wH⟩
 split
 .exact⟨wH,wH⟩
 split
 .exact⟨wH,wH⟩
 exact⟨wH,wH⟩
def y2X(W:World)(l:List Bool)(s:z4N)(e:Ending)(w':World):Prop:=
 ∃a n c b,e= .returned (.tuple #[.agg #[.slice a n c,.int .i64 l.length],.agg #[.bool s.has,.int .u64 (s.prev:Nat),.int .u8 (s.lead:Nat),.int .u8 (s.width:Nat)],.int .u16 0])/\w'.ownsRow W.heap.size 5 1 (.slice a n c) n (z0c b)/\n=b.length/\z0S b l/\Below W.heap.size W w'
theorem q7v(a:Option Addr)(n c:Nat)(l:List Bool)(b:List UInt8)(J:Bool)(prev A width v:Nat)(hs:z1x ⟨J,prev,A,width⟩=true)(hp:prev<18446744073709551616)(hv:v<18446744073709551616)(w:World)(h:z0r w a n c l b)(hl:l.length<=549755813000)(hT:z1H w):
  Calls prog 101 #[.agg #[.slice a n c,.int .i64 l.length],.agg #[.bool J,.int .u64 prev,.int .u8 A,.int .u8 width],.int .u64 v] w (y2X w (l++(z5r ⟨J,prev,A,width⟩ v).1) (z5r ⟨J,prev,A,width⟩ v).2):=by
 have aJ:A<256/\width<256:=by
  cases J with
  | false=>
   have:z1x ⟨false,prev,A,width⟩=decide (prev=0/\A=0/\width=0):=(by unfold z1x zeroV;simp);rw[this]at hs;have:=ua hs;omega
  | true=>
   unfold z1x at hs;simp only[de]at hs;have:=ua hs;omega
 obtain⟨N,hN⟩:=zN l.length;rw[<-hN];have aS:=z7 (fun w' (hb:z0r w' a n c l b)=>y6O a n c l b J prev A width aJ.1 aJ.2 hs w' hb wF);rw[<-hN]at aS;have U:=z7 (fun w'=>q2m J prev A width v hs hp hv w');have aG:=z7 (q2v hs hv hp);obtain⟨s,b9⟩:=zN (⟨J,prev,A,width⟩:z4N);rw[<-b9]at aG U ⊢;have b7:=q2i s v;have aA:=q1a s v;rw[<-b7];obtain⟨ps,aL⟩:=zN (z3D s v);obtain⟨s2,aM⟩:=zN ((z5r s v).2);obtain⟨sh,sp,sl,sw⟩:=s2;unfold y0I at U;rw[<-aL]at aG aA ⊢;rw[<-aL,<-aM]at U;rw[<-aM];simp only at U;obtain⟨m,hm⟩:=zN ps.length;rw[<-hm]at U aA;have H:=z7 h;have HN:=z7 hN;have HM:=z7 hm;have HT:=z7 (fun w' (hb:Below w.heap.size w w')=>hT.low hb);have bG:N<=549755813000:=wF
 have aN:=z7 (((((Loc.start w).new (.cells #[.slice a n c,.int .i64 (N:Nat)] 49)).new' (.cells #[.bool J,.int .u64 prev,.int .u8 A,.int .u8 width] 104) (n:=w.heap.size+1) wH).new' (.cells #[.slice none 0 0,.int .i64 0] 49) (n:=w.heap.size+1+1) wH).new' (.cells #[.bool false,.int .u64 0,.int .u8 0,.int .u8 0] 104) (n:=w.heap.size+1+1+1) wH);clear hs hp hv h hl hT aJ hN b9 b7 aL aM hm;go_enter func101,ntmps101;go_wp2_with fail;refine(aS.o _ (H.o.low aN.o.low)).mono ?_;rintro e w2 ⟨rfl,aY⟩;have aE:=z7 (aN.o.call aY);clear aY;obtain⟨c0,c1,c2,c3,cf⟩:=z1y (aE.o.get 2 rfl);go_wp2_with fail;refine(U.o _ (HT.o _ aE.o.low)).mono ?_;rintro e w3 ⟨g,cs,rfl,hg,b0,b1,aZ⟩;have aO:=z7 (aE.o.add aZ hg b1);have bA:=z7 b0;clear aZ hg b1 b0 c0 c1 c2 c3 cf;obtain⟨c0,c1,c2,c3,cf⟩:=z1y (aO.o.get 3 rfl);go_wp2_with fail;obtain⟨W4,aX,Y⟩:=((((aO.o.set 3 rfl 0 (.bool sh)).set 3 rfl 1 (.int .u64 sp)).set 3 rfl 2 (.int .u8 sl)).set 3 rfl 3 (.int .u8 sw)).named;rw[<-aX];have Y:=z7 (show Loc w [(g,.cells cs 264 (0,0)),(w.heap.size+1+1+1,.cells #[.bool false,.int .u64 0,.int .u8 0,.int .u8 0] 104 (0,0)),(w.heap.size+1+1,.cells #[.slice none 0 0,.int .i64 0] 49 (0,0)),(w.heap.size+1,.cells #[.bool sh,.int .u64 sp,.int .u8 sl,.int .u8 sw] 104 (0,0)),(w.heap.size,.cells #[.slice a n c,.int .i64 (N:Nat)] 49 (0,0))] W4 from Y)
 clear aX c0 c1 c2 c3 cf;go_loopw[29] (fun kv wr=>∃k ak nk ck bk Nk,kv= .int .i64 (k:Nat)/\k<=m/\Nk<=N+64*k/\Hid (Loc w [(g,.cells cs 264 (0,0)),(w.heap.size+1+1+1,.cells #[.bool false,.int .u64 0,.int .u8 0,.int .u8 0] 104 (0,0)),(w.heap.size+1+1,.cells #[.slice none 0 0,.int .i64 0] 49 (0,0)),(w.heap.size+1,.cells #[.bool sh,.int .u64 sp,.int .u8 sl,.int .u8 sw] 104 (0,0)),(w.heap.size,.cells #[.slice ak nk ck,.int .i64 (Nk:Nat)] 49 (0,0))] wr)/\
   Hid (Nk=(l++z4n (ps.take k)).length)/\Hid (z0r wr ak nk ck (l++z4n (ps.take k)) bk)/\Hid (k=0\/wr.ownsRow (w.heap.size+1+1+1+1) 5 1 (.slice ak nk ck) nk (z0c bk))) (fun kv _=>match kv with | .int _ x=>m - x.toNat|_=>0)
 case atStart=>exact⟨0,a,n,c,b,N,rfl,uA _,wF,Y,z7 (by simpa[z4n]using HN.o),z7 (by simpa[z4n]using H.o.low Y.o.low),z7 (.inl rfl)⟩
 case round=>
  obtain⟨k,ak,nk,ck,bk,Nk,rfl,hk,bF,I,a3,aH,aV⟩:=hrel;clear Y;obtain⟨c0,c1,cf⟩:=z0m (I.o.get 4 rfl);have l0:=I.o.lt 4 rfl;by_cases bH:k<m
  .have d0:(k:Int)<m:=wF;obtain⟨p,a5⟩:∃p,ps[k]? =some p:=⟨_,wL (by have:=HM.o;omega)⟩;obtain⟨pv,pw⟩:=p;have a4:=q5o a5;rw[<-bA.o]at a4;have hg:=I.o.get 0 rfl;have g0:wr.cell? ⟨g,k*2,none⟩=some (.int .u64 pv):=(by rw[pT wr g (k*2) _ _ (0,0) hg];simpa using a4.1);have g1:wr.cell? ⟨g,k*2+1,none⟩=some (.int .i64 pw):=(by rw[pT wr g (k*2+1) _ _ (0,0) hg];simpa using a4.2);obtain⟨b4,b5⟩:=aG.o _ (wX a5);simp only at b4 b5;have bE:IntKind.i64.wrap ((k:Int)+1)=((k+1:Nat):Int):=z0l wF wF;obtain⟨k',aI⟩:=zN (k+1);rw[<-aI]at bE;have a7:Hid (l++z4n (ps.take k')=(l++z4n (ps.take k))++z3o pv pw):=z7 (by rw[aI,y5u a5,wj]);have bC:=z7 (I.o.new (.cells #[.int .u64 pv,.int .i64 pw] 264));have hP:=y5d ak nk ck (l++z4n (ps.take k)) bk pv pw (wr.alloc (.cells #[.int .u64 pv,.int .i64 pw] 264)) (aH.o.low (q5 _ _)) (by rw[<-a3.o];omega) b4 b5;rw[<-a3.o,<-a7.o]at hP;have HP:=z7 hP;have b2:k'<=m/\k<k':=wF;have aT:Nk+pw<=N+64*k':=wF
   have a1:Hid ((l++z4n (ps.take k')).length=Nk+pw):=z7 (by rw[a7.o,wP,<-a3.o,z1h]);clear hg a4 a5 hP aI aH aV;go_wp2_with fail;refine HP.o.mono ?_;rintro e w6 ⟨a6,n6,c6,b6,rfl,a2,b3,R,aD⟩;have aR:=z7 (bC.o.call aD).less;have a8:=z7 a2;have bB:=z7 b3;have aC:=z7 R;rw[a1.o];obtain⟨N6,aU⟩:=zN (Nk+pw);rw[<-aU]at aT a1 ⊢;have aW:Hid (w.heap.size+1+1+1+1<=(wr.alloc (.cells #[.int .u64 pv,.int .i64 pw] 264)).heap.size):=z7 (by have:=I.o.lt 1 rfl;simp;omega);clear a2 b3 R aD aU c0 c1 cf g0 g1;obtain⟨c0,c1,cf⟩:=z0m (aR.o.get 4 rfl);go_wp2;have L:∀q,(Value.slice a6 n6 c6).ownBlock=some q->q≠w.heap.size:=fun q O=>by have:=(a8.o.lt q O).1;have:=aW.o;omega
   have b8:=z0f (j7 (j7 a8.o fun q O=>q7 (o:=0) (u:= .slice a6 n6 c6) (L q O)) fun q O=>q7 (o:=1) (u:= .int .i64 (N6:Nat)) (L q O)) aW.o;exact⟨⟨k',a6,n6,c6,b6,N6,rfl,b2.1,aT,z7 ((aR.o.set 4 rfl 0 (.slice a6 n6 c6)).set 4 rfl 1 (.int .i64 (N6:Nat))),z7 a1.o.symm,z7 (z5F b8 bB.o aC.o),z7 (.inr b8)⟩,by show m - (k':Int).toNat<m - (k:Int).toNat;omega⟩
  obtain rfl:k=m:=wF
  obtain⟨v0,v1,v2,v3,vf⟩:=z1y (I.o.get 3 rfl);obtain⟨r0,r1,rf⟩:=z0m (I.o.get 2 rfl);obtain⟨q0,q1,q2,q3,qf⟩:=z1y (I.o.get 1 rfl);go_wp2_with fail;go_region
  go_wp2;have aF:=((((((I.o.set 2 rfl 0 (.slice ak nk ck)).set 2 rfl 1 (.int .i64 (Nk:Nat))).set 1 rfl 0 (.bool sh)).set 1 rfl 1 (.int .u64 sp)).set 1 rfl 2 (.int .u8 sl)).set 1 rfl 3 (.int .u8 sw)).drew;refine wU (q4d rfl _ _ (w.heap.size+1+1) _ _ rfl (aF.get 2 rfl) rfl (w.heap.size+1+1+1) _ _ _ _ rfl (aF.get 1 rfl) rfl) rfl ?_;have a7:ps.take k=ps:=wt (by have:=HM.o;omega);have a9:=a3.o;have a0:=aH.o;rw[a7]at a9 a0;rcases aV.o with h0|aB
  .omega
  have L:∀q,(Value.slice ak nk ck).ownBlock=some q->q≠w.heap.size+1+1/\q≠w.heap.size+1+1+1:=fun q O=>by have:=(aB.lt q O).1;omega
  refine⟨ak,nk,ck,bk,by rw[<-a9];rfl,?_,a0.len,a0.bits,aF.low⟩;have e1:=j7 aB fun q O=>q7 (o:=0) (u:= .slice ak nk ck) (L q O).1;have e2:=j7 e1 fun q O=>q7 (o:=1) (u:= .int .i64 (Nk:Nat)) (L q O).1;have e3:=j7 e2 fun q O=>q7 (o:=0) (u:= .bool sh) (L q O).2;have e4:=j7 e3 fun q O=>q7 (o:=1) (u:= .int .u64 sp) (L q O).2;have e5:=j7 e4 fun q O=>q7 (o:=2) (u:= .int .u8 sl) (L q O).2;have e6:=j7 e5 fun q O=>q7 (o:=3) (u:= .int .u8 sw) (L q O).2;exact z0f (z5M e6) wF
def y9H(w:World)(q:Nat)(o o':Obj)(w':World):Prop:=∀w0 K i,Loc w0 K w->K[i]? =some (q,o)->Loc w0 (K.set i (q,o')) w'
theorem y9H.same(w:World)(q:Nat)(o:Obj):y9H w q o o w:=fun w0 K i h I=>by
 have A:=(wY.1 I).1;have:K.set i (q,o)=K:=by
  apply qW;intro j;by_cases J:j=i
  .subst J;rw[uo A,I]
  rw[rG (pz J)]
 rw[this];exact h
def tkN(e:Nat)(l:List Bool)(p w:Nat):Nat:=if e=0 then z2Z l p w else 0
def tkE(e:Nat)(l:List Bool)(p w:Nat):Nat:=if e=0 then z2D l p w else e
def tkP(e:Nat)(p w:Nat):Nat:=if e=0 then p+w else p
def z0k(a:Option Addr)(n c N p e:Nat):Obj:= .cells #[.slice a n c,.int .i64 N,.int .i64 p,.int .u16 e] 318 (0,0)
theorem z6t(l:List Bool)(p w:Nat):z2D l p w<100:=by unfold z2D;split<;>decide
theorem z8F(e:Nat)(l:List Bool)(p w:Nat):tkN e l p w<2^w:=by
 unfold tkN z2Z;split
 .split
  .exact wS (z7w _) (uU wG (by simp;omega))
  exact pV _
 exact pV _
theorem y9W(q:Nat)(a:Option Addr)(n c:Nat)(l:List Bool)(b:List UInt8)(p A width:Nat)(w:World)(h:z0r w a n c l b)(hl:l.length<=549755813888)(hp:p<=1099511627000)(he:A<100)(hw:width<=64)(L:w.heap[q]? =some (z0k a n c l.length p A)):
  Calls prog 182 #[.pointer (some ⟨q,0,none⟩),.int .i64 width] w fun e w'=>e= .returned (.int .u64 (tkN A l p width:Nat))/\y9H w q (z0k a n c l.length p A) (z0k a n c l.length (tkP A p width) (tkE A l p width)) w':=by
 obtain⟨N,hN⟩:=zN l.length;rw[<-hN]at L ⊢;have a5:=(wI.1 L).1;obtain⟨c0,c1,c2,c3,cf⟩:=z1y L;by_cases h0:A=0
 .subst h0;have O:tkN 0 l p width=z2Z l p width:=rfl;have R:tkE 0 l p width=z2D l p width:=rfl;have U:tkP 0 p width=p+width:=rfl;rw[O,R,U];obtain⟨p',a2⟩:=zN (p+width);rw[<-a2];have a7:IntKind.i64.wrap ((p:Int)+width)=(p':Int):=by rw[z0l wF wF];omega
  have J:Hid (∀w',Below w.heap.size w w'->w'.heap[q]? =some (z0k a n c N p 0)):=z7 fun w' hb=>(hb.block q a5).trans L;have hG:Hid (∀w',z0r w' a n c l b->Calls prog 180 #[.agg #[.slice a n c,.int .i64 (N:Nat)],.int .i64 p,.int .i64 width] w' fun e a3=>e= .returned (.tuple #[.int .u64 (z2Z l p width:Nat),.int .u16 (z2D l p width:Nat)])/\Below w'.heap.size w' a3):=z7 fun w' hb=>by
   have:=y2z a n c l b p width w' hb hl wF hw;rw[<-hN]at this;exact this
  have H:=z7 h;obtain⟨E0,a0⟩:=zN (z2D l p width);obtain⟨N0,a1⟩:=zN (z2Z l p width);rw[<-a0,<-a1]at hG ⊢;clear O R U a2 L h a0 a1 hl he hw hN;go_enter func182,ntmps182;go_wp2_with fail;clear c0 c1 c2 c3 cf;refine q6 17 36 (fun D v w'=>Below w.heap.size w w') wD.drew ?_;simp only[z0C];iterate 10 (refine q8.rd ?_ (fun D v w' Y I=>?_) ?_;rotate_left;(obtain⟨c0,c1,c2,c3,cf⟩:=z1y (J.o w' I);clear I Y;go_simp;try rfl);go_simp)
  refine q8.ca (.tuple #[.int .u64 (N0:Nat),.int .u16 (E0:Nat)]) (fun D v w' Y I=>?_) ?_
  .have HS:=z7 I;clear I Y;go_simp;go_at_call 180;refine(hG.o w' (H.o.low HS.o)).mono ?_;rintro e a3 ⟨rfl,a4⟩;exact⟨rfl,HS.o.trans (a4.mono HS.o.size)⟩
  go_simp;iterate 6 (refine q8.rd ?_ (fun D v w' Y I=>?_) ?_;rotate_left;(obtain⟨c0,c1,c2,c3,cf⟩:=z1y (J.o w' I);clear I Y;go_simp;try rfl);go_simp)
  refine q8.fin (fun v w5 I=>?_);have HB:=z7 I;obtain⟨c0,c1,c2,c3,cf⟩:=z1y (J.o w5 I);clear I;go_wp2;go_ret;refine⟨rfl,fun w0 K i hL hi=>?_⟩;have h1:=(hL.call HB.o).set i hi 3 (.int .u16 (E0:Nat));have h2:=h1.set i (by rw[uo (wY.1 hi).1]) 2 (.int .i64 (p':Nat));rw[gK]at h2;exact h2
 have a6:((A:Int)==0)=false:=by simp;omega
 have O:tkN A l p width=0:=wR h0;have R:tkE A l p width=A:=wR h0;have U:tkP A p width=p:=wR h0;rw[O,R,U];have HT:=z7 (y9H.same w q (z0k a n c N p A));clear O R U h L hN;go_enter func182,ntmps182;go_wp2;go_ret;exact⟨rfl,HT.o⟩
theorem y8x(q:Nat)(a:Option Addr)(n c N p A v:Nat)(J:Bool)(sp L O:Nat)(w:World)(he:A<100)(R:w.heap[q]? =some (z0k a n c N p A)):
  Calls prog 183 #[.pointer (some ⟨q,0,none⟩),.int .u64 v,.agg #[.bool J,.int .u64 sp,.int .u8 L,.int .u8 O]] w fun e w'=>
   (A=0->e= .returned (.tuple #[.int .u64 v,.int .i64 p,.agg #[.bool J,.int .u64 sp,.int .u8 L,.int .u8 O],.int .u16 0]))/\
   (A≠0->e= .returned (.tuple #[.int .u64 0,.int .i64 0,.agg #[.bool false,.int .u64 0,.int .u8 0,.int .u8 0],.int .u16 A]))/\Below w.heap.size w w':=by
 have a1:=(wI.1 R).1;obtain⟨c0,c1,c2,c3,cf⟩:=z1y R;by_cases U:A=0
 .subst U;have I:=z7 (((Loc.start w).new (.cells #[.bool J,.int .u64 sp,.int .u8 L,.int .u8 O] 104)).new' (.cells #[.bool J,.int .u64 sp,.int .u8 L,.int .u8 O] 104) (n:=w.heap.size+1) wH).drew;clear R;go_enter func183,ntmps183;go_wp2_with fail;go_region
  go_wp2;refine wU (z5k rfl _ _ (w.heap.size+1) _ _ _ _ rfl (I.o.get 0 rfl) rfl) rfl ?_;exact⟨fun _=>rfl,fun h=>absurd rfl h,I.o.low⟩
 have a0:((A:Int)==0)=false:=by simp;omega
 have I:=z7 (((Loc.start w).new (.cells #[.bool J,.int .u64 sp,.int .u8 L,.int .u8 O] 104)).new' (.cells #[.bool false,.int .u64 0,.int .u8 0,.int .u8 0] 104) (n:=w.heap.size+1) wH).drew;have Y:=z7 U;clear R U;go_enter func183,ntmps183;go_wp2_with fail;go_region
 go_wp2;refine wU (z5k rfl _ _ (w.heap.size+1) _ _ _ _ rfl (I.o.get 0 rfl) rfl) rfl ?_;exact⟨fun h=>absurd h Y.o,fun _=>rfl,I.o.low⟩

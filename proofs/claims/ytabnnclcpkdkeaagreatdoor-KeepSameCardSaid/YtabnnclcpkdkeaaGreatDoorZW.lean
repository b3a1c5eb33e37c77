/- The walk of chunk's All. -/
import Derived.Test.YtabnnclcpkdkeaaGreatDoorZP
import Derived.Test.YtabnnclcpkdkeaaGreatDoorZT
import Derived.Test.YtabnnclcpkdkeaaGreatDoorZV
namespace Go.Proofs.YtabnnclcpkdkeaaGreatDoor
open Go.Proofs.Tryz
set_option linter.all false
set_option maxRecDepth 100000
set_option maxHeartbeats 0
section
open Go.RowKit Go.Shelf
attribute [local go_sem] Oper.semAt_some
def z1b(l:List z1m):List Value:=l.flatMap fun s=> [.int .i64 s.t,.int .u64 (s.v:Nat)]
theorem y3j(l:List z1m)(s:z1m):z1b (l++ [s])=z1b l++ [.int .i64 s.t,.int .u64 (s.v:Nat)]:=by simp[z1b]
theorem y7P{w:World}{a:Option Addr}{m c:Nat}{l:List Bool}{b:List UInt8}(h:z0r w a m c l b):0<b.length->∀k,(Value.slice a m c).ownBlock=some k->k<w.heap.size:=fun A k I=>by
 obtain⟨g,J,rfl,_,L⟩:=h.cell (j:=0) (by rw[h.len];exact A);simp only[Value.ownBlock,wK]at I;omega
def SmI(B h rB:Nat)(W5:World)(pre:List z1t)(W:World):Prop:=∃v,W.heap[h]? =some (.cells #[v] 41 (0,0))/\W.ownsRow B 79 2 v pre.length (z1b (z1Q pre))/\Chg [h,rB] [] W5 W
theorem z8i{B e s n:Nat}{w w':World}{v:Value}{L:List Value}(J:w.ownsRow B e s v n L)(Y:∀k o,B<=k->w.heap[k]? =some o->o.isCells=true->w'.heap[k]? =w.heap[k]?):w'.ownsRow B e s v n L:=
 j7 J fun k A=>by
  rcases J.2 with⟨I,_⟩|⟨g,N,O,I,R,U,_⟩
  .rw[I]at A;cases A
  rw[I]at A;simp only[Value.ownBlock,wK]at A;subst A;exact Y g _ R U rfl
theorem y4n{w:World}{B e s n k l:Nat}{v:Value}{Y:List Value}{o:Obj}(h:w.ownsRow B e s v n Y)(A:v.ownBlock=some k)(J:w.heap[l]? =some o)(U:o.isCells=false):k≠l:=fun O=>by
 subst O;rcases h.2 with⟨I,_⟩|⟨g,L,N,I,_,R,_⟩
 .rw[I]at A;cases A
 rw[I]at A;simp only[Value.ownBlock,wK]at A;subst A;rw[R]at J;simp only[wK]at J;subst J;cases U
theorem y4l{w:World}{b:Nat}{t:TypeId}{fr:Nat×Nat}{y0 O N L J I A:Value}(h:w.heap[b]? =some (.cells #[y0,O,N,L,J,I,A] t fr))(x0 x1 x2 x3 x4 x5 x6:Value):(((((((w.setCell ⟨b,0,none⟩ x0).setCell ⟨b,1,none⟩ x1).setCell ⟨b,2,none⟩ x2).setCell ⟨b,3,none⟩ x3).setCell ⟨b,4,none⟩ x4).setCell ⟨b,5,none⟩ x5).setCell ⟨b,6,none⟩ x6).heap[b]? =some (.cells #[x0,x1,x2,x3,x4,x5,x6] t fr):=by
 have R:(w.setCell ⟨b,0,none⟩ x0).heap[b]? =some (.cells #[x0,O,N,L,J,I,A] t fr):=z0a h 0 x0;have U:((w.setCell ⟨b,0,none⟩ x0).setCell ⟨b,1,none⟩ x1).heap[b]? =some (.cells #[x0,x1,N,L,J,I,A] t fr):=z0a R 1 x1;have Y:(((w.setCell ⟨b,0,none⟩ x0).setCell ⟨b,1,none⟩ x1).setCell ⟨b,2,none⟩ x2).heap[b]? =some (.cells #[x0,x1,x2,L,J,I,A] t fr):=z0a U 2 x2;have h3:((((w.setCell ⟨b,0,none⟩ x0).setCell ⟨b,1,none⟩ x1).setCell ⟨b,2,none⟩ x2).setCell ⟨b,3,none⟩ x3).heap[b]? =some (.cells #[x0,x1,x2,x3,J,I,A] t fr):=z0a Y 3 x3;have h4:(((((w.setCell ⟨b,0,none⟩ x0).setCell ⟨b,1,none⟩ x1).setCell ⟨b,2,none⟩ x2).setCell ⟨b,3,none⟩ x3).setCell ⟨b,4,none⟩ x4).heap[b]? =some (.cells #[x0,x1,x2,x3,x4,I,A] t fr):=z0a h3 4 x4;have h5:((((((w.setCell ⟨b,0,none⟩ x0).setCell ⟨b,1,none⟩ x1).setCell ⟨b,2,none⟩ x2).setCell ⟨b,3,none⟩ x3).setCell ⟨b,4,none⟩ x4).setCell ⟨b,5,none⟩ x5).heap[b]? =some (.cells #[x0,x1,x2,x3,x4,x5,A] t fr):=z0a h4 5 x5;have h6:(((((((w.setCell ⟨b,0,none⟩ x0).setCell ⟨b,1,none⟩ x1).setCell ⟨b,2,none⟩ x2).setCell ⟨b,3,none⟩ x3).setCell ⟨b,4,none⟩ x4).setCell ⟨b,5,none⟩ x5).setCell ⟨b,6,none⟩ x6).heap[b]? =some (.cells #[x0,x1,x2,x3,x4,x5,x6] t fr):=z0a h5 6 x6;exact h6
theorem y3X{w:World}{b k:Nat}{x0 x1 x2 x3 x4 x5 x6:Value}(h:k≠b):(((((((w.setCell ⟨b,0,none⟩ x0).setCell ⟨b,1,none⟩ x1).setCell ⟨b,2,none⟩ x2).setCell ⟨b,3,none⟩ x3).setCell ⟨b,4,none⟩ x4).setCell ⟨b,5,none⟩ x5).setCell ⟨b,6,none⟩ x6).heap[k]? =w.heap[k]? :=by
 rw[q7 h,q7 h,q7 h,q7 h,q7 h,q7 h,q7 h]
theorem z8B(w:World):w.drew.heap=w.heap:=rfl
theorem z5G{B D:Nat}{w W:World}{o:Obj}(h:Below B w W)(I:B<=D):Below B w (W.putObj D o):=
 ⟨h.os,h.tape,h.output,by rw[World.putObj_size];exact h.size,fun k A=>(World.putObj_heap_other wF).trans (h.block k A)⟩
theorem y2A{B b:Nat}{w W:World}{x0 x1 x2 x3 x4 x5 x6:Value}(h:Below B w W)(hb:B<=b):Below B w (((((((W.setCell ⟨b,0,none⟩ x0).setCell ⟨b,1,none⟩ x1).setCell ⟨b,2,none⟩ x2).setCell ⟨b,3,none⟩ x3).setCell ⟨b,4,none⟩ x4).setCell ⟨b,5,none⟩ x5).setCell ⟨b,6,none⟩ x6):=by
 have A:Below B w (W.setCell ⟨b,0,none⟩ x0):=h.setCell (show B<=b from hb) x0;have I:Below B w ((W.setCell ⟨b,0,none⟩ x0).setCell ⟨b,1,none⟩ x1):=A.setCell (show B<=b from hb) x1;have J:Below B w (((W.setCell ⟨b,0,none⟩ x0).setCell ⟨b,1,none⟩ x1).setCell ⟨b,2,none⟩ x2):=I.setCell (show B<=b from hb) x2;have L:Below B w ((((W.setCell ⟨b,0,none⟩ x0).setCell ⟨b,1,none⟩ x1).setCell ⟨b,2,none⟩ x2).setCell ⟨b,3,none⟩ x3):=J.setCell (show B<=b from hb) x3;have N:Below B w (((((W.setCell ⟨b,0,none⟩ x0).setCell ⟨b,1,none⟩ x1).setCell ⟨b,2,none⟩ x2).setCell ⟨b,3,none⟩ x3).setCell ⟨b,4,none⟩ x4):=L.setCell (show B<=b from hb) x4;have O:Below B w ((((((W.setCell ⟨b,0,none⟩ x0).setCell ⟨b,1,none⟩ x1).setCell ⟨b,2,none⟩ x2).setCell ⟨b,3,none⟩ x3).setCell ⟨b,4,none⟩ x4).setCell ⟨b,5,none⟩ x5):=N.setCell (show B<=b from hb) x5;have R:Below B w (((((((W.setCell ⟨b,0,none⟩ x0).setCell ⟨b,1,none⟩ x1).setCell ⟨b,2,none⟩ x2).setCell ⟨b,3,none⟩ x3).setCell ⟨b,4,none⟩ x4).setCell ⟨b,5,none⟩ x5).setCell ⟨b,6,none⟩ x6):=O.setCell (show B<=b from hb) x6;exact R
theorem y0H{B:Nat}{F:List Nat}{w I W:World}(h:Below B w I)(A:Chg F [] I W)(J:∀k∈F,B<=k)(O:B<=I.heap.size):Below B w W:=
 ⟨A.os.trans h.os,A.tape.trans h.tape,A.output.trans h.output,wV h.size A.size,fun k L=>(A.block k wF (fun N=>by have:=J k N;omega)).trans (h.block k L)⟩
theorem y7F{B e s n D:Nat}{w:World}{v:Value}{I:List Value}(h:w.ownsRow B e s v n I)(A:w.heap[D]? =some (.deferred (some [])))(o:Obj):(w.putObj D o).ownsRow B e s v n I:=
 z8i h fun k N _ L J=>World.putObj_heap_other (fun e=>by
  subst e;rw[L]at A;simp only[wK]at A;subst A;cases J)
theorem SmI.turn{B h rB:Nat}{N W O:World}{L:List z1t}{row:Option Nat}(hI:SmI B h rB N L W)(I:W.grownBy O row)(hB:N.heap.size<=B)(Y:∀r,row=some r->B<=r/\∃o:Obj,W.heap[r]? =some o/\o.isCells=false):SmI B h rB N L O:=by
 obtain⟨v,R,h2,A⟩:=hI;have J:=fun r e=>(Y r e).2;refine⟨v,(grownBy_keeps_cells I J R rfl).trans R,z8i h2 fun k o _ ho hc=>grownBy_keeps_cells I J ho hc,?_⟩;exact⟨I.os.trans A.os,I.tape.trans A.tape,I.output.trans A.output,wV A.size I.size,fun k U hn=>(I.block k (wS U A.size) (fun e=>by have:=(Y k e.symm).1;omega)).trans (A.block k U hn),A.fresh⟩
theorem SmI.step{B h N:Nat}{U W R:World}{L:List z1t}(hI:SmI B h N U L W)(A:q0S N W R)(hB:N<B)(hn:h≠N):SmI B h N U L R:=by
 obtain⟨u,Y,h2,I⟩:=hI;refine⟨u,(A.block h (wI.1 Y).1 (by simpa using hn)).trans Y,z8i h2 fun k o O ho _=>A.block k (wI.1 ho).1 (by simp;omega),?_⟩;exact⟨A.os.trans I.os,A.tape.trans I.tape,A.output.trans I.output,wV I.size A.size,fun k O J=>(A.block k (wS O I.size) (fun e=>J (by simp at e;simp[e]))).trans (I.block k O J),I.fresh⟩
theorem y1U:∀(f:Nat) (e:z2g) (k:Nat) (l:List Bool),e.Ok->(z7J f e k l).1.length<=l.length
 | f,e,k, [],he=>by rw[z7N];simp
 | 0,e,k,b::l,he=>by simp[z7J]
 | f+1,e,k,b::l,he=>by
  rw[y0q];cases hc:z1D e (b::l)with
  | none=>simp
  | some q=>
   obtain⟨s,I,r⟩:=q;have A:=z2h he hc;have J:=y1U f I (k+((b::l).length - r.length)) r A.2.2.1;simp only;rw[wW];exact pS J A.1
theorem y1N:(prog.info? 79).map (fun i=>(i.zero,i.size,i.bytes))=some (some (.agg #[.int .i64 0,.int .u64 0]),2,16):=by kernel_rfl
theorem q3P(a:Option Addr)(m c:Nat)(l:List Bool)(b:List UInt8)(w:World)(h:z0r w a m c l b)(hl:l.length<=549755812000)(hT:z1H w):
  Calls prog 46 #[.agg #[.slice a m c,.int .i64 l.length]] w fun e w'=>
   ((∃U av cv,z5t l=some U/\e= .returned (.tuple #[.slice av U.length cv,.agg #[.int .i64 ((z0o z0i U).n:Nat),.int .i64 (z0o z0i U).last,.int .i64 (z0o z0i U).delta,.bool (z0o z0i U).val.has,.int .u64 ((z0o z0i U).val.prev:Nat),.int .u8 ((z0o z0i U).val.lead:Nat),.int .u8 ((z0o z0i U).val.width:Nat)],.int .u16 0])/\
     w'.ownsRow w.heap.size 79 2 (.slice av U.length cv) U.length (z1b (z1Q U)))\/
    (z5t l=none/\e= .returned (.tuple #[.slice none 0 0,.agg #[.int .i64 0,.int .i64 0,.int .i64 0,.bool false,.int .u64 0,.int .u8 0,.int .u8 0],.int .u16 61])))/\Below w.heap.size w w':=by
 obtain⟨iS,bN,bA,bB,bC⟩:=oq y1N;have bE:=z7 (q5f l);obtain⟨N,hN⟩:=zN l.length;rw[<-hN];have a9:=((((Loc.start w).new (.cells #[.slice a m c,.int .i64 (N:Nat)] 49)).new' (.cells #[.int .i64 0,.int .i64 0,.int .i64 0,.bool false,.int .u64 0,.int .u8 0,.int .u8 0] 106) (n:=w.heap.size+1) wH).new' (.cells #[.slice a m c,.int .i64 (N:Nat),.int .i64 0,.int .i64 0,.int .i64 0,.int .i64 0,.bool false,.int .u64 0,.int .u8 0,.int .u8 0,.int .u16 0] 197) (n:=w.heap.size+1+1) wH).new' (.cells #[.slice none 0 0] 41) (n:=w.heap.size+1+1+1) wH;obtain⟨W5,aS,a9⟩:=a9.named;have a2:W5.heap.size=w.heap.size+4:=by rw[aS];simp
 obtain⟨I,b5⟩:=zN (w.heap.size+1+1);have H:=z7 h;have HN:=z7 hN;have HT:=z7 hT;have bH:=z7 a2;have a9:=z7 a9;have aG:=z7 b5;have bI:=z7 aS;clear h hN hT a2 aS b5;refine(gj (n:=3)).1 ?_;refine callsIn_of_wp_marks func46 rfl trivial ?_ rfl;simp only[ntmps46,oz,wW,ob,Nat.reduceAdd,Nat.reduceSub,pC,pD,pY,pN,uW,uY]
 gi_wp2
 rw[<-bI.o];simp only[<-aG.o];have a3:=a9.o;simp only[<-aG.o]at a3;have a2:W5.heap.size=I+2:=by have:=bH.o;have:=aG.o;omega
 have k0:W5.heap[I]? =some (wkO a m c l.length 0 z0i 0):=by rw[<-HN.o];exact a3.get 1 rfl
 have k1:W5.heap[I+1]? =some (.cells #[.slice none 0 0] 41 (0,0)):=a3.get 0 rfl;have kr:W5.heap[w.heap.size+1]? =some (.cells #[.int .i64 0,.int .i64 0,.int .i64 0,.bool false,.int .u64 0,.int .u8 0,.int .u8 0] 106 (0,0)):=a3.get 2 rfl;have bJ:Below w.heap.size w W5:=a3.low;have aM:I=w.heap.size+2:=aG.o;have aE:=y1U (l.length - 0) z0i 0 (l.drop 0) z5p;have aF:(z2o l 0 z0i).1.length<=N:=by rw[HN.o];exact wV aE wH
 have bV:N<=549755812000:=by have:=HN.o;omega
 have a7:=z7 bJ;have aO:=z7 a2;have aH:=z7 aM;refine y0b (encs:=fun x:z1t=> #[.agg #[.int .i64 x.s.t,.int .u64 (x.s.v:Nat)]]) rfl wF (gf:=92) (la:= #[.pointer (some ⟨I,0,none⟩)]) (lb:= #[]) rfl trivial (enters_of func92 (by kernel_rfl) rfl) (fun _=>rfl)
  (q5D (z2o l 0 z0i).1 I a m c l.length) (q7J (I+2) (I+1)) (q0S I) (fun A=>A=(z2o l 0 z0i).1) (z8Y (z2o l 0 z0i) I a m c l.length)
  (q0i (3 - 1) wF a m c l b (I+2) (I+1) I W5 k0 (H.o.low a7.o) wF (fun h0 k hk=>by have:=y7P H.o h0 k hk;omega) wF wF wF (fun w' hk=>by
   have h1:=HT.o.low a7.o;intro j hj;have h2:=h1 j hj;have bX:0<w.heap.size:=by
    by_cases hx:0<w.heap.size
    .exact hx
    have h3:=HT.o j hj;simp[World.cell?,ie (iQ hx)]at h3
   exact(ud (w:=W5) (a:=⟨0,j,none⟩) (hk 0 wF wF wF)).trans h2))
  (fun X l o o' hX hl ho hc=>(World.putObj_heap_other (show I≠l by omega)).trans hX)
  (fun h1 h2=>⟨wV h1.1 h2.1,fun k hk hn=>(h2.2 k hk hn).trans (h1.2 k hk hn)⟩)
  (fun W l o o' hl bO ho=>⟨wH,fun k hk hn=>World.putObj_heap_other wF⟩)
  (fun a5 W=>SmI (I+2) (I+1) I W5 a5 W)
  (fun s X X' hs aL=>hs.step aL wF wF)
  (fun X X' aL=>⟨aL.size,fun k o hk ho hc=>(aL.block k (wI.1 ho).1 (by simp;omega)).trans ho⟩)
  (fun s X X' row hs hg hr=>hs.turn hg wF (fun r e=>by have:=hr r e;rw[a2]at this;exact this))
  (fun s x X l o o' b4 hl bO ho=>⟨b4.1,(World.putObj_heap_other (show I≠l by omega)).trans b4.2⟩)
  ⟨_,k1,uN _ _ _ _,⟨rfl,rfl,rfl,wJ _,fun _ _ _=>rfl,fun x hx=>by cases hx⟩⟩
  (fun x=> .cells #[.int .i64 x.s.t,.int .u64 (x.s.v:Nat)] 79)
  (fun x sz=>{tmps:= #[.agg #[.slice a m c,.int .i64 (N:Nat)],.pointer (some ⟨w.heap.size,0,none⟩),.slice none 0 0,.pointer (some ⟨w.heap.size+1,0,none⟩),.int .u16 0,.pointer (some ⟨I,0,none⟩),.pointer (some ⟨I+1,0,none⟩),.pointer (some ⟨sz,0,none⟩),.agg #[.slice a m c,.int .i64 (N:Nat)],.agg #[.slice a m c,.int .i64 (N:Nat),.int .i64 0,.int .i64 0,.int .i64 0,.int .i64 0,.bool false,.int .u64 0,.int .u8 0,.int .u8 0,.int .u16 0],.pointer (some ⟨I,0,none⟩),.pointer (some ⟨I,0,none⟩),.func (.func 92) #[.pointer (some ⟨I,0,none⟩)] #[],.agg #[.int .i64 x.s.t,.int .u64 (x.s.v:Nat)],undef,undef,undef,undef,undef,undef,undef,undef,undef,undef,undef,undef,undef,undef,undef,undef,undef,undef,undef],defers:= []}) ?assign ?body ?done
 case assign=>
  clear aM a2;intro lq x W K hK
  gi_wp2
  exact hK
 case body=>
  rintro lq a5 x W ⟨v,c1,L,Y⟩ ⟨⟨r,hr⟩,b9⟩;obtain⟨av,cv,rfl⟩:=(z0d L).head;obtain⟨pm,aW⟩:=zN a5.length;have bR:a5.length<=N:=by
   have:=uS List.length hr;rw[wP]at this;omega
  obtain⟨⟨U,sv⟩,xe,xa⟩:=x;dsimp only at hr b9 ⊢;rw[<-aW]at L bR c1;obtain⟨f1,f2,f3⟩:=z0v c1;have R:=z7 L;have a6:=z7 Y;have C1:=z7 c1;have bG:=z7 aW;clear hr b9 L Y c1 aW k0 k1 kr a3 aE aF;obtain⟨W2,bL,aB⟩:∃W2,W2=(W.alloc (.cells #[.int .i64 U,.int .u64 sv] 79)).alloc (.cells #[.int .i64 U,.int .u64 sv] 79)/\Below W.heap.size W W2:=⟨_,rfl,(q5 _ _).trans ((q5 _ _).mono wH)⟩;subst bL;have b0:=z7 (ownsRow_below R.o aB wE);have b6:=z7 (y1x (W.alloc (.cells #[.int .i64 U,.int .u64 sv] 79)) #[.int .i64 U,.int .u64 sv] 79 (W.heap.size+1) 1 2 wH wG rfl);have b7:((W.alloc (.cells #[.int .i64 U,.int .u64 sv] 79)).alloc (.cells #[.int .i64 U,.int .u64 sv] 79)).heap.size=W.heap.size+2:=wH
  have J:=z7 aB;clear aM a2 aB b7
  gi_wp2_with (gi_at_builtin;refine z3Y rfl _ _ 41 rfl (I+2) 79 iS (.agg #[.int .i64 0,.int .u64 0]) 2 16 underlying41 bN bA bB bC rfl wG _ pm _ rfl b0.o _ 1 [.int .i64 U,.int .u64 sv] rfl (by exact b6.o) (by simp[Value.oneCell']) (by unfold maxLen;omega) wF (by simp;omega) ?_;intro v1 w1 a4 aY bM;obtain⟨a1,aR,rfl⟩:=(z0d a4).head;have b3:=z7 a4;have a8:=z7 aY;have aX:=((aY.block (I+1) (by simp;omega) (fun e=>by have:=(R.o.lt _ e.symm).1;omega)).trans (J.o.block _ f3)).trans C1.o;obtain⟨e1,e2,e3⟩:=z0v aX;have bF:=z7 aX;clear a4 aY bM aX)
  have hI:SmI (I+2) (I+1) I W5 (a5++ [⟨⟨U,sv⟩,xe,xa⟩]) (w1.setCell ⟨I+1,0,none⟩ (.slice a1 (pm+1) aR)):=by
   refine⟨.slice a1 (pm+1) aR,?_,?_,?_⟩
   .have:=z0a bF.o 0 (.slice a1 (pm+1) aR);simpa using this
   .have e:z1b (z1Q (a5++ [⟨⟨U,sv⟩,xe,xa⟩]))=z1b (z1Q a5)++ [.int .i64 U,.int .u64 sv]:=by
     unfold z1Q;rw[uV];exact y3j _ _
    rw[wP,<-bG.o,e];exact j7 b3.o fun k hk=>q7 (by have:=(b3.o.lt k hk).1;omega)
   have h1:=a6.o;have h2:=a8.o;have h4:=J.o;refine⟨(h2.os.trans h4.os).trans h1.os,(h2.tape.trans h4.tape).trans h1.tape,(h2.output.trans h4.output).trans h1.output,by have:=h2.size;have:=h1.size;have:=h4.size;rw[z7n];omega,fun k hk hn=>?_,fun k hk=>by cases hk⟩;have h3:k≠I+1:=fun e=>hn (by simp[e]);have bY:=aO.o;rw[q7 h3,h2.block k (by have:=h1.size;have:=h4.size;omega) (fun e=>by have:=(R.o.lt _ e.symm).1;omega),h4.block k (by have:=h1.size;omega)];exact h1.block k hk hn
  refine⟨?_,?_,hI⟩
  .rw[aO.o];refine⟨by have:=a8.o.size;have:=J.o.size;rw[z7n];omega,fun k o hk ho hc=>?_⟩;have h1:=(wI.1 ho).1;have h2:k≠I+1:=wF;rw[q7 h2,a8.o.block k (by have:=J.o.size;omega) (fun e'=>(y4n R.o e'.symm ho hc) rfl),J.o.block k h1];exact ho
  refine⟨by have:=a8.o.size;have:=J.o.size;rw[z7n];omega,fun k hk hn=>?_⟩;rw[q7 hn,a8.o.block k (by have:=J.o.size;omega) (fun e=>by have:=(R.o.lt _ e.symm).1;omega)];exact J.o.block k wF
 case done=>
  rintro D A W hD hS hF ⟨v,c1,L,Y⟩ hK;have b1:A=(z2o l 0 z0i).1:=hS;obtain⟨ST,aJ⟩:=zN (z2o l 0 z0i);have bU:=z7 aJ;rw[<-aJ]at b1 hF;have aC:=bE.o;rw[<-aJ]at aC;obtain⟨wh,b8⟩:=zN (ST.2);unfold z8Y at hF;rw[<-b8]at hF aC;rw[<-b1]at hF aC;obtain⟨av,cv,rfl⟩:=(z0d L).head;have aD:=(Y.block (w.heap.size+1) wF (by simp;omega)).trans kr;obtain⟨f1,f2,f3⟩:=z0v c1;obtain⟨x0,x1,x2,x3,x4,x5,x6,xf⟩:=z3s aD;have R:=z7 L;have a6:=z7 Y;have HK:=z7 hK;have b2:=z7 aD;have aN:=z7 aC;have HF:=z7 hF;have a0:Hid (w.heap.size+1<D/\I+1<D):=z7 wF;clear b1 aJ b8 aC L Y hK aD hF hS c1 k0 k1 kr a3 aE aF aM a2;cases wh with
  | true=>
   have aA:W.heap[I]? =some (wkO a m c l.length l.length (z0o z0i A) 0):=(by have:=HF.o;rwa [wZ rfl]at this);obtain⟨u0,u1,u2,u3,u4,u5,u6,u7,u8,u9,bT,uf⟩:=z0t aA;clear aA
   gi_wp2_with fail
   refine mr.2 ?_;go_region
   go_wp2
   gi_wp2
   obtain⟨Wf,O⟩:=zN ((((((((W.setCell ⟨w.heap.size+1,0,none⟩ (.int .i64 ((z0o z0i A).n:Nat))).setCell ⟨w.heap.size+1,1,none⟩ (.int .i64 (z0o z0i A).last)).setCell ⟨w.heap.size+1,2,none⟩ (.int .i64 (z0o z0i A).delta)).setCell ⟨w.heap.size+1,3,none⟩ (.bool (z0o z0i A).val.has)).setCell ⟨w.heap.size+1,4,none⟩ (.int .u64 ((z0o z0i A).val.prev:Nat))).setCell ⟨w.heap.size+1,5,none⟩ (.int .u8 ((z0o z0i A).val.lead:Nat))).setCell ⟨w.heap.size+1,6,none⟩ (.int .u8 ((z0o z0i A).val.width:Nat))).drew);rw[<-O];have aZ:Wf.heap[w.heap.size+1]? =some (.cells #[.int .i64 ((z0o z0i A).n:Nat),.int .i64 (z0o z0i A).last,.int .i64 (z0o z0i A).delta,.bool (z0o z0i A).val.has,.int .u64 ((z0o z0i A).val.prev:Nat),.int .u8 ((z0o z0i A).val.lead:Nat),.int .u8 ((z0o z0i A).val.width:Nat)] 106 (0,0)):=(by rw[O,z8B];exact y4l b2.o (.int .i64 ((z0o z0i A).n:Nat)) (.int .i64 (z0o z0i A).last) (.int .i64 (z0o z0i A).delta) (.bool (z0o z0i A).val.has) (.int .u64 ((z0o z0i A).val.prev:Nat)) (.int .u8 ((z0o z0i A).val.lead:Nat)) (.int .u8 ((z0o z0i A).val.width:Nat)));have aI:Wf.heap[D]? =some (.deferred (some [])):=by rw[O,z8B];exact(y3X (x0:=(.int .i64 ((z0o z0i A).n:Nat))) (x1:=(.int .i64 (z0o z0i A).last)) (x2:=(.int .i64 (z0o z0i A).delta)) (x3:=(.bool (z0o z0i A).val.has)) (x4:=(.int .u64 ((z0o z0i A).val.prev:Nat))) (x5:=(.int .u8 ((z0o z0i A).val.lead:Nat))) (x6:=(.int .u8 ((z0o z0i A).val.width:Nat))) (b:=w.heap.size+1) (show D≠w.heap.size+1 by have:=a0.o;omega)).trans HK.o
   have aU:Below w.heap.size w W:=y0H a7.o a6.o (fun k hk=>by have:=aH.o;simp at hk;omega) a7.o.size;have aT:Below w.heap.size w Wf:=(by rw[O];exact(y2A (x0:=(.int .i64 ((z0o z0i A).n:Nat))) (x1:=(.int .i64 (z0o z0i A).last)) (x2:=(.int .i64 (z0o z0i A).delta)) (x3:=(.bool (z0o z0i A).val.has)) (x4:=(.int .u64 ((z0o z0i A).val.prev:Nat))) (x5:=(.int .u8 ((z0o z0i A).val.lead:Nat))) (x6:=(.int .u8 ((z0o z0i A).val.width:Nat))) (b:=w.heap.size+1) aU wF).drew);have aV:=z5G (o:= .deferred none) aT (show w.heap.size<=D by have:=a0.o;omega);have bS:Wf.ownsRow (I+2) 79 2 (.slice av A.length cv) A.length (z1b (z1Q A)):=(by rw[O];exact z5M (z7q (x0:=(.int .i64 ((z0o z0i A).n:Nat))) (x1:=(.int .i64 (z0o z0i A).last)) (x2:=(.int .i64 (z0o z0i A).delta)) (x3:=(.bool (z0o z0i A).val.has)) (x4:=(.int .u64 ((z0o z0i A).val.prev:Nat))) (x5:=(.int .u8 ((z0o z0i A).val.lead:Nat))) (x6:=(.int .u8 ((z0o z0i A).val.width:Nat))) (b:=w.heap.size+1) R.o (by have:=aH.o;omega)));clear O;refine⟨wH,.inl ⟨_,_,rfl,run_takeDeferred aI,?_⟩⟩;refine⟨_,y6e rfl _ _ (w.heap.size+1) _ _ _ _ _ _ _ rfl ((World.putObj_heap_other (show w.heap.size+1≠D by have:=a0.o;omega)).trans aZ) rfl,?_,aV⟩;have ha:z5t l=some A:=(by simpa using aN.o);exact .inl ⟨A,av,cv,ha,rfl,z0f (y7F bS aI _) (by have:=aH.o;omega)⟩
  | false=>
   have aA:W.heap[I]? =some (wkO a m c l.length 0 z0i 61):=(by have:=HF.o;rwa [wR wG]at this);obtain⟨u0,u1,u2,u3,u4,u5,u6,u7,u8,u9,bT,uf⟩:=z0t aA;clear aA
   gi_wp2_with fail
   refine mr.2 ?_;go_region
   go_wp2
   gi_wp2
   obtain⟨Wf,O⟩:=zN ((((((((W.setCell ⟨w.heap.size+1,0,none⟩ (.int .i64 0)).setCell ⟨w.heap.size+1,1,none⟩ (.int .i64 0)).setCell ⟨w.heap.size+1,2,none⟩ (.int .i64 0)).setCell ⟨w.heap.size+1,3,none⟩ (.bool false)).setCell ⟨w.heap.size+1,4,none⟩ (.int .u64 0)).setCell ⟨w.heap.size+1,5,none⟩ (.int .u8 0)).setCell ⟨w.heap.size+1,6,none⟩ (.int .u8 0)).drew);rw[<-O];have aZ:Wf.heap[w.heap.size+1]? =some (.cells #[.int .i64 0,.int .i64 0,.int .i64 0,.bool false,.int .u64 0,.int .u8 0,.int .u8 0] 106 (0,0)):=(by rw[O,z8B];exact y4l b2.o (.int .i64 0) (.int .i64 0) (.int .i64 0) (.bool false) (.int .u64 0) (.int .u8 0) (.int .u8 0));have aI:Wf.heap[D]? =some (.deferred (some [])):=(by rw[O,z8B];exact(y3X (x0:=(.int .i64 0)) (x1:=(.int .i64 0)) (x2:=(.int .i64 0)) (x3:=(.bool false)) (x4:=(.int .u64 0)) (x5:=(.int .u8 0)) (x6:=(.int .u8 0)) (b:=w.heap.size+1) (show D≠w.heap.size+1 by have:=a0.o;omega)).trans HK.o);have aU:Below w.heap.size w W:=y0H a7.o a6.o (fun k hk=>by have:=aH.o;simp at hk;omega) a7.o.size;have aT:Below w.heap.size w Wf:=by rw[O];exact(y2A (x0:=(.int .i64 0)) (x1:=(.int .i64 0)) (x2:=(.int .i64 0)) (x3:=(.bool false)) (x4:=(.int .u64 0)) (x5:=(.int .u8 0)) (x6:=(.int .u8 0)) (b:=w.heap.size+1) aU wF).drew
   have aV:=z5G (o:= .deferred none) aT (show w.heap.size<=D by have:=a0.o;omega);clear O;refine⟨wH,.inl ⟨_,_,rfl,run_takeDeferred aI,?_⟩⟩;refine⟨_,y6e rfl _ _ (w.heap.size+1) _ _ _ _ _ _ _ rfl ((World.putObj_heap_other (show w.heap.size+1≠D by have:=a0.o;omega)).trans aZ) rfl,?_,aV⟩;have ha:z5t l=none:=(by simpa using aN.o);exact .inr ⟨ha,rfl⟩
attribute [local go_sem] Oper.semAt_some
theorem z9J{F:Fence}{n':Nat}{P:Program}{w:World}{a:Act}{o:Oper}{Q:Exit->Act->World->Prop}{K:Act->World->Prop}{ops:Array Oper}{E:Prop}(a3:o.guard=none)(s x:Operand)(t:TypeId)
  (ho:o.op= .call {callee:= .builtin .append,args:= #[s,x],argTypes:= #[t,t]})
  (base:Nat) (e:TypeId) (i:TypeInfo) (z:Value) (A I:Nat) (ht:P.underlying t=some (.slice e)) (hi:P.info? e=some i) (hz:i.zero=some z)
  (O:i.size=A) (a1:i.bytes=I) (a6:z.cells.size=A) (a5:0<A)
  (v:Value) (n:Nat) (xs:List Value) (hs:a.eval s=v) (R:w.ownsRow base e A v n xs)
  (xv:Value) (m:Nat) (J:List Value) (hx:a.eval x=xv) (a4:Rd w xv A m J) (h1:∀u∈J,u.oneCell'=true)
  (a0:n+m<=maxLen) (L:(n+m)*I<=140737488355328) (N:base<=w.heap.size)
  (h:∀Y w',w'.ownsRow base e A Y (n+m) (xs++J)->w.grownBy w' v.ownBlock->K (a.put o.dst Y) w'):
  if Region.wanted o (yielded ops a.tmps)=true then Oper.wpIn F n' P o a w K Q else E:=by
 have hw:Region.wanted o (yielded ops a.tmps)=true:=by simp[Region.wanted,a3]
 rw[wZ hw];obtain⟨Y,w',U,r1,r2,r3,r4⟩:=z4a (P:=P) (w:=w) base t o.type e i z A I ht hi hz O a1 a6 a5 v n xs R xv m J a4 h1 a0 L N;unfold Oper.wpIn;refine⟨?_,?_⟩
 .simp[Oper.about,ho,resolve,Target.leads,gi]
 rw[Oper.semAt_plain F _ _ (by rw[ho];intro c a2;cases a2)];simp[execOp,ho,resolve,invoke,builtin,hs,hx,U,Result.andThen];exact h Y w' r1 r2
def z2K(l:List Nat):List Value:=l.map fun n=> .int .i64 (n:Nat)
def EnI(B h rB:Nat)(W5:World)(pre:List z1t)(W:World):Prop:=∃v,W.heap[h]? =some (.cells #[v] 102 (0,0))/\W.ownsRow B 3 1 v pre.length (z2K (z1C pre))/\Chg [h,rB] [] W5 W
theorem EnI.turn{B h rB:Nat}{N W O:World}{L:List z1t}{row:Option Nat}(hI:EnI B h rB N L W)(I:W.grownBy O row)(hB:N.heap.size<=B)(Y:∀r,row=some r->B<=r/\∃o:Obj,W.heap[r]? =some o/\o.isCells=false):EnI B h rB N L O:=by
 obtain⟨v,R,h2,A⟩:=hI;have J:=fun r e=>(Y r e).2;refine⟨v,(grownBy_keeps_cells I J R rfl).trans R,z8i h2 fun k o _ ho hc=>grownBy_keeps_cells I J ho hc,?_⟩;exact⟨I.os.trans A.os,I.tape.trans A.tape,I.output.trans A.output,wV A.size I.size,fun k U hn=>(I.block k (wS U A.size) (fun e=>by have:=(Y k e.symm).1;omega)).trans (A.block k U hn),A.fresh⟩
theorem EnI.step{B h N:Nat}{U W R:World}{L:List z1t}(hI:EnI B h N U L W)(A:q0S N W R)(hB:N<B)(hn:h≠N):EnI B h N U L R:=by
 obtain⟨u,Y,h2,I⟩:=hI;refine⟨u,(A.block h (wI.1 Y).1 (by simpa using hn)).trans Y,z8i h2 fun k o O ho _=>A.block k (wI.1 ho).1 (by simp;omega),?_⟩;exact⟨A.os.trans I.os,A.tape.trans I.tape,A.output.trans I.output,wV I.size A.size,fun k O J=>(A.block k (wS O I.size) (fun e=>J (by simp at e;simp[e]))).trans (I.block k O J),I.fresh⟩
theorem y6a:(prog.info? 3).map (fun i=>(i.zero,i.size,i.bytes))=some (some (.int .i64 0),1,8):=by kernel_rfl
def q4S(l:List Bool)(w:World)(e:Ending)(w':World):Prop:=
 ((∃st av cv,z5t l=some st/\e= .returned (.tuple #[.slice av st.length cv,.int .u16 0])/\w'.ownsRow w.heap.size 3 1 (.slice av st.length cv) st.length (z2K (z1C st)))\/
  (z5t l=none/\e= .returned (.tuple #[.slice none 0 0,.int .u16 61])))/\Below w.heap.size w w'
theorem q6c(a:Option Addr)(m c:Nat)(l:List Bool)(b:List UInt8)(w:World)(h:z0r w a m c l b)(hl:l.length<=549755812000)(hT:z1H w):
  Calls prog 145 #[.agg #[.slice a m c,.int .i64 l.length]] w (q4S l w):=by
 obtain⟨iS,bL,b8,b9,bA⟩:=oq y6a;have bB:=z7 (q5f l);obtain⟨N,hN⟩:=zN l.length;rw[<-hN];have a6:=((((Loc.start w).new (.cells #[.slice a m c,.int .i64 (N:Nat)] 49)).new' (.cells #[.slice a m c,.int .i64 (N:Nat),.int .i64 0,.int .i64 0,.int .i64 0,.int .i64 0,.bool false,.int .u64 0,.int .u8 0,.int .u8 0,.int .u16 0] 197) (n:=w.heap.size+1) wH).new' (.cells #[.pointer (some ⟨w.heap.size+1,0,none⟩)] 195) (n:=w.heap.size+1+1) wH).new' (.cells #[.slice none 0 0] 102) (n:=w.heap.size+1+1+1) wH;obtain⟨W5,aR,a6⟩:=a6.named;have a0:W5.heap.size=w.heap.size+4:=by rw[aR];simp
 obtain⟨I,b5⟩:=zN (w.heap.size+1);have H:=z7 h;have HN:=z7 hN;have HT:=z7 hT;have bF:=z7 a0;have a6:=z7 a6;have aF:=z7 b5;have bG:=z7 aR;clear h hN hT a0 aR b5;refine(gj (n:=3)).1 ?_;refine callsIn_of_wp_marks func145 rfl trivial ?_ rfl;simp only[ntmps145,oz,wW,ob,Nat.reduceAdd,Nat.reduceSub,pC,pD,pY,pN,uW,uY]
 gi_wp2
 rw[<-bG.o];simp only[<-aF.o];have a2:=a6.o;simp only[<-aF.o]at a2;have a0:W5.heap.size=I+3:=by have:=bF.o;have:=aF.o;omega
 have k0:W5.heap[I]? =some (wkO a m c l.length 0 z0i 0):=by rw[<-HN.o];exact a2.get 2 rfl
 have k1:W5.heap[I+1+1]? =some (.cells #[.slice none 0 0] 102 (0,0)):=a2.get 0 rfl;have kp:W5.heap[I+1]? =some (.cells #[.pointer (some ⟨I,0,none⟩)] 195 (0,0)):=a2.get 1 rfl;have bI:Below w.heap.size w W5:=a2.low;have aI:I=w.heap.size+1:=aF.o;have aB:=y1U (l.length - 0) z0i 0 (l.drop 0) z5p;have aC:(z2o l 0 z0i).1.length<=N:=by rw[HN.o];exact wV aB wH
 have bU:N<=549755812000:=by have:=HN.o;omega
 have aE:=z7 bI;have aL:=z7 a0;have aG:=z7 aI;refine z6y (encs:=fun x:z1t=> #[.agg #[.int .i64 x.s.t,.int .u64 (x.s.v:Nat)]]) rfl wF (gf:=92) (la:= #[.pointer (some ⟨I,0,none⟩)]) (lb:= #[]) rfl trivial (enters_of func92 (by kernel_rfl) rfl) (fun _=>rfl)
  (q5D (z2o l 0 z0i).1 I a m c l.length) (q7J (I+3) (I+1+1)) (q0S I) (fun xs=>xs=(z2o l 0 z0i).1) (z8Y (z2o l 0 z0i) I a m c l.length)
  (q0i (3 - 1) wF a m c l b (I+3) (I+1+1) I W5 k0 (H.o.low aE.o) wF (fun h0 k U=>by have:=y7P H.o h0 k U;omega) wF wF wF (fun w' U=>by
   have h1:=HT.o.low aE.o;intro j hj;have h2:=h1 j hj;have bV:0<w.heap.size:=by
    by_cases hx:0<w.heap.size
    .exact hx
    have h3:=HT.o j hj;simp[World.cell?,ie (iQ hx)]at h3
   exact(ud (w:=W5) (a:=⟨0,j,none⟩) (U 0 wF wF wF)).trans h2))
  (fun X l o o' hX hl ho hc=>(World.putObj_heap_other (show I≠l by omega)).trans hX)
  (fun h1 h2=>⟨wV h1.1 h2.1,fun k U hn=>(h2.2 k U hn).trans (h1.2 k U hn)⟩)
  (fun W l o o' hl bM ho=>⟨wH,fun k U hn=>World.putObj_heap_other wF⟩)
  (fun a4 W=>EnI (I+3) (I+1+1) I W5 a4 W)
  (fun s X X' hs aH=>hs.step aH wF wF)
  (fun X X' aH=>⟨aH.size,fun k o U ho hc=>(aH.block k (wI.1 ho).1 (by simp;omega)).trans ho⟩)
  (fun s X X' row hs hg hr=>hs.turn hg wF (fun r e=>by have:=hr r e;rw[a0]at this;exact this))
  (fun s x X l o o' b4 hl bM ho=>⟨b4.1,(World.putObj_heap_other (show I≠l by omega)).trans b4.2⟩)
  ⟨_,k1,uN _ _ _ _,⟨rfl,rfl,rfl,wJ _,fun _ _ _=>rfl,fun x hx=>by cases hx⟩⟩
  (fun x=>{tmps:= #[.agg #[.slice a m c,.int .i64 (N:Nat)],.pointer (some ⟨w.heap.size,0,none⟩),.slice none 0 0,.int .u16 0,.pointer (some ⟨I+1,0,none⟩),.pointer (some ⟨I+1+1,0,none⟩),.agg #[.slice a m c,.int .i64 (N:Nat)],.agg #[.slice a m c,.int .i64 (N:Nat),.int .i64 0,.int .i64 0,.int .i64 0,.int .i64 0,.bool false,.int .u64 0,.int .u8 0,.int .u8 0,.int .u16 0],.pointer (some ⟨I,0,none⟩),.pointer (some ⟨I,0,none⟩),.func (.func 92) #[.pointer (some ⟨I,0,none⟩)] #[],.agg #[.int .i64 x.s.t,.int .u64 (x.s.v:Nat)],undef,undef,undef,undef,undef,undef,undef,undef,undef,undef,undef,undef,undef,undef,undef,undef,undef],defers:= []}) ?assign ?body ?done
 case assign=>
  clear aI a0;intro lq x W K A
  gi_wp2
  simpa using A
 case body=>
  rintro lq a4 x W ⟨v,c1,J,R⟩ ⟨⟨r,hr⟩,aY⟩;obtain⟨av,cv,rfl⟩:=(z0d J).head;obtain⟨pm,aV⟩:=zN a4.length;have bO:a4.length<=N:=by
   have:=uS List.length hr;rw[wP]at this;omega
  obtain⟨⟨st,sv⟩,xe,xa⟩:=x;dsimp only at hr aY ⊢;rw[<-aV]at J bO c1;obtain⟨f1,f2,f3⟩:=z0v c1;have aA:=(R.block (I+1) wF wH).trans kp;obtain⟨p1,p2,p3⟩:=z0v aA;obtain⟨u0,u1,u2,u3,u4,u5,u6,u7,u8,u9,aW,uf⟩:=z0t aY;have O:=z7 J;have b0:=z7 R;have C1:=z7 c1;have bE:=z7 aV;clear hr aY J R c1 aV k0 k1 kp a2 aB aC aA u0 u1 u3 u4 u5 u6 u7 u8 u9 aW uf;obtain⟨Wd,Y⟩:=zN W.drew;have aS:Below W.heap.size W Wd:=by rw[Y];exact wD.drew
  have bS:Wd.cell? ⟨I+1+1,0,none⟩=some (.slice av pm cv):=by rw[Y];exact f1
  have bY:Wd.cell? ⟨I+1,0,none⟩=some (.pointer (some ⟨I,0,none⟩)):=by rw[Y];exact p1
  have bD:Wd.cell? ⟨I,2,none⟩=some (.int .i64 xa):=by rw[Y];exact u2
  have bT:I+1+1<Wd.heap.size:=by rw[Y];exact f3
  have bZ:I+1<Wd.heap.size:=wF
  have bR:Wd.heap.size=W.heap.size:=by rw[Y];rfl
  have a8:=aS.trans ((q5 Wd (.cells #[.int .i64 xa] 3)).mono aS.size);have aX:=z7 (ownsRow_below O.o a8 wE);have b6:=z7 (y1x Wd #[.int .i64 xa] 3 W.heap.size 1 1 (by rw[bR]) wG rfl);have L:=z7 a8;have bH:=z7 Y;have bN:prog.follows .mixedOrders=true:=by kernel_rfl
  clear aI a0 a8 f1 f2 p1 p2 u2 aS Y
  gi_wp2_with fail
  refine wpIn_region_any bN ?_;change wpAnyIn _ _ _ _ _ _ _ _ _ (World.drew _);rw[<-bH.o]
  refine wpAnyIn_ready (rs:= [0,1]) (by kernel_rfl) wH ?_;refine AllReadyIn.cons rfl (fun K A=>?g01) (AllReadyIn.cons rfl (fun K A=>?g11) AllReadyIn.nil);(case' g01=>(go_simp;refine A _ _ ?_;clear A K;refine wpAnyIn_ready (rs:= [1]) (by kernel_rfl) wH ?_;refine AllReadyIn.cons rfl (fun K A=>?_) AllReadyIn.nil;go_simp;refine A _ _ ?_;clear A K;refine wpAnyIn_ready (rs:= [2]) (by kernel_rfl) wH ?_;refine AllReadyIn.cons rfl (fun K A=>?_) AllReadyIn.nil;go_simp;refine A _ _ ?_;clear A K;refine wpAnyIn_ready (rs:= [3]) (by kernel_rfl) wH ?_;refine AllReadyIn.cons rfl (fun K A=>?_) AllReadyIn.nil;go_simp;refine A _ _ ?_;clear A K;refine wpAnyIn_ready (rs:= [4]) (by kernel_rfl) wH ?_;refine AllReadyIn.cons rfl (fun K A=>?_) AllReadyIn.nil;go_simp;refine A _ _ ?_;clear A K;refine wpAnyIn_ready (rs:= [5]) (by kernel_rfl) wH ?_;refine AllReadyIn.cons rfl (fun K A=>?_) AllReadyIn.nil;go_simp;refine A _ _ ?_;clear A K));(case' g11=>(go_simp;refine A _ _ ?_;clear A K;refine wpAnyIn_ready (rs:= [0,2]) (by kernel_rfl) wH ?_;refine AllReadyIn.cons rfl (fun K A=>?g02) (AllReadyIn.cons rfl (fun K A=>?g12) AllReadyIn.nil);(case' g02=>(go_simp;refine A _ _ ?_;clear A K;refine wpAnyIn_ready (rs:= [2]) (by kernel_rfl) wH ?_;refine AllReadyIn.cons rfl (fun K A=>?_) AllReadyIn.nil;go_simp;refine A _ _ ?_;clear A K;refine wpAnyIn_ready (rs:= [3]) (by kernel_rfl) wH ?_;refine AllReadyIn.cons rfl (fun K A=>?_) AllReadyIn.nil;go_simp;refine A _ _ ?_;clear A K;refine wpAnyIn_ready (rs:= [4]) (by kernel_rfl) wH ?_;refine AllReadyIn.cons rfl (fun K A=>?_) AllReadyIn.nil;go_simp;refine A _ _ ?_;clear A K;refine wpAnyIn_ready (rs:= [5]) (by kernel_rfl) wH ?_;refine AllReadyIn.cons rfl (fun K A=>?_) AllReadyIn.nil;go_simp;refine A _ _ ?_;clear A K));(case' g12=>(go_simp;refine A _ _ ?_;clear A K;refine wpAnyIn_ready (rs:= [0,3]) (by kernel_rfl) wH ?_;refine AllReadyIn.cons rfl (fun K A=>?g03) (AllReadyIn.cons rfl (fun K A=>?g13) AllReadyIn.nil);(case' g03=>(go_simp;refine A _ _ ?_;clear A K;refine wpAnyIn_ready (rs:= [3]) (by kernel_rfl) wH ?_;refine AllReadyIn.cons rfl (fun K A=>?_) AllReadyIn.nil;go_simp;refine A _ _ ?_;clear A K;refine wpAnyIn_ready (rs:= [4]) (by kernel_rfl) wH ?_;refine AllReadyIn.cons rfl (fun K A=>?_) AllReadyIn.nil;go_simp;refine A _ _ ?_;clear A K;refine wpAnyIn_ready (rs:= [5]) (by kernel_rfl) wH ?_;refine AllReadyIn.cons rfl (fun K A=>?_) AllReadyIn.nil;go_simp;refine A _ _ ?_;clear A K));(case' g13=>(go_simp;refine A _ _ ?_;clear A K;refine wpAnyIn_ready (rs:= [0,4]) (by kernel_rfl) wH ?_;refine AllReadyIn.cons rfl (fun K A=>?g04) (AllReadyIn.cons rfl (fun K A=>?g14) AllReadyIn.nil);(case' g04=>(go_simp;refine A _ _ ?_;clear A K;refine wpAnyIn_ready (rs:= [4]) (by kernel_rfl) wH ?_;refine AllReadyIn.cons rfl (fun K A=>?_) AllReadyIn.nil;go_simp;refine A _ _ ?_;clear A K;refine wpAnyIn_ready (rs:= [5]) (by kernel_rfl) wH ?_;refine AllReadyIn.cons rfl (fun K A=>?_) AllReadyIn.nil;go_simp;refine A _ _ ?_;clear A K));(case' g14=>(go_simp;refine A _ _ ?_;clear A K;refine wpAnyIn_ready (rs:= [0,5]) (by kernel_rfl) wH ?_;refine AllReadyIn.cons rfl (fun K A=>?g05) (AllReadyIn.cons rfl (fun K A=>?g15) AllReadyIn.nil);(case' g05=>(go_simp;refine A _ _ ?_;clear A K;refine wpAnyIn_ready (rs:= [5]) (by kernel_rfl) wH ?_;refine AllReadyIn.cons rfl (fun K A=>?_) AllReadyIn.nil;go_simp;refine A _ _ ?_;clear A K));(case' g15=>(go_simp;refine A _ _ ?_;clear A K;refine wpAnyIn_ready (rs:= [0]) (by kernel_rfl) wH ?_;refine AllReadyIn.cons rfl (fun K A=>?_) AllReadyIn.nil;go_simp;refine A _ _ ?_;clear A K))))))))))
  all_goals (
   refine wpAnyIn_ready (rs:= [6]) (by kernel_rfl) wH ?_;refine AllReadyIn.cons rfl (fun K A=>z9J rfl _ _ 102 rfl (I+3) 3 iS (.int .i64 0) 1 8 underlying102 bL b8 b9 bA rfl wG _ pm _ rfl (by exact aX.o) _ 1 [.int .i64 xa] rfl (by exact b6.o) (by simp[Value.oneCell']) (by unfold maxLen;omega) wF (by simp;omega) ?_) AllReadyIn.nil;intro v1 w1 a3 aU;obtain⟨a1,aN,rfl⟩:=(z0d a3).head;have b1:=z7 a3;have a5:=z7 aU;have aT:=((aU.block (I+1+1) (by simp;omega) (fun e=>by have:=(O.o.lt _ e.symm).1;omega)).trans (L.o.block _ f3)).trans C1.o;obtain⟨e1,e2,e3⟩:=z0v aT;have bC:=z7 aT;clear a3 aU aT;refine A _ _ ?_;clear A K;refine wpAnyIn_ready (rs:= [7]) (by kernel_rfl) wH ?_;refine AllReadyIn.cons rfl (fun K A=>?_) AllReadyIn.nil;go_simp;refine A _ _ ?_;clear A K;refine wpAnyIn_done (by kernel_rfl) ?_ _
   gi_wp2
   have hI:EnI (I+3) (I+1+1) I W5 (a4++ [⟨⟨st,sv⟩,xe,xa⟩]) (w1.setCell ⟨I+1+1,0,none⟩ (.slice a1 (pm+1) aN)):=by
    refine⟨.slice a1 (pm+1) aN,?_,?_,?_⟩
    .have:=z0a bC.o 0 (.slice a1 (pm+1) aN);simpa using this
    .have e:z2K (z1C (a4++ [⟨⟨st,sv⟩,xe,xa⟩]))=z2K (z1C a4)++ [.int .i64 xa]:=(by simp[z2K,z1C]);rw[wP,<-bE.o,e];exact j7 b1.o fun k U=>q7 (by have:=(b1.o.lt k U).1;omega)
    have h1:=b0.o;have h2:=a5.o;have h4:=L.o;refine⟨(h2.os.trans h4.os).trans h1.os,(h2.tape.trans h4.tape).trans h1.tape,(h2.output.trans h4.output).trans h1.output,by have:=h2.size;have:=h1.size;have:=h4.size;rw[z7n];omega,fun k U hn=>?_,fun k U=>by cases U⟩;have h3:k≠I+1+1:=fun e=>hn (by simp[e]);have bX:=aL.o;rw[q7 h3,h2.block k (by have:=h1.size;have:=h4.size;omega) (fun e=>by have:=(O.o.lt _ e.symm).1;omega),h4.block k (by have:=h1.size;omega)];exact h1.block k U hn
   refine⟨?_,?_,hI⟩
   .rw[aL.o];refine⟨by have:=a5.o.size;have:=L.o.size;rw[z7n];omega,fun k o U ho hc=>?_⟩;have h1:=(wI.1 ho).1;have h2:k≠I+1+1:=wF;rw[q7 h2,a5.o.block k (by have:=L.o.size;omega) (fun e'=>(y4n O.o e'.symm ho hc) rfl),L.o.block k h1];exact ho
   refine⟨by have:=a5.o.size;have:=L.o.size;rw[z7n];omega,fun k U hn=>?_⟩;rw[q7 hn,a5.o.block k (by have:=L.o.size;omega) (fun e=>by have:=(O.o.lt _ e.symm).1;omega)];exact L.o.block k wF)
 case done=>
  rintro D xs W hD hS hF ⟨v,c1,J,R⟩ A;have aD:xs=(z2o l 0 z0i).1:=hS;obtain⟨ST,aO⟩:=zN (z2o l 0 z0i);rw[<-aO]at aD hF;have a9:=bB.o;rw[<-aO]at a9;obtain⟨wh,b7⟩:=zN (ST.2);unfold z8Y at hF;rw[<-b7]at hF a9;rw[<-aD]at hF a9;obtain⟨av,cv,rfl⟩:=(z0d J).head;obtain⟨xm,aZ⟩:=zN xs.length;rw[<-aZ]at J c1;have aA:=(R.block (I+1) wF wH).trans kp;obtain⟨p1,p2,p3⟩:=z0v aA;obtain⟨f1,f2,f3⟩:=z0v c1;have O:=z7 J;have HK:=z7 A;have aJ:=z7 a9;have HF:=z7 hF;have b2:=z7 aZ;have aM:Hid (I+1+1<D):=z7 wF;have b3:Hid (Below w.heap.size w W):=z7 (y0H aE.o R (fun k U=>by have:=aG.o;simp at U;omega) aE.o.size);clear aD aO b7 a9 J R A hF hS c1 k0 k1 kp aA a2 aB aC aI a0 aZ;cases wh with
  | true=>
   have a7:W.heap[I]? =some (wkO a m c l.length l.length (z0o z0i xs) 0):=(by have:=HF.o;rwa [wZ rfl]at this);obtain⟨u0,u1,u2,u3,u4,u5,u6,u7,u8,u9,aW,uf⟩:=z0t a7;clear a7
   gi_wp2
   refine⟨wH,.inl ⟨_,_,rfl,run_takeDeferred HK.o,?_⟩⟩;refine⟨_,tL rfl _ _ _,?_⟩;have ha:z5t l=some xs:=(by simpa using aJ.o);refine⟨.inl ⟨xs,av,cv,ha,by rw[<-b2.o];rfl,?_⟩,z5G b3.o (by have:=aM.o;have:=aG.o;omega)⟩;rw[<-b2.o];exact z0f (y7F O.o HK.o _) (by have:=aG.o;omega)
  | false=>
   have a7:W.heap[I]? =some (wkO a m c l.length 0 z0i 61):=(by have:=HF.o;rwa [wR wG]at this);obtain⟨u0,u1,u2,u3,u4,u5,u6,u7,u8,u9,aW,uf⟩:=z0t a7;clear a7
   gi_wp2_with fail
   refine mr.2 ?_;go_quiet (fail)
   go_wp2
   gi_wp2
   have bJ:(W.drewN nq).heap[D]? =some (.deferred (some [])):=HK.o;refine⟨wH,.inl ⟨_,_,rfl,run_takeDeferred bJ,?_⟩⟩;refine⟨_,tL rfl _ _ _,?_⟩;have ha:z5t l=none:=(by simpa using aJ.o);exact⟨.inr ⟨ha,rfl⟩,z5G (z0j b3.o) (by have:=aM.o;have:=aG.o;omega)⟩
end
section
open Go.RowKit
theorem add_block(A:Addr)(n:Nat):(A.add n).block=A.block:=by unfold Addr.add;split<;>rfl
def z4y(b:List UInt8):Nat:=b.foldl (fun n x=>n*256+x.toNat) 0
theorem z9q(b:List UInt8)(x:UInt8):z4y (b++ [x])=z4y b*256+x.toNat:=by unfold z4y;rw[ez,pg,List.foldl_nil]
theorem y5M(b:List UInt8):z4y b<256^b.length:=by
 obtain⟨n,J⟩:=zN b.length
 induction n generalizing b with
 | zero=>
  have:b= []:=wT J.symm;subst this
  decide
 | succ n ih=>
  have A:b≠ []:=fun e=>by rw[e]at J;simp at J
  have N:=List.dropLast_concat_getLast A;have I:b.dropLast.length=n:=by rw[List.length_dropLast];omega
  have L:=ih b.dropLast I.symm;rw[<-N,z9q,wP,pP,mc,I];rw[I]at L;have:=(b.getLast A).toNat_lt;omega
theorem q0q(q:Nat)(A:Addr)(m c n:Nat)(b:List UInt8)(w:World)(hq:w.heap[q]? =some (.cells #[.slice (some A) m c] 163 (0,0)))(R:RdB w (.slice (some A) m c) b)(O:m=b.length)(hc:m<=c)(a0:c<=9223372036854775807)(hn:n<=m):
  Calls prog 114 #[.pointer (some ⟨q,0,none⟩),.int .i64 n] w fun e w'=>∃I:Addr,I.block=A.block/\e= .returned (.slice (some A) n c)/\w'=w.setCell ⟨q,0,none⟩ (.slice (some I) (m - n) (c - n))/\RdB w (.slice (some A) n c) (b.take n)/\RdB w (.slice (some I) (m - n) (c - n)) (b.drop n):=by
 have N:=R.upto O n c n (by rw[uR];omega);have L:=R.rest' O hc n hn (c - n) (m - n) (by rw[uE];omega);obtain⟨x0,xf,xl⟩:=z0v hq;have d0:decide ((m:Int)<n)=false:=wC;have n0:decide (m<n)=false:=wC;have a1:n<=c:=wF
 by_cases J:c=n
 .rw[wZ J]at L;have U:=z7 N;have Y:=z7 L;clear N L R hq O;subst J;go_enter func114,ntmps114;go_wp2;go_ret;exact⟨A,rfl,rfl,by rw[show m - c=0 by omega,pI],U.o,Y.o⟩
 rw[wR J]at L;have U:=z7 N;have Y:=z7 L;clear N L R hq O;go_enter func114,ntmps114;go_wp2;go_ret;exact⟨_,add_block A n,rfl,rfl,U.o,Y.o⟩
theorem q7Q(q:Nat)(Y:Addr)(m c n:Nat)(b:List UInt8)(w:World)(hq:w.heap[q]? =some (.cells #[.slice (some Y) m c] 163 (0,0)))(U:RdB w (.slice (some Y) m c) b)(a3:Y.block≠q)(hm:m=b.length)(hc:m<=c)(a5:c<=9223372036854775807)(hn:n<=m)(aJ:n<=8):
  Calls prog 110 #[.pointer (some ⟨q,0,none⟩),.int .i64 n] w fun e w'=>∃A:Addr,A.block=Y.block/\e= .returned (.int .u64 (z4y (b.take n):Nat))/\w'=w.setCell ⟨q,0,none⟩ (.slice (some A) (m - n) (c - n))/\RdB w' (.slice (some A) (m - n) (c - n)) (b.drop n):=by
 have a1:=z7 (q0q q Y m c n b w hq U hm hc a5 hn);obtain⟨bt,L⟩:=zN (b.take n);have a4:bt.length=n:=by rw[L,uR];omega
 have a0:=z7 a3;rw[<-L]at a1 ⊢;clear U hq hm hc a5 hn L a3;go_enter func110,ntmps110;go_wp2_with fail;refine a1.o.mono ?_;rintro e w1 ⟨A,J,rfl,rfl,a6,a7⟩;obtain⟨W,hW⟩:=zN (w.setCell ⟨q,0,none⟩ (.slice (some A) (m - n) (c - n)));have a9:Hid (RdB W (.slice (some Y) n c) bt):=z7 (a6.keep fun k hk=>by
  simp only[Value.ownBlock,wK]at hk;rw[hW];exact q7 (fun e=>a0.o (by rw[hk,e])))
 have aA:Hid (RdB W (.slice (some A) (m - n) (c - n)) (b.drop n)):=z7 (a7.keep fun k hk=>by
  simp only[Value.ownBlock,wK]at hk;rw[hW];exact q7 (fun e=>a0.o (by rw[<-J,hk,e])))
 rw[<-hW];have HW:=z7 hW;have a8:=z7 J;clear hW a6 a7 J;go_wp2_with fail;go_loopw[5,12] (fun sv kv wr=>∃k:Nat,sv= .int .u64 (z4y (bt.take k):Nat)/\kv= .int .i64 (k:Nat)/\k<=n/\wr=W) (fun _ kv _=>match kv with | .int _ x=>n - x.toNat|_=>0)
 case atStart=>exact⟨0,rfl,rfl,uA _,rfl⟩
 case round=>
  obtain⟨k,rfl,rfl,hk,aO⟩:=hrel;subst wr;obtain⟨S,hS⟩:=zN (z4y (bt.take k));rw[<-hS];by_cases aI:k<n
  .have R:k<bt.length:=wF;obtain⟨g,aS,c0,he,N,aH⟩:=a9.o.at R;rw[a4]at he;simp only[wO,wK]at he;obtain⟨aC, -, -⟩:=he;obtain⟨x,U⟩:=zN ((bt[k]).toNat);rw[<-U]at N;have aR:x<256:=(by rw[U];exact(bt[k]).toNat_lt);have aB:S<256^7:=by
    rw[hS];refine wS (y5M _) (uU wG ?_);rw[uR];omega
   obtain⟨S8,a2⟩:=zN (S*256);obtain⟨S2,I⟩:=zN (S*256+x);have aM:IntKind.u64.wrap ((S:Int)*256)=(S8:Int):=(by rw[wq];omega);have aN:IntKind.u64.wrap (x:Int)=(x:Int):=(by rw[wq];omega);have aL:bits .or .u64 (S8:Int) (x:Int)=(S2:Int):=by
    rw[rp _ _ wF wF,a2,show S*256=S*2^8 from rfl,y9s (show x<2^8 by omega),I]
   have aG:IntKind.i64.wrap ((k:Int)+1)=((k+1:Nat):Int):=z0l wF wF;obtain⟨k',O⟩:=zN (k+1);have aF:Hid (S2=z4y (bt.take k')):=z7 (by
    rw[O,uG,wL R,og,z9q,<-hS,I,U])
   rw[<-O]at aG;have aE:k'<=n/\k<k':=wF;subst aC;clear hS U aB a2 I O R;go_wp2;exact⟨⟨k',by rw[aF.o],rfl,aE.1,(by trivial)⟩,by show n - (k':Int).toNat<n - (k:Int).toNat;omega⟩
  have HS:Hid (S=z4y bt):=z7 (by rw[hS,wt wF]);clear hS;go_wp2;go_ret;exact⟨A,a8.o,by rw[HS.o];rfl,HW.o,aA.o⟩
abbrev y4W:List PanicEntry:= [{v:= .iface 162 (.agg #[]),recovered:=false}]
structure y6X (B:Nat) (w:World) (q:Nat) (ad:Addr) (m c:Nat) (b:List UInt8):Prop where
 blk:w.heap[q]? =some (.cells #[.slice (some ad) m c] 163 (0,0))
 rd:RdB w (.slice (some ad) m c) b
 lo:ad.block<B
 hi:B<=q
 len:m=b.length
 cap:m<=c
 few:c<=9223372036854775807
def z3j(B:Nat)(w:World)(q:Nat)(b:List UInt8):Prop:=∃ad m c,y6X B w q ad m c b
theorem y6X.lt{B:Nat}{w:World}{q:Nat}{A:Addr}{m c:Nat}{b:List UInt8}(h:y6X B w q A m c b):q<w.heap.size:=(wI.1 h.blk).1
theorem y6X.far{B:Nat}{w:World}{q:Nat}{A:Addr}{m c:Nat}{b:List UInt8}(h:y6X B w q A m c b):A.block≠q:=by have:=h.lo;have:=h.hi;omega
theorem z3j.lt{B:Nat}{w:World}{q:Nat}{b:List UInt8}(h:z3j B w q b):q<w.heap.size:=by obtain⟨A,m,c,h⟩:=h;exact h.lt
theorem z3j.keep{B:Nat}{w w':World}{q:Nat}{b:List UInt8}(h:z3j B w q b)(I:∀k,k<B\/k=q->w'.heap[k]? =w.heap[k]?):z3j B w' q b:=by
 obtain⟨J,m,c,h⟩:=h;refine⟨J,m,c,(I q (.inr rfl)).trans h.blk,h.rd.keep fun k A=>?_,h.lo,h.hi,h.len,h.cap,h.few⟩;simp only[Value.ownBlock,wK]at A;exact I k (.inl (by have:=h.lo;omega))
theorem z3j.low{B:Nat}{w w':World}{q:Nat}{b:List UInt8}(h:z3j B w q b)(hb:Below w.heap.size w w'):z3j B w' q b:=
 h.keep fun k I=>hb.block k (by have:=h.lt;obtain⟨A,m,c,h⟩:=h;have:=h.hi;omega)
def y4H(B q n:Nat)(b:List UInt8)(k:IntKind)(w:World)(e:Ending)(w':World):Prop:=
 z0n (fun j=>j=q) w w'/\((n<=b.length/\e= .returned (.int k (z4y (b.take n):Nat))/\z3j B w' q (b.drop n))\/(b.length<n/\e= .panicked y4W))
theorem q2N(q:Nat)(a:Option Addr)(m c n:Nat)(w:World)(A:w.heap[q]? =some (.cells #[.slice a m c] 163 (0,0)))(J:m<n)(I:n<=4611686018427387904):
  Calls prog 114 #[.pointer (some ⟨q,0,none⟩),.int .i64 n] w fun e w'=>e= .panicked y4W/\Below w.heap.size w w':=by
 obtain⟨x0,L,N⟩:=z0v A;clear A;go_enter func114,ntmps114;go_wp2;exact⟨rfl,rfl,wN _ _⟩
theorem y1B(B q n:Nat)(J:n<=8)(b:List UInt8)(w:World)(h:z3j B w q b):
  Calls prog 110 #[.pointer (some ⟨q,0,none⟩),.int .i64 n] w (y4H B q n b .u64 w):=by
 obtain⟨L,m,c,h⟩:=h;by_cases N:n<=b.length
 .refine(q7Q q L m c n b w h.blk h.rd h.far h.len h.cap h.few (by have:=h.len;omega) J).mono ?_;rintro e w' ⟨A,R,rfl,rfl,U⟩;exact⟨z0n.setCell w _ rfl,.inl ⟨N,rfl,A,m - n,c - n,by rw[z0a h.blk];rfl,U,by rw[R];exact h.lo,h.hi,by rw[uE,h.len],by have:=h.cap;omega,by have:=h.few;omega⟩⟩
 have O:=z7 (q2N q (some L) m c n w h.blk (by have:=h.len;omega) wF);have I:b.length<n:=wF
 clear h N;go_enter func110,ntmps110;go_wp2_with fail;refine O.o.mono ?_;rintro e w' ⟨rfl,hb⟩;exact⟨rfl,(z0n.of_below hb),.inr ⟨I,rfl⟩⟩
theorem z8e(B q:Nat)(b:List UInt8)(w:World)(h:z3j B w q b):
  Calls prog 111 #[.pointer (some ⟨q,0,none⟩)] w (y4H B q 4 b .u32 w):=by
 have L:=z7 (y1B B q 4 wG b w h);clear h;go_enter func111,ntmps111;go_wp2_with fail;refine L.o.mono ?_;rintro e w' ⟨I,⟨A,rfl,J⟩|⟨A,rfl⟩⟩
 .have N:IntKind.u32.wrap (z4y (b.take 4):Int)=(z4y (b.take 4):Int):=by
   have:=y5M (b.take 4);rw[uR,ku A]at this;rw[eP];omega
  have H:=z7 (kh I (kh A J));clear I A J;go_wp2;go_ret;exact⟨H.o.1,.inl ⟨H.o.2.1,rfl,H.o.2.2⟩⟩
 exact⟨rfl,I,.inr ⟨A,rfl⟩⟩
def fld(b:List UInt8)(i n:Nat):Nat:=z4y ((b.drop i).take n)
def y4e(B q:Nat)(b:List UInt8)(w:World)(e:Ending)(w':World):Prop:=
 z0n (fun j=>j=q) w w'/\((12<=b.length/\e= .returned (z4k (fld b 0 4,fld b 4 4,fld b 8 4))/\z3j B w' q (b.drop 12))\/(b.length<12/\e= .panicked y4W))
theorem z0n.same{S:Nat->Prop}{a b c:World}(h:z0n S a b)(k:z0n S b c):z0n S a c:=h.trans k fun _ A=> .inl A
theorem z0n.low{S:Nat->Prop}{a b c:World}(h:z0n S a b)(k:Below b.heap.size b c):z0n S a c:=h.trans (S':=fun _=>False) (z0n.of_below k) fun _ A=>A.elim
theorem q3L(B q:Nat)(b:List UInt8)(w:World)(h:z3j B w q b):
  Calls prog 112 #[.pointer (some ⟨q,0,none⟩)] w (y4e B q b w):=by
 have a0:Hid (q<w.heap.size/\B<=w.heap.size):=z7 (by have:=h.lt;obtain⟨ad,m,c,h⟩:=h;have:=h.hi;omega);have N:=z7 ((z0U.start (fun j=>j=q) w).new (.cells #[.int .u32 0,.int .u32 0,.int .u32 0] 45));have HN:=z7 (z8e B q b _ (h.low (q5 w (.cells #[.int .u32 0,.int .u32 0,.int .u32 0] 45))));have L:Hid (∀k,k=q->k<w.heap.size):=z7 fun k hk=>by have:=a0.o.1;omega
 clear h;go_enter func112,ntmps112;go_wp2_with fail;refine HN.o.mono ?_;rintro e w1 ⟨I,⟨A,rfl,J⟩|⟨A,rfl⟩⟩
 .have O:=z7 (N.o.turn I L.o);have a1:=z7 (z8e B q _ _ J);have H1:=z7 A;clear I A J;go_wp2_with fail;refine a1.o.mono ?_;rintro e w2 ⟨I,⟨A,rfl,J⟩|⟨A,rfl⟩⟩
  .have R:=z7 (O.o.turn I L.o);rw[oe]at J;have a2:=z7 (z8e B q _ _ J);have H2:=z7 A;clear I A J;go_wp2_with fail;refine a2.o.mono ?_;rintro e w3 ⟨I,⟨A,rfl,J⟩|⟨A,rfl⟩⟩
   .have U:=z7 (R.o.turn I L.o);rw[oe]at J;have H3:=z7 A;have HR:=z7 J;obtain⟨y0,y1,y2,yf⟩:=cells3 (U.o.get 0 rfl);clear I A J;have a3:Hid (∀k,k<w.heap.size->(((w3.setCell ⟨w.heap.size,0,none⟩ (.int .u32 (z4y (b.take 4):Nat))).setCell ⟨w.heap.size,1,none⟩ (.int .u32 (z4y ((b.drop 4).take 4):Nat))).setCell ⟨w.heap.size,2,none⟩ (.int .u32 (z4y ((b.drop (4+4)).take 4):Nat))).heap[k]? =w3.heap[k]?):=z7 fun k hk=>by
     rw[q7 wF,q7 wF,q7 wF]
    go_wp2;have Y:=((U.o.set 0 rfl 0 (.int .u32 (z4y (b.take 4):Nat))).set 0 rfl 1 (.int .u32 (z4y ((b.drop 4).take 4):Nat))).set 0 rfl 2 (.int .u32 (z4y ((b.drop (4+4)).take 4):Nat));refine wU (y0N rfl _ _ w.heap.size _ _ _ rfl (Y.get 0 rfl) rfl) rfl ?_;refine⟨Y.low,.inl ⟨?_,rfl,?_⟩⟩
    .have:=H3.o;rw[uE]at this;omega
    exact HR.o.keep fun k hk=>a3.o k (by have h8:=a0.o;rcases hk with h|h<;>omega)
   exact⟨rfl,(R.o.turn I L.o).low,.inr ⟨by have:=H1.o;have:=H2.o;rw[uE]at*;omega,rfl⟩⟩
  exact⟨rfl,(O.o.turn I L.o).low,.inr ⟨by have:=H1.o;rw[uE]at*;omega,rfl⟩⟩
 exact⟨rfl,(N.o.turn I L.o).low,.inr ⟨wF,rfl⟩⟩
theorem q5M(n:Nat)(w:World):
  Calls prog 113 #[.int .u64 n] w fun e w'=>Below w.heap.size w w'/\((n<=1/\e= .returned (.bool (n==1)))\/(1<n/\e= .panicked y4W)):=by
 by_cases h:n<=1
 .have A:decide ((1:Int)<n)=false:=wC;have I:((n:Int)==1)=(n==1):=by
   by_cases e:n=1
   .subst e;rfl
   rw[uy e,uy wF]
  have H:=z7 h;clear h;go_enter func113,ntmps113;go_wp2;go_ret;exact⟨wN _ _,.inl ⟨H.o,rfl⟩⟩
 have A:decide ((1:Int)<n)=true:=hQ;have H:=z7 h;clear h;go_enter func113,ntmps113;go_wp2;exact⟨rfl,wN _ _,.inr ⟨by have:=H.o;omega,rfl⟩⟩
structure q6X where
 kind:Nat
 a1:Nat:=0
 id:Nat:=0
 at_:Int:=0
 val:Nat:=0
 place:Nat×Nat×Nat:=(0,0,0)
 n5:Nat:=0
 flag:Bool:=false
 bits:List UInt8:= []
 count:Nat:=0
def q6X.cells(n:q6X)(v:Value):Array Value:=
 #[.int .u8 (n.kind:Nat),.int .u32 (n.a1:Nat),.int .u32 (n.id:Nat),.int .i64 n.at_,.int .u64 (n.val:Nat),.int .u32 (n.place.1:Nat),.int .u32 (n.place.2.1:Nat),.int .u32 (n.place.2.2:Nat),.int .u32 (n.n5:Nat),.bool n.flag,v,.int .i64 (n.count:Nat)]
end

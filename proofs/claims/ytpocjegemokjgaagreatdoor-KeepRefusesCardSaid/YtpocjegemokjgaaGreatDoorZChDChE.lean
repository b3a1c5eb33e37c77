/-
  The walk of chunk's All.
-/
import Derived.Test.YtpocjegemokjgaaGreatDoorZTaMTaBTaC
namespace Go.Proofs.YtpocjegemokjgaaGreatDoor
open Go.Proofs.Tryz
set_option linter.all false
set_option maxRecDepth 100000
set_option maxHeartbeats 12800000
open Go.RowKit Go.Shelf
attribute [local go_sem] Oper.semAt_some
def z0T(l:List z1c):List Value:=l.flatMap fun s=> [.int .i64 s.t,.int .u64 (s.v:Nat)]
theorem y2d(l:List z1c)(s:z1c):z0T (l++ [s])=z0T l++ [.int .i64 s.t,.int .u64 (s.v:Nat)]:=by simp[z0T]
theorem y5L{w:World}{a:Option Addr}{m c:Nat}{l:List Bool}{b:List UInt8}(h:z0r w a m c l b):0<b.length->∀k,(Value.slice a m c).ownBlock=some k->k<w.heap.size:=fun A k B=>by
 obtain⟨g,I,rfl,_,J⟩:=h.cell (j:=0) (by rw[h.len];exact A);simp only[Value.ownBlock,Option.some.injEq]at B;omega
def SmI(B h rB:Nat)(W5:World)(pre:List z1d)(W:World):Prop:=∃v,W.heap[h]? =some (.cells #[v] 41 (0,0))/\W.ownsRow B 71 2 v pre.length (z0T (z2l pre))/\Chg [h,rB] [] W5 W
theorem z7g{B e s n:Nat}{w w':World}{v:Value}{L:List Value}(J:w.ownsRow B e s v n L)(U:∀k o,B<=k->w.heap[k]? =some o->o.isCells=true->w'.heap[k]? =w.heap[k]?):w'.ownsRow B e s v n L:=
 j7 J fun k A=>by
  rcases J.2 with⟨I,_⟩|⟨g,cap,N,I,O,R,_⟩
  ·rw[I]at A;cases A
  ·rw[I]at A;simp only[Value.ownBlock,Option.some.injEq]at A;subst A;exact U g _ O R rfl
theorem y2E{w:World}{B e s n k l:Nat}{v:Value}{U:List Value}{o:Obj}(h:w.ownsRow B e s v n U)(A:v.ownBlock=some k)(J:w.heap[l]? =some o)(R:o.isCells=false):k≠l:=fun N=>by
 subst N;rcases h.2 with⟨I,_⟩|⟨g,cap,L,I,_,O,_⟩
 ·rw[I]at A;cases A
 ·rw[I]at A;simp only[Value.ownBlock,Option.some.injEq]at A;subst A;rw[O]at J;simp only[Option.some.injEq]at J;subst J;cases R
theorem y2x{w:World}{b:Nat}{t:TypeId}{fr:Nat×Nat}{y0 N L J I B A:Value}(h:w.heap[b]? =some (.cells #[y0,N,L,J,I,B,A] t fr))(x0 x1 x2 x3 x4 x5 x6:Value):(((((((w.setCell ⟨b,0,none⟩ x0).setCell ⟨b,1,none⟩ x1).setCell ⟨b,2,none⟩ x2).setCell ⟨b,3,none⟩ x3).setCell ⟨b,4,none⟩ x4).setCell ⟨b,5,none⟩ x5).setCell ⟨b,6,none⟩ x6).heap[b]? =some (.cells #[x0,x1,x2,x3,x4,x5,x6] t fr):=by
 have O:(w.setCell ⟨b,0,none⟩ x0).heap[b]? =some (.cells #[x0,N,L,J,I,B,A] t fr):=z0a h 0 x0;have R:((w.setCell ⟨b,0,none⟩ x0).setCell ⟨b,1,none⟩ x1).heap[b]? =some (.cells #[x0,x1,L,J,I,B,A] t fr):=z0a O 1 x1;have U:(((w.setCell ⟨b,0,none⟩ x0).setCell ⟨b,1,none⟩ x1).setCell ⟨b,2,none⟩ x2).heap[b]? =some (.cells #[x0,x1,x2,J,I,B,A] t fr):=z0a R 2 x2;have Y:((((w.setCell ⟨b,0,none⟩ x0).setCell ⟨b,1,none⟩ x1).setCell ⟨b,2,none⟩ x2).setCell ⟨b,3,none⟩ x3).heap[b]? =some (.cells #[x0,x1,x2,x3,I,B,A] t fr):=z0a U 3 x3;have h4:(((((w.setCell ⟨b,0,none⟩ x0).setCell ⟨b,1,none⟩ x1).setCell ⟨b,2,none⟩ x2).setCell ⟨b,3,none⟩ x3).setCell ⟨b,4,none⟩ x4).heap[b]? =some (.cells #[x0,x1,x2,x3,x4,B,A] t fr):=z0a Y 4 x4;have h5:((((((w.setCell ⟨b,0,none⟩ x0).setCell ⟨b,1,none⟩ x1).setCell ⟨b,2,none⟩ x2).setCell ⟨b,3,none⟩ x3).setCell ⟨b,4,none⟩ x4).setCell ⟨b,5,none⟩ x5).heap[b]? =some (.cells #[x0,x1,x2,x3,x4,x5,A] t fr):=z0a h4 5 x5;have h6:(((((((w.setCell ⟨b,0,none⟩ x0).setCell ⟨b,1,none⟩ x1).setCell ⟨b,2,none⟩ x2).setCell ⟨b,3,none⟩ x3).setCell ⟨b,4,none⟩ x4).setCell ⟨b,5,none⟩ x5).setCell ⟨b,6,none⟩ x6).heap[b]? =some (.cells #[x0,x1,x2,x3,x4,x5,x6] t fr):=z0a h5 6 x6;exact h6
theorem y2y{w:World}{b k:Nat}{x0 x1 x2 x3 x4 x5 x6:Value}(h:k≠b):(((((((w.setCell ⟨b,0,none⟩ x0).setCell ⟨b,1,none⟩ x1).setCell ⟨b,2,none⟩ x2).setCell ⟨b,3,none⟩ x3).setCell ⟨b,4,none⟩ x4).setCell ⟨b,5,none⟩ x5).setCell ⟨b,6,none⟩ x6).heap[k]? =w.heap[k]? :=by
 rw[q7 h,q7 h,q7 h,q7 h,q7 h,q7 h,q7 h]
theorem z7H(w:World):w.drew.heap=w.heap:=rfl
theorem z5n{B D:Nat}{w W:World}{o:Obj}(h:Below B w W)(I:B<=D):Below B w (W.putObj D o):=
 ⟨h.os,h.tape,h.output,by rw[World.putObj_size];exact h.size,fun k A=>(World.putObj_heap_other (by omega)).trans (h.block k A)⟩
theorem y1B{B b:Nat}{w W:World}{x0 x1 x2 x3 x4 x5 x6:Value}(h:Below B w W)(hb:B<=b):Below B w (((((((W.setCell ⟨b,0,none⟩ x0).setCell ⟨b,1,none⟩ x1).setCell ⟨b,2,none⟩ x2).setCell ⟨b,3,none⟩ x3).setCell ⟨b,4,none⟩ x4).setCell ⟨b,5,none⟩ x5).setCell ⟨b,6,none⟩ x6):=by
 have A:Below B w (W.setCell ⟨b,0,none⟩ x0):=h.setCell (show B<=b from hb) x0;have I:Below B w ((W.setCell ⟨b,0,none⟩ x0).setCell ⟨b,1,none⟩ x1):=A.setCell (show B<=b from hb) x1;have J:Below B w (((W.setCell ⟨b,0,none⟩ x0).setCell ⟨b,1,none⟩ x1).setCell ⟨b,2,none⟩ x2):=I.setCell (show B<=b from hb) x2;have L:Below B w ((((W.setCell ⟨b,0,none⟩ x0).setCell ⟨b,1,none⟩ x1).setCell ⟨b,2,none⟩ x2).setCell ⟨b,3,none⟩ x3):=J.setCell (show B<=b from hb) x3;have N:Below B w (((((W.setCell ⟨b,0,none⟩ x0).setCell ⟨b,1,none⟩ x1).setCell ⟨b,2,none⟩ x2).setCell ⟨b,3,none⟩ x3).setCell ⟨b,4,none⟩ x4):=L.setCell (show B<=b from hb) x4;have O:Below B w ((((((W.setCell ⟨b,0,none⟩ x0).setCell ⟨b,1,none⟩ x1).setCell ⟨b,2,none⟩ x2).setCell ⟨b,3,none⟩ x3).setCell ⟨b,4,none⟩ x4).setCell ⟨b,5,none⟩ x5):=N.setCell (show B<=b from hb) x5;have R:Below B w (((((((W.setCell ⟨b,0,none⟩ x0).setCell ⟨b,1,none⟩ x1).setCell ⟨b,2,none⟩ x2).setCell ⟨b,3,none⟩ x3).setCell ⟨b,4,none⟩ x4).setCell ⟨b,5,none⟩ x5).setCell ⟨b,6,none⟩ x6):=O.setCell (show B<=b from hb) x6;exact R
theorem z9S{B:Nat}{F:List Nat}{w I W:World}(h:Below B w I)(A:Chg F [] I W)(J:∀k∈F,B<=k)(O:B<=I.heap.size):Below B w W:=
 ⟨A.os.trans h.os,A.tape.trans h.tape,A.output.trans h.output,Nat.le_trans h.size A.size,fun k L=>(A.block k (by omega) (fun N=>by have:=J k N;omega)).trans (h.block k L)⟩
theorem y5N{B e s n D:Nat}{w:World}{v:Value}{I:List Value}(h:w.ownsRow B e s v n I)(A:w.heap[D]? =some (.deferred (some [])))(o:Obj):(w.putObj D o).ownsRow B e s v n I:=
 z7g h fun k N _ L J=>World.putObj_heap_other (fun e=>by
  subst e;rw[L]at A;simp only[Option.some.injEq]at A;subst A;cases J)
theorem SmI.turn{B h rB:Nat}{N W O:World}{L:List z1d}{row:Option Nat}(hI:SmI B h rB N L W)(I:W.grownBy O row)(hB:N.heap.size<=B)(Y:∀r,row=some r->B<=r/\∃o:Obj,W.heap[r]? =some o/\o.isCells=false):SmI B h rB N L O:=by
 obtain⟨v,R,h2,A⟩:=hI;have J:=fun r e=>(Y r e).2;refine⟨v,(grownBy_keeps_cells I J R rfl).trans R,z7g h2 fun k o _ ho hc=>grownBy_keeps_cells I J ho hc,?_⟩;exact⟨I.os.trans A.os,I.tape.trans A.tape,I.output.trans A.output,Nat.le_trans A.size I.size,fun k U hn=>(I.block k (Nat.lt_of_lt_of_le U A.size) (fun e=>by have:=(Y k e.symm).1;omega)).trans (A.block k U hn),A.fresh⟩
theorem SmI.step{B h N:Nat}{U W R:World}{L:List z1d}(hI:SmI B h N U L W)(A:y8M N W R)(hB:N<B)(hn:h≠N):SmI B h N U L R:=by
 obtain⟨u,Y,h2,I⟩:=hI;refine⟨u,(A.block h (Array.getElem?_eq_some_iff.1 Y).1 (by simpa using hn)).trans Y,z7g h2 fun k o O ho _=>A.block k (Array.getElem?_eq_some_iff.1 ho).1 (by simp;omega),?_⟩;exact⟨A.os.trans I.os,A.tape.trans I.tape,A.output.trans I.output,Nat.le_trans I.size A.size,fun k O J=>(A.block k (Nat.lt_of_lt_of_le O I.size) (fun e=>J (by simp at e;simp[e]))).trans (I.block k O J),I.fresh⟩
theorem y0F:∀(f:Nat) (e:z1M) (k:Nat) (l:List Bool),e.Ok->(z7a f e k l).1.length<=l.length
 | f,e,k, [],he=>by rw[z7i];simp
 | 0,e,k,b::l,he=>by simp[z7a]
 | f+1,e,k,b::l,he=>by
  rw[z9z];cases hc:z1n e (b::l)with
  | none=>simp
  | some q=>
   obtain⟨s,B,r⟩:=q;have A:=z1N he hc;have I:=y0F f B (k+((b::l).length - r.length)) r A.2.2.1;simp only;rw[List.length_cons];exact Nat.lt_of_le_of_lt I A.1
theorem y0S:(prog.info? 71).map (fun i=>(i.zero,i.size,i.bytes))=some (some (.agg #[.int .i64 0,.int .u64 0]),2,16):=by kernel_rfl
theorem q0p(a:Option Addr)(m c:Nat)(l:List Bool)(b:List UInt8)(w:World)(h:z0r w a m c l b)(hl:l.length<=549755812000)(hT:z1u w):
  Calls prog 33 #[.agg #[.slice a m c,.int .i64 l.length]] w fun e w'=>
   ((∃R av cv,z5o l=some R/\e= .returned (.tuple #[.slice av R.length cv,.agg #[.int .i64 ((z0m z0h R).n:Nat),.int .i64 (z0m z0h R).last,.int .i64 (z0m z0h R).delta,.bool (z0m z0h R).val.has,.int .u64 ((z0m z0h R).val.prev:Nat),.int .u8 ((z0m z0h R).val.lead:Nat),.int .u8 ((z0m z0h R).val.width:Nat)],.int .u16 0])/\
     w'.ownsRow w.heap.size 71 2 (.slice av R.length cv) R.length (z0T (z2l R)))\/
    (z5o l=none/\e= .returned (.tuple #[.slice none 0 0,.agg #[.int .i64 0,.int .i64 0,.int .i64 0,.bool false,.int .u64 0,.int .u8 0,.int .u8 0],.int .u16 61])))/\Below w.heap.size w w':=by
 obtain⟨iS,bN,bA,bB,bC⟩:=info_parts y0S;have bE:=z7 (q1p l);obtain⟨N,hN⟩:=zN l.length;rw[<-hN];have a8:=((((Loc.start w).new (.cells #[.slice a m c,.int .i64 (N:Nat)] 49)).new' (.cells #[.int .i64 0,.int .i64 0,.int .i64 0,.bool false,.int .u64 0,.int .u8 0,.int .u8 0] 98) (n:=w.heap.size+1) (by simp)).new' (.cells #[.slice a m c,.int .i64 (N:Nat),.int .i64 0,.int .i64 0,.int .i64 0,.int .i64 0,.bool false,.int .u64 0,.int .u8 0,.int .u8 0,.int .u16 0] 174) (n:=w.heap.size+1+1) (by simp)).new' (.cells #[.slice none 0 0] 41) (n:=w.heap.size+1+1+1) (by simp);obtain⟨W5,aT,a8⟩:=a8.named;have a3:W5.heap.size=w.heap.size+4:=by rw[aT];simp
 obtain⟨B,b5⟩:=zN (w.heap.size+1+1);have H:=z7 h;have HN:=z7 hN;have HT:=z7 hT;have bH:=z7 a3;have a8:=z7 a8;have aG:=z7 b5;have bI:=z7 aT;clear h hN hT a3 aT b5;refine(callsIn_wide (n:=3)).1 ?_;refine callsIn_of_wp_marks func33 rfl trivial ?_ rfl;simp only[ntmps33,List.size_toArray,List.length_cons,List.length_nil,Nat.reduceAdd,Nat.reduceSub,Array.replicate_succ,Array.replicate_zero,List.push_toArray,List.append_toArray,List.nil_append,List.cons_append]
 gi_wp2
 rw[<-bI.o];simp only[<-aG.o];have a4:=a8.o;simp only[<-aG.o]at a4;have a3:W5.heap.size=B+2:=by have:=bH.o;have:=aG.o;omega
 have k0:W5.heap[B]? =some (wkO a m c l.length 0 z0h 0):=by rw[<-HN.o];exact a4.get 1 rfl
 have k1:W5.heap[B+1]? =some (.cells #[.slice none 0 0] 41 (0,0)):=a4.get 0 rfl;have kr:W5.heap[w.heap.size+1]? =some (.cells #[.int .i64 0,.int .i64 0,.int .i64 0,.bool false,.int .u64 0,.int .u8 0,.int .u8 0] 98 (0,0)):=a4.get 2 rfl;have bJ:Below w.heap.size w W5:=a4.low;have aM:B=w.heap.size+2:=aG.o;have aE:=y0F (l.length - 0) z0h 0 (l.drop 0) z4R;have aF:(z1T l 0 z0h).1.length<=N:=by rw[HN.o];exact Nat.le_trans aE (by simp)
 have bX:N<=549755812000:=by have:=HN.o;omega
 have KR:=z7 kr;have a6:=z7 bJ;have aO:=z7 a3;have a9:=z7 aM;refine z8O (encs:=fun x:z1d=> #[.agg #[.int .i64 x.s.t,.int .u64 (x.s.v:Nat)]]) rfl (by omega) (gf:=77) (la:= #[.pointer (some ⟨B,0,none⟩)]) (lb:= #[]) rfl trivial (enters_of func77 (by kernel_rfl) rfl) (fun _=>rfl)
  (q4l (z1T l 0 z0h).1 B a m c l.length) (q5J (B+2) (B+1)) (y8M B) (fun A=>A=(z1T l 0 z0h).1) (z8a (z1T l 0 z0h) B a m c l.length)
  (y7W (3 - 1) (by omega) a m c l b (B+2) (B+1) B W5 k0 (H.o.low a6.o) (by omega) (fun h0 k Y=>by have:=y5L H.o h0 k Y;omega) (by omega) (by omega) (by omega) (fun w' Y=>by
   have h1:=HT.o.low a6.o;intro j hj;have h2:=h1 j hj;have bZ:0<w.heap.size:=by
    by_cases hx:0<w.heap.size
    ·exact hx
    ·have h3:=HT.o j hj;simp[World.cell?,Array.getElem?_eq_none (Nat.le_of_not_lt hx)]at h3
   exact(World.cell?_of_block (w:=W5) (a:=⟨0,j,none⟩) (Y 0 (by omega) (by omega) (by omega))).trans h2))
  (fun X l o o' hX hl ho hc=>(World.putObj_heap_other (show B≠l by omega)).trans hX)
  (fun h1 h2=>⟨Nat.le_trans h1.1 h2.1,fun k Y hn=>(h2.2 k Y hn).trans (h1.2 k Y hn)⟩)
  (fun W l o o' hl bO ho=>⟨by simp,fun k Y hn=>World.putObj_heap_other (by omega)⟩)
  (fun pre W=>SmI (B+2) (B+1) B W5 pre W)
  (fun s X X' hs aL=>hs.step aL (by omega) (by omega))
  (fun X X' aL=>⟨aL.size,fun k o Y ho hc=>(aL.block k (Array.getElem?_eq_some_iff.1 ho).1 (by simp;omega)).trans ho⟩)
  (fun s X X' row hs hg hr=>hs.turn hg (by omega) (fun r e=>by have:=hr r e;rw[a3]at this;exact this))
  (fun s x X l o o' b4 hl bO ho=>⟨b4.1,(World.putObj_heap_other (show B≠l by omega)).trans b4.2⟩)
  ⟨_,k1,World.ownsRow_nil _ _ _ _,⟨rfl,rfl,rfl,Nat.le_refl _,fun _ _ _=>rfl,fun x hx=>by cases hx⟩⟩
  (fun x=> .cells #[.int .i64 x.s.t,.int .u64 (x.s.v:Nat)] 71)
  (fun x sz=>{tmps:= #[.agg #[.slice a m c,.int .i64 (N:Nat)],.pointer (some ⟨w.heap.size,0,none⟩),.slice none 0 0,.pointer (some ⟨w.heap.size+1,0,none⟩),.int .u16 0,.pointer (some ⟨B,0,none⟩),.pointer (some ⟨B+1,0,none⟩),.pointer (some ⟨sz,0,none⟩),.agg #[.slice a m c,.int .i64 (N:Nat)],.agg #[.slice a m c,.int .i64 (N:Nat),.int .i64 0,.int .i64 0,.int .i64 0,.int .i64 0,.bool false,.int .u64 0,.int .u8 0,.int .u8 0,.int .u16 0],.pointer (some ⟨B,0,none⟩),.pointer (some ⟨B,0,none⟩),.func (.func 77) #[.pointer (some ⟨B,0,none⟩)] #[],.agg #[.int .i64 x.s.t,.int .u64 (x.s.v:Nat)],undef,undef,undef,undef,undef,undef,undef,undef,undef,undef,undef,undef,undef,undef,undef,undef,undef,undef,undef],defers:= []}) ?assign ?body ?done
 case assign=>
  clear aM a3;intro lq x W K hK
  gi_wp2
  exact hK
 case body=>
  rintro lq pre x W ⟨v,c1,O,U⟩ ⟨⟨r,hr⟩,b9⟩;obtain⟨av,cv,rfl⟩:=(z0e O).head;obtain⟨pm,aW⟩:=zN pre.length;have bR:pre.length<=N:=by
   have:=congrArg List.length hr;rw[List.length_append]at this;omega
  obtain⟨⟨R,sv⟩,xe,xa⟩:=x;dsimp only at hr b9 ⊢;rw[<-aW]at O bR c1;obtain⟨f1,f2,f3⟩:=z0u c1;have J:=z7 O;have a2:=z7 U;have C1:=z7 c1;have bG:=z7 aW;clear hr b9 O U c1 aW k0 k1 kr a4 aE aF;obtain⟨W2,bL,aB⟩:∃W2,W2=(W.alloc (.cells #[.int .i64 R,.int .u64 sv] 71)).alloc (.cells #[.int .i64 R,.int .u64 sv] 71)/\Below W.heap.size W W2:=⟨_,rfl,(q5 _ _).trans ((q5 _ _).mono (by simp))⟩;subst bL;have b0:=z7 (ownsRow_below J.o aB (Nat.le_refl _));have b7:=z7 (y0t (W.alloc (.cells #[.int .i64 R,.int .u64 sv] 71)) #[.int .i64 R,.int .u64 sv] 71 (W.heap.size+1) 1 2 (by simp) (by decide) rfl);have aR:((W.alloc (.cells #[.int .i64 R,.int .u64 sv] 71)).alloc (.cells #[.int .i64 R,.int .u64 sv] 71)).heap.size=W.heap.size+2:=by simp
  have bU:B+2<=W.heap.size:=by have:=a2.o.size;omega
  have L:=z7 aB;have bT:=z7 aR;clear aM a3 aB aR
  gi_wp2_with (gi_at_builtin;refine z3I rfl _ _ 41 rfl (B+2) 71 iS (.agg #[.int .i64 0,.int .u64 0]) 2 16 underlying41 bN bA bB bC rfl (by decide) _ pm _ rfl b0.o _ 1 [.int .i64 R,.int .u64 sv] rfl (by exact b7.o) (by simp[Value.oneCell']) (by unfold maxLen;omega) (by omega) (by simp;omega) ?_;intro v1 w1 a5 aZ bM;obtain⟨a1,aS,rfl⟩:=(z0e a5).head;have b3:=z7 a5;have a7:=z7 aZ;have aY:=((aZ.block (B+1) (by simp;omega) (fun e=>by have:=(J.o.lt _ e.symm).1;omega)).trans (L.o.block _ f3)).trans C1.o;obtain⟨e1,e2,e3⟩:=z0u aY;have bF:=z7 aY;clear a5 aZ bM aY)
  have hI:SmI (B+2) (B+1) B W5 (pre++ [⟨⟨R,sv⟩,xe,xa⟩]) (w1.setCell ⟨B+1,0,none⟩ (.slice a1 (pm+1) aS)):=by
   refine⟨.slice a1 (pm+1) aS,?_,?_,?_⟩
   ·have:=z0a bF.o 0 (.slice a1 (pm+1) aS);simpa using this
   ·have e:z0T (z2l (pre++ [⟨⟨R,sv⟩,xe,xa⟩]))=z0T (z2l pre)++ [.int .i64 R,.int .u64 sv]:=by
     unfold z2l;rw[List.map_append];exact y2d _ _
    rw[List.length_append,<-bG.o,e];exact j7 b3.o fun k Y=>q7 (by have:=(b3.o.lt k Y).1;omega)
   ·have h1:=a2.o;have h2:=a7.o;have h4:=L.o;refine⟨(h2.os.trans h4.os).trans h1.os,(h2.tape.trans h4.tape).trans h1.tape,(h2.output.trans h4.output).trans h1.output,by have:=h2.size;have:=h1.size;have:=h4.size;rw[z6H];omega,fun k Y hn=>?_,fun k Y=>by cases Y⟩;have h3:k≠B+1:=fun e=>hn (by simp[e]);have bD:=aO.o;rw[q7 h3,h2.block k (by have:=h1.size;have:=h4.size;omega) (fun e=>by have:=(J.o.lt _ e.symm).1;omega),h4.block k (by have:=h1.size;omega)];exact h1.block k Y hn
  refine⟨?_,?_,hI⟩
  ·rw[aO.o];refine⟨by have:=a7.o.size;have:=L.o.size;rw[z6H];omega,fun k o Y ho hc=>?_⟩;have h1:=(Array.getElem?_eq_some_iff.1 ho).1;have h2:k≠B+1:=(by omega);rw[q7 h2,a7.o.block k (by have:=L.o.size;omega) (fun e'=>(y2E J.o e'.symm ho hc) rfl),L.o.block k h1];exact ho
  ·refine⟨by have:=a7.o.size;have:=L.o.size;rw[z6H];omega,fun k Y hn=>?_⟩;rw[q7 hn,a7.o.block k (by have:=L.o.size;omega) (fun e=>by have:=(J.o.lt _ e.symm).1;omega)];exact L.o.block k (by omega)
 case done=>
  rintro D A W hD hS hF ⟨v,c1,O,U⟩ hK;have b1:A=(z1T l 0 z0h).1:=hS;obtain⟨ST,aI⟩:=zN (z1T l 0 z0h);have bV:=z7 aI;rw[<-aI]at b1 hF;have aC:=bE.o;rw[<-aI]at aC;obtain⟨wh,b8⟩:=zN (ST.2);unfold z8a at hF;rw[<-b8]at hF aC;rw[<-b1]at hF aC;obtain⟨av,cv,rfl⟩:=(z0e O).head;have aJ:=(U.block (w.heap.size+1) (by omega) (by simp;omega)).trans kr;obtain⟨f1,f2,f3⟩:=z0u c1;obtain⟨x0,x1,x2,x3,x4,x5,x6,xf⟩:=z2X aJ;have J:=z7 O;have a2:=z7 U;have HK:=z7 hK;have b2:=z7 aJ;have aN:=z7 aC;have HF:=z7 hF;have a0:Hid (w.heap.size+1<D/\B+1<D):=z7 (by omega);have bY:Hid (w.heap.size+1<W.heap.size):=z7 ((Array.getElem?_eq_some_iff.1 aJ).1);clear b1 aI b8 aC O U hK aJ hF hS c1 k0 k1 kr a4 aE aF aM a3;cases wh with
  | true=>
   have aA:W.heap[B]? =some (wkO a m c l.length l.length (z0m z0h A) 0):=(by have:=HF.o;rwa [if_pos rfl]at this);obtain⟨u0,u1,u2,u3,u4,u5,u6,u7,u8,u9,bS,uf⟩:=z0o aA;clear aA
   gi_wp2_with fail
   refine wpIn_wide.2 ?_;go_region
   go_wp2
   gi_wp2
   obtain⟨Wf,I⟩:=zN ((((((((W.setCell ⟨w.heap.size+1,0,none⟩ (.int .i64 ((z0m z0h A).n:Nat))).setCell ⟨w.heap.size+1,1,none⟩ (.int .i64 (z0m z0h A).last)).setCell ⟨w.heap.size+1,2,none⟩ (.int .i64 (z0m z0h A).delta)).setCell ⟨w.heap.size+1,3,none⟩ (.bool (z0m z0h A).val.has)).setCell ⟨w.heap.size+1,4,none⟩ (.int .u64 ((z0m z0h A).val.prev:Nat))).setCell ⟨w.heap.size+1,5,none⟩ (.int .u8 ((z0m z0h A).val.lead:Nat))).setCell ⟨w.heap.size+1,6,none⟩ (.int .u8 ((z0m z0h A).val.width:Nat))).drew);rw[<-I];have aD:Wf.heap[w.heap.size+1]? =some (.cells #[.int .i64 ((z0m z0h A).n:Nat),.int .i64 (z0m z0h A).last,.int .i64 (z0m z0h A).delta,.bool (z0m z0h A).val.has,.int .u64 ((z0m z0h A).val.prev:Nat),.int .u8 ((z0m z0h A).val.lead:Nat),.int .u8 ((z0m z0h A).val.width:Nat)] 98 (0,0)):=(by rw[I,z7H];exact y2x b2.o (.int .i64 ((z0m z0h A).n:Nat)) (.int .i64 (z0m z0h A).last) (.int .i64 (z0m z0h A).delta) (.bool (z0m z0h A).val.has) (.int .u64 ((z0m z0h A).val.prev:Nat)) (.int .u8 ((z0m z0h A).val.lead:Nat)) (.int .u8 ((z0m z0h A).val.width:Nat)));have aH:Wf.heap[D]? =some (.deferred (some [])):=by rw[I,z7H];exact(y2y (x0:=(.int .i64 ((z0m z0h A).n:Nat))) (x1:=(.int .i64 (z0m z0h A).last)) (x2:=(.int .i64 (z0m z0h A).delta)) (x3:=(.bool (z0m z0h A).val.has)) (x4:=(.int .u64 ((z0m z0h A).val.prev:Nat))) (x5:=(.int .u8 ((z0m z0h A).val.lead:Nat))) (x6:=(.int .u8 ((z0m z0h A).val.width:Nat))) (b:=w.heap.size+1) (show D≠w.heap.size+1 by have:=a0.o;omega)).trans HK.o
   have aV:Below w.heap.size w W:=z9S a6.o a2.o (fun k Y=>by have:=a9.o;simp at Y;omega) a6.o.size;have aU:Below w.heap.size w Wf:=(by rw[I];exact(y1B (x0:=(.int .i64 ((z0m z0h A).n:Nat))) (x1:=(.int .i64 (z0m z0h A).last)) (x2:=(.int .i64 (z0m z0h A).delta)) (x3:=(.bool (z0m z0h A).val.has)) (x4:=(.int .u64 ((z0m z0h A).val.prev:Nat))) (x5:=(.int .u8 ((z0m z0h A).val.lead:Nat))) (x6:=(.int .u8 ((z0m z0h A).val.width:Nat))) (b:=w.heap.size+1) aV (by omega)).drew);have aX:=z5n (o:= .deferred none) aU (show w.heap.size<=D by have:=a0.o;omega);have b6:Wf.ownsRow (B+2) 71 2 (.slice av A.length cv) A.length (z0T (z2l A)):=(by rw[I];exact z4i (z5k (x0:=(.int .i64 ((z0m z0h A).n:Nat))) (x1:=(.int .i64 (z0m z0h A).last)) (x2:=(.int .i64 (z0m z0h A).delta)) (x3:=(.bool (z0m z0h A).val.has)) (x4:=(.int .u64 ((z0m z0h A).val.prev:Nat))) (x5:=(.int .u8 ((z0m z0h A).val.lead:Nat))) (x6:=(.int .u8 ((z0m z0h A).val.width:Nat))) (b:=w.heap.size+1) J.o (by have:=a9.o;omega)));clear I;refine⟨by simp,.inl ⟨_,_,rfl,run_takeDeferred aH,?_⟩⟩;refine⟨_,y4F rfl _ _ (w.heap.size+1) _ _ _ _ _ _ _ rfl ((World.putObj_heap_other (show w.heap.size+1≠D by have:=a0.o;omega)).trans aD) rfl,?_,aX⟩;have ha:z5o l=some A:=(by simpa using aN.o);exact .inl ⟨A,av,cv,ha,rfl,z0c (y5N b6 aH _) (by have:=a9.o;omega)⟩
  | false=>
   have aA:W.heap[B]? =some (wkO a m c l.length 0 z0h 61):=(by have:=HF.o;rwa [if_neg (by decide)]at this);obtain⟨u0,u1,u2,u3,u4,u5,u6,u7,u8,u9,bS,uf⟩:=z0o aA;clear aA
   gi_wp2_with fail
   refine wpIn_wide.2 ?_;go_region
   go_wp2
   gi_wp2
   obtain⟨Wf,I⟩:=zN ((((((((W.setCell ⟨w.heap.size+1,0,none⟩ (.int .i64 0)).setCell ⟨w.heap.size+1,1,none⟩ (.int .i64 0)).setCell ⟨w.heap.size+1,2,none⟩ (.int .i64 0)).setCell ⟨w.heap.size+1,3,none⟩ (.bool false)).setCell ⟨w.heap.size+1,4,none⟩ (.int .u64 0)).setCell ⟨w.heap.size+1,5,none⟩ (.int .u8 0)).setCell ⟨w.heap.size+1,6,none⟩ (.int .u8 0)).drew);rw[<-I];have aD:Wf.heap[w.heap.size+1]? =some (.cells #[.int .i64 0,.int .i64 0,.int .i64 0,.bool false,.int .u64 0,.int .u8 0,.int .u8 0] 98 (0,0)):=(by rw[I,z7H];exact y2x b2.o (.int .i64 0) (.int .i64 0) (.int .i64 0) (.bool false) (.int .u64 0) (.int .u8 0) (.int .u8 0));have aH:Wf.heap[D]? =some (.deferred (some [])):=(by rw[I,z7H];exact(y2y (x0:=(.int .i64 0)) (x1:=(.int .i64 0)) (x2:=(.int .i64 0)) (x3:=(.bool false)) (x4:=(.int .u64 0)) (x5:=(.int .u8 0)) (x6:=(.int .u8 0)) (b:=w.heap.size+1) (show D≠w.heap.size+1 by have:=a0.o;omega)).trans HK.o);have aV:Below w.heap.size w W:=z9S a6.o a2.o (fun k Y=>by have:=a9.o;simp at Y;omega) a6.o.size;have aU:Below w.heap.size w Wf:=by rw[I];exact(y1B (x0:=(.int .i64 0)) (x1:=(.int .i64 0)) (x2:=(.int .i64 0)) (x3:=(.bool false)) (x4:=(.int .u64 0)) (x5:=(.int .u8 0)) (x6:=(.int .u8 0)) (b:=w.heap.size+1) aV (by omega)).drew
   have aX:=z5n (o:= .deferred none) aU (show w.heap.size<=D by have:=a0.o;omega);have b6:Wf.ownsRow (B+2) 71 2 (.slice av A.length cv) A.length (z0T (z2l A)):=(by rw[I];exact z4i (z5k (x0:=(.int .i64 0)) (x1:=(.int .i64 0)) (x2:=(.int .i64 0)) (x3:=(.bool false)) (x4:=(.int .u64 0)) (x5:=(.int .u8 0)) (x6:=(.int .u8 0)) (b:=w.heap.size+1) J.o (by have:=a9.o;omega)));clear I;refine⟨by simp,.inl ⟨_,_,rfl,run_takeDeferred aH,?_⟩⟩;refine⟨_,y4F rfl _ _ (w.heap.size+1) _ _ _ _ _ _ _ rfl ((World.putObj_heap_other (show w.heap.size+1≠D by have:=a0.o;omega)).trans aD) rfl,?_,aX⟩;have ha:z5o l=none:=(by simpa using aN.o);exact .inr ⟨ha,rfl⟩
attribute [local go_sem] Oper.semAt_some
theorem z8S{F:Fence}{n':Nat}{P:Program}{w:World}{a:Act}{o:Oper}{Q:Exit->Act->World->Prop}{K:Act->World->Prop}{ops:Array Oper}{E:Prop}(Y:o.guard=none)(s x:Operand)(t:TypeId)
  (ho:o.op= .call {callee:= .builtin .append,args:= #[s,x],argTypes:= #[t,t]})
  (base:Nat) (e:TypeId) (i:TypeInfo) (z:Value) (size bytes:Nat) (ht:P.underlying t=some (.slice e)) (hi:P.info? e=some i) (hz:i.zero=some z)
  (I:i.size=size) (R:i.bytes=bytes) (a2:z.cells.size=size) (a1:0<size)
  (v:Value) (n:Nat) (xs:List Value) (hs:a.eval s=v) (J:w.ownsRow base e size v n xs)
  (xv:Value) (m:Nat) (news:List Value) (hx:a.eval x=xv) (a0:Rd w xv size m news) (h1:∀u∈news,u.oneCell'=true)
  (O:n+m<=maxLen) (A:(n+m)*bytes<=140737488355328) (B:base<=w.heap.size)
  (h:∀N w',w'.ownsRow base e size N (n+m) (xs++news)->w.grownBy w' v.ownBlock->K (a.put o.dst N) w'):
  if Region.wanted o (yielded ops a.tmps)=true then Oper.wpIn F n' P o a w K Q else E:=by
 have hw:Region.wanted o (yielded ops a.tmps)=true:=by simp[Region.wanted,Y]
 rw[if_pos hw];obtain⟨N,w',L,r1,r2,r3,r4⟩:=z3M (P:=P) (w:=w) base t o.type e i z size bytes ht hi hz I R a2 a1 v n xs J xv m news a0 h1 O A B;unfold Oper.wpIn;refine⟨?_,?_⟩
 ·simp[Oper.about,ho,resolve,Target.leads,Sem.run_pure]
 ·rw[Oper.semAt_plain F _ _ (by rw[ho];intro c U;cases U)];simp[execOp,ho,resolve,invoke,builtin,hs,hx,L,Result.andThen];exact h N w' r1 r2
def z2p(l:List Nat):List Value:=l.map fun n=> .int .i64 (n:Nat)
def EnI(B h rB:Nat)(W5:World)(pre:List z1d)(W:World):Prop:=∃v,W.heap[h]? =some (.cells #[v] 94 (0,0))/\W.ownsRow B 3 1 v pre.length (z2p (z1p pre))/\Chg [h,rB] [] W5 W
theorem EnI.turn{B h rB:Nat}{N W O:World}{L:List z1d}{row:Option Nat}(hI:EnI B h rB N L W)(I:W.grownBy O row)(hB:N.heap.size<=B)(Y:∀r,row=some r->B<=r/\∃o:Obj,W.heap[r]? =some o/\o.isCells=false):EnI B h rB N L O:=by
 obtain⟨v,R,h2,A⟩:=hI;have J:=fun r e=>(Y r e).2;refine⟨v,(grownBy_keeps_cells I J R rfl).trans R,z7g h2 fun k o _ ho hc=>grownBy_keeps_cells I J ho hc,?_⟩;exact⟨I.os.trans A.os,I.tape.trans A.tape,I.output.trans A.output,Nat.le_trans A.size I.size,fun k U hn=>(I.block k (Nat.lt_of_lt_of_le U A.size) (fun e=>by have:=(Y k e.symm).1;omega)).trans (A.block k U hn),A.fresh⟩
theorem EnI.step{B h N:Nat}{U W R:World}{L:List z1d}(hI:EnI B h N U L W)(A:y8M N W R)(hB:N<B)(hn:h≠N):EnI B h N U L R:=by
 obtain⟨u,Y,h2,I⟩:=hI;refine⟨u,(A.block h (Array.getElem?_eq_some_iff.1 Y).1 (by simpa using hn)).trans Y,z7g h2 fun k o O ho _=>A.block k (Array.getElem?_eq_some_iff.1 ho).1 (by simp;omega),?_⟩;exact⟨A.os.trans I.os,A.tape.trans I.tape,A.output.trans I.output,Nat.le_trans I.size A.size,fun k O J=>(A.block k (Nat.lt_of_lt_of_le O I.size) (fun e=>J (by simp at e;simp[e]))).trans (I.block k O J),I.fresh⟩
theorem y4M:(prog.info? 3).map (fun i=>(i.zero,i.size,i.bytes))=some (some (.int .i64 0),1,8):=by kernel_rfl
def q0m(l:List Bool)(w:World)(e:Ending)(w':World):Prop:=
 ((∃st av cv,z5o l=some st/\e= .returned (.tuple #[.slice av st.length cv,.int .u16 0])/\w'.ownsRow w.heap.size 3 1 (.slice av st.length cv) st.length (z2p (z1p st)))\/
  (z5o l=none/\e= .returned (.tuple #[.slice none 0 0,.int .u16 61])))/\Below w.heap.size w w'
theorem q4i(a:Option Addr)(m c:Nat)(l:List Bool)(b:List UInt8)(w:World)(h:z0r w a m c l b)(hl:l.length<=549755812000)(hT:z1u w):
  Calls prog 135 #[.agg #[.slice a m c,.int .i64 l.length]] w (q0m l w):=by
 obtain⟨iS,bI,b6,b7,b8⟩:=info_parts y4M;have b9:=z7 (q1p l);obtain⟨N,hN⟩:=zN l.length;rw[<-hN];have a5:=((((Loc.start w).new (.cells #[.slice a m c,.int .i64 (N:Nat)] 49)).new' (.cells #[.slice a m c,.int .i64 (N:Nat),.int .i64 0,.int .i64 0,.int .i64 0,.int .i64 0,.bool false,.int .u64 0,.int .u8 0,.int .u8 0,.int .u16 0] 174) (n:=w.heap.size+1) (by simp)).new' (.cells #[.pointer (some ⟨w.heap.size+1,0,none⟩)] 172) (n:=w.heap.size+1+1) (by simp)).new' (.cells #[.slice none 0 0] 94) (n:=w.heap.size+1+1+1) (by simp);obtain⟨W5,aO,a5⟩:=a5.named;have Y:W5.heap.size=w.heap.size+4:=by rw[aO];simp
 obtain⟨B,b3⟩:=zN (w.heap.size+1);have H:=z7 h;have HN:=z7 hN;have HT:=z7 hT;have bC:=z7 Y;have a5:=z7 a5;have aE:=z7 b3;have bE:=z7 aO;clear h hN hT Y aO b3;refine(callsIn_wide (n:=3)).1 ?_;refine callsIn_of_wp_marks func135 rfl trivial ?_ rfl;simp only[ntmps135,List.size_toArray,List.length_cons,List.length_nil,Nat.reduceAdd,Nat.reduceSub,Array.replicate_succ,Array.replicate_zero,List.push_toArray,List.append_toArray,List.nil_append,List.cons_append]
 gi_wp2
 rw[<-bE.o];simp only[<-aE.o];have a0:=a5.o;simp only[<-aE.o]at a0;have Y:W5.heap.size=B+3:=by have:=bC.o;have:=aE.o;omega
 have k0:W5.heap[B]? =some (wkO a m c l.length 0 z0h 0):=by rw[<-HN.o];exact a0.get 2 rfl
 have k1:W5.heap[B+1+1]? =some (.cells #[.slice none 0 0] 94 (0,0)):=a0.get 0 rfl;have kp:W5.heap[B+1]? =some (.cells #[.pointer (some ⟨B,0,none⟩)] 172 (0,0)):=a0.get 1 rfl;have bG:Below w.heap.size w W5:=a0.low;have aH:B=w.heap.size+1:=aE.o;have aA:=y0F (l.length - 0) z0h 0 (l.drop 0) z4R;have aB:(z1T l 0 z0h).1.length<=N:=by rw[HN.o];exact Nat.le_trans aA (by simp)
 have bU:N<=549755812000:=by have:=HN.o;omega
 have KP:=z7 kp;have aC:=z7 bG;have aJ:=z7 Y;have aF:=z7 aH;refine z5O (encs:=fun x:z1d=> #[.agg #[.int .i64 x.s.t,.int .u64 (x.s.v:Nat)]]) rfl (by omega) (gf:=77) (la:= #[.pointer (some ⟨B,0,none⟩)]) (lb:= #[]) rfl trivial (enters_of func77 (by kernel_rfl) rfl) (fun _=>rfl)
  (q4l (z1T l 0 z0h).1 B a m c l.length) (q5J (B+3) (B+1+1)) (y8M B) (fun xs=>xs=(z1T l 0 z0h).1) (z8a (z1T l 0 z0h) B a m c l.length)
  (y7W (3 - 1) (by omega) a m c l b (B+3) (B+1+1) B W5 k0 (H.o.low aC.o) (by omega) (fun h0 k U=>by have:=y5L H.o h0 k U;omega) (by omega) (by omega) (by omega) (fun w' U=>by
   have h1:=HT.o.low aC.o;intro j hj;have h2:=h1 j hj;have bV:0<w.heap.size:=by
    by_cases hx:0<w.heap.size
    ·exact hx
    ·have h3:=HT.o j hj;simp[World.cell?,Array.getElem?_eq_none (Nat.le_of_not_lt hx)]at h3
   exact(World.cell?_of_block (w:=W5) (a:=⟨0,j,none⟩) (U 0 (by omega) (by omega) (by omega))).trans h2))
  (fun X l o o' hX hl ho hc=>(World.putObj_heap_other (show B≠l by omega)).trans hX)
  (fun h1 h2=>⟨Nat.le_trans h1.1 h2.1,fun k U hn=>(h2.2 k U hn).trans (h1.2 k U hn)⟩)
  (fun W l o o' hl bJ ho=>⟨by simp,fun k U hn=>World.putObj_heap_other (by omega)⟩)
  (fun pre W=>EnI (B+3) (B+1+1) B W5 pre W)
  (fun s X X' hs aG=>hs.step aG (by omega) (by omega))
  (fun X X' aG=>⟨aG.size,fun k o U ho hc=>(aG.block k (Array.getElem?_eq_some_iff.1 ho).1 (by simp;omega)).trans ho⟩)
  (fun s X X' row hs hg hr=>hs.turn hg (by omega) (fun r e=>by have:=hr r e;rw[Y]at this;exact this))
  (fun s x X l o o' b2 hl bJ ho=>⟨b2.1,(World.putObj_heap_other (show B≠l by omega)).trans b2.2⟩)
  ⟨_,k1,World.ownsRow_nil _ _ _ _,⟨rfl,rfl,rfl,Nat.le_refl _,fun _ _ _=>rfl,fun x hx=>by cases hx⟩⟩
  (fun x=>{tmps:= #[.agg #[.slice a m c,.int .i64 (N:Nat)],.pointer (some ⟨w.heap.size,0,none⟩),.slice none 0 0,.int .u16 0,.pointer (some ⟨B+1,0,none⟩),.pointer (some ⟨B+1+1,0,none⟩),.agg #[.slice a m c,.int .i64 (N:Nat)],.agg #[.slice a m c,.int .i64 (N:Nat),.int .i64 0,.int .i64 0,.int .i64 0,.int .i64 0,.bool false,.int .u64 0,.int .u8 0,.int .u8 0,.int .u16 0],.pointer (some ⟨B,0,none⟩),.pointer (some ⟨B,0,none⟩),.func (.func 77) #[.pointer (some ⟨B,0,none⟩)] #[],.agg #[.int .i64 x.s.t,.int .u64 (x.s.v:Nat)],undef,undef,undef,undef,undef,undef,undef,undef,undef,undef,undef,undef,undef,undef,undef,undef,undef],defers:= []}) ?assign ?body ?done
 case assign=>
  clear aH Y;intro lq x W K A
  gi_wp2
  simpa using A
 case body=>
  rintro lq pre x W ⟨v,c1,I,L⟩ ⟨⟨r,hr⟩,aX⟩;obtain⟨av,cv,rfl⟩:=(z0e I).head;obtain⟨pm,aU⟩:=zN pre.length;have bM:pre.length<=N:=by
   have:=congrArg List.length hr;rw[List.length_append]at this;omega
  obtain⟨⟨st,sv⟩,xe,xa⟩:=x;dsimp only at hr aX ⊢;rw[<-aU]at I bM c1;obtain⟨f1,f2,f3⟩:=z0u c1;have a9:=(L.block (B+1) (by omega) (by simp)).trans kp;obtain⟨p1,p2,p3⟩:=z0u a9;obtain⟨u0,u1,u2,u3,u4,u5,u6,u7,u8,u9,aD,uf⟩:=z0o aX;have O:=z7 I;have a3:=z7 L;have C1:=z7 c1;have bB:=z7 aU;clear hr aX I L c1 aU k0 k1 kp a0 aA aB a9 u0 u1 u3 u4 u5 u6 u7 u8 u9 aD uf;obtain⟨Wd,R⟩:=zN W.drew;have aR:Below W.heap.size W Wd:=by rw[R];exact(Below.refl _ _).drew
  have bR:Wd.cell? ⟨B+1+1,0,none⟩=some (.slice av pm cv):=by rw[R];exact f1
  have bS:Wd.frozen? ⟨B+1+1,0,none⟩=false:=by rw[R];exact f2
  have bY:Wd.cell? ⟨B+1,0,none⟩=some (.pointer (some ⟨B,0,none⟩)):=by rw[R];exact p1
  have bD:Wd.cell? ⟨B,2,none⟩=some (.int .i64 xa):=by rw[R];exact u2
  have bT:B+1+1<Wd.heap.size:=by rw[R];exact f3
  have bZ:B+1<Wd.heap.size:=by omega
  have bN:Wd.heap.size=W.heap.size:=by rw[R];rfl
  have a7:=aR.trans ((q5 Wd (.cells #[.int .i64 xa] 3)).mono aR.size);have aV:=z7 (ownsRow_below O.o a7 (Nat.le_refl _));have b4:=z7 (y0t Wd #[.int .i64 xa] 3 W.heap.size 1 1 (by rw[bN]) (by decide) rfl);have bO:B+3<=W.heap.size:=by have:=a3.o.size;omega
  have J:=z7 a7;have bF:=z7 R;have bL:prog.follows .mixedOrders=true:=by kernel_rfl
  clear aH Y a7 f1 f2 p1 p2 u2 aR R
  gi_wp2_with fail
  refine wpIn_region_any bL ?_;change wpAnyIn _ _ _ _ _ _ _ _ _ (World.drew _);rw[<-bF.o]
  refine wpAnyIn_ready (rs:= [0,1]) (by kernel_rfl) (by simp) ?_;refine AllReadyIn.cons rfl (fun K A=>?g01) (AllReadyIn.cons rfl (fun K A=>?g11) AllReadyIn.nil);(case' g01=>(go_simp;refine A _ _ ?_;clear A K;refine wpAnyIn_ready (rs:= [1]) (by kernel_rfl) (by simp) ?_;refine AllReadyIn.cons rfl (fun K A=>?_) AllReadyIn.nil;go_simp;refine A _ _ ?_;clear A K;refine wpAnyIn_ready (rs:= [2]) (by kernel_rfl) (by simp) ?_;refine AllReadyIn.cons rfl (fun K A=>?_) AllReadyIn.nil;go_simp;refine A _ _ ?_;clear A K;refine wpAnyIn_ready (rs:= [3]) (by kernel_rfl) (by simp) ?_;refine AllReadyIn.cons rfl (fun K A=>?_) AllReadyIn.nil;go_simp;refine A _ _ ?_;clear A K;refine wpAnyIn_ready (rs:= [4]) (by kernel_rfl) (by simp) ?_;refine AllReadyIn.cons rfl (fun K A=>?_) AllReadyIn.nil;go_simp;refine A _ _ ?_;clear A K;refine wpAnyIn_ready (rs:= [5]) (by kernel_rfl) (by simp) ?_;refine AllReadyIn.cons rfl (fun K A=>?_) AllReadyIn.nil;go_simp;refine A _ _ ?_;clear A K));(case' g11=>(go_simp;refine A _ _ ?_;clear A K;refine wpAnyIn_ready (rs:= [0,2]) (by kernel_rfl) (by simp) ?_;refine AllReadyIn.cons rfl (fun K A=>?g02) (AllReadyIn.cons rfl (fun K A=>?g12) AllReadyIn.nil);(case' g02=>(go_simp;refine A _ _ ?_;clear A K;refine wpAnyIn_ready (rs:= [2]) (by kernel_rfl) (by simp) ?_;refine AllReadyIn.cons rfl (fun K A=>?_) AllReadyIn.nil;go_simp;refine A _ _ ?_;clear A K;refine wpAnyIn_ready (rs:= [3]) (by kernel_rfl) (by simp) ?_;refine AllReadyIn.cons rfl (fun K A=>?_) AllReadyIn.nil;go_simp;refine A _ _ ?_;clear A K;refine wpAnyIn_ready (rs:= [4]) (by kernel_rfl) (by simp) ?_;refine AllReadyIn.cons rfl (fun K A=>?_) AllReadyIn.nil;go_simp;refine A _ _ ?_;clear A K;refine wpAnyIn_ready (rs:= [5]) (by kernel_rfl) (by simp) ?_;refine AllReadyIn.cons rfl (fun K A=>?_) AllReadyIn.nil;go_simp;refine A _ _ ?_;clear A K));(case' g12=>(go_simp;refine A _ _ ?_;clear A K;refine wpAnyIn_ready (rs:= [0,3]) (by kernel_rfl) (by simp) ?_;refine AllReadyIn.cons rfl (fun K A=>?g03) (AllReadyIn.cons rfl (fun K A=>?g13) AllReadyIn.nil);(case' g03=>(go_simp;refine A _ _ ?_;clear A K;refine wpAnyIn_ready (rs:= [3]) (by kernel_rfl) (by simp) ?_;refine AllReadyIn.cons rfl (fun K A=>?_) AllReadyIn.nil;go_simp;refine A _ _ ?_;clear A K;refine wpAnyIn_ready (rs:= [4]) (by kernel_rfl) (by simp) ?_;refine AllReadyIn.cons rfl (fun K A=>?_) AllReadyIn.nil;go_simp;refine A _ _ ?_;clear A K;refine wpAnyIn_ready (rs:= [5]) (by kernel_rfl) (by simp) ?_;refine AllReadyIn.cons rfl (fun K A=>?_) AllReadyIn.nil;go_simp;refine A _ _ ?_;clear A K));(case' g13=>(go_simp;refine A _ _ ?_;clear A K;refine wpAnyIn_ready (rs:= [0,4]) (by kernel_rfl) (by simp) ?_;refine AllReadyIn.cons rfl (fun K A=>?g04) (AllReadyIn.cons rfl (fun K A=>?g14) AllReadyIn.nil);(case' g04=>(go_simp;refine A _ _ ?_;clear A K;refine wpAnyIn_ready (rs:= [4]) (by kernel_rfl) (by simp) ?_;refine AllReadyIn.cons rfl (fun K A=>?_) AllReadyIn.nil;go_simp;refine A _ _ ?_;clear A K;refine wpAnyIn_ready (rs:= [5]) (by kernel_rfl) (by simp) ?_;refine AllReadyIn.cons rfl (fun K A=>?_) AllReadyIn.nil;go_simp;refine A _ _ ?_;clear A K));(case' g14=>(go_simp;refine A _ _ ?_;clear A K;refine wpAnyIn_ready (rs:= [0,5]) (by kernel_rfl) (by simp) ?_;refine AllReadyIn.cons rfl (fun K A=>?g05) (AllReadyIn.cons rfl (fun K A=>?g15) AllReadyIn.nil);(case' g05=>(go_simp;refine A _ _ ?_;clear A K;refine wpAnyIn_ready (rs:= [5]) (by kernel_rfl) (by simp) ?_;refine AllReadyIn.cons rfl (fun K A=>?_) AllReadyIn.nil;go_simp;refine A _ _ ?_;clear A K));(case' g15=>(go_simp;refine A _ _ ?_;clear A K;refine wpAnyIn_ready (rs:= [0]) (by kernel_rfl) (by simp) ?_;refine AllReadyIn.cons rfl (fun K A=>?_) AllReadyIn.nil;go_simp;refine A _ _ ?_;clear A K))))))))))
  all_goals (
   refine wpAnyIn_ready (rs:= [6]) (by kernel_rfl) (by simp) ?_;refine AllReadyIn.cons rfl (fun K A=>z8S rfl _ _ 94 rfl (B+3) 3 iS (.int .i64 0) 1 8 underlying94 bI b6 b7 b8 rfl (by decide) _ pm _ rfl (by exact aV.o) _ 1 [.int .i64 xa] rfl (by exact b4.o) (by simp[Value.oneCell']) (by unfold maxLen;omega) (by omega) (by simp;omega) ?_) AllReadyIn.nil;intro v1 w1 a2 aT;obtain⟨a1,aM,rfl⟩:=(z0e a2).head;have aW:=z7 a2;have a4:=z7 aT;have aS:=((aT.block (B+1+1) (by simp;omega) (fun e=>by have:=(O.o.lt _ e.symm).1;omega)).trans (J.o.block _ f3)).trans C1.o;obtain⟨e1,e2,e3⟩:=z0u aS;have bA:=z7 aS;clear a2 aT aS;refine A _ _ ?_;clear A K;refine wpAnyIn_ready (rs:= [7]) (by kernel_rfl) (by simp) ?_;refine AllReadyIn.cons rfl (fun K A=>?_) AllReadyIn.nil;go_simp;refine A _ _ ?_;clear A K;refine wpAnyIn_done (by kernel_rfl) ?_ _
   gi_wp2
   have hI:EnI (B+3) (B+1+1) B W5 (pre++ [⟨⟨st,sv⟩,xe,xa⟩]) (w1.setCell ⟨B+1+1,0,none⟩ (.slice a1 (pm+1) aM)):=by
    refine⟨.slice a1 (pm+1) aM,?_,?_,?_⟩
    ·have:=z0a bA.o 0 (.slice a1 (pm+1) aM);simpa using this
    ·have e:z2p (z1p (pre++ [⟨⟨st,sv⟩,xe,xa⟩]))=z2p (z1p pre)++ [.int .i64 xa]:=(by simp[z2p,z1p]);rw[List.length_append,<-bB.o,e];exact j7 aW.o fun k U=>q7 (by have:=(aW.o.lt k U).1;omega)
    ·have h1:=a3.o;have h2:=a4.o;have h4:=J.o;refine⟨(h2.os.trans h4.os).trans h1.os,(h2.tape.trans h4.tape).trans h1.tape,(h2.output.trans h4.output).trans h1.output,by have:=h2.size;have:=h1.size;have:=h4.size;rw[z6H];omega,fun k U hn=>?_,fun k U=>by cases U⟩;have h3:k≠B+1+1:=fun e=>hn (by simp[e]);have bX:=aJ.o;rw[q7 h3,h2.block k (by have:=h1.size;have:=h4.size;omega) (fun e=>by have:=(O.o.lt _ e.symm).1;omega),h4.block k (by have:=h1.size;omega)];exact h1.block k U hn
   refine⟨?_,?_,hI⟩
   ·rw[aJ.o];refine⟨by have:=a4.o.size;have:=J.o.size;rw[z6H];omega,fun k o U ho hc=>?_⟩;have h1:=(Array.getElem?_eq_some_iff.1 ho).1;have h2:k≠B+1+1:=(by omega);rw[q7 h2,a4.o.block k (by have:=J.o.size;omega) (fun e'=>(y2E O.o e'.symm ho hc) rfl),J.o.block k h1];exact ho
   ·refine⟨by have:=a4.o.size;have:=J.o.size;rw[z6H];omega,fun k U hn=>?_⟩;rw[q7 hn,a4.o.block k (by have:=J.o.size;omega) (fun e=>by have:=(O.o.lt _ e.symm).1;omega)];exact J.o.block k (by omega))
 case done=>
  rintro D xs W hD hS hF ⟨v,c1,I,L⟩ A;have aZ:xs=(z1T l 0 z0h).1:=hS;obtain⟨ST,aN⟩:=zN (z1T l 0 z0h);rw[<-aN]at aZ hF;have a8:=b9.o;rw[<-aN]at a8;obtain⟨wh,b5⟩:=zN (ST.2);unfold z8a at hF;rw[<-b5]at hF a8;rw[<-aZ]at hF a8;obtain⟨av,cv,rfl⟩:=(z0e I).head;obtain⟨xm,aY⟩:=zN xs.length;rw[<-aY]at I c1;have a9:=(L.block (B+1) (by omega) (by simp)).trans kp;obtain⟨p1,p2,p3⟩:=z0u a9;obtain⟨f1,f2,f3⟩:=z0u c1;have O:=z7 I;have a3:=z7 L;have HK:=z7 A;have aI:=z7 a8;have HF:=z7 hF;have b0:=z7 aY;have aL:Hid (B+1+1<D):=z7 (by omega);have b1:Hid (Below w.heap.size w W):=z7 (z9S aC.o L (fun k U=>by have:=aF.o;simp at U;omega) aC.o.size);clear aZ aN b5 a8 I L A hF hS c1 k0 k1 kp a9 a0 aA aB aH Y aY;cases wh with
  | true=>
   have a6:W.heap[B]? =some (wkO a m c l.length l.length (z0m z0h xs) 0):=(by have:=HF.o;rwa [if_pos rfl]at this);obtain⟨u0,u1,u2,u3,u4,u5,u6,u7,u8,u9,aD,uf⟩:=z0o a6;clear a6
   gi_wp2
   refine⟨by simp,.inl ⟨_,_,rfl,run_takeDeferred HK.o,?_⟩⟩;refine⟨_,results_tmp2 rfl _ _ _,?_⟩;have ha:z5o l=some xs:=(by simpa using aI.o);refine⟨.inl ⟨xs,av,cv,ha,by rw[<-b0.o];rfl,?_⟩,z5n b1.o (by have:=aL.o;have:=aF.o;omega)⟩;rw[<-b0.o];exact z0c (y5N O.o HK.o _) (by have:=aF.o;omega)
  | false=>
   have a6:W.heap[B]? =some (wkO a m c l.length 0 z0h 61):=(by have:=HF.o;rwa [if_neg (by decide)]at this);obtain⟨u0,u1,u2,u3,u4,u5,u6,u7,u8,u9,aD,uf⟩:=z0o a6;clear a6
   gi_wp2_with fail
   refine wpIn_wide.2 ?_;go_quiet (fail)
   go_wp2
   gi_wp2
   have bH:(W.drewN nq).heap[D]? =some (.deferred (some [])):=HK.o;refine⟨by simp,.inl ⟨_,_,rfl,run_takeDeferred bH,?_⟩⟩;refine⟨_,results_tmp2 rfl _ _ _,?_⟩;have ha:z5o l=none:=(by simpa using aI.o);exact⟨.inr ⟨ha,rfl⟩,z5n (z0k b1.o) (by have:=aL.o;have:=aF.o;omega)⟩

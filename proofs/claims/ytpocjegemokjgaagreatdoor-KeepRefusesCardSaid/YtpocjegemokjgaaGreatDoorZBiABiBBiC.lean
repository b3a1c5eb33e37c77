/-
  The walks of bit's writer: lay, number.
-/
import Derived.Deep.DeepCutAuto
import Derived.Test.YtpocjegemokjgaaGreatDoorZFrDFrEFrSFrG
namespace Go.Proofs.YtpocjegemokjgaaGreatDoor
open Go.Proofs.Tryz
set_option linter.all false
set_option maxRecDepth 100000
set_option maxHeartbeats 12800000
open Go.RowKit
structure z9I (W:World) (K:List (Nat×Obj)) (w:World) (q:Nat) (l:List Bool) (a:Option Addr) (m c:Nat) (b:List UInt8):Prop where
 blk:w.heap[q]? =some (.cells #[.slice a m c,.int .i64 l.length] 203 (0,0))
 row:w.ownsRow W.heap.size 5 1 (.slice a m c) m (z0b b)
 len:m=b.length
 bits:z0R b l
 far:(Value.slice a m c).ownBlock≠some q
 up:W.heap.size<=q
 low:Below W.heap.size W w
 kept:∀p∈K,w.heap[p.1]? =some p.2/\p.1≠q/\(Value.slice a m c).ownBlock≠some p.1
def z3i(W:World)(K:List (Nat×Obj))(w:World)(q:Nat)(l:List Bool):Prop:=∃a m c b,z9I W K w q l a m c b
theorem z9I.cells{W w:World}{K:List (Nat×Obj)}{q:Nat}{l:List Bool}{a:Option Addr}{m c:Nat}{b:List UInt8}(h:z9I W K w q l a m c b):∀w':World,w'.heap[q]? =w.heap[q]? ->w'.cell? ⟨q,0,none⟩=some (.slice a m c)/\w'.cell? ⟨q,1,none⟩=some (.int .i64 l.length)/\(∀j,w'.frozen? ⟨q,j,none⟩=false):=fun w' e=>by
 have:=e.trans h.blk;refine⟨?_,?_,?_⟩<;>simp[World.cell?,World.frozen?,this]
theorem z9I.lt{W w:World}{K:List (Nat×Obj)}{q:Nat}{l:List Bool}{a:Option Addr}{m c:Nat}{b:List UInt8}(h:z9I W K w q l a m c b):q<w.heap.size:=(Array.getElem?_eq_some_iff.1 h.blk).1
theorem z9I.then{W w w':World}{K:List (Nat×Obj)}{q:Nat}{l:List Bool}{a:Option Addr}{m c:Nat}{b:List UInt8}(h:z9I W K w q l a m c b)(hb:Below w.heap.size w w'):z9I W K w' q l a m c b:=
 ⟨(hb.block q h.lt).trans h.blk,ownsRow_below h.row hb (Nat.le_refl _),h.len,h.bits,h.far,h.up,h.low.trans (hb.mono h.low.size),fun p A=>⟨(hb.block p.1 (Array.getElem?_eq_some_iff.1 (h.kept p A).1).1).trans (h.kept p A).1,(h.kept p A).2⟩⟩
theorem z9I.setRow{W w w':World}{K:List (Nat×Obj)}{q:Nat}{l:List Bool}{a a':Option Addr}{m c A c':Nat}{b J:List UInt8}(h:z9I W K w q l a m c b)(hq:w'.heap[q]? =w.heap[q]?)(Y:Below W.heap.size W w')(hr:w'.ownsRow W.heap.size 5 1 (.slice a' A c') A (z0b J))(hm:A=J.length)(L:(Value.slice a' A c').ownBlock≠some q)(B:∀p∈K,w'.heap[p.1]? =w.heap[p.1]? /\(Value.slice a' A c').ownBlock≠some p.1)(n:Nat)(N:List Bool)(hb:z0R J N)(hn:N.length=l.length+n):
  z3i W K ((w'.setCell ⟨q,0,none⟩ (.slice a' A c')).setCell ⟨q,1,none⟩ (.int .i64 ((l.length:Int)+n))) q N:=by
 have O:=hq.trans h.blk;have R:=z0a O 0 (.slice a' A c');have U:=z0a R 1 (.int .i64 ((l.length:Int)+n));refine⟨a',A,c',J,?_,?_,hm,hb,L,h.up,?_,fun p I=>⟨?_,(h.kept p I).2.1,(B p I).2⟩⟩
 ·rw[U,hn];simp
 ·exact j7 (j7 hr fun k B=>q7 (by rintro rfl;exact L B)) fun k B=>q7 (by rintro rfl;exact L B)
 ·exact(Y.setCell (by show W.heap.size<=q;exact h.up) _).setCell (by show W.heap.size<=q;exact h.up) _
 ·rw[q7 (h.kept p I).2.1,q7 (h.kept p I).2.1,(B p I).1];exact(h.kept p I).1
theorem z9I.setRow0{W w w':World}{K:List (Nat×Obj)}{q:Nat}{l:List Bool}{a:Option Addr}{m c:Nat}{b A:List UInt8}(h:z9I W K w q l a m c b)(Y:w'.heap[q]? =w.heap[q]?)(O:Below W.heap.size W w')(hr:w'.ownsRow W.heap.size 5 1 (.slice a m c) m (z0b A))(R:m=A.length)(I:∀p∈K,w'.heap[p.1]? =w.heap[p.1]?)(n:Nat)(J:List Bool)(hb:z0R A J)(U:J.length=l.length+n):
  z3i W K (w'.setCell ⟨q,1,none⟩ (.int .i64 ((l.length:Int)+n))) q J:=by
 have L:=Y.trans h.blk;have N:=z0a L 1 (.int .i64 ((l.length:Int)+n));refine⟨a,m,c,A,?_,?_,R,hb,h.far,h.up,?_,fun p B=>⟨?_,(h.kept p B).2⟩⟩
 ·rw[N,U];simp
 ·exact j7 hr fun k I=>q7 (by rintro rfl;exact h.far I)
 ·exact O.setCell (by show W.heap.size<=q;exact h.up) _
 ·rw[q7 (h.kept p B).2.1,I p B];exact(h.kept p B).1
theorem q1A{y n:Nat}(A:y<256)(B:n<=8):bits .and .u8 (y:Int) (255*2^(8 - n)%256)=((y&&&(255*2^(8 - n)%256):Nat):Int):=by
 have e:(255*2^(8 - n)%256:Int)=((255*2^(8 - n)%256:Nat):Int):=by simp
 rw[e];exact u8_and_nat y _ A (Nat.mod_lt _ (by decide))
theorem y7B(z:Nat)(A:z<256):z0b [UInt8.ofNat z]= [.int .u8 (z:Int)]:=by simp[z0b,Nat.mod_eq_of_lt A]
theorem y4e:(prog.info? 5).map (fun i=>(i.zero,i.size,i.bytes))=some (some (.int .u8 0),1,1):=by kernel_rfl
theorem z9x(q y n:Nat)(l:List Bool)(W:World)(K:List (Nat×Obj))(w:World)(h:z3i W K w q l)(hy:y<256)(hn:n<=8)(hl:l.length<=1099511627776):
  Calls prog 105 #[.pointer (some ⟨q,0,none⟩),.int .u8 y,.int .i64 n] w fun e w'=>e= .returned (.tuple #[])/\z3i W K w' q (l++z5C y n):=by
 obtain⟨a,m,c,b,h⟩:=h;have H:=z7 h;obtain⟨i0,b1,bC,bE,bG⟩:=info_parts y4e;obtain⟨z,hz⟩:=zN (y&&&(255*2^(8 - n)%256));have a6:=q2K hy hn;rw[<-hz]at a6;have aM:=z7 a6.1;have cC:=z7 a6.2;rw[<-a6.2];have aF:z<256:=a6.1.1;have b4:=q1A hy hn;rw[<-hz]at b4;obtain⟨N,hN⟩:=zN l.length;obtain⟨k,hk⟩:=zN (N%8);have cL:k<8:=by omega
 have cH:N<=1099511627776:=by omega
 have b3:(N:Int).tmod 8=(k:Int):=by rw[hk];exact Int.ofNat_tmod N 8
 have aX:IntKind.i64.wrap ((N:Int)+n)=(N:Int)+n:=z0n (by omega) (by omega);have c8:IntKind.i64.wrap (8 - (n:Int))=8 - (n:Int):=z0n (by omega) (by omega);have bW:m<=137438953473:=by have:=h.bits.len;have:=h.len;omega
 obtain⟨c0,c1,cf⟩:=h.cells w rfl;rw[<-hN]at c1;have HN:=z7 hN;have HK:=z7 hk;have HZ:=z7 hz;have b8:=h.lt;clear h hz a6 hN hk;by_cases hk0:k=0
 ·subst hk0;by_cases hn0:n=0
  ·subst hn0;have A:=H.o.setRow0 (w':=w) rfl H.o.low H.o.row H.o.len (fun _ _=>rfl) 0 (l++z5C z 0) (q0R H.o.bits) (by simp[z5C]);rw[<-HN.o]at A;have a8:=z7 A;have cN:IntKind.i64.wrap (N:Int)=N:=z0n (by omega) (by omega);have e0:=Int.add_zero (N:Int);clear A;go_enter func105,ntmps105;go_wp2
   go_end0
   have h9:=a8.o;rw[show(N:Int)+((0:Nat):Int)=N by omega]at h9;exact⟨rfl,h9⟩
  ·have cM:(0:Int)<n:=(by omega);have A:Hid (∀a' c' w',w'.ownsRow W.heap.size 5 1 (.slice a' (m+1) c') (m+1) (z0b b++ [.int .u8 (z:Int)])->(w.alloc (.cells #[.int .u8 (z:Int)] 5)).grownBy w' (Value.slice a m c).ownBlock->((Value.slice a' (m+1) c').ownBlock=(Value.slice a m c).ownBlock\/(Value.slice a' (m+1) c').ownBlock=some (w.heap.size+1))->
     (w'.heap[q]? =w.heap[q]?)/\z3i W K ((w'.setCell ⟨q,0,none⟩ (.slice a' (m+1) c')).setCell ⟨q,1,none⟩ (.int .i64 ((N:Int)+n))) q (l++z5C z n)):=z7 fun a' c' w' L J hb=>by
    have a5:=q5 w (.cells #[.int .u8 (z:Int)] 5);have hq:w'.heap[q]? =w.heap[q]? :=(J.block q (by simp;omega) (fun e=>H.o.far e.symm)).trans (a5.block q b8);refine⟨hq,?_⟩;rw[HN.o];refine H.o.setRow hq ?_ (by rw[<-y7B z aF]at L;simpa[z0b]using L) (by simp[H.o.len]) ?_ (fun p hp=>?_) n _ (q3D H.o.bits (by have:=HK.o;have:=HN.o;omega) (by omega) hn aM.o) (by simp[z1l])
    ·exact(H.o.low.trans (a5.mono H.o.low.size)).grown J (by have:=H.o.low.size;simp;omega) (fun j hj=>(H.o.row.lt j hj).1)
    ·rcases hb with e|e
     ·rw[e];exact H.o.far
     ·rw[e];intro e2;simp at e2;omega
    ·obtain⟨k1,k2,k3⟩:=H.o.kept p hp;have k4:=(Array.getElem?_eq_some_iff.1 k1).1;refine⟨(J.block p.1 (by simp;omega) (fun e=>k3 e.symm)).trans (a5.block p.1 k4),?_⟩;rcases hb with e|e
     ·rw[e];exact k3
     ·rw[e];intro e2;simp at e2;omega
   have a5:=q5 w (.cells #[.int .u8 (z:Int)] 5);have bI:=z7 (ownsRow_below H.o.row a5 (Nat.le_refl _));have aS:=z7 (z3z w #[.int .u8 (z:Int)] 5 1 1 (by decide) rfl);have c6:=H.o.low.size;clear a5;go_enter func105,ntmps105;go_wp2_with (at_builtin;refine z1V rfl (.tmp 27) (.tmp 29) 47 rfl W.heap.size 5 i0 (.int .u8 0) 1 1 underlying47 b1 bC bE bG rfl (by decide) (.slice a m c) m (z0b b) rfl bI.o (.slice (some ⟨w.heap.size,0,none⟩) 1 1) 1 [.int .u8 (z:Int)] rfl aS.o (by simp[Value.oneCell']) (by unfold maxLen;omega) (by omega) (by simp;omega) ?_;intro v3 w3 aB J b5 hb;obtain⟨a3,c3,rfl⟩:=z2n aB;obtain⟨hq,hF⟩:=A.o a3 c3 w3 aB J (by simpa using hb);obtain⟨cE,bT,cF⟩:=H.o.cells w3 hq;rw[<-HN.o]at bT;have HF:=z7 hF;clear aB J b5 hb hq hF c0 c1 cf)
   go_end0
   exact⟨rfl,HF.o⟩
 ·have bY:(0:Int)<k:=by omega
  have b2:((k:Int)==0)=false:=by simpa using hk0
  have aW:=H.o.bits.len;have cI:0<m:=by have:=H.o.len;have:=HK.o;have:=HN.o;omega
  obtain⟨g,rfl⟩:∃g,a=some ⟨g,0,none⟩:=by
   rcases H.o.row.2 with⟨h1,h2⟩|⟨g,cap,cG,h1,_⟩
   ·omega
   ·simp only[Value.slice.injEq]at h1;exact⟨g,h1.1⟩
  obtain⟨z0,a0⟩:=zN ((b.getD (b.length - 1) 0).toNat);have aE:z0<256:=by rw[a0];exact(b.getD (b.length - 1) 0).toNat_lt
  obtain⟨z1,a1⟩:=zN (z0 ||| z/2^k);have hd:z/2^k<256:=Nat.lt_of_le_of_lt (Nat.div_le_self _ _) aF;have bF:z1<256:=by rw[a1];exact Nat.or_lt_two_pow (n:=8) aE hd
  have c5:bits .or .u8 (z0:Int) ((z:Int)/2^k)=(z1:Int):=by
   rw[a1,show((z:Int)/2^k)=((z/2^k:Nat):Int) by simp];exact u8_or_nat z0 _ aE hd
  have bZ:IntKind.i64.wrap ((m:Int) - 1)=((m - 1:Nat):Int):=by rw[z0n (by omega) (by omega)];omega
  have aO:w.cell? ⟨g,m - 1,none⟩=some (.int .u8 (z0:Int)):=by
   have h1:=(z0e H.o.row).2;rcases h1 with⟨h1,_⟩|⟨ad,c',h1,h2⟩
   ·cases h1
   ·simp only[Value.slice.injEq,Option.some.injEq]at h1;have h3:=h2 (m - 1) (.int .u8 (z0:Int)) (by
     rw[a0,H.o.len];have:b.length - 1<b.length:=(by have:=H.o.len;omega);simp[z0b,List.getD_eq_getElem?_getD,this])
    have e9:(⟨g,0,none⟩:Addr).add (m - 1)=⟨g,m - 1,none⟩:=(by unfold Addr.add;split<;>simp_all);rw[<-h1.1,e9]at h3;exact h3
  have aU:Hid (∀w',Below w.heap.size w w'->w'.cell? ⟨q,0,none⟩=some (.slice (some ⟨g,0,none⟩) m c)/\w'.cell? ⟨g,m - 1,none⟩=some (.int .u8 (z0:Int))):=z7 fun w' hw=>⟨(hw.cell (p:=⟨q,0,none⟩) b8).trans c0,(hw.cell (p:=⟨g,m - 1,none⟩) (H.o.row.lt g rfl).2).trans aO⟩;have bD:m - 1<m:=by omega
  have bX:Hid (g≠q):=z7 fun e=>H.o.far (by rw[e];rfl);have bM:=z7 a0;have bN:=z7 a1;have cA:=z7 aW;clear a0 a1 aW c0 c1 cf aO;go_enter func105,ntmps105;obtain⟨c0,c1,cf⟩:=H.o.cells w rfl;rw[<-HN.o]at c1;go_wp2_with fail;clear c0 c1 cf;refine q6 19 82 (fun D v w'=>Below w.heap.size w w') (Below.refl _ _).drew ?_;simp only[z0v];iterate 19 (refine q8.rd (e:=?_) (fun D v w' hD B=>?_) ?_;rotate_left;(obtain⟨c0,c1⟩:=aU.o w' B;clear B hD;go_simp;try with_reducible rfl);go_simp)
  refine q8.fin (fun v w5 B=>?_);have I:=z7 (H.o.then B);have bU:=(aU.o w5 B).2;clear B aU;obtain⟨b',aG⟩:=zN (b.set (b.length - 1) (UInt8.ofNat z1));have aV:=(I.o.row.stored (m - 1) (.int .u8 (z1:Int))).1;have b0:(z0b b).set (m - 1) (.int .u8 (z1:Int))=z0b b':=by
   rw[aG,I.o.len];simp[z0b,List.map_set,Nat.mod_eq_of_lt bF]
  rw[b0]at aV;have bV:=I.o.row.frozenAt (m - 1);have b6:(w5.setCell ⟨g,m - 1,none⟩ (.int .u8 (z1:Int))).heap[q]? =w5.heap[q]? :=q7 (Ne.symm bX.o);have aA:Below W.heap.size W (w5.setCell ⟨g,m - 1,none⟩ (.int .u8 (z1:Int))):=I.o.low.setCell (by show W.heap.size<=g;exact(I.o.row.lt g rfl).1) _;have hold:=q3i (k:=k) (z:=z0) I.o.bits (by rw[HK.o,HN.o]) (by omega) hn aM.o (by rw[bM.o];simp) aE;rw[<-bN.o,<-aG]at hold;have aN:m=b'.length:=by rw[aG,List.length_set];exact I.o.len
  have a9:=z7 aV;have a4:=z7 b6;have O:=z7 aA;have aL:=z7 hold;have aJ:=z7 aN;clear aV b0 b6 aA hold aG aN;by_cases hov:8 - k<n
  case neg=>
   have aD:decide ((8:Int) - k<n)=false:=decide_eq_false (by omega);have aH:IntKind.i64.wrap (8 - (k:Int))=8 - (k:Int):=z0n (by omega) (by omega);have A:=I.o.setRow0 a4.o O.o a9.o aJ.o (fun p hp=>q7 (fun e=>(I.o.kept p hp).2.2 (by rw[e];rfl))) n (l++z5C z n) (by have:=aL.o;rw[if_neg hov,List.append_nil]at this;exact this) (by simp[z1l]);rw[<-HN.o]at A;have a8:=z7 A;obtain⟨c0,c1,cf⟩:=I.o.cells _ a4.o;rw[<-HN.o]at c1;clear A hov;go_wp2
   go_end0
   exact⟨rfl,a8.o⟩
  have aD:decide ((8:Int) - k<n)=true:=decide_eq_true (by omega);have aH:IntKind.i64.wrap (8 - (k:Int))=8 - (k:Int):=z0n (by omega) (by omega);obtain⟨z2,a2⟩:=zN (z*2^(8 - k)%256);have bH:z2<256:=by rw[a2];exact Nat.mod_lt _ (by decide)
  have aI:(z:Int)*2^(8 - k)%256=(z2:Int):=by rw[a2];simp
  have aY:IntKind.u8.wrap ((z:Int)*2^(8 - k))=(z2:Int):=by rw[IntKind.wrap_u8];exact aI
  have bO:=z7 a2;clear a2;have A:Hid (∀a' c' w',w'.ownsRow W.heap.size 5 1 (.slice a' (m+1) c') (m+1) (z0b b'++ [.int .u8 (z2:Int)])->(w5.setCell ⟨g,m - 1,none⟩ (.int .u8 (z1:Int))).grownBy w' (Value.slice (some ⟨g,0,none⟩) m c).ownBlock->((Value.slice a' (m+1) c').ownBlock=(Value.slice (some ⟨g,0,none⟩) m c).ownBlock\/∃j,(Value.slice a' (m+1) c').ownBlock=some j/\(w5.setCell ⟨g,m - 1,none⟩ (.int .u8 (z1:Int))).heap.size<=j)->
     (w'.heap[q]? =w5.heap[q]?)/\z3i W K ((w'.setCell ⟨q,0,none⟩ (.slice a' (m+1) c')).setCell ⟨q,1,none⟩ (.int .i64 ((N:Int)+n))) q (l++z5C z n)):=z7 fun a' c' w' L J hb=>by
   have b9:=I.o.lt;have hq:w'.heap[q]? =w5.heap[q]? :=(J.block q (by simpa[World.setCell]using b9) (fun e=>I.o.far e.symm)).trans a4.o;refine⟨hq,?_⟩;rw[HN.o];have hO:=aL.o;rw[if_pos hov,<-bO.o]at hO;refine I.o.setRow hq ?_ (by rw[<-y7B z2 bH]at L;simpa[z0b]using L) (by simp[<-aJ.o]) ?_ (fun p hp=>?_) n _ hO (by simp[z1l])
   ·exact O.o.grown J (by simpa[World.setCell]using I.o.low.size) (fun j hj=>(a9.o.lt j hj).1)
   ·rcases hb with e|⟨j,e,hj⟩
    ·rw[e];exact I.o.far
    ·rw[e];intro e2;simp only[Option.some.injEq]at e2;simp[World.setCell]at hj;omega
   ·obtain⟨k1,k2,k3⟩:=I.o.kept p hp;have k4:=(Array.getElem?_eq_some_iff.1 k1).1;refine⟨(J.block p.1 (by simpa[World.setCell]using k4) (fun e=>k3 e.symm)).trans (q7 (fun e=>k3 (by rw[e];rfl))),?_⟩;rcases hb with e|⟨j,e,hj⟩
    ·rw[e];exact k3
    ·rw[e];intro e2;simp only[Option.some.injEq]at e2;simp[World.setCell]at hj;omega
  have aC:W.heap.size<=(w5.setCell ⟨g,m - 1,none⟩ (.int .u8 (z1:Int))).heap.size:=by simpa[World.setCell]using I.o.low.size
  have Y:q<(w5.setCell ⟨g,m - 1,none⟩ (.int .u8 (z1:Int))).heap.size:=by simpa[World.setCell]using I.o.lt
  obtain⟨c0,c1,cf⟩:=I.o.cells _ a4.o;rw[<-HN.o]at c1;go_wp2_with fail;clear c0 c1 cf;obtain⟨w6,bB⟩:=zN (w5.setCell ⟨g,m - 1,none⟩ (.int .u8 (z1:Int)));rw[<-bB]at a9 a4 O A aC Y ⊢;have aR:Hid (∀w',w6.grownBy w' (Value.slice (some ⟨g,0,none⟩) m c).ownBlock->w'.cell? ⟨q,0,none⟩=some (.slice (some ⟨g,0,none⟩) m c)):=z7 fun w' hg=>(I.o.cells w' ((hg.block q Y (fun e=>I.o.far e.symm)).trans a4.o)).1;have c9:=z7 Y;have aZ:=z7 aC;have bS:=z7 aI;have bR:=z7 aY;have bJ:=z7 aH;have bL:=z7 aX;have cB:=z7 bW;clear bB Y aC c5 bZ bD bU bV bY b2 b4 aI aY aH aX c8 b3 hov aD;refine q6 15 82 (fun D v w'=>z6D W.heap.size 5 1 10 11 w6 (.slice (some ⟨g,0,none⟩) m c) m (z0b b') [.int .u8 (z2:Int)] D v w') (z6D.start a9.o) ?_;simp only[z0v];iterate 10 (refine q8.rl (e:=?_) (fun D v w h=>h.read _ (by omega) (by omega)) (fun D v w' hD B=>?_) ?_;rotate_left;(have c0:=aR.o w' B.g;have aI:=bS.o;have aY:=bR.o;have aH:=bJ.o;clear B hD;go_simp;try with_reducible rfl);go_simp)
  refine q8.re (fun D v w' hD B=>?_) ?_
  ·have dj:D 11=false:=hD.post 11 _ rfl (by kernel_rfl);have aT:=z7 (z6D.made (cs:= #[.int .u8 (z2:Int)]) (e:=5) (by decide) B dj rfl);clear B hD;go_simp;exact aT.o
  go_simp;refine q8.re (fun D v w' hD B=>?_) ?_
  ·have di:D 10=true:=hD.pre 10 (by kernel_rfl);obtain⟨g',h9,bA,cJ⟩:=B.s di;have hq:=z7 (B.q hD.self);have c6:=B.g.size;have aT:=z7 B;rw[h9]at bA;have aS:=z7 bA;rw[h9];clear B hD h9;refine z3F _ _ 47 rfl W.heap.size 5 i0 (.int .u8 0) 1 1 underlying47 b1 bC bE bG rfl (by decide) _ m (z0b b') rfl hq.o _ 1 [.int .u8 (z2:Int)] rfl aS.o (by simp[Value.oneCell']) (by unfold maxLen;omega) (by omega) (by have:=aZ.o;omega) ?_;intro v' cO h1 h2 h3 h4;exact⟨v',rfl,z6D.appended (by decide) aT.o di a9.o h1 h2 h4,trivial⟩
  go_simp;iterate 3 (refine q8.rl (e:=?_) (fun D v w h=>h.read _ (by omega) (by omega)) (fun D v w' hD B=>?_) ?_;rotate_left;(have c0:=aR.o w' B.g;clear B hD;go_simp;try with_reducible rfl);go_simp)
  refine q8.fin (fun v w7 B=>?_);obtain⟨-,a7,c7,h7,U,R⟩:=B.a rfl;rw[h7]at U R ⊢;obtain⟨b7,hF⟩:=A.o a7 c7 w7 U B.g R;obtain⟨c0,c1,cf⟩:=I.o.cells w7 b7;rw[<-HN.o]at c1;have HF:=z7 hF;have aX:=bL.o;clear B h7 U R b7 hF;go_wp2
  go_end0
  exact⟨rfl,HF.o⟩
theorem z3i.low{W w:World}{K:List (Nat×Obj)}{q:Nat}{l:List Bool}(h:z3i W K w q l):Below W.heap.size W w:=by
 obtain⟨a,m,c,b,h⟩:=h;exact h.low
theorem y9b{v k:Nat}(A:k<=8):IntKind.u64.wrap ((v:Int)*2^(8 - k))%256=((z7d v k k:Nat):Int):=by
 unfold z7d;rw[IntKind.wrap_u64,Nat.sub_self,Nat.pow_zero,Nat.div_one,Nat.mod_mul_mod];have e:((v:Int)*2^(8 - k))=((v*2^(8 - k):Nat):Int):=by simp
 rw[e];omega
theorem y9W{v k:Nat}:IntKind.u64.wrap ((v:Int)/2^(k - 8))%256=((z7d v k 8:Nat):Int):=by
 unfold z7d;have e:((v:Int)/2^(k - 8))=((v/2^(k - 8):Nat):Int):=by simp
 rw[e,IntKind.wrap_u64];omega
theorem y9s(q v width:Nat)(l:List Bool)(W:World)(K:List (Nat×Obj))(w:World)(h:z3i W K w q l)(hv:v<18446744073709551616)(hw:width<=64)(hl:l.length<=549755813888):
  Calls prog 124 #[.pointer (some ⟨q,0,none⟩),.int .u64 v,.int .i64 width] w fun e w'=>e= .returned (.tuple #[])/\z3i W K w' q (l++z2U v width):=by
 have H:=z7 h;clear h;go_enter func124,ntmps124;go_wp2_with fail;go_loopw[2] (fun iv wr=>∃k:Nat,iv= .int .i64 k/\k<=width/\Hid (∃L,z3i W K wr q L/\L++z2U v k=l++z2U v width)) (fun iv _=>match iv with | .int _ j=>j.toNat|_=>0)
 case atStart=>exact⟨width,rfl,Nat.le_refl _,z7 ⟨l,H.o,rfl⟩⟩
 case round=>
  obtain⟨k,rfl,hk,hr⟩:=hrel;obtain⟨L,hb,he⟩:=hr.o;have HB:=z7 hb;have HE:=z7 he;have Y:L.length<=1099511627776:=by have:=congrArg List.length he;simp[z0X]at this;omega
  clear hr hb he;by_cases h0:k=0
  ·subst h0;go_wp2
   go_end0
   have h9:=HE.o;rw[y9t,List.append_nil]at h9;rw[<-h9];exact⟨rfl,HB.o⟩
  ·have d0:(0:Int)<k:=(by omega);obtain⟨n,hn⟩:=zN (min k 8);have J:n<=8:=(by omega);have O:n<=k:=(by omega);have a2:0<n:=(by omega);have B:Hid (∀wx,z3i W K wx q (L++z5C (z7d v k n) n)->∃L,z3i W K wx q L/\L++z2U v (k - n)=l++z2U v width):=z7 fun wx hb=>⟨_,hb,by rw[List.append_assoc,<-y7j O J];exact HE.o⟩;by_cases h8:k<=8
   ·obtain rfl:n=k:=by omega
    have U:(n:Int)<=8:=(by omega);have N:=y9b (v:=v) h8;obtain⟨y,R⟩:=zN (z7d v n n);rw[<-R]at N B;have A:y<256:=(by rw[R];exact(y2S O J).1);have a4:IntKind.i64.wrap (8 - (n:Int))=8 - (n:Int):=z0n (by omega) (by omega);clear R hn;go_wp2_with fail;refine(z9x q y n L W K wr HB.o A J Y).mono ?_;rintro e w2 ⟨rfl,I⟩;have HF:=z7 (B.o w2 I);rw[Nat.sub_self]at HF;clear I;go_wp2;exact⟨⟨0,rfl,Nat.zero_le _,HF⟩,by show(0:Int).toNat<(n:Int).toNat;omega⟩
   ·obtain rfl:n=8:=by omega
    have U:¬(k:Int)<=8:=(by omega);have a0:decide ((k:Int)<=8)=false:=decide_eq_false U;have N:=y9W (v:=v) (k:=k);obtain⟨y,R⟩:=zN (z7d v k 8);rw[<-R]at N B;have A:y<256:=(by rw[R];exact(y2S O J).1);have a3:IntKind.i64.wrap ((k:Int) - 8)=((k - 8:Nat):Int):=(by rw[z0n (by omega) (by omega)];omega);have a1:v/2^(k - 8)<18446744073709551616:=Nat.lt_of_le_of_lt (Nat.div_le_self _ _) hv;clear R hn;go_wp2_with fail;refine(z9x q y 8 L W K wr HB.o A J Y).mono ?_;rintro e w2 ⟨rfl,I⟩;have HF:=z7 (B.o w2 I);clear I;go_wp2;exact⟨⟨k - 8,rfl,by omega,HF⟩,by show((k - 8:Nat):Int).toNat<(k:Int).toNat;omega⟩
structure z0r (w:World) (a:Option Addr) (n c:Nat) (l:List Bool) (b:List UInt8):Prop where
 rd:RdB w (.slice a n c) b
 len:n=b.length
 bits:z0R b l
theorem z0r.low{w w':World}{a:Option Addr}{n c:Nat}{l:List Bool}{b:List UInt8}(h:z0r w a n c l b)(hb:Below w.heap.size w w'):z0r w' a n c l b:=⟨h.rd.low hb,h.len,h.bits⟩
theorem z0r.cell{w:World}{a:Option Addr}{n c:Nat}{l:List Bool}{b:List UInt8}(h:z0r w a n c l b){j:Nat}(J:j<n):∃g A,a=some ⟨g,A,none⟩/\w.cell? ⟨g,A+j,none⟩=some (.int .u8 ((b.getD j 0).toNat:Int))/\g<w.heap.size:=by
 obtain⟨L,A,c0,I,N,B⟩:=h.rd.at (by rw[<-h.len];exact J:j<b.length);simp only[Value.slice.injEq]at I;refine⟨L,A,I.1,?_,B⟩;rw[N];have:j<b.length:=by rw[<-h.len];exact J
 simp[List.getD_eq_getElem?_getD,this]
theorem q5Z(a:Option Addr)(n c:Nat)(l:List Bool)(b:List UInt8)(i:Nat)(w:World)(h:z0r w a n c l b)(hi:i<l.length)(hl:l.length<=1099511627776):
  Calls prog 106 #[.agg #[.slice a n c,.int .i64 l.length],.int .i64 i] w fun e w'=>∃y,e= .returned (.int .u8 (y:Nat))/\y<256/\(∀j,j<8->y.testBit (7 - j)=l.getD (i+j) false)/\Below w.heap.size w w':=by
 have a5:=h.bits.len;have a9:=h.len;obtain⟨g,L,rfl,cz,hg⟩:=h.cell (j:=i/8) (by omega);obtain⟨z,hz⟩:=zN ((b.getD (i/8) 0).toNat);have aS:z<256:=by rw[hz];exact(b.getD (i/8) 0).toNat_lt
 rw[<-hz]at cz;obtain⟨k,hk⟩:=zN (i%8);obtain⟨q,hq⟩:=zN (i/8);have aM:k<8:=by omega
 have aO:q<n:=by omega
 have aF:(i:Int).tmod 8=(k:Int):=by rw[hk];exact Int.ofNat_tmod i 8
 have aC:(i:Int).tdiv 8=(q:Int):=by rw[hq];exact Int.ofNat_tdiv i 8
 have aE:(i:Int)/8=(q:Int):=by omega
 rw[<-hq]at cz hz;obtain⟨N,hN⟩:=zN l.length;rw[<-hN];obtain⟨W1,R⟩:=zN (w.alloc (.cells #[.slice (some ⟨g,L,none⟩) n c,.int .i64 (N:Nat)] 49));have a1:Below w.heap.size w W1:=by rw[R];exact q5 _ _
 have a2:=j8 w (.cells #[.slice (some ⟨g,L,none⟩) n c,.int .i64 (N:Nat)] 49);rw[<-R]at a2;have x0:W1.cell? ⟨w.heap.size,0,none⟩=some (.slice (some ⟨g,L,none⟩) n c):=by rw[cell_of_row W1 w.heap.size 0 _ _ (0,0) a2];rfl
 have aI:=(a1.cell (p:=⟨g,L+q,none⟩) hg).trans cz;have HW:=z7 R;have H:=z7 h;have HK:=z7 hk;have HQ:=z7 hq;have HZ:=z7 hz;have HN:=z7 hN;have O:=z7 a1;have aL:n<=137438953473:=by omega
 clear R h hk hq hz hN a2 a5 a9 cz a1;have J:z*2^k%256<256:=Nat.mod_lt _ (by decide);have A:Hid (∀I,(b.getD (q+1) 0).toNat=I->∀j,j<8->((z*2^k%256) ||| (if 0<k/\q+1<n then I/2^(8 - k)else 0)).testBit (7 - j)=l.getD (i+j) false):=z7 fun I B=>by
  have:=q1F H.o.bits hi z I (by rw[HZ.o,HQ.o]) (by rw[<-HQ.o];exact B);rw[<-HK.o,<-HQ.o,<-H.o.len]at this;exact this
 have aH:=z7 hi;clear hi hl;by_cases hc:0<k/\q+1<n
 ·obtain⟨a8,a3⟩:=hc;obtain⟨g',aG,e1,a0,_⟩:=H.o.cell a3;simp only[Option.some.injEq,Addr.mk.injEq,and_true]at e1;obtain⟨rfl,rfl⟩:=e1;obtain⟨I,B⟩:=zN ((b.getD (q+1) 0).toNat);have a7:I<256:=by rw[B];exact(b.getD (q+1) 0).toNat_lt
  rw[<-B]at a0;have U:=A.o I B.symm;rw[if_pos ⟨a8,a3⟩]at U;obtain⟨y,Y⟩:=zN ((z*2^k%256) ||| I/2^(8 - k));have a4:I/2^(8 - k)<256:=Nat.lt_of_le_of_lt (Nat.div_le_self _ _) a7;have aN:bits .or .u8 ((z:Int)*2^k%256) ((I:Int)/2^(8 - k))=(y:Int):=by
   rw[Y,show((z:Int)*2^k%256)=((z*2^k%256:Nat):Int) by simp,show((I:Int)/2^(8 - k))=((I/2^(8 - k):Nat):Int) by simp];exact u8_or_nat _ _ J a4
  have aB:y<256:=by rw[Y];exact Nat.or_lt_two_pow (n:=8) J a4
  rw[<-Y]at U;have HF:=z7 U;have aJ:=(O.o.cell (p:=⟨g,L+(q+1),none⟩) hg).trans a0;have d1:(0:Int)<k:=by omega
  have d2:(q:Int)+1<n:=by omega
  have aR:IntKind.i64.wrap (8 - (k:Int))=8 - (k:Int):=z0n (by omega) (by omega);have aA:IntKind.i64.wrap ((q:Int)+1)=((q+1:Nat):Int):=z0n (by omega) (by omega);clear B U Y a0 A;go_enter func106,ntmps106;go_upto_region 1 with fail
  rw[<-HW.o];go_wp2;go_ret;exact⟨y,rfl,aB,HF.o,O.o⟩
 ·have U:=A.o _ rfl;rw[if_neg hc,Nat.or_zero]at U;obtain⟨y,Y⟩:=zN (z*2^k%256);rw[<-Y]at U J;have a6:(z:Int)*2^k%256=(y:Int):=by rw[Y];simp
  have HF:=z7 U;have aA:IntKind.i64.wrap ((q:Int)+1)=((q+1:Nat):Int):=z0n (by omega) (by omega);clear Y U A;by_cases hk0:k=0
  ·subst hk0;obtain rfl:y=z:=by rw[Int.pow_zero]at a6;omega
   clear a6;go_enter func106,ntmps106;go_upto_region 1 with fail
   rw[<-HW.o];go_wp2;go_ret;exact⟨y,rfl,J,HF.o,O.o⟩
  ·have d1:(0:Int)<k:=(by omega);have d2:decide ((q:Int)+1<n)=false:=decide_eq_false (by omega);go_enter func106,ntmps106;go_upto_region 1 with fail
   rw[<-HW.o];go_wp2;go_ret;exact⟨y,rfl,J,HF.o,O.o⟩
theorem q0L(a:Option Addr)(n c:Nat)(b:List UInt8)(w:World)(I:RdB w (.slice a n c) b)(B:n=b.length)(L:n<=70368744177664):
  Calls prog 66 #[.slice a n c] w fun e w'=>∃a c,e= .returned (.slice a n c)/\w'.ownsRow w.heap.size 5 1 (.slice a n c) n (z0b b)/\Below w.heap.size w w':=by
 cases a with
 | some J=>
  subst B;exact y4q J b c w I L
 | none=>
  obtain⟨rfl,rfl⟩:n=0/\c=0:=by
   rcases I.2 with⟨A,N⟩|⟨J,c',A,N⟩
   ·simp only[Value.slice.injEq]at A;exact⟨A.2.1,A.2.2⟩
   ·simp at A
  obtain rfl:b= []:=List.eq_nil_of_length_eq_zero B.symm;have O:=fun(w:World)=>Lib.run_eql_slice_nil (P:=prog) w 47 5 none 0 0 0 0 underlying47;clear I B L;go_enter func66,ntmps66;go_wp2;go_ret;exact⟨none,0,rfl,World.ownsRow_nil _ _ _ _,by first|exact Below.refl _ _|exact q5 _ _⟩
theorem q0M(a:Option Addr)(n c:Nat)(l:List Bool)(b:List UInt8)(W w:World)(hW:Below W.heap.size W w)(h:z0r w a n c l b)(hl:l.length<=1099511627776):
  Calls prog 123 #[.agg #[.slice a n c,.int .i64 l.length]] w fun e w'=>∃q,e= .returned (.pointer (some ⟨q,0,none⟩))/\z3i W [] w' q l:=by
 obtain⟨N,hN⟩:=zN l.length;rw[<-hN];obtain⟨L,I⟩:=zN (w.alloc (.cells #[.slice a n c,.int .i64 (N:Nat)] 49));have R:Below w.heap.size w L:=by rw[I];exact q5 _ _
 have J:=j8 w (.cells #[.slice a n c,.int .i64 (N:Nat)] 49);rw[<-I]at J;have a1:w.heap.size<L.heap.size:=(Array.getElem?_eq_some_iff.1 J).1;have U:Hid (∀w',Below L.heap.size L w'->w'.cell? ⟨w.heap.size,0,none⟩=some (.slice a n c)/\w'.cell? ⟨w.heap.size,1,none⟩=some (.int .i64 (N:Nat))):=z7 fun w' hw=>by
  have h1:=(hw.block w.heap.size a1).trans J;constructor<;>simp[World.cell?,h1]
 have HW:=z7 I;have H:=z7 h;have HN:=z7 hN;have Y:=z7 (hW.trans (R.mono hW.size));have HX:=z7 (h.low R);have a2:n<=70368744177664:=by have:=h.bits.len;have:=h.len;omega
 have a4:=hW.size;obtain⟨x0,x1⟩:=U.o L (Below.refl _ _);clear I h hN R J hW;go_enter func123,ntmps123;go_upto_region 1 with fail
 rw[<-HW.o];clear x0 x1;refine q6 5 11 (fun D v w'=>Below L.heap.size L w'/\(D 2=true->∃a' c',v 2= .slice a' n c'/\w'.ownsRow L.heap.size 5 1 (.slice a' n c') n (z0b b))) ⟨(Below.refl _ _).drew,fun h=>by cases h⟩ ?_;simp only[z0v];iterate 2 (refine q8.rd (e:=?_) (fun D v w' hD B=>?_) ?_;rotate_left;(obtain⟨x0,x1⟩:=U.o w' B.1;clear B hD;go_simp;try with_reducible rfl);go_simp)
 refine q8.re (fun D v w' hD B=>?_) ?_
 ·have O:=z7 B.1;clear B hD;go_simp;go_at_call 66;refine(q0L a n c b w' (HX.o.rd.low O.o) HX.o.len a2).mono ?_;rintro e a6 ⟨a',c',rfl,A,hb⟩;exact⟨O.o.trans (hb.mono O.o.size),fun _=>⟨a',c',rfl,z0c A O.o.size⟩⟩
 go_simp;iterate 2 (refine q8.rd (e:=?_) (fun D v w' hD B=>?_) ?_;rotate_left;(obtain⟨x0,x1⟩:=U.o w' B.1;clear B hD;go_simp;try with_reducible rfl);go_simp)
 refine q8.fin (fun v w5 B=>?_);obtain⟨a',c',hv,A⟩:=B.2 rfl;rw[hv];have O:=z7 B.1;have HO:=z7 A;clear B hv A;go_wp2;go_ret;have a0:=q5 w5 (.cells #[.slice a' n c',.int .i64 (N:Nat)] 203);have a5:=O.o.size;have a3:=Y.o.size;refine⟨w5.heap.size,rfl,a',n,c',b,?_,z0c (ownsRow_below HO.o a0 (Nat.le_refl _)) a3,HX.o.len,HX.o.bits,fun e=>?_,by omega,?_,fun p hp=>by cases hp⟩
 ·rw[<-HN.o];exact j8 _ _
 ·have:=(HO.o.lt _ e).2;omega
 ·exact(Y.o.trans (O.o.mono a3)).trans (a0.mono (by omega))
theorem z6F{fn:Func}{t u:Tmp}(h:fn.results= #[.cell t 49,.tmp u])(tmps:Array Value)(w:World)(r:Nat)(x y:Value)(A:tmps.getD t undef= .pointer (some ⟨r,0,none⟩))(B:w.heap[r]? =some (.cells #[x,y] 49 (0,0)))(I:x.oneCell'=true)(J:y.oneCell'=true):
  (results fn tmps).run prog w= .ok (.tuple #[.agg #[x,y],tmps.getD u undef]) w:=by
 have c0:w.cell? ⟨r,0,none⟩=some x:=by simp[World.cell?,B]
 have c1:w.cell? ⟨r,1,none⟩=some y:=by simp[World.cell?,B]
 simp only[Array.getD_eq_getD_getElem?]at A;simp[results,h,go_sem,A,c0,c1]
def z7S(W:World)(l:List Bool)(e:Ending)(w':World):Prop:=
 ∃a n c b,e= .returned (.tuple #[.agg #[.slice a n c,.int .i64 l.length],.int .u16 0])/\w'.ownsRow W.heap.size 5 1 (.slice a n c) n (z0b b)/\n=b.length/\z0R b l/\Below W.heap.size W w'
theorem y3C(a:Option Addr)(n c:Nat)(l:List Bool)(b:List UInt8)(v width:Nat)(w:World)(h:z0r w a n c l b)(hl:l.length<=549755813888)(hv:v<18446744073709551616)(hw:width<=64):
  Calls prog 84 #[.agg #[.slice a n c,.int .i64 l.length],.int .u64 v,.int .i64 width] w (z7S w (l++z2U v width)):=by
 obtain⟨N,hN⟩:=zN l.length;rw[<-hN];obtain⟨w1,R⟩:=zN (w.alloc (.cells #[.slice a n c,.int .i64 (N:Nat)] 49));obtain⟨B,J⟩:=zN (w1.alloc (.cells #[.slice none 0 0,.int .i64 0] 49));have Y:Below w.heap.size w w1:=by rw[R];exact q5 _ _
 have A:Below w1.heap.size w1 B:=by rw[J];exact q5 _ _
 have a2:w1.heap.size=w.heap.size+1:=by rw[R];simp
 have aE:B.heap.size=w.heap.size+2:=by rw[J];simp[a2]
 have aA:B.heap[w.heap.size]? =some (.cells #[.slice a n c,.int .i64 (N:Nat)] 49 (0,0)):=(A.block _ (by omega)).trans (by rw[R];exact j8 _ _);have aB:B.heap[w.heap.size+1]? =some (.cells #[.slice none 0 0,.int .i64 0] 49 (0,0)):=by rw[J,<-a2];exact j8 _ _
 have a0:Below w.heap.size w B:=Y.trans (A.mono Y.size);have a9:Hid (∀w',Below B.heap.size B w'->w'.cell? ⟨w.heap.size,0,none⟩=some (.slice a n c)/\w'.cell? ⟨w.heap.size,1,none⟩=some (.int .i64 (N:Nat))):=z7 fun w' hw=>by
  have h1:=(hw.block w.heap.size (by omega)).trans aA;constructor<;>simp[World.cell?,h1]
 have HW:Hid ((w.alloc (.cells #[.slice a n c,.int .i64 (N:Nat)] 49)).alloc (.cells #[.slice none 0 0,.int .i64 0] 49)=B):=z7 (by rw[J,R]);have H:=z7 h;have HN:=z7 hN;have a6:=z7 a0;have aF:=z7 aB;have hX:=h.low a0;have HX:=z7 hX;obtain⟨x0,x1⟩:=a9.o B (Below.refl _ _);have U:=h.len;have HS:=z7 aE;have O:=z2q h.bits;rw[<-hN]at O;have a7:=z7 O;have aI:n<=137438953473:=by have:=h.bits.len;omega
 have I:=z7 U;clear R J Y A a2 aE aA aB a0 h hN hX U O;have aL:decide ((width:Int)<0)=false:=decide_eq_false (by omega);have aJ:decide ((64:Int)<width)=false:=decide_eq_false (by omega);go_enter func84,ntmps84;go_upto_region 1 with fail
 rw[HW.o];go_wp2_with fail;have a3:=z2M a c b N B (by have:=HX.o.rd;rw[I.o]at this;exact this) (by have:=I.o;omega) (by omega) (by have:=HN.o;omega);rw[<-I.o,a7.o]at a3;refine a3.mono ?_;rintro e w2 ⟨rfl,A⟩;obtain⟨y0,y1⟩:=a9.o w2 A;have a5:=z7 A;clear a3 A x0 x1;go_wp2_with fail;have a1:=q0M a n c l b B w2 a5.o (HX.o.low a5.o) (by omega);rw[<-HN.o]at a1;refine a1.mono ?_;rintro e w3 ⟨q,rfl,hq⟩;clear a1 y0 y1;go_wp2_with fail;refine(y9s q v width l B [] w3 hq hv hw hl).mono ?_;rintro e w4 ⟨rfl,a4,m4,c4,b4,h4⟩;have H4:=z7 h4;obtain⟨c0,c1,cf⟩:=h4.cells w4 rfl;obtain⟨M,hM⟩:=zN ((l++z2U v width).length);rw[<-hM]at c1;have L:=(h4.low.block (w.heap.size+1) (by have:=HS.o;omega)).trans aF.o;have d0:w4.cell? ⟨w.heap.size+1,0,none⟩=some (.slice none 0 0):=by simp[World.cell?,L]
 have d1:w4.cell? ⟨w.heap.size+1,1,none⟩=some (.int .i64 0):=by simp[World.cell?,L]
 have df:∀j,w4.frozen? ⟨w.heap.size+1,j,none⟩=false:=by simp[World.frozen?,L]
 have HM:=z7 hM;have aG:=z7 L;clear h4 hq hM L;go_wp2_with fail;have aH:((w4.setCell ⟨w.heap.size+1,0,none⟩ (.slice a4 m4 c4)).setCell ⟨w.heap.size+1,1,none⟩ (.int .i64 (M:Nat))).heap[w.heap.size+1]? =some (.cells #[.slice a4 m4 c4,.int .i64 (M:Nat)] 49 (0,0)):=by
  have:=z0a (z0a aG.o 0 (.slice a4 m4 c4)) 1 (.int .i64 (M:Nat));simpa using this
 refine bodyPost_ret (z6F rfl _ _ (w.heap.size+1) (.slice a4 m4 c4) (.int .i64 (M:Nat)) rfl aH rfl rfl) rfl ?_;have hs:=HS.o;have a8:=a6.o.size;have aC:∀k,(Value.slice a4 m4 c4).ownBlock=some k->k≠w.heap.size+1:=fun k hk e=>by have:=(H4.o.row.lt k hk).1;omega
 refine⟨a4,m4,c4,b4,by rw[<-HM.o];rfl,?_,H4.o.len,H4.o.bits,?_⟩
 ·refine z0c (j7 (j7 H4.o.row fun k hk=>q7 (aC k hk)) fun k hk=>q7 (aC k hk)) a8
 ·exact((a6.o.trans (H4.o.low.mono a8)).setCell (by show w.heap.size<=w.heap.size+1;omega) _).setCell (by show w.heap.size<=w.heap.size+1;omega) _

/-
  In a region that draws its order: a call that hands back several things, and what takes them apart.
-/
import Derived.Test.YtfcnapnopdomhaaGreatDoorZReg2Reg3
import Derived.Test.YtfcnapnopdomhaaGreatDoorZCrcCCrcDFrBFrC
import Derived.Deep.DeepCutAuto
namespace Go.Proofs.YtfcnapnopdomhaaGreatDoor
set_option linter.unusedSimpArgs false
set_option linter.unusedVariables false
set_option maxRecDepth 100000
set_option maxHeartbeats 12800000
open Go.RowKit
theorem z1z(D:Nat→Bool)(k:Nat):mark D k k=true:=by simp [mark]
theorem q9{D:Nat→Bool}{k j:Nat}(h:k≠j):mark D k j=D j:=by simp [mark,h]
theorem z0p(v:Nat→Value)(k:Nat)(u:Value):z2P v k u k=u:=by simp [z2P]
theorem z0c{v:Nat→Value}{k j:Nat}{u:Value}(h:k≠j):z2P v k u j=v j:=by simp [z2P,h]
def z8I(j:Nat)(u:Value):Value:=match u with
 | .tuple xs=>xs.getD j undef
 | _=>undef
structure z4t (n m:Nat) (T:Bool→Value→World→Prop) (D:Nat→Bool) (v:Nat→Value) (w:World):Prop where
 t:T (D n) (v n) w
 mv:D (n+1)=true→D n=true∧v (n+1)=v n
 ex:∀j,j<m→D (n+2+j)=true→D (n+1)=true∧v (n+2+j)=z8I j (v n)
 ag:∀j,j<m→D (n+2+m+j)=true→D (n+2+j)=true∧v (n+2+m+j)=z8I j (v n)
section
variable {n m:Nat} {T:Bool→Value→World→Prop} {D:Nat→Bool} {v:Nat→Value} {w w':World}
theorem z4t.start(h:T false (v n) w):z4t n m T (fun _=>false) v w:=⟨h,fun h=>by simp at h,fun j _ h=>by simp at h,fun j _ h=>by simp at h⟩
theorem z4t.read(h:z4t n m T D v w)(k:Nat)(hk:k<n):z4t n m T (mark D k) v w:=by
 have hm:∀j,n≤j→mark D k j=D j:=fun j hj=>q9 (by omega);refine ⟨by rw [hm n (Nat.le_refl _)];exact h.t,fun h1=>?_,fun j hj h1=>?_,fun j hj h1=>?_⟩
 ·rw [hm _ (by omega)] at h1;rw [hm _ (by omega)];exact h.mv h1
 ·rw [hm _ (by omega)] at h1;rw [hm _ (by omega)];exact h.ex j hj h1
 ·rw [hm _ (by omega)] at h1;rw [hm _ (by omega)];exact h.ag j hj h1
theorem z4t.called{u:Value}(h:z4t n m T D v w)(hd:D n=false)(hT:T true u w'):z4t n m T (mark D n) (z2P v n u) w':=by
 have d1:D (n+1)=false:=by
  cases e:D (n+1) with
  | false=>rfl
  | true=>have:=(h.mv e).1;rw [hd] at this;cases this
 have d2:∀j,j<m→D (n+2+j)=false:=fun j hj=>by
  cases e:D (n+2+j) with
  | false=>rfl
  | true=>have:=(h.ex j hj e).1;rw [d1] at this;cases this
 have d3:∀j,j<m→D (n+2+m+j)=false:=fun j hj=>by
  cases e:D (n+2+m+j) with
  | false=>rfl
  | true=>have:=(h.ag j hj e).1;rw [d2 j hj] at this;cases this
 refine ⟨by rw [z1z,z0p];exact hT,fun h1=>?_,fun j hj h1=>?_,fun j hj h1=>?_⟩
 ·rw [q9 (by omega),d1] at h1;cases h1
 ·rw [q9 (by omega),d2 j hj] at h1;cases h1
 ·rw [q9 (by omega),d3 j hj] at h1;cases h1
theorem z4t.moved(h:z4t n m T D v w)(hd:D n=true):z4t n m T (mark D (n+1)) (z2P v (n+1) (v n)) w:=by
 have sn:z2P v (n+1) (v n) n=v n:=z0c (by omega);refine ⟨by rw [q9 (by omega),sn];exact h.t,fun _=>⟨by rw [q9 (by omega)];exact hd,by rw [z0p,sn]⟩,fun j hj h1=>?_,fun j hj h1=>?_⟩
 ·rw [q9 (by omega)] at h1;exact ⟨z1z _ _,by rw [z0c (by omega),sn];exact (h.ex j hj h1).2⟩
 ·rw [q9 (by omega)] at h1;exact ⟨by rw [q9 (by omega)];exact (h.ag j hj h1).1,by rw [z0c (by omega),sn];exact (h.ag j hj h1).2⟩
theorem z4t.ext(h:z4t n m T D v w)(i:Nat)(hi:i<m)(hd:D (n+1)=true){u:Value}(hu:z8I i (v n)=u):z4t n m T (mark D (n+2+i)) (z2P v (n+2+i) u) w:=by
 have sn:z2P v (n+2+i) u n=v n:=z0c (by omega);refine ⟨by rw [q9 (by omega),sn];exact h.t,fun h1=>?_,fun j hj h1=>?_,fun j hj h1=>?_⟩
 ·rw [q9 (by omega)] at h1;rw [q9 (by omega),z0c (by omega),sn];exact h.mv h1
 ·refine ⟨by rw [q9 (by omega)];exact hd,?_⟩;by_cases e:i=j
  ·subst e;rw [z0p,sn,hu]
  ·rw [q9 (by omega)] at h1;rw [z0c (by omega),sn];exact (h.ex j hj h1).2
 ·rw [q9 (by omega)] at h1;have h2:=h.ag j hj h1;refine ⟨?_,by rw [z0c (by omega),sn];exact h2.2⟩;by_cases e:i=j
  ·subst e;exact z1z _ _
  ·rw [q9 (by omega)];exact h2.1
theorem z4t.asg(h:z4t n m T D v w)(i:Nat)(hi:i<m)(hd:D (n+2+i)=true):z4t n m T (mark D (n+2+m+i)) (z2P v (n+2+m+i) (v (n+2+i))) w:=by
 have sn:z2P v (n+2+m+i) (v (n+2+i)) n=v n:=z0c (by omega);refine ⟨by rw [q9 (by omega),sn];exact h.t,fun h1=>?_,fun j hj h1=>?_,fun j hj h1=>?_⟩
 ·rw [q9 (by omega)] at h1;rw [q9 (by omega),z0c (by omega),sn];exact h.mv h1
 ·rw [q9 (by omega)] at h1;rw [q9 (by omega),z0c (by omega),sn];exact h.ex j hj h1
 ·by_cases e:i=j
  ·subst e;exact ⟨by rw [q9 (by omega)];exact hd,by rw [z0p,sn];exact (h.ex i hi hd).2⟩
  ·rw [q9 (by omega)] at h1;have h2:=h.ag j hj h1;exact ⟨by rw [q9 (by omega)];exact h2.1,by rw [z0c (by omega),sn];exact h2.2⟩
theorem z4t.fin{N:Nat}(hN:N=n+2+2*m)(h:z4t n m T (fun j=>decide (j<N)) v w):T true (v n) w∧v (n+1)=v n∧(∀j,j<m→v (n+2+j)=z8I j (v n))∧∀j,j<m→v (n+2+m+j)=z8I j (v n):=by
 subst hN;refine ⟨?_,(h.mv (by simp;omega)).2,fun j hj=>(h.ex j hj (by simp;omega)).2,fun j hj=>(h.ag j hj (by simp;omega)).2⟩;have:=h.t;rw [decide_eq_true (by omega)] at this;exact this
theorem z4t.parts2{N:Nat}{a b:Value}(hN:N=n+6)(h:z4t n 2 T (fun j=>decide (j<N)) v w)(hu:v n= .tuple #[a,b]):
  v (n+1)= .tuple #[a,b]∧v (n+2)=a∧v (n+3)=b∧v (n+4)=a∧v (n+5)=b:=by
 obtain ⟨-,g1,g2,g3⟩:=z4t.fin (by omega) h;rw [hu] at g1 g2 g3;exact ⟨g1,g2 0 (by omega),g2 1 (by omega),g3 0 (by omega),g3 1 (by omega)⟩
end
theorem y5c{a b c:World}{row:Option Nat}(h:a.grownBy b row)(k:Below b.heap.size b c):a.grownBy c row:=
 ⟨k.os.trans h.os,k.tape.trans h.tape,k.output.trans h.output,Nat.le_trans h.size k.size,fun i hi hn=>(k.block i (Nat.lt_of_lt_of_le hi h.size)).trans (h.block i hi hn)⟩
theorem z2c{w:World}{B t sz n:Nat}{v:Value}{xs:List Value}(h:w.ownsRow B t sz v n xs):∃a c,v= .slice a n c:=by
 rcases h.2 with ⟨h1,h2⟩ | ⟨g,cap,cur,h1,_⟩
 ·exact ⟨none,0,by rw [h1,h2]⟩
 ·exact ⟨_,_,h1⟩
structure z6a (B t sz i j:Nat) (w0:World) (ov:Value) (n:Nat) (xs ys:List Value) (D:Nat→Bool) (v:Nat→Value) (w':World):Prop where
 g:w0.grownBy w' ov.ownBlock
 q:D j=false→w'.ownsRow B t sz ov n xs
 s:D i=true→∃g,v i= .slice (some ⟨g,0,none⟩) 1 1∧Rd w' (v i) sz 1 ys∧w0.heap.size≤g
 a:D j=true→D i=true∧∃a c,v j= .slice a (n+1) c∧w'.ownsRow B t sz (v j) (n+1) (xs++ys)∧((v j).ownBlock=ov.ownBlock∨∃g,(v j).ownBlock=some g∧w0.heap.size≤g)
section
variable {B t sz i j:Nat} {w0 w' w'':World} {ov v':Value} {n:Nat} {xs ys:List Value} {D:Nat→Bool} {v:Nat→Value}
theorem z6a.start(h:w0.ownsRow B t sz ov n xs):z6a B t sz i j w0 ov n xs ys (fun _=>false) (fun _=>undef) w0.drew:=
 ⟨⟨rfl,rfl,rfl,Nat.le_refl _,fun _ _ _=>rfl⟩,fun _=>h,(fun h=>by cases h),(fun h=>by cases h)⟩
theorem z6a.read(h:z6a B t sz i j w0 ov n xs ys D v w')(k:Nat)(hi:k≠i)(hj:k≠j):z6a B t sz i j w0 ov n xs ys (mark D k) v w':=by
 have e1:mark D k i=D i:=q9 hi;have e2:mark D k j=D j:=q9 hj;exact ⟨h.g,fun e=>h.q (e2▸e),fun e=>h.s (e1▸e),fun e=>by rw [e1];exact h.a (e2▸e)⟩
theorem z6a.made{cs:Array Value}{e:TypeId}(hij:i≠j)(h:z6a B t sz i j w0 ov n xs cs.toList D v w')(dj:D j=false)(hsz:cs.size=sz):z6a B t sz i j w0 ov n xs cs.toList (mark D i) (z2P v i (.slice (some ⟨w'.heap.size,0,none⟩) 1 1)) (w'.alloc (.cells cs e)):=by
 have hb:=q5 w' (.cells cs e);refine ⟨y5c h.g hb,fun _=>ownsRow_below (h.q dj) hb (Nat.le_refl _),fun _=>⟨w'.heap.size,z0p _ _ _,by rw [z0p];exact z3C w' cs e 1 sz (by decide) (by omega),h.g.size⟩,fun e=>?_⟩;rw [q9 hij,dj] at e;cases e
theorem z6a.appended(hij:i≠j)(h:z6a B t sz i j w0 ov n xs ys D v w')(di:D i=true)(hr:w0.ownsRow B t sz ov n xs)
  (hrow:w''.ownsRow B t sz v' (n+1) (xs++ys)) (hg:w'.grownBy w'' ov.ownBlock) (hb:v'.ownBlock=ov.ownBlock∨v'.ownBlock=some w'.heap.size):z6a B t sz i j w0 ov n xs ys (mark D j) (z2P v j v') w'':=by
 obtain ⟨aa,ac,rfl⟩:=z2c hrow;refine ⟨h.g.trans hg,(fun e=>by rw [z1z] at e;cases e),fun e=>?_,fun _=>⟨by rw [q9 (Ne.symm hij)];exact di,aa,ac,z0p _ _ _,by rw [z0p];exact hrow,by rw [z0p];exact hb.imp id fun e=>⟨_,e,h.g.size⟩⟩⟩;obtain ⟨g,h2,h3,h4⟩:=h.s di;rw [z0c (Ne.symm hij)];refine ⟨g,h2,h3.kept fun k hk hlt=>hg.block k hlt fun e=>?_,h4⟩;have h5:=(hr.lt k e.symm).2;rw [h2] at hk;simp only [Value.ownBlock,Option.some.injEq] at hk;omega
end
structure z8T (W:World) (K:List (Nat×Obj)) (w:World) (q:Nat) (l:List Bool) (a:Option Addr) (m c:Nat) (b:List UInt8):Prop where
 blk:w.heap[q]? =some (.cells #[.slice a m c, .int .i64 l.length] 225 (0,0))
 row:w.ownsRow W.heap.size 5 1 (.slice a m c) m (z0b b)
 len:m=b.length
 bits:z0U b l
 far:(Value.slice a m c).ownBlock≠some q
 up:W.heap.size≤q
 low:Below W.heap.size W w
 kept:∀p∈K,w.heap[p.1]? =some p.2∧p.1≠q∧(Value.slice a m c).ownBlock≠some p.1
def z2U(W:World)(K:List (Nat×Obj))(w:World)(q:Nat)(l:List Bool):Prop:=∃a m c b,z8T W K w q l a m c b
theorem z8T.cells{W w:World}{K:List (Nat×Obj)}{q:Nat}{l:List Bool}{a:Option Addr}{m c:Nat}{b:List UInt8}(h:z8T W K w q l a m c b):∀w':World,w'.heap[q]? =w.heap[q]? →w'.cell? ⟨q,0,none⟩=some (.slice a m c)∧w'.cell? ⟨q,1,none⟩=some (.int .i64 l.length)∧(∀j,w'.frozen? ⟨q,j,none⟩=false):=fun w' e=>by
 have:=e.trans h.blk;refine ⟨?_,?_,?_⟩<;>simp [World.cell?,World.frozen?,this]
theorem z8T.lt{W w:World}{K:List (Nat×Obj)}{q:Nat}{l:List Bool}{a:Option Addr}{m c:Nat}{b:List UInt8}(h:z8T W K w q l a m c b):q<w.heap.size:=(Array.getElem?_eq_some_iff.1 h.blk).1
theorem z8T.then{W w w':World}{K:List (Nat×Obj)}{q:Nat}{l:List Bool}{a:Option Addr}{m c:Nat}{b:List UInt8}(h:z8T W K w q l a m c b)(hb:Below w.heap.size w w'):z8T W K w' q l a m c b:=
 ⟨(hb.block q h.lt).trans h.blk,ownsRow_below h.row hb (Nat.le_refl _),h.len,h.bits,h.far,h.up,h.low.trans (hb.mono h.low.size),fun p hp=>⟨(hb.block p.1 (Array.getElem?_eq_some_iff.1 (h.kept p hp).1).1).trans (h.kept p hp).1,(h.kept p hp).2⟩⟩
theorem z8T.setRow{W w w':World}{K:List (Nat×Obj)}{q:Nat}{l:List Bool}{a a':Option Addr}{m c m' c':Nat}{b b':List UInt8}(h:z8T W K w q l a m c b)(hq:w'.heap[q]? =w.heap[q]?)(hl:Below W.heap.size W w')(hr:w'.ownsRow W.heap.size 5 1 (.slice a' m' c') m' (z0b b'))(hm:m'=b'.length)(hf:(Value.slice a' m' c').ownBlock≠some q)(hk:∀p∈K,w'.heap[p.1]? =w.heap[p.1]? ∧(Value.slice a' m' c').ownBlock≠some p.1)(n:Nat)(l':List Bool)(hb:z0U b' l')(hn:l'.length=l.length+n):
  z2U W K ((w'.setCell ⟨q,0,none⟩ (.slice a' m' c')).setCell ⟨q,1,none⟩ (.int .i64 ((l.length:Int)+n))) q l':=by
 have h1:=hq.trans h.blk;have h2:=j9 h1 0 (.slice a' m' c');have h3:=j9 h2 1 (.int .i64 ((l.length:Int)+n));refine ⟨a',m',c',b',?_,?_,hm,hb,hf,h.up,?_,fun p hp=>⟨?_,(h.kept p hp).2.1,(hk p hp).2⟩⟩
 ·rw [h3,hn];simp
 ·exact j7 (j7 hr fun k hk=>q7 (by rintro rfl;exact hf hk)) fun k hk=>q7 (by rintro rfl;exact hf hk)
 ·exact (hl.setCell (by show W.heap.size≤q;exact h.up) _).setCell (by show W.heap.size≤q;exact h.up) _
 ·rw [q7 (h.kept p hp).2.1,q7 (h.kept p hp).2.1,(hk p hp).1];exact (h.kept p hp).1
theorem z8T.setRow0{W w w':World}{K:List (Nat×Obj)}{q:Nat}{l:List Bool}{a:Option Addr}{m c:Nat}{b b':List UInt8}(h:z8T W K w q l a m c b)(hq:w'.heap[q]? =w.heap[q]?)(hl:Below W.heap.size W w')(hr:w'.ownsRow W.heap.size 5 1 (.slice a m c) m (z0b b'))(hm:m=b'.length)(hk:∀p∈K,w'.heap[p.1]? =w.heap[p.1]?)(n:Nat)(l':List Bool)(hb:z0U b' l')(hn:l'.length=l.length+n):
  z2U W K (w'.setCell ⟨q,1,none⟩ (.int .i64 ((l.length:Int)+n))) q l':=by
 have h1:=hq.trans h.blk;have h3:=j9 h1 1 (.int .i64 ((l.length:Int)+n));refine ⟨a,m,c,b',?_,?_,hm,hb,h.far,h.up,?_,fun p hp=>⟨?_,(h.kept p hp).2⟩⟩
 ·rw [h3,hn];simp
 ·exact j7 hr fun k hk=>q7 (by rintro rfl;exact h.far hk)
 ·exact hl.setCell (by show W.heap.size≤q;exact h.up) _
 ·rw [q7 (h.kept p hp).2.1,hk p hp];exact (h.kept p hp).1
theorem y9z{y n:Nat}(hy:y<256)(hn:n≤8):bits .and .u8 (y:Int) (255*2^(8 - n)%256)=((y&&&(255*2^(8 - n)%256):Nat):Int):=by
 have e:(255*2^(8 - n)%256:Int)=((255*2^(8 - n)%256:Nat):Int):=by simp
 rw [e];exact u8_and_nat y _ hy (Nat.mod_lt _ (by decide))
theorem y5s(z:Nat)(hz:z<256):z0b [UInt8.ofNat z]= [.int .u8 (z:Int)]:=by simp [z0b,Nat.mod_eq_of_lt hz]
theorem z8l:(Tryz.prog.info? 5).map (fun i=>(i.zero,i.size,i.bytes))=some (some (.int .u8 0),1,1):=by kernel_rfl
theorem z8U(q y n:Nat)(l:List Bool)(W:World)(K:List (Nat×Obj))(w:World)(h:z2U W K w q l)(hy:y<256)(hn:n≤8)(hl:l.length≤1099511627776):
  Calls Tryz.prog 100 #[.pointer (some ⟨q,0,none⟩), .int .u8 (y:Nat), .int .i64 (n:Nat)] w fun e w'=>e= .returned (.tuple #[])∧z2U W K w' q (l++z5h y n):=by
 obtain ⟨a,m,c,b,h⟩:=h;have H:=z7 h;obtain ⟨i0,hi0,hz0,hz1,hz2⟩:=info_parts z8l;obtain ⟨z,hz⟩:∃z,z=y&&&(255*2^(8 - n)%256):=⟨_,rfl⟩;have hmt:=y8L hy hn;rw [←hz] at hmt;have HTOP:=z7 hmt.1;have HTB:=z7 hmt.2;rw [←hmt.2];have hz256:z<256:=hmt.1.1;have hmv:=y9z hy hn;rw [←hz] at hmv;obtain ⟨N,hN⟩:∃N,N=l.length:=⟨_,rfl⟩;obtain ⟨k,hk⟩:∃k,k=N%8:=⟨_,rfl⟩;have hk8:k<8:=by omega
 have hNl:N≤1099511627776:=by omega
 have hmod:(N:Int).tmod 8=(k:Int):=by rw [hk];exact Int.ofNat_tmod N 8
 have hw1:IntKind.i64.wrap ((N:Int)+n)=(N:Int)+n:=z0n (by omega) (by omega);have hw8:IntKind.i64.wrap (8 - (n:Int))=8 - (n:Int):=z0n (by omega) (by omega);have hml:m≤137438953473:=by have:=h.bits.len;have:=h.len;omega
 obtain ⟨c0,c1,cf⟩:=h.cells w rfl;rw [←hN] at c1;have HN:=z7 hN;have HK:=z7 hk;have HZ:=z7 hz;have hqs:=h.lt;clear h hz hmt hN hk;by_cases hk0:k=0
 ·subst hk0;by_cases hn0:n=0
  ·subst hn0;have hfin:=H.out.setRow0 (w':=w) rfl H.out.low H.out.row H.out.len (fun _ _=>rfl) 0 (l++z5h z 0) (q0o H.out.bits) (by simp [z5h]);rw [←HN.out] at hfin;have HFIN:=z7 hfin;have hw0:IntKind.i64.wrap (N:Int)=N:=z0n (by omega) (by omega);have e0:=Int.add_zero (N:Int);clear hfin;go_enter Tryz.func100,Tryz.ntmps100;go_wp2
   go_end0
   have h9:=HFIN.out;rw [show (N:Int)+((0:Nat):Int)=N by omega] at h9;exact ⟨rfl,h9⟩
  ·have hnp:(0:Int)<n:=by omega
   have hfin:Hid (∀a' c' w',w'.ownsRow W.heap.size 5 1 (.slice a' (m+1) c') (m+1) (z0b b++ [.int .u8 (z:Int)])→(w.alloc (.cells #[.int .u8 (z:Int)] 5)).grownBy w' (Value.slice a m c).ownBlock→((Value.slice a' (m+1) c').ownBlock=(Value.slice a m c).ownBlock∨(Value.slice a' (m+1) c').ownBlock=some (w.heap.size+1))→
     (w'.heap[q]? =w.heap[q]?)∧z2U W K ((w'.setCell ⟨q,0,none⟩ (.slice a' (m+1) c')).setCell ⟨q,1,none⟩ (.int .i64 ((N:Int)+n))) q (l++z5h z n)):=z7 fun a' c' w' hrow hgr hb=>by
    have hal:=q5 w (.cells #[.int .u8 (z:Int)] 5);have hq:w'.heap[q]? =w.heap[q]? :=(hgr.block q (by simp;omega) (fun e=>H.out.far e.symm)).trans (hal.block q hqs);refine ⟨hq,?_⟩;rw [HN.out];refine H.out.setRow hq ?_ (by rw [←y5s z hz256] at hrow;simpa [z0b] using hrow) (by simp [H.out.len]) ?_ (fun p hp=>?_) n _ (q2b H.out.bits (by have:=HK.out;have:=HN.out;omega) (by omega) hn HTOP.out) (by simp [z0Y])
    ·exact (H.out.low.trans (hal.mono H.out.low.size)).grown hgr (by have:=H.out.low.size;simp;omega) (fun j hj=>(H.out.row.lt j hj).1)
    ·rcases hb with e | e
     ·rw [e];exact H.out.far
     ·rw [e];intro e2;simp at e2;omega
    ·obtain ⟨k1,k2,k3⟩:=H.out.kept p hp;have k4:=(Array.getElem?_eq_some_iff.1 k1).1;refine ⟨(hgr.block p.1 (by simp;omega) (fun e=>k3 e.symm)).trans (hal.block p.1 k4),?_⟩;rcases hb with e | e
     ·rw [e];exact k3
     ·rw [e];intro e2;simp at e2;omega
   have hal:=q5 w (.cells #[.int .u8 (z:Int)] 5);have HR2:=z7 (ownsRow_below H.out.row hal (Nat.le_refl _));have HRD:=z7 (z3C w #[.int .u8 (z:Int)] 5 1 1 (by decide) rfl);have hsz:=H.out.low.size;clear hal;go_enter Tryz.func100,Tryz.ntmps100;go_wp2_with (at_builtin;refine z1J rfl (.tmp 27) (.tmp 29) 46 rfl W.heap.size 5 i0 (.int .u8 0) 1 1 Tryz.underlying46 hi0 hz0 hz1 hz2 rfl (by decide) (.slice a m c) m (z0b b) rfl HR2.out (.slice (some ⟨w.heap.size,0,none⟩) 1 1) 1 [.int .u8 (z:Int)] rfl HRD.out (by simp [Value.oneCell']) (by unfold maxLen;omega) (by omega) (by simp;omega) ?_;intro v3 w3 hown hgr hnil hb;obtain ⟨a3,c3,rfl⟩:=z2c hown;obtain ⟨hq,hF⟩:=hfin.out a3 c3 w3 hown hgr (by simpa using hb);obtain ⟨c0',c1',cf'⟩:=H.out.cells w3 hq;rw [←HN.out] at c1';have HF:=z7 hF;clear hown hgr hnil hb hq hF c0 c1 cf)
   go_end0
   exact ⟨rfl,HF.out⟩
 ·have hkp:(0:Int)<k:=by omega
  have hk0':((k:Int)==0)=false:=by simpa using hk0
  have hbl:=H.out.bits.len;have hb0:0<m:=by have:=H.out.len;have:=HK.out;have:=HN.out;omega
  obtain ⟨g,rfl⟩:∃g,a=some ⟨g,0,none⟩:=by
   rcases H.out.row.2 with ⟨h1,h2⟩ | ⟨g,cap,cur,h1,_⟩
   ·omega
   ·simp only [Value.slice.injEq] at h1;exact ⟨g,h1.1⟩
  obtain ⟨z0,hz0'⟩:∃z0,z0=(b.getD (b.length - 1) 0).toNat:=⟨_,rfl⟩;have hz0l:z0<256:=by rw [hz0'];exact (b.getD (b.length - 1) 0).toNat_lt
  obtain ⟨z1,hz1'⟩:∃z1,z1=z0 ||| z/2^k:=⟨_,rfl⟩;have hd:z/2^k<256:=Nat.lt_of_le_of_lt (Nat.div_le_self _ _) hz256;have hz1l:z1<256:=by rw [hz1'];exact Nat.or_lt_two_pow (n:=8) hz0l hd
  have hor:bits .or .u8 (z0:Int) ((z:Int)/2^k)=(z1:Int):=by
   rw [hz1',show ((z:Int)/2^k)=((z/2^k:Nat):Int) by simp];exact u8_or_nat z0 _ hz0l hd
  have hm1:IntKind.i64.wrap ((m:Int) - 1)=((m - 1:Nat):Int):=by rw [z0n (by omega) (by omega)];omega
  have hcl0:w.cell? ⟨g,m - 1,none⟩=some (.int .u8 (z0:Int)):=by
   have h1:=(z0d H.out.row).2;rcases h1 with ⟨h1,_⟩ | ⟨ad,c',h1,h2⟩
   ·cases h1
   ·simp only [Value.slice.injEq,Option.some.injEq] at h1;have h3:=h2 (m - 1) (.int .u8 (z0:Int)) (by
     rw [hz0',H.out.len];have:b.length - 1<b.length:=by have:=H.out.len;omega
     simp [z0b,List.getD_eq_getElem?_getD,this])
    have e9:(⟨g,0,none⟩:Addr).add (m - 1)=⟨g,m - 1,none⟩:=by unfold Addr.add;split<;>simp_all
    rw [←h1.1,e9] at h3;exact h3
  have hcl:Hid (∀w',Below w.heap.size w w'→w'.cell? ⟨q,0,none⟩=some (.slice (some ⟨g,0,none⟩) m c)∧w'.cell? ⟨g,m - 1,none⟩=some (.int .u8 (z0:Int))):=z7 fun w' hw=>⟨(hw.cell (p:=⟨q,0,none⟩) hqs).trans c0,(hw.cell (p:=⟨g,m - 1,none⟩) (H.out.row.lt g rfl).2).trans hcl0⟩;have hm2:m - 1<m:=by omega
  have hgq:Hid (g≠q):=z7 fun e=>H.out.far (by rw [e];rfl);have HZ0:=z7 hz0';have HZ1:=z7 hz1';have HBL:=z7 hbl;clear hz0' hz1' hbl c0 c1 cf hcl0;go_enter Tryz.func100,Tryz.ntmps100;obtain ⟨c0,c1,cf⟩:=H.out.cells w rfl;rw [←HN.out] at c1;go_wp2_with fail;clear c0 c1 cf;refine q6 19 82 (by kernel_rfl) (by kernel_rfl) rfl (by kernel_rfl) (fun D v w'=>Below w.heap.size w w') (fun _=>undef) (Below.refl _ _).drew ?_;simp only [List.take_succ_cons,List.take_zero,List.drop_succ_cons,List.drop_zero];iterate 19 (refine q8.rd (e:=?_) (fun D v w' hD hS=>?_) ?_;rotate_left;(obtain ⟨c0,c1⟩:=hcl.out w' hS;clear hS hD;first | (go_simp;done) | (go_simp;with_reducible rfl));go_simp)
  refine q8.fin (fun v w5 hS=>?_);have H5:=z7 (H.out.then hS);have hc5:=(hcl.out w5 hS).2;clear hS hcl;obtain ⟨b',hb'⟩:∃b',b'=b.set (b.length - 1) (UInt8.ofNat z1):=⟨_,rfl⟩;have hst:=(H5.out.row.stored (m - 1) (.int .u8 (z1:Int))).1;have hbs:(z0b b).set (m - 1) (.int .u8 (z1:Int))=z0b b':=by
   rw [hb',H5.out.len];simp [z0b,List.map_set,Nat.mod_eq_of_lt hz1l]
  rw [hbs] at hst;have hfz:=H5.out.row.frozenAt (m - 1);have hq6:(w5.setCell ⟨g,m - 1,none⟩ (.int .u8 (z1:Int))).heap[q]? =w5.heap[q]? :=q7 (Ne.symm hgq.out);have hlow6:Below W.heap.size W (w5.setCell ⟨g,m - 1,none⟩ (.int .u8 (z1:Int))):=H5.out.low.setCell (by show W.heap.size≤g;exact (H5.out.row.lt g rfl).1) _;have hold:=q1b (k:=k) (z:=z0) H5.out.bits (by rw [HK.out,HN.out]) (by omega) hn HTOP.out (by rw [HZ0.out];simp) hz0l;rw [←HZ1.out,←hb'] at hold;have hbl':m=b'.length:=by rw [hb',List.length_set];exact H5.out.len
  have HST:=z7 hst;have HQ6:=z7 hq6;have HLOW6:=z7 hlow6;have HOLD:=z7 hold;have HBL':=z7 hbl';clear hst hbs hq6 hlow6 hold hb' hbl';by_cases hov:8 - k<n
  case neg=>
   have dov:decide ((8:Int) - k<n)=false:=decide_eq_false (by omega);have hw7:IntKind.i64.wrap (8 - (k:Int))=8 - (k:Int):=z0n (by omega) (by omega);have hfin:=H5.out.setRow0 HQ6.out HLOW6.out HST.out HBL'.out (fun p hp=>q7 (fun e=>(H5.out.kept p hp).2.2 (by rw [e];rfl))) n (l++z5h z n) (by have:=HOLD.out;rw [if_neg hov,List.append_nil] at this;exact this) (by simp [z0Y]);rw [←HN.out] at hfin;have HFIN:=z7 hfin;obtain ⟨c0,c1,cf⟩:=H5.out.cells _ HQ6.out;rw [←HN.out] at c1;clear hfin hov;go_wp2
   go_end0
   exact ⟨rfl,HFIN.out⟩
  have dov:decide ((8:Int) - k<n)=true:=decide_eq_true (by omega);have hw7:IntKind.i64.wrap (8 - (k:Int))=8 - (k:Int):=z0n (by omega) (by omega);obtain ⟨z2,hz2'⟩:∃z2,z2=z*2^(8 - k)%256:=⟨_,rfl⟩;have hz2l:z2<256:=by rw [hz2'];exact Nat.mod_lt _ (by decide)
  have hzz:(z:Int)*2^(8 - k)%256=(z2:Int):=by rw [hz2'];simp
  have hzw:IntKind.u8.wrap ((z:Int)*2^(8 - k))=(z2:Int):=by rw [IntKind.wrap_u8];exact hzz
  have HZ2:=z7 hz2';clear hz2';have hfin:Hid (∀a' c' w',w'.ownsRow W.heap.size 5 1 (.slice a' (m+1) c') (m+1) (z0b b'++ [.int .u8 (z2:Int)])→(w5.setCell ⟨g,m - 1,none⟩ (.int .u8 (z1:Int))).grownBy w' (Value.slice (some ⟨g,0,none⟩) m c).ownBlock→((Value.slice a' (m+1) c').ownBlock=(Value.slice (some ⟨g,0,none⟩) m c).ownBlock∨∃j,(Value.slice a' (m+1) c').ownBlock=some j∧(w5.setCell ⟨g,m - 1,none⟩ (.int .u8 (z1:Int))).heap.size≤j)→
     (w'.heap[q]? =w5.heap[q]?)∧z2U W K ((w'.setCell ⟨q,0,none⟩ (.slice a' (m+1) c')).setCell ⟨q,1,none⟩ (.int .i64 ((N:Int)+n))) q (l++z5h z n)):=z7 fun a' c' w' hrow hgr hb=>by
   have hqs5:=H5.out.lt;have hq:w'.heap[q]? =w5.heap[q]? :=(hgr.block q (by simpa [World.setCell] using hqs5) (fun e=>H5.out.far e.symm)).trans HQ6.out;refine ⟨hq,?_⟩;rw [HN.out];have hO:=HOLD.out;rw [if_pos hov,←HZ2.out] at hO;refine H5.out.setRow hq ?_ (by rw [←y5s z2 hz2l] at hrow;simpa [z0b] using hrow) (by simp [←HBL'.out]) ?_ (fun p hp=>?_) n _ hO (by simp [z0Y])
   ·exact HLOW6.out.grown hgr (by simpa [World.setCell] using H5.out.low.size) (fun j hj=>(HST.out.lt j hj).1)
   ·rcases hb with e | ⟨j,e,hj⟩
    ·rw [e];exact H5.out.far
    ·rw [e];intro e2;simp only [Option.some.injEq] at e2;simp [World.setCell] at hj;omega
   ·obtain ⟨k1,k2,k3⟩:=H5.out.kept p hp;have k4:=(Array.getElem?_eq_some_iff.1 k1).1;refine ⟨(hgr.block p.1 (by simpa [World.setCell] using k4) (fun e=>k3 e.symm)).trans (q7 (fun e=>k3 (by rw [e];rfl))),?_⟩;rcases hb with e | ⟨j,e,hj⟩
    ·rw [e];exact k3
    ·rw [e];intro e2;simp only [Option.some.injEq] at e2;simp [World.setCell] at hj;omega
  have hsz6:W.heap.size≤(w5.setCell ⟨g,m - 1,none⟩ (.int .u8 (z1:Int))).heap.size:=by simpa [World.setCell] using H5.out.low.size
  have hlt6:q<(w5.setCell ⟨g,m - 1,none⟩ (.int .u8 (z1:Int))).heap.size:=by simpa [World.setCell] using H5.out.lt
  obtain ⟨c0,c1,cf⟩:=H5.out.cells _ HQ6.out;rw [←HN.out] at c1;go_wp2_with fail;clear c0 c1 cf;obtain ⟨w6,hw6⟩:∃w6,w6=w5.setCell ⟨g,m - 1,none⟩ (.int .u8 (z1:Int)):=⟨_,rfl⟩;rw [←hw6] at HST HQ6 HLOW6 hfin hsz6 hlt6 ⊢;have hcl6:Hid (∀w',w6.grownBy w' (Value.slice (some ⟨g,0,none⟩) m c).ownBlock→w'.cell? ⟨q,0,none⟩=some (.slice (some ⟨g,0,none⟩) m c)):=z7 fun w' hg=>(H5.out.cells w' ((hg.block q hlt6 (fun e=>H5.out.far e.symm)).trans HQ6.out)).1;have HLT6:=z7 hlt6;have HSZ6:=z7 hsz6;have HZZ:=z7 hzz;have HZW:=z7 hzw;have HW7:=z7 hw7;have HWW:=z7 hw1;have HML:=z7 hml;clear hw6 hlt6 hsz6 hor hm1 hm2 hc5 hfz hkp hk0' hmv hzz hzw hw7 hw1 hw8 hmod hov dov;refine q6 15 82 (by kernel_rfl) (by kernel_rfl) rfl (by kernel_rfl) (fun D v w'=>z6a W.heap.size 5 1 10 11 w6 (.slice (some ⟨g,0,none⟩) m c) m (z0b b') [.int .u8 (z2:Int)] D v w') (fun _=>undef) (z6a.start HST.out) ?_;simp only [List.take_succ_cons,List.take_zero,List.drop_succ_cons,List.drop_zero];iterate 10 (refine q8.read (e:=?_) (fun v=>by rfl) (fun D v w h=>h.read _ (by omega) (by omega)) (fun D v w' hD hS=>?_) ?_;rotate_left;(have c0:=hcl6.out w' hS.g;have hzz:=HZZ.out;have hzw:=HZW.out;have hw7:=HW7.out;clear hS hD;first | (go_simp;done) | (go_simp;with_reducible rfl));go_simp)
  refine q8.rel (fun v=>by rfl) (fun D v w' hD hS=>?_) ?_
  ·have dj:D 11=false:=hD.post 11 _ rfl (by kernel_rfl);have HS3:=z7 (z6a.made (cs:= #[.int .u8 (z2:Int)]) (e:=5) (by decide) hS dj rfl);clear hS hD;go_simp;exact HS3.out
  go_simp;refine q8.rel (fun v=>by rfl) (fun D v w' hD hS=>?_) ?_
  ·have di:D 10=true:=hD.pre 10 (by kernel_rfl);obtain ⟨g',h9,hrd,hge⟩:=hS.s di;have hq:=z7 (hS.q hD.self);have hsz:=hS.g.size;have HS3:=z7 hS;rw [h9] at hrd;have HRD:=z7 hrd;rw [h9];clear hS hD h9;refine z3o _ _ 46 rfl W.heap.size 5 i0 (.int .u8 0) 1 1 Tryz.underlying46 hi0 hz0 hz1 hz2 rfl (by decide) _ m (z0b b') rfl hq.out _ 1 [.int .u8 (z2:Int)] rfl HRD.out (by simp [Value.oneCell']) (by unfold maxLen;omega) (by omega) (by have:=HSZ6.out;omega) ?_;intro v' w'' h1 h2 h3 h4;exact ⟨v',rfl,z6a.appended (by decide) HS3.out di HST.out h1 h2 h4,trivial⟩
  go_simp;iterate 3 (refine q8.read (e:=?_) (fun v=>by rfl) (fun D v w h=>h.read _ (by omega) (by omega)) (fun D v w' hD hS=>?_) ?_;rotate_left;(have c0:=hcl6.out w' hS.g;clear hS hD;first | (go_simp;done) | (go_simp;with_reducible rfl));go_simp)
  refine q8.fin (fun v w7 hS=>?_);obtain ⟨-,a7,c7,h7,hrow7,hblk7⟩:=hS.a rfl;rw [h7] at hrow7 hblk7 ⊢;obtain ⟨hq7,hF⟩:=hfin.out a7 c7 w7 hrow7 hS.g hblk7;obtain ⟨c0,c1,cf⟩:=H5.out.cells w7 hq7;rw [←HN.out] at c1;have HF:=z7 hF;have hw1:=HWW.out;clear hS h7 hrow7 hblk7 hq7 hF;go_wp2
  go_end0
  exact ⟨rfl,HF.out⟩
end Go.Proofs.YtfcnapnopdomhaaGreatDoor

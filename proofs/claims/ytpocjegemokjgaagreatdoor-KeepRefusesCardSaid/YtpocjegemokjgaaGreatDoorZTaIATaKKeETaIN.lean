/-
  Notes that came in, with their capacities.
-/
import Derived.Test.YtpocjegemokjgaaGreatDoorZStDFsTTaETaF
import Derived.Deep.DeepCutAuto
import Derived.Test.YtpocjegemokjgaaGreatDoorZFrTFrUFrYAKeA
namespace Go.Proofs.YtpocjegemokjgaaGreatDoor
open Go.Proofs.Tryz
set_option linter.all false
set_option maxRecDepth 100000
set_option maxHeartbeats 12800000
section
open Go.RowKit
def z7U(w:World)(x:Value)(ls:List Bs):Prop:=∃xs:List Value,Rd w x 1 ls.length xs/\xs.length=ls.length/\(∀(i:Nat) (v:Value) (l:Bs),xs[i]? =some v->ls[i]? =some l->(RdB w v l/\∃a c,v= .slice a l.length c/\l.length<=c/\c<=9223372036854775807))/\∃a c,x= .slice a ls.length c/\ls.length<=c/\c<=9223372036854775807
theorem z7U.bs{w:World}{x:Value}{A:List Bs}(h:z7U w x A):y0q w x A:=by
 obtain⟨R,I,J,L,_⟩:=h;exact⟨R,I,J,fun i v l O N=>(L i v l O N).1⟩
theorem z7U.low{w w':World}{x:Value}{L:List Bs}(h:z7U w x L)(hb:Below w.heap.size w w'):z7U w' x L:=by
 obtain⟨U,N,O,A,R⟩:=h;exact⟨U,N.low hb,O,fun i v l J I=>⟨(A i v l J I).1.low hb,(A i v l J I).2⟩,R⟩
theorem z7U.cap{w:World}{a:Option Addr}{n c:Nat}{J:List Bs}(h:z7U w (.slice a n c) J):n<=c/\c<=9223372036854775807:=by
 obtain⟨_,_,_,_,a',c',e,A,I⟩:=h;simp only[Value.slice.injEq]at e;obtain⟨rfl,rfl,rfl⟩:=e;exact⟨A,I⟩
theorem z7U.nil(w:World):z7U w (.slice none 0 0) []:=⟨[],Rd.nil w 1,rfl,(fun i v l h=>by simp at h),none,0,rfl,Nat.le_refl _,by omega⟩
theorem z7U.head{w:World}{x:Value}{A:List Bs}(h:z7U w x A):∃a c,x= .slice a A.length c:=h.bs.head
theorem z7U.at{w:World}{x:Value}{I:List Bs}(h:z7U w x I){k:Nat}(hk:k<I.length):∃b A c a n c',x= .slice (some ⟨b,A,none⟩) I.length c/\w.cell? ⟨b,A+k,none⟩=some (.slice a n c')/\RdB w (.slice a n c') I[k]/\n=I[k].length/\n<=c'/\c'<=9223372036854775807/\b<w.heap.size:=by
 obtain⟨L,U,h2,Y,_⟩:=h;obtain⟨b,A,c,rfl,hc,hb⟩:=Rd.addr U (by omega) (by omega);have J:L[k]? =some (L[k]'(by omega)):=List.getElem?_eq_getElem (by omega);obtain⟨N,a,c',e,O,R⟩:=Y k _ _ J (List.getElem?_eq_getElem hk);refine⟨b,A,c,a,I[k].length,c',rfl,?_,?_,rfl,O,R,hb⟩
 ·have:=hc k _ J;rw[e]at this;exact this
 ·rw[<-e];exact N
end
section
open Go.RowKit Go.Maps
theorem z3H.cells{w:World}{tb sb:Nat}{k:Bs}(h:z3H w tb sb k):∀w',Below w.heap.size w w'->w'.cell? ⟨tb,0,none⟩=some (.pointer (some ⟨sb,0,none⟩))/\w'.cell? ⟨tb,1,none⟩=some (.string ⟨k.toArray⟩):=fun w' I=>by
 obtain⟨c0,c1,_,A⟩:=z3X h;exact⟨(I.cell (p:=⟨tb,0,none⟩) A).trans c0,(I.cell (p:=⟨tb,1,none⟩) A).trans c1⟩
theorem z2G.trans{w I J:World}{sb:Nat}{F A:List Nat}{s:FsS}(R:Chg F A w I)(U:z2G I sb A s J):z2G w sb F s J:=by
 obtain⟨L,N,O⟩:=U;exact⟨L,N,R.trans O⟩
theorem z2G.after{w A I:World}{sb:Nat}{F:List Nat}{s:FsS}(J:Below w.heap.size w A)(L:z2G A sb F s I):z2G w sb F s I:=z2G.trans (Chg.of_below J) L
theorem q3f(tb sb:Nat)(s:FsS)(F:List Nat)(k:Bs)(hk:k.length<=1000000)(w:World)(N:z3H w tb sb k)(h:z1v w sb s F)(ok:s.Ok):
  Calls prog 76 #[.pointer (some ⟨tb,0,none⟩)] w fun e w'=>e= .returned (.int .u16 (z2k s k).1)/\z2G w sb F (z2k s k).2 w':=by
 have H:=z7 h;have U:=z7 ok;have J:=z7 N.cells;have L:k.length<=maxLen:=by unfold maxLen;omega
 clear h ok N;go_enter func76,ntmps76;go_wp2_with fail;refine q6 8 12 (fun D v w'=>Below w.heap.size w w') (Below.refl _ _).drew ?_;simp only[z0v];iterate 8 (refine q8.rd (e:=?_) (fun D v w' Y I=>?_) ?_;rotate_left;(obtain⟨x0,x1⟩:=J.o w' I;clear I Y;go_simp;try with_reducible rfl);go_simp)
 refine q8.fin (fun v w5 I=>?_);have A:=z7 I;clear I;go_wp2_with fail;refine(q3t sb s F k L w5 (H.o.low A.o) U.o).mono ?_;rintro e w6 ⟨rfl,O⟩;have R:=z7 O;clear O;go_wp2;go_ret;exact⟨rfl,z2G.after A.o R.o⟩
def z1R:Bs:= [107,101,101,112]
def z2B(w:World)(kb rb bb tb:Nat):Prop:=w.heap[kb]? =some (.cells #[.pointer (some ⟨rb,0,none⟩),.pointer (some ⟨bb,0,none⟩),.pointer (some ⟨tb,0,none⟩)] 67 (0,0))
theorem z2B.lt{w:World}{kb rb bb tb:Nat}(h:z2B w kb rb bb tb):kb<w.heap.size:=(Array.getElem?_eq_some_iff.1 h).1
theorem z2B.low{w w':World}{kb rb bb tb:Nat}(h:z2B w kb rb bb tb)(hb:Below w.heap.size w w'):z2B w' kb rb bb tb:=(hb.block kb h.lt).trans h
theorem z2B.cells{w:World}{kb rb bb tb:Nat}(h:z2B w kb rb bb tb):w.cell? ⟨kb,0,none⟩=some (.pointer (some ⟨rb,0,none⟩))/\w.cell? ⟨kb,1,none⟩=some (.pointer (some ⟨bb,0,none⟩))/\w.cell? ⟨kb,2,none⟩=some (.pointer (some ⟨tb,0,none⟩))/\∀j,w.frozen? ⟨kb,j,none⟩=false:=cells3 h
def z3y(f:Fr)(l:List Bool):List UInt8:=z6L f.series f.chunk f.bits f.cnt f.count f.closed l.length f.b
theorem z9V(f:Fr)(l:List Bool):(z3y f l).length=24+f.b.length:=by
 unfold z3y z6L;simp only[List.length_append,z2R,z3t,List.length_cons,List.length_nil]
theorem Chg.only{F F':List Nat}{w w':World}(h:Chg F F' w w'):z0t (fun k=>k∈F) w w':=⟨h.os,h.tape,h.output,h.size,h.block⟩
def wrS(s:FsS)(n:List UInt8):Int×FsS:=if(z2g s z1R n).1≠0 then z2g s z1R n else z2k (z2g s z1R n).2 z1R
theorem q2D(kb rb bb tb sb:Nat)(s:FsS)(F:List Nat)(f:Fr)(a:Option Addr)(n c:Nat)(l:List Bool)(hf:f.Ok)(aG:f.n=(l.length:Nat))(hm:f.cnt<f.count/\0<l.length/\n<=500)(aV:n=f.b.length)(w:World)(hk:z2B w kb rb bb tb)(ht:z3H w tb sb z1R)(h:z1v w sb s F)(ok:s.Ok)(aU:kb∉F)(aX:tb∉F)(hb:z0r w a n c l f.b):
  Calls prog 32 #[.pointer (some ⟨kb,0,none⟩),pcV f (.slice a n c)] w fun e w'=>e= .returned (.int .u16 (wrS s (z3y f l)).1)/\z2G w sb F (wrS s (z3y f l)).2 w':=by
 have a5:=z7 ((z0K.start (fun k=>k∈F) w).new (.cells (z2V f (.slice a n c)) 84));have aZ:=h.lt;have HK:=z7 hk;have HT:=z7 ht;have H:=z7 h;have HB:=z7 hb;have aC:=z7 ok;have a4:=z7 (fun w' (h1:z0r w' a n c l f.b)=>y8R f.series f.chunk f.bits f.cnt f.count f.closed a n c l f.b hf.series hf.chunk hf.bits hf.cnt hf.count hm w' h1);have Y:=z9V f l;obtain⟨nb,O⟩:=zN (z3y f l);have J:=a4.o;have aI:z6L f.series f.chunk f.bits f.cnt f.count f.closed l.length f.b=nb:=by rw[O];rfl
 rw[aI]at J;have a4:=z7 J;rw[<-O]at Y ⊢;have aJ:z2V f (.slice a n c)= #[.int .u8 4,.int .u32 0,.int .u32 f.series,.int .i64 0,.int .u64 0,.int .u32 f.chunk,.int .u32 f.bits,.int .u32 f.cnt,.int .u32 f.count,.bool f.closed,.slice a n c,.int .i64 (l.length:Nat)]:=by unfold z2V;rw[aG]
 unfold pcV;rw[aJ]at a5 ⊢;have aW:=z7 Y;have b0:=z7 (show nb.length<=524 by rw[Y];omega);clear h hk ht hb ok J aI O aJ aG hm hf Y aV;have b1:=HK.o.lt;have b2:=HT.o.lt;have L:=q5 w (.cells #[.int .u8 4,.int .u32 0,.int .u32 f.series,.int .i64 0,.int .u64 0,.int .u32 f.chunk,.int .u32 f.bits,.int .u32 f.cnt,.int .u32 f.count,.bool f.closed,.slice a n c,.int .i64 (l.length:Nat)] 84);go_enter func32,ntmps32;go_wp2_with (refine z0J rfl 84 _ rfl w.heap.size 0 rfl _ (z1X (a5.o.get 0 rfl)) z2o z0O ?_);refine(a4.o _ (HB.o.low L)).mono ?_;rintro e w2 ⟨a',m',c',rfl,I,aB,a9⟩;have aD:=z7 (a5.o.call a9);have A:Below w.heap.size w w2:=L.trans (a9.mono L.size);obtain⟨k0,k1,k2,kf⟩:=(HK.o.low A).cells;have aH:=(HK.o.low A).lt;have N:=z1O I;have a2:=z7 (y9i tb sb s F z1R (by decide) a' m' c' nb w2 (HT.o.low A) (H.o.low A) aC.o (by have h9:=z0e I;unfold RdB;rw[<-aB];exact h9) aB N.1 N.2 (fun _ j hj=>(I.lt j hj).2));obtain⟨⟨e1,s1⟩,h1⟩:∃r,r=z2g s z1R nb:=⟨_,rfl⟩;have a0:s1.Ok:=by have:=z7p aC.o z1R nb;rw[<-h1]at this;exact this
 rw[<-h1]at a2;have hw:wrS s nb=if e1≠0 then(e1,s1)else z2k s1 z1R:=by unfold wrS;rw[<-h1]
 have HW:=z7 hw;have U:=z7 A;have aO:=z7 a0;clear I aB a9 A N h1 hw a0;go_upto_region 5 with(refine a2.o.mono ?_;rintro e w3 ⟨rfl,F1,a8,a7⟩)
 have aN:=z7 a8;have a3:=z7 a7;have aM:z2G w sb F s1 w3:=⟨F1,a8,(Chg.of_below U.o).trans a7⟩;have aR:=z7 aM;clear a8 a7 aM k0 k1 k2 kf a2;by_cases h0:e1=0
 ·have d:((e1:Int)==0)=true:=by rw[h0];rfl
  have aA:z2B w3 kb rb bb tb:=(a3.o.block kb aH aU).trans (HK.o.low U.o);obtain⟨k0,k1,k2,kf⟩:=aA.cells;have aY:=aA.lt;have aL:z3H w3 tb sb z1R:=(HT.o.low U.o).chg a3.o aX;have aE:=z7 (q3f tb sb s1 F1 z1R (by decide) w3 aL aN.o aO.o);obtain⟨⟨e2,s2⟩,h2⟩:∃r,r=z2k s1 z1R:=⟨_,rfl⟩;rw[<-h2]at aE;have R:wrS s nb=(e2,s2):=by rw[HW.o,if_neg (by simp[h0]),h2]
  have a6:=z7 R;clear aA aL h2 R;subst h0;go_wp2_with (refine aE.o.mono ?_;rintro e w4 ⟨rfl,a1⟩;have aF:=z7 a1;clear a1);go_ret;rw[a6.o];obtain⟨F2,aT,aS⟩:=aF.o;exact⟨rfl,F2,aT,((Chg.of_below U.o).trans a3.o).trans aS⟩
 ·have d:((e1:Int)==0)=false:=beq_false_of_ne h0;have R:wrS s nb=(e1,s1):=by rw[HW.o,if_pos h0]
  have a6:=z7 R;have H0:=z7 h0;clear R h0;go_wp2;go_ret;rw[a6.o];exact⟨rfl,aR.o⟩
structure LkS (W:World) (rb:Nat) (p:Array Value) (bo er:Value) (P:Value->World->Prop) (D:Nat->Bool) (v:Nat->Value) (w':World):Prop where
 low:z0t (fun k=>k=rb) W w'
 q0:D 5=false->w'.heap[rb]? =W.heap[rb]?
 c:D 5=true->∃(sl:Value) (F:Nat->Prop),v 5= .tuple #[.agg p,bo,sl,er]/\Kept F w' (P sl)/\∀k,F k->k<w'.heap.size/\(D 11=true->v 11≠ .pointer (some ⟨k,0,none⟩))
 m:D 6=true->D 5=true/\v 6=v 5
 e:D 9=true->D 5=true/\v 9=z8V 2 (v 5)
 a:D 14=true->D 9=true/\v 14=v 9
 al:D 11=true->∃g,v 11= .pointer (some ⟨g,0,none⟩)/\W.heap.size<=g/\w'.heap[g]? =some (.cells (if D 12 then p else z1b) 84 (0,0))
section
variable {W w' w'':World} {rb:Nat} {p:Array Value} {bo er:Value} {P:Value->World->Prop} {D:Nat->Bool} {v:Nat->Value}
theorem LkS.start(W:World)(rb:Nat)(p:Array Value)(bo er:Value)(P:Value->World->Prop):LkS W rb p bo er P (fun _=>false) (fun _=>undef) W.drew:=
 ⟨⟨rfl,rfl,rfl,Nat.le_refl _,fun _ _ _=>rfl⟩,(fun _=>rfl),(fun h=>by cases h),(fun h=>by cases h),(fun h=>by cases h),(fun h=>by cases h),fun h=>by cases h⟩
theorem LkS.read(h:LkS W rb p bo er P D v w')(k:Nat)(I:k≠5)(O:k≠6)(N:k≠9)(A:k≠11)(J:k≠12)(L:k≠14):LkS W rb p bo er P (mark D k) v w':=by
 refine⟨h.low,?_,?_,?_,?_,?_,?_⟩
 ·rw[q9 I];exact h.q0
 ·rw[q9 I,q9 A];exact h.c
 ·rw[q9 O,q9 I];exact h.m
 ·rw[q9 N,q9 I];exact h.e
 ·rw[q9 L,q9 N];exact h.a
 ·rw[q9 A,q9 J];exact h.al
theorem LkS.call(h:LkS W rb p bo er P D v w')(J:D 5=false)(hr:rb<W.heap.size)(O:z0t (fun k=>k=rb) w' w'')(R:Value)(F:Nat->Prop)(hP:Kept F w'' (P R))(Y:∀k,F k->k=rb\/(w'.heap.size<=k/\k<w''.heap.size)):LkS W rb p bo er P (mark D 5) (z2O v 5 (.tuple #[.agg p,bo,R,er])) w'':=by
 refine⟨h.low.trans O (fun _ I=> .inl I),fun e=>?_,fun _=>⟨R,F,z0p _ _ _,hP,fun k I=>?_⟩,fun e=>?_,fun e=>?_,fun e=>?_,fun e=>?_⟩
 ·rw[z1L]at e;cases e
 ·have a1:=h.low.size;have a0:=O.size;refine⟨by rcases Y k I with N|N<;>omega,fun e=>?_⟩;rw[q9 (by omega)]at e;rw[z0d (by omega)];obtain⟨g,L,U,A⟩:=h.al e;rw[L];intro e2;simp only[Value.pointer.injEq,Option.some.injEq,Addr.mk.injEq,and_true]at e2;have:=(Array.getElem?_eq_some_iff.1 A).1;rcases Y k I with N|N<;>omega
 ·rw[q9 (by omega)]at e;have:=(h.m e).1;rw[J]at this;cases this
 ·rw[q9 (by omega)]at e;have:=(h.e e).1;rw[J]at this;cases this
 ·rw[q9 (by omega)]at e;have:=(h.e (h.a e).1).1;rw[J]at this;cases this
 ·rw[q9 (by omega)]at e;rw[q9 (by omega),z0d (by omega)];obtain⟨g,L,U,A⟩:=h.al e;exact⟨g,L,U,(O.block g (Array.getElem?_eq_some_iff.1 A).1 (by omega)).trans A⟩
theorem LkS.move(h:LkS W rb p bo er P D v w')(A:D 5=true):LkS W rb p bo er P (mark D 6) (z2O v 6 (v 5)) w':=by
 refine⟨h.low,?_,?_,fun _=>⟨by rw[q9 (by omega)];exact A,by rw[z0p,z0d (by omega)]⟩,?_,?_,?_⟩
 ·rw[q9 (by omega)];exact h.q0
 ·rw[q9 (by omega),q9 (by omega),z0d (by omega),z0d (by omega)];exact h.c
 ·rw[q9 (by omega),q9 (by omega),z0d (by omega),z0d (by omega)];exact h.e
 ·rw[q9 (by omega),q9 (by omega),z0d (by omega),z0d (by omega)];exact h.a
 ·rw[q9 (by omega),q9 (by omega),z0d (by omega)];exact h.al
theorem LkS.ext(h:LkS W rb p bo er P D v w')(I:D 5=true){u:Value}(J:z8V 2 (v 5)=u)(A:D 14=false):LkS W rb p bo er P (mark D 9) (z2O v 9 u) w':=by
 refine⟨h.low,?_,?_,?_,fun _=>⟨by rw[q9 (by omega)];exact I,by rw[z0p,z0d (by omega),J]⟩,fun e=>?_,?_⟩
 ·rw[q9 (by omega)];exact h.q0
 ·rw[q9 (by omega),q9 (by omega),z0d (by omega),z0d (by omega)];exact h.c
 ·rw[q9 (by omega),q9 (by omega),z0d (by omega),z0d (by omega)];exact h.m
 ·rw[q9 (by omega),A]at e;cases e
 ·rw[q9 (by omega),q9 (by omega),z0d (by omega)];exact h.al
theorem LkS.asg(h:LkS W rb p bo er P D v w')(A:D 9=true):LkS W rb p bo er P (mark D 14) (z2O v 14 (v 9)) w':=by
 refine⟨h.low,?_,?_,?_,?_,fun _=>⟨by rw[q9 (by omega)];exact A,by rw[z0p,z0d (by omega)]⟩,?_⟩
 ·rw[q9 (by omega)];exact h.q0
 ·rw[q9 (by omega),q9 (by omega),z0d (by omega),z0d (by omega)];exact h.c
 ·rw[q9 (by omega),q9 (by omega),z0d (by omega),z0d (by omega)];exact h.m
 ·rw[q9 (by omega),q9 (by omega),z0d (by omega),z0d (by omega)];exact h.e
 ·rw[q9 (by omega),q9 (by omega),z0d (by omega)];exact h.al
theorem LkS.make(h:LkS W rb p bo er P D v w')(U:rb<W.heap.size)(I:D 12=false):LkS W rb p bo er P (mark D 11) (z2O v 11 (.pointer (some ⟨w'.heap.size,0,none⟩))) (w'.alloc (.cells z1b 84)):=by
 have hb:=q5 w' (.cells z1b 84);refine⟨h.low.trans (S':=fun _=>False) (z0t.of_below hb) (fun _ A=>A.elim),?_,fun e=>?_,?_,?_,?_,fun _=>⟨w'.heap.size,z0p _ _ _,h.low.size,?_⟩⟩
 ·rw[q9 (by omega)];exact fun e=>(hb.block rb (by have:=h.low.size;omega)).trans (h.q0 e)
 ·rw[q9 (by omega)]at e;obtain⟨R,F,N,O,J⟩:=h.c e;refine⟨R,F,by rw[z0d (by omega)];exact N,O.next fun k A=>hb.block k (J k A).1,fun k A=>⟨Nat.lt_of_lt_of_le (J k A).1 hb.size,fun _=>?_⟩⟩;rw[z0p];intro L;simp only[Value.pointer.injEq,Option.some.injEq,Addr.mk.injEq,and_true]at L;have:=(J k A).1;omega
 ·rw[q9 (by omega),q9 (by omega),z0d (by omega),z0d (by omega)];exact h.m
 ·rw[q9 (by omega),q9 (by omega),z0d (by omega),z0d (by omega)];exact h.e
 ·rw[q9 (by omega),q9 (by omega),z0d (by omega),z0d (by omega)];exact h.a
 ·rw[q9 (by omega),I];exact j8 _ _
theorem LkS.store(h:LkS W rb p bo er P D v w')(hr:rb<W.heap.size)(U:D 5=true)(A:D 11=true)(J:D 12=false){g:Nat}(N:v 11= .pointer (some ⟨g,0,none⟩))(hp:p.size=12):LkS W rb p bo er P (mark D 12) v (w'.setCells g 0 p.toList):=by
 obtain⟨g',L,g2,Y⟩:=h.al A;rw[N]at L;simp only[Value.pointer.injEq,Option.some.injEq,Addr.mk.injEq,and_true]at L;subst L;rw[J]at Y;have hb:∀k,k≠g->(w'.setCells g 0 p.toList).heap[k]? =w'.heap[k]? :=fun k I=>z0Z I _ _ _;have O:(w'.setCells g 0 p.toList).heap.size=w'.heap.size:=size_setCells _ _ _;have ho:=z0t.setCells (S:=fun k=>k=g) (b:=g) rfl p.toList 0 w';refine⟨h.low.trans ho (fun k I=> .inr (by omega)),fun e=>?_,fun e=>?_,?_,?_,?_,fun e=>⟨g,N,g2,?_⟩⟩
 ·rw[q9 (by omega),U]at e;cases e
 ·obtain⟨sl,F,k1,k2,R⟩:=h.c U;refine⟨sl,F,k1,k2.next fun k I=>hb k fun e=>?_,fun k I=>⟨by rw[O];exact(R k I).1,fun _=>(R k I).2 A⟩⟩;subst e;exact(R _ I).2 A N
 ·rw[q9 (by omega),q9 (by omega)];exact h.m
 ·rw[q9 (by omega),q9 (by omega)];exact h.e
 ·rw[q9 (by omega),q9 (by omega)];exact h.a
 ·rw[z1L,z0Q p.toList 0 _ _ Y (by simp[hp]),z4l (by simp[hp])];simp
end
theorem y9B(p:z0N)(n:Nat)(A:n<=p.st.length):toP p n=z6u 0 (p.st.take n):=by
 unfold toP z6u z1p;split
 ·rename_i h;subst h;simp
 ·rename_i h;rw[List.getLast?_take,if_neg h,List.getElem?_map];cases hg:p.st[n - 1]? with
  | none=>
   have:=List.getElem?_eq_none_iff.1 hg;omega
  | some x=>simp
theorem q5A{p:z0N}(h:p.Ok){n m:Nat}(R:n<m)(U:m<=p.st.length):toP p n<toP p m:=by
 obtain⟨-, -, -,N,O⟩:=z3C h.rd;have A:m - 1<p.st.length:=by omega
 have J:toP p m=(p.st[m - 1]).at_:=by
  unfold toP z1p;rw[if_neg (by omega),List.getElem?_map,List.getElem?_eq_getElem A];rfl
 rw[J];by_cases h0:n=0
 ·subst h0;have:=(N _ (List.getElem_mem A)).2.2.1;show toP p 0<_;unfold toP;rw[if_pos rfl];exact this
 ·have I:n - 1<p.st.length:=by omega
  have L:toP p n=(p.st[n - 1]).at_:=by
   unfold toP z1p;rw[if_neg h0,List.getElem?_map,List.getElem?_eq_getElem I];rfl
  rw[L];exact(List.pairwise_iff_getElem.1 O (n - 1) (m - 1) I A (by omega)).1
def z1j(p:z0N)(n:Nat):z0N:=⟨p.l.take (toP p n),p.st.take n⟩
theorem y2P{p:z0N}(h:p.Ok){n:Nat}(A:n<=p.st.length):(z1j p n).Ok:=
 ⟨by unfold z1j;rw[y9B p n A];exact y6F h.rd A,by unfold z1j;have:=h.len;simp only[List.length_take];omega⟩
theorem z8B{p:z0N}(h:p.Ok){n:Nat}(A:n<=p.st.length):(z1j p n).l.length=toP p n/\(z1j p n).st.length=n:=by
 unfold z1j;have:=z9c h n;simp only[List.length_take];omega
theorem y6s{p:z0N}(h:p.Ok):z1j p p.st.length=p:=by
 unfold z1j;rw[y0B h,List.take_length,List.take_length]
theorem y5R{p:z0N}(h:p.Ok){n m:Nat}(I:n<=m)(A:m<=p.st.length):(z1j p n).l++(p.l.drop (toP p n)).take (toP p m - toP p n)=(z1j p m).l:=by
 unfold z1j;have J:=y4r h I A;show p.l.take (toP p n)++_=p.l.take (toP p m)
 conv=>rhs;rw[show toP p m=toP p n+(toP p m - toP p n) by omega]
 rw[List.take_add]
structure z4y (x s:z0U):Prop where
 le:x.done.length<=s.done.length
 done:x.done=s.done.take x.done.length
 cur:∃p cl,s.parts[x.done.length]? =some (p,cl)/\x.cur.st.length<=p.st.length/\x.cur=z1j p x.cur.st.length/\(cl=true->x.cur.st.length<p.st.length)
def y2X(s:z0U):Prop:=∀D p,(s.done++ [s.cur])[D]? =some p->p.st≠ []->z5y (s.done.take D)=true->z3S (s.done.take D)<firstT p.st
theorem y5j(s:z0U)(D:Nat)(p:z0N)(cl:Bool)(h:s.parts[D]? =some (p,cl)):(s.done++ [s.cur])[D]? =some p/\(cl=true->D<s.done.length)/\(cl=false->D=s.done.length):=by
 unfold z0U.parts at h;by_cases hD:D<s.done.length
 ·rw[List.getElem?_append_left (by simpa using hD),List.getElem?_map,List.getElem?_eq_getElem hD]at h;simp only[Option.map_some,Option.some.injEq,Prod.mk.injEq]at h;rw[List.getElem?_append_left hD,List.getElem?_eq_getElem hD,h.1];exact⟨rfl,fun _=>hD,fun e=>by rw[<-h.2]at e;cases e⟩
 ·rw[List.getElem?_append_right (by simpa using hD),List.length_map]at h;rw[List.getElem?_append_right (by omega)];cases hk:D - s.done.length with
  | zero=>
   rw[hk]at h;simp only[List.getElem?_cons_zero,Option.some.injEq,Prod.mk.injEq]at h;rw[<-h.1];exact⟨rfl,(fun e=>by rw[<-h.2]at e;cases e),fun _=>by omega⟩
  | succ k=>rw[hk]at h;simp at h
theorem z6v{s:z0U}(A:s.Ok){D:Nat}{p:z0N}{cl:Bool}(h:s.parts[D]? =some (p,cl)):p.Ok:=by
 unfold z0U.parts at h;rcases List.mem_append.1 (List.mem_of_getElem? h)with h|h
 ·obtain⟨y,I,e⟩:=List.mem_map.1 h;simp only[Prod.mk.injEq]at e;rw[<-e.1];exact(A.done y I).1
 ·simp only[List.mem_singleton,Prod.mk.injEq]at h;rw[h.1];exact A.cur
theorem z4y.ok{x s:z0U}(h:z4y x s)(I:s.Ok):x.Ok:=by
 refine⟨fun p A=>?_,?_⟩
 ·rw[h.done]at A;exact I.done p (List.mem_of_mem_take A)
 ·obtain⟨p,cl,J,L,N, -⟩:=h.cur;rw[N];exact y2P (z6v I J) L
theorem y4p{s:z0U}(A:s.Ok):z4y z6d s:=by
 refine⟨Nat.zero_le _,by simp,?_⟩;cases hd:s.done with
 | nil=>exact⟨s.cur,false,by unfold z0U.parts;rw[hd];rfl,Nat.zero_le _,by unfold z1j toP;simp,fun e=>by cases e⟩
 | cons p l=>
  refine⟨p,true,by unfold z0U.parts;rw[hd];rfl,Nat.zero_le _,by unfold z1j toP;simp,fun _=>?_⟩;exact(A.done p (by rw[hd];exact List.mem_cons_self)).2
theorem z8z{x s:z0U}(h:z4y x s):s.done.take x.done.length=x.done:=h.done.symm
structure q4F (x s:z0U) (id:Nat) (r:y0k) (st:List z1d):Prop where
 series:r.series=id
 p:r.p=z2v x
 more:x.cur.st.length<r.count
 count:r.count<=24
 bits0:0<r.bits.length
 bits1:r.bits.length<=3504
 sum:r.sum=z3r 0 x.cur.l
 rd:z5o (x.cur.l++r.bits)=some st
 len:st.length=r.count
 rise:z5y x.done=true->z3S x.done<firstT st
 grow:z4y (z5f x ⟨x.cur.l++r.bits,st⟩ r.closed) s
theorem y7F{x s:z0U}(R:s.Ok)(h:z4y x s):∃p cl,z4j s (z2v x)=some (p,cl)/\s.parts[x.done.length]? =some (p,cl)/\x.cur.st.length<=p.st.length/\x.cur=z1j p x.cur.st.length/\(cl=true->x.cur.st.length<p.st.length):=by
 obtain⟨p,cl,A,I,J,L⟩:=h.cur;have O:=z6v R A;refine⟨p,cl,?_,A,I,J,L⟩;unfold z4j z2v;simp only[A];rw[if_neg];rintro(g|⟨N,U⟩|g)
 ·omega
 ·have:=L N;omega
 ·apply g;have:=(z8B O I).1;rw[<-J]at this;exact this.symm
theorem y8Y{x s:z0U}(hs:s.Ok)(hr:y2X s)(h:z4y x s)(id:Nat)(A:Int):
  (z6P s id (z2v x) A).err=0/\((z6P s id (z2v x) A).count=0\/∃st,q4F x s id (z6P s id (z2v x) A) st):=by
 obtain⟨p,cl,aC,a5,aG,aB,aL⟩:=y7F hs h;have R:=z6v hs a5;unfold z6P;rw[aC];simp only;split
 ·exact⟨rfl,.inl rfl⟩
 ·rename_i aH;refine⟨rfl,.inr ?_⟩;have a3:=y3r hs aC aH;have J:x.cur.st.length<p.st.length:=a3;obtain⟨n,hn⟩:=zN x.cur.st.length;have hE:z2v x=(x.done.length,toP p n,n):=by
   unfold z2v;have:=(z8B R aG).1;rw[<-aB]at this;rw[this,hn]
  rw[hE];simp only;obtain⟨M,hM⟩:=zN (y1P p (toP p n) n A);have a0:=z8m (z1p p.st) (toP p n) A (p.st.length - (n+1)) (n+1) (by rw[z4u];omega);rw[z4u]at a0;rw[<-hM];have O:n+1<=M/\M<=p.st.length:=by rw[hM];exact a0
  clear a0 hM;have aM:=q5A R (n:=n) (m:=M) (by omega) O.2;have a4:=z9c R M;have aE:=R.bits;have Y:((p.l.drop (toP p n)).take (toP p M - toP p n)).length=toP p M - toP p n:=by rw[List.length_take,List.length_drop];omega
  have U:x.cur.l=(z1j p n).l:=by rw[hn];exact congrArg z0N.l aB
  have L:x.cur.l++(p.l.drop (toP p n)).take (toP p M - toP p n)=(z1j p M).l:=by rw[U];exact y5R R (by omega) O.2
  have a8:=y2P R O.2;have I:=(z8B R O.2).2;have aJ:=R.len;obtain⟨a1,a9,aI⟩:=y5j s _ _ _ a5;refine⟨(z1j p M).st,⟨rfl,hE.symm,by show _<M;omega,by show M<=24;omega,by show 0<List.length _;rw[Y];omega,by show List.length _<=_;rw[Y];omega,?_,?_,I,fun a6=>?_,?_⟩⟩
  ·show z3r 0 (p.l.take (toP p n))=z3r 0 x.cur.l;rw[U];rfl
  ·show z5o (x.cur.l++_)=_;rw[L];exact a8.rd
  ·have h1:=hr x.done.length p a1 (by intro e;rw[e]at J;simp at J) (by rw[z8z h];exact a6);rw[z8z h]at h1;have hf:firstT (z1j p M).st=firstT p.st:=by
    unfold firstT z1j;cases hst:p.st with
    | nil=>simp
    | cons y l=>
     have:M=(M - 1)+1:=(by omega);rw[this,List.take_succ_cons];rfl
   rw[hf];exact h1
  ·show z4y (z5f x ⟨x.cur.l++_,_⟩ _) s;rw[L];have e1:(⟨(z1j p M).l,(z1j p M).st⟩:z0N)=z1j p M:=rfl;rw[e1];show z4y (z5f x (z1j p M) (cl&&decide (M=p.st.length))) s;cases hc:(cl&&decide (M=p.st.length))with
   | false=>
    show z4y ⟨x.done,z1j p M⟩ s;refine⟨h.le,h.done,p,cl,a5,by show(z1j p M).st.length<=_;omega,by show z1j p M=z1j p (z1j p M).st.length;rw[I],fun aA=>?_⟩;show(z1j p M).st.length<_;rw[I];rw[aA]at hc;simp only[Bool.true_and,decide_eq_false_iff_not]at hc;omega
   | true=>
    simp only[Bool.and_eq_true,decide_eq_true_eq]at hc;have hD:=a9 hc.1;have a2:z1j p M=p:=(by rw[hc.2];exact y6s R);have aF:s.done[x.done.length]? =some p:=by
     rw[List.getElem?_append_left hD]at a1;exact a1
    show z4y ⟨x.done++ [z1j p M],z1J⟩ s;rw[a2];have N:(x.done++ [p]).length=x.done.length+1:=(by simp);refine⟨by show(x.done++ [p]).length<=_;omega,?_,?_⟩
    ·show x.done++ [p]=s.done.take (x.done++ [p]).length;rw[N,List.take_add_one,z8z h,aF];rfl
    ·show ∃q a7,s.parts[(x.done++ [p]).length]? =some (q,a7)/\z1J.st.length<=q.st.length/\z1J=z1j q z1J.st.length/\(a7=true->z1J.st.length<q.st.length);rw[N];have a4:x.done.length+1<s.parts.length:=(by rw[s.parts_len];omega);refine⟨s.parts[x.done.length+1].1,s.parts[x.done.length+1].2,by rw[List.getElem?_eq_getElem a4],Nat.zero_le _,by unfold z1j toP;simp,fun e=>?_⟩;have hq:=List.getElem_mem a4;unfold z0U.parts at hq;rcases List.mem_append.1 hq with hq|hq
     ·obtain⟨y,hy,ey⟩:=List.mem_map.1 hq;have:=(hs.done y hy).2;have e2:s.parts[x.done.length+1]=(y,true):=ey.symm;rw[e2];exact this
     ·simp only[List.mem_singleton]at hq;have e2:s.parts[x.done.length+1]=(s.cur,false):=hq;rw[e2]at e;cases e
theorem y3d{x:z0U}(L:x.Ok):z8y x (z2v x)=(z3r 0 x.cur.l,0):=by
 have J:z4j x (z2v x)=some (x.cur,false):=by
  have I:x.parts[x.done.length]? =some (x.cur,false):=by
   unfold z0U.parts;rw[List.getElem?_append_right (by simp),List.length_map,Nat.sub_self];rfl
  unfold z4j z2v;simp only[I];rw[if_neg];rintro(g|⟨A, -⟩|g)
  ·omega
  ·cases A
  ·exact g (y0B L.cur)
 unfold z8y;rw[J];simp only[z2v,List.take_length]
theorem y2o{k:z0j}{x s:z0U}{id:Nat}{r:y0k}{L:List z1d}(f:Fr)(h:q4F x s id r L)(I:z3A k id=0)(J:24<=k.size)(O:f.series=r.series)(A:z6e f=r.p)(Y:f.count=r.count):
  z1a k x f r.bits=(0,⟨x.cur.l++r.bits,L⟩):=by
 have hb:y2I x f=x.cur.l:=by unfold y2I;rw[A,h.p,if_pos rfl]
 have hc:f.cnt=x.cur.st.length:=by
  have:=A.trans h.p;unfold z6e z2v at this;simp only[Prod.mk.injEq]at this;exact this.2.2
 unfold z1a;rw[O,h.series,if_neg (by omega),if_neg (by rw[A,h.p];simp),hb,h.rd];simp only;have R:y5O k x f L=false:=by
  unfold y5O;apply decide_eq_false;have:=h.len;have:=h.more;have:=h.count;rintro(g|g|g|⟨N,U⟩)
  ·omega
  ·omega
  ·omega
  ·have:=h.rise N;omega
 rw[R];rfl
theorem q0J{b:z0j}{id:Nat}{x:z1c}(hs:(z0g b id).Ok)(hr:y2X (z0g b id))(U:z6K b id x.t=0)(cl:Bool):y2X (z5f (z0g b id) (z2T (z0g b id).cur x) cl):=by
 obtain⟨s,O⟩:=zN (z0g b id);have R:(z6k s).2=true->(z6k s).1<x.t:=fun h2=>by
  unfold z6K at U;rw[y5V U,if_pos rfl,<-O]at U;split at U
  ·cases U
  ·rename_i hn;have:¬x.t<=(z6k s).1:=fun h=>hn ⟨h2,h⟩;omega
 rw[<-O]at hs hr ⊢;clear U O;have key:∀D p,(s.done++ [z2T s.cur x])[D]? =some p->p.st≠ []->z5y (s.done.take D)=true->z3S (s.done.take D)<firstT p.st:=fun D p N L A=>by
  by_cases hD:D<s.done.length
  ·rw[List.getElem?_append_left hD]at N;exact hr D p (by rw[List.getElem?_append_left hD];exact N) L A
  ·rw[List.getElem?_append_right (by omega)]at N;have a0:D=s.done.length:=by
    rcases Nat.lt_or_ge (D - s.done.length) 1 with h|h
    ·omega
    ·rw[List.getElem?_eq_none (by simpa using h)]at N;cases N
   subst a0;rw[Nat.sub_self]at N;simp only[List.getElem?_cons_zero,Option.some.injEq]at N;subst N;rw[List.take_length]at A ⊢;by_cases h0:s.cur.st= []
   ·have Y:z6k s=(z3S s.done,z5y s.done):=if_neg (by rw[h0];simp);have h2:=R (by rw[Y];exact A);rw[Y]at h2;have:firstT (z2T s.cur x).st=x.t:=(by unfold firstT z2T;rw[h0];rfl);rw[this];exact h2
   ·have Y:=hr s.done.length s.cur (by rw[List.getElem?_append_right (by omega),Nat.sub_self];rfl) h0 (by rw[List.take_length];exact A);rw[List.take_length]at Y;have:firstT (z2T s.cur x).st=firstT s.cur.st:=by
     unfold firstT z2T;cases hst:s.cur.st with
     | nil=>exact absurd hst h0
     | cons y l=>rfl
    rw[this];exact Y
 cases cl with
 | false=>exact key
 | true=>
  intro D p N L A;have I:(s.done++ [z2T s.cur x]++ [z1J])[D]? =some p:=N;have J:z5y ((s.done++ [z2T s.cur x]).take D)=true:=A;show z3S ((s.done++ [z2T s.cur x]).take D)<firstT p.st;by_cases hD:D<(s.done++ [z2T s.cur x]).length
  ·rw[List.getElem?_append_left hD]at I;have a1:D<=s.done.length:=(by simp at hD;omega);rw[List.take_append_of_le_length a1]at J ⊢;exact key D p I L J
  ·rw[List.getElem?_append_right (by omega)]at I;have:p=z1J:=by
    rcases Nat.lt_or_ge (D - (s.done++ [z2T s.cur x]).length) 1 with h|h
    ·have e0:D - (s.done++ [z2T s.cur x]).length=0:=(by omega);rw[e0]at I;simp only[List.getElem?_cons_zero,Option.some.injEq]at I;exact I.symm
    ·rw[List.getElem?_eq_none (by simpa using h)]at I;cases I
   rw[this]at L;exact absurd rfl L
theorem y6p:y2X z6d:=fun D p I A _=>by
 have:p=z1J:=by
  cases D with
  | zero=>simpa using I.symm
  | succ D=>simp at I
 rw[this]at A;exact absurd rfl A
theorem y6w{b:z0j}{k ep id:Nat}(L:k<256)(I:ep<4294967296)(J:id<4294967296)(A:(z0g b id).Ok)(R:(z0g b id).done.length<=1000000000):(z5u b k ep id).Ok/\(z5u b k ep id).b= []:=by
 have N:=A.cur.bits;have O:=A.cur.len;refine⟨⟨L,I,J,?_,?_,?_,(by decide:0<4294967296),?_,(by decide:(-9223372036854775808:Int)<=0),(by decide:(0:Int)<=9223372036854775807)⟩,rfl⟩
 ·show(z0g b id).done.length<_;omega
 ·show(z0g b id).cur.l.length<_;omega
 ·show(z0g b id).cur.st.length<_;omega
 ·show(z8y (z0g b id) (z2v (z0g b id))).1<_;rw[y3d A];exact Nat.lt_trans (y5u _ _ (by decide)) (by decide)
structure KIn (w:World) (kb rb bb tb mb sb B:Nat) (E:List (Int×z0C)) (S:Nat->Prop) (F:List Nat) (b:z0j) (ep:Nat) (s:FsS):Prop where
 k:z2B w kb rb bb tb
 r:z0z w rb bb ep
 bk:z0q w bb mb E b B S
 t:z3H w tb sb z1R
 fs:z1v w sb s F
 ok:s.Ok
 db:z1u w
 kr:kb≠rb
 tr:tb≠rb
 kF:kb∉F
 rF:rb∉F
 tF:tb∉F
 kS:¬S kb
 rS:¬S rb
 tS:¬S tb
 sF:∀x∈F,¬S x
 dr:0≠rb
 dS:¬S 0
 dF:0∉F
section
variable {w w':World} {kb rb bb tb mb sb B:Nat} {E E':List (Int×z0C)} {S S':Nat->Prop} {F F':List Nat} {b b':z0j} {ep ep':Nat} {s s':FsS}
def KU(rb:Nat)(S:Nat->Prop)(F:List Nat)(x:Nat):Prop:=x=rb\/S x\/x∈F
theorem z1u.lt(h:z1u w):0<w.heap.size:=by
 have A:=h 0 (by decide);by_cases hx:0<w.heap.size
 ·exact hx
 ·simp[World.cell?,Array.getElem?_eq_none (Nat.le_of_not_lt hx)]at A
theorem z1u.only{U:Nat->Prop}(h:z1u w)(N:z0t U w w')(J:¬U 0):z1u w':=fun j L=>by
 have A:=h j L;have I:=N.block _ h.lt J;unfold World.cell? at A ⊢;simp only at A ⊢;rw[I];exact A
theorem KIn.upd(h:KIn w kb rb bb tb mb sb B E S F b ep s)(N:z0t (KU rb S F) w w')(Y:z0z w' rb bb ep')(hb:z0q w' bb mb E' b' B S')(U:z1v w' sb s' F')(ok:s'.Ok)(J:∀x,S' x->S x\/w.heap.size<=x)(I:∀x∈F',x∈F\/w.heap.size<=x)(hd:∀x∈F',¬S' x):KIn w' kb rb bb tb mb sb B E' S' F' b' ep' s':=by
 have L:=h.k.lt;have a0:=h.r.lt;have O:=h.t.lt;have R:=h.db.lt;refine⟨(N.block kb L ?_).trans h.k,Y,hb,(N.block tb O ?_).trans h.t,U,ok,h.db.only N ?_,h.kr,h.tr,fun A=>?_,fun A=>?_,fun A=>?_,fun A=>?_,fun A=>?_,fun A=>?_,hd,h.dr,fun A=>?_,fun A=>?_⟩
 ·rintro(e|e|e)
  ·exact h.kr e
  ·exact h.kS e
  ·exact h.kF e
 ·rintro(e|e|e)
  ·exact h.tr e
  ·exact h.tS e
  ·exact h.tF e
 ·rintro(e|e|e)
  ·exact h.dr e
  ·exact h.dS e
  ·exact h.dF e
 ·rcases I _ A with e|e
  ·exact h.kF e
  ·omega
 ·rcases I _ A with e|e
  ·exact h.rF e
  ·omega
 ·rcases I _ A with e|e
  ·exact h.tF e
  ·omega
 ·rcases J _ A with e|e
  ·exact h.kS e
  ·omega
 ·rcases J _ A with e|e
  ·exact h.rS e
  ·omega
 ·rcases J _ A with e|e
  ·exact h.tS e
  ·omega
 ·rcases J _ A with e|e
  ·exact h.dS e
  ·omega
 ·rcases I _ A with e|e
  ·exact h.dF e
  ·omega
theorem KIn.lt(h:KIn w kb rb bb tb mb sb B E S F b ep s){x:Nat}(A:KU rb S F x):x<w.heap.size:=by
 rcases A with e|e|e
 ·rw[e];exact h.r.lt
 ·exact(h.bk.lo x e).2
 ·exact h.fs.lt x e
theorem z0I.ge{B:Nat}{w:World}{v:Value}{A:List (Value×List UInt8)}(h:z0I B w v A){j:Nat}(I:v.ownBlock=some j\/∃x∈A,x.1.ownBlock=some j):B<=j:=by
 rcases I with e|⟨x,J,e⟩
 ·exact(h.row.lt j e).1
 ·exact((h.ent x J).lt j e).1
theorem KIn.low(h:KIn w kb rb bb tb mb sb B E S F b ep s)(hb:Below w.heap.size w w'):KIn w' kb rb bb tb mb sb B E S F b ep s:=
 h.upd (z0t.of_below hb) (h.r.low hb) (h.bk.low hb) (h.fs.low hb) h.ok (fun _ h=> .inl h) (fun _ h=> .inl h) h.sF
end
def y1A(w:World)(kb bb sb:Nat)(b:z0j)(ep:Nat)(s:FsS)(U:Nat->Prop):Prop:=∃rb tb mb B E S F,KIn w kb rb bb tb mb sb B E S F b ep s/\U=KU rb S F
def tkS(b:z0j)(ep:Nat)(s:FsS)(f:Fr)(l:List Bool):Int×List Bs×z0j×Nat×FsS:=
 if(z3d b ep f l).1≠0 then(((z3d b ep f l).1:Nat), [],b,(z3d b ep f l).2.2,s)
 else if(z3d b ep f l).2.1≠0 then(0, [z6N (z5u b (z3d b ep f l).2.1 f.epoch f.series)],b,(z3d b ep f l).2.2,s)
 else if(wrS s (z3y f l)).1≠0 then((wrS s (z3y f l)).1, [],b,(z3d b ep f l).2.2,(wrS s (z3y f l)).2)
 else(0, [z6N (z5u (takeB b f l) 4 (z3d b ep f l).2.2 f.series)],takeB b f l,(z3d b ep f l).2.2,(wrS s (z3y f l)).2)
def y3N(kb bb sb:Nat)(R:Int×List Bs×z0j×Nat×FsS)(U:Nat->Prop)(w:World)(e:Ending)(w':World):Prop:=
 ∃U',y1A w' kb bb sb R.2.2.1 R.2.2.2.1 R.2.2.2.2 U'/\z0t U w w'/\(∀x,U' x->U x\/w.heap.size<=x)/\
  ((R.1≠0/\e= .returned (.tuple #[.slice none 0 0,.int .u16 R.1]))\/(R.1=0/\∃a m cc xs,e= .returned (.tuple #[.slice a m cc,.int .u16 0])/\m=xs.length/\z0I w.heap.size w' (.slice a m cc) xs/\xs.map Prod.snd=R.2.1/\∀j,((Value.slice a m cc).ownBlock=some j\/∃x∈xs,x.1.ownBlock=some j)->¬U' j))
def q4T(b:z0j)(f:Fr)(sl:Value)(rb bb N:Nat)(R:Nat×Nat×Nat)(p:Array Value)(B:Bool)(x:Int)(P:Value->World->Prop):Prop:=
 (R.1≠0/\p=z1b/\B=false/\x=(R.1:Nat)/\P=fun s w'=>z0z w' rb bb R.2.2/\s= .slice none 0 0)\/
 (R.1=0/\R.2.1≠0/\p=z1b/\B=false/\x=0/\P=fun s w'=>z0z w' rb bb R.2.2/\∃g,s= .slice (some ⟨g,0,none⟩) 1 1/\w'.heap[g]? =some (.cells (j9 (z5u b R.2.1 f.epoch f.series) (.slice none 0 0)) 51 (0,0))/\N<=g)\/
 (R.1=0/\R.2.1=0/\p=z2V f sl/\B=true/\x=0/\P=fun s w'=>z0z w' rb bb R.2.2/\s= .slice none 0 0)
theorem q1v(b:z0j)(f:Fr)(a:Option Addr)(n c rb bb:Nat)(N:Nat)(R:Nat×Nat×Nat):∃p B x P,q4T b f (.slice a n c) rb bb N R p B x P/\p.size=12/\p.all (·.oneCell')=true/\
  ∀w e w',N<=w.heap.size->rb<w.heap.size->y1l rb bb b f (.slice a n c) R w e w'->∃(sl:Value) (G:Nat->Prop),e= .returned (.tuple #[.agg p,.bool B,sl,.int .u16 x])/\z0t (fun k=>k=rb) w w'/\Kept G w' (P sl)/\∀k,G k->k=rb\/(w.heap.size<=k/\k<w'.heap.size):=by
 have A:∀{w':World} {Q:Prop},z0z w' rb bb R.2.2->Q->Kept (fun k=>k=rb) w' fun w''=>z0z w'' rb bb R.2.2/\Q:=fun J hq w'' Y=>⟨(Y rb rfl).trans J,hq⟩;by_cases h1:R.1=0
 ·by_cases h2:R.2.1=0
  ·refine⟨_,_,_,_,.inr (.inr ⟨h1,h2,rfl,rfl,rfl,rfl⟩),rfl,by unfold z2V;simp[Value.oneCell'],?_⟩;rintro w e w' hN O ⟨L,J,⟨I, -⟩|⟨-,U, -⟩|⟨-, -,rfl⟩⟩
   ·exact absurd h1 I
   ·exact absurd h2 U
   ·exact⟨_,_,rfl,L,A J rfl,fun k A=> .inl A⟩
  ·refine⟨_,_,_,_,.inr (.inl ⟨h1,h2,rfl,rfl,rfl,rfl⟩),rfl,by simp[Value.oneCell'],?_⟩;rintro w e w' hN O ⟨L,J,⟨I, -⟩|⟨-,U,g,rfl,hg,a0⟩|⟨-,U, -⟩⟩
   ·exact absurd h1 I
   ·refine⟨_,fun k=>k=rb\/k=g,rfl,L,fun w'' Y=>⟨(Y rb (.inl rfl)).trans J,g,rfl,(Y g (.inr rfl)).trans hg,by omega⟩,fun k A=>?_⟩;rcases A with rfl|rfl
    ·exact .inl rfl
    ·exact .inr ⟨a0,(Array.getElem?_eq_some_iff.1 hg).1⟩
   ·exact absurd U h2
 ·refine⟨_,_,_,_,.inl ⟨h1,rfl,rfl,rfl,rfl⟩,rfl,by simp[Value.oneCell'],?_⟩;rintro w e w' hN O ⟨L,J,⟨-,rfl⟩|⟨I, -⟩|⟨I, -⟩⟩
  ·exact⟨_,_,rfl,L,A J rfl,fun k A=> .inl A⟩
  ·exact absurd I h1
  ·exact absurd I h1
theorem q3U(b:z0j)(ep:Nat)(f:Fr)(l:List Bool):(z3d b ep f l).2.1<6:=by
 unfold z3d
 repeat' split
 all_goals simp
theorem y2T(b:z0j)(ep:Nat)(f:Fr)(l:List Bool)(A:(z3d b ep f l).1=0)(I:(z3d b ep f l).2.1=0):(f.cnt<f.count/\0<l.length/\f.b.length<=500)/\z4a b f l=0/\(z3d b ep f l).2.2=f.epoch:=by
 unfold z3d at A I ⊢;split at A
 ·cases A
 ·rename_i c1;rw[if_neg c1]at I ⊢;split at A
  ·cases A
  ·rename_i c2;rw[if_neg c2]at I ⊢;split at A
   ·rename_i c3;rw[if_pos c3]at I;cases I
   ·rename_i c3;rw[if_neg c3]at I ⊢;split at A
    ·rename_i c4;rw[if_pos c4]at I;cases I
    ·rename_i c4;rw[if_neg c4]at I ⊢;split at A
     ·cases A
     ·rename_i J;rw[if_neg J];refine⟨Classical.byContradiction fun h=>J (.inl h),Classical.byContradiction fun h=>J (.inr h),rfl⟩
theorem q5D{s:FsS}(h:s.Ok)(n:List UInt8):(wrS s n).2.Ok:=by
 unfold wrS;split
 ·exact z7p h _ _
 ·exact y9Y (z7p h _ _) _
theorem y0A(kb rb bb tb mb sb B ep:Nat)(E:List (Int×z0C))(S:Nat->Prop)(F:List Nat)(b:z0j)(s:FsS)(a:Option Addr)(n c:Nat)(bs:List UInt8)(f:Fr)(l:List Bool)(hn:n=bs.length)(hc:n<=c)(dF:c<=9223372036854775807)(hd:z7z bs=0)(cN:z6W bs=f)(cV:f.kind≠1)(dG:f.n=(l.length:Nat))(b7:z0R f.b l)(hl:l.length<=1000000)(eF:ep<4294967296)(aN:(z0g b f.series).done.length<1000000000)(w:World)(h:KIn w kb rb bb tb mb sb B E S F b ep s)(U:RdB w (.slice a n c) bs):
  Calls prog 10 #[.pointer (some ⟨kb,0,none⟩),.slice a n c] w (y3N kb bb sb (tkS b ep s f l) (KU rb S F) w):=by
 have hf:f.Ok:=by rw[<-cN];exact y6A bs
 have bG:=z7 (z9v a c bs w (by rw[<-hn];exact U) (by omega) (by omega) dF);rw[hd,cN,<-hn]at bG;obtain⟨⟨r1,ak,ep'⟩,hR⟩:∃R,R=z3d b ep f l:=⟨_,rfl⟩;obtain⟨N0,d9⟩:=zN w.heap.size;obtain⟨K,hK⟩:=zN (tkS b ep s f l);have b2:=hK;unfold tkS at b2;rw[<-hR]at b2;simp only at b2;rw[<-hK];obtain⟨fl,cO⟩:=zN f.b.length;have aG:=bG.o;unfold Told at aG;rw[<-cO]at aG;have bG:=z7 aG;clear aG;have H:=z7 h;have cE:=z7 b2;have b0:=z7 hR;have HF:=z7 hf;have cB:=z7 dG;have dT:=z7 b7;have eE:=z7 d9;have aZ:=z7 cO;have eH:=h.r.lt;have bR:=h.k.lt;clear h U hd cN hn hc dF hR hK b2 hf dG b7 d9 cO;go_enter func10,ntmps10;go_wp2_with fail;refine bG.o.mono ?_;rintro e w1 ⟨a1,c1,rfl,bW,dA,b9⟩;obtain⟨C,hC⟩:=zN (j9 f (.slice a1 fl c1));have b1:C.size=11:=by rw[hC];rfl
 have e4:C.all (·.oneCell')=true:=by rw[hC];unfold j9;simp[Value.oneCell']
 have cR:frV f (.slice a1 fl c1)= .agg C:=by rw[hC];rfl
 have dH:(prog.info? 51).map (·.size)=some C.size:=by rw[b1];exact z0B
 rw[cR];have HC:=z7 hC;have dZ:=z7 cR;have dW:=z7 bW;have cA:=z7 dA;have bS:=z7 b9;clear hC cR bW dA b9;go_upto_region 4 with(refine z0f rfl 51 _ _ rfl w1.heap.size 0 rfl C rfl (fun j hj=>by exact z0w (j8 w1 _) (n:=C.size) (by rw[b1];rfl) j hj) (by exact z0y (j8 w1 _)) dH e4 ?_;rw[z3x _ _ _ _ (by rw[Array.length_toList,b1];rfl)])
 have b6:Below w.heap.size w (w1.alloc (.cells C 51)):=cA.o.trans ((q5 w1 _).mono cA.o.size);obtain⟨W,hW,cJ⟩:=(((z0K.start (KU rb S F) w).go (S':=fun _=>False) (z0t.of_below cA.o) (fun _ h=>h.elim) (fun p hp=>by cases hp)).new (.cells C 51)).named;refine z0G hW ?_;rw[<-hW]at b6;obtain⟨p6,dJ⟩:=zN w1.heap.size;rw[<-dJ]at cJ ⊢;have bN:=H.o.low b6;have aL:z0r W a1 fl c1 l f.b:=⟨by rw[hW];exact dW.o.low (q5 w1 _),aZ.o,dT.o⟩;have bA:∀(w':World),z0t (fun k=>k=rb) W w'->z0r w' a1 fl c1 l f.b:=fun w' ho=>⟨Rd.kept aL.rd fun k hk bR=>ho.block k bR (fun e=>by have:=bS.o k hk;omega),aL.len,aL.bits⟩;obtain⟨p,Bo,x,P,L,bE,dL,bI⟩:=q1v b f a1 fl c1 rb bb W.heap.size (r1,ak,ep');have a4:=z7 (fun w' (h1:z0q w' bb mb E b B S) (h2:z0z w' rb bb ep) (h4:z0r w' a1 fl c1 l f.b) (h5:z1u w') (h6:∀w'',z0t (fun k=>k=rb) w' w''->z1u w'') (h7:∀w'',z0t (fun k=>k=rb) w' w''->z0r w'' a1 fl c1 l f.b)=>q4r rb bb mb B ep E b S f a1 fl c1 l HF.o cB.o aZ.o hl (Nat.le_of_lt aN) cV w' h1 h2 H.o.rS h4 h5 h6 h7);have cF:=a4.o;rw[<-b0.o,dZ.o]at cF;have a4:=z7 cF;have aT:=z7 cJ;have a7:=z7 bN;have bH:=z7 bA;have bI:=z7 bI;have L:=z7 L;have cY:=bN.r.lt;have e7:=bN.k.lt;have eA:=b6.size;have eC:=z7 b6;have dI:=z7 (show(prog.info? 84).map (·.size)=some p.size by rw[bE];exact z0O);clear hW cJ dJ bN aL bA cF b6
 refine q6 16 58 (fun D v w'=>LkS W rb p (.bool Bo) (.int .u16 x) P D v w') (LkS.start _ _ _ _ _ _) ?_;simp only[z0v];iterate 4 (refine q8.rl (e:=?_) (fun D v w h=>h.read _ (by decide) (by decide) (by decide) (by decide) (by decide) (by decide)) (fun D v w' I A=>?_) ?_;rotate_left;(have aX:z2B w' kb rb bb tb:=(A.low.block kb e7 H.o.kr).trans a7.o.k;obtain⟨k0,k1,k2,kf⟩:=aX.cells;have lk:=aX.lt;clear aX;clear A I;go_simp;try with_reducible rfl);go_simp)
 refine q8.rl (.agg C) (fun D v w h=>h.read _ (by decide) (by decide) (by decide) (by decide) (by decide) (by decide)) (fun D v w' I A=>z1o _ _ rfl p6 0 rfl _ (z1X ((A.low.block p6 (aT.o.lt 0 rfl) (fun e=>by have:=aT.o.ge 0 rfl;omega)).trans (aT.o.get 0 rfl))) z1y dH) ?_;go_simp;refine q8.re (fun D v w' I A=>?_) ?_
 ·have d5:=z7 I.self;have J:=A.low;have dE:=a7.o.bk.only J (fun k hk e=>H.o.rS (by subst e;exact hk));have dN:z0z w' rb bb ep:=(A.q0 d5.o).trans a7.o.r;have cM:=a7.o.db.only J H.o.dr;have dC:=bH.o w' J;have aC:=z7 (a4.o w' dE dN dC cM (fun w'' ho=>cM.only ho H.o.dr) (fun w'' ho=>bH.o w'' (J.trans ho fun _ h=> .inl h)));have HZ:=z7 A;have e8:=J.size;clear A I J dE dN cM dC;go_simp;go_at_call 30;refine aC.o.mono ?_;intro e w'' ht;obtain⟨sl,G,rfl,ho,hP,hG⟩:=bI.o w' e w'' e8 (by omega) ht;exact HZ.o.call d5.o cY ho sl G hP hG
 go_simp;refine q8.re (fun D v w' I A=>?_) ?_
 ·have d:=I.pre 5 (by kernel_rfl);have aB:=z7 (A.move d);clear A I;go_simp;exact aB.o
 go_simp;refine q8.rl (.agg p) (fun D v w h=>h.read _ (by decide) (by decide) (by decide) (by decide) (by decide) (by decide)) (fun D v w' I A=>?_) ?_
 ·obtain⟨d,O⟩:=A.m (I.pre 6 (by kernel_rfl));obtain⟨sl,G,hp, -⟩:=A.c d;rw[hp]at O;clear A I hp;go_simp
 go_simp;refine q8.rl (.bool Bo) (fun D v w h=>h.read _ (by decide) (by decide) (by decide) (by decide) (by decide) (by decide)) (fun D v w' I A=>?_) ?_
 ·obtain⟨d,O⟩:=A.m (I.pre 6 (by kernel_rfl));obtain⟨sl,G,hp, -⟩:=A.c d;rw[hp]at O;clear A I hp;go_simp
 go_simp;refine q8.re (fun D v w' I A=>?_) ?_
 ·obtain⟨d,O⟩:=A.m (I.pre 6 (by kernel_rfl));obtain⟨sl,G,hp, -⟩:=A.c d;have e3:D 14=false:=I.post 14 _ rfl (by kernel_rfl);have aB:=z7 (A.ext d (u:=sl) (by rw[hp];rfl) e3);rw[hp]at O;clear A I hp;go_simp;exact aB.o
 go_simp;refine q8.rl (.int .u16 x) (fun D v w h=>h.read _ (by decide) (by decide) (by decide) (by decide) (by decide) (by decide)) (fun D v w' I A=>?_) ?_
 ·obtain⟨d,O⟩:=A.m (I.pre 6 (by kernel_rfl));obtain⟨sl,G,hp, -⟩:=A.c d;rw[hp]at O;clear A I hp;go_simp
 go_simp;refine q8.re (fun D v w' I A=>?_) ?_
 ·have bM:D 12=false:=I.post 12 _ rfl (by kernel_rfl);have aB:=z7 (A.make cY bM);clear A I;go_simp;exact aB.o
 go_simp;refine q8.ca undef (fun D v w' I A=>?_) ?_
 ·have d5:=I.pre 5 (by kernel_rfl);have d1:=I.pre 11 (by kernel_rfl);have bM:D 12=false:=I.self;obtain⟨g,hg, -,a5⟩:=A.al d1;rw[bM]at a5;refine z1P _ _ _ rfl g 0 hg p rfl (fun j hj=>z0w a5 (n:=12) rfl j (by omega)) (z0y a5) dI.o dL ?_;exact⟨undef,rfl,rfl,A.store cY d5 d1 bM hg bE⟩
 go_simp;iterate 1 (refine q8.rl (e:=?_) (fun D v w h=>h.read _ (by decide) (by decide) (by decide) (by decide) (by decide) (by decide)) (fun D v w' I A=>?_) ?_;rotate_left;(clear A I;go_simp;try with_reducible rfl);go_simp)
 refine q8.re (fun D v w' I A=>?_) ?_
 ·have d:=I.pre 9 (by kernel_rfl);have aB:=z7 (A.asg d);clear A I;go_simp;exact aB.o
 go_simp;iterate 1 (refine q8.rl (e:=?_) (fun D v w h=>h.read _ (by decide) (by decide) (by decide) (by decide) (by decide) (by decide)) (fun D v w' I A=>?_) ?_;rotate_left;(clear A I;go_simp;try with_reducible rfl);go_simp)
 refine q8.fin (fun v w5 A=>?_);obtain⟨g8,c8,eG,bD⟩:=A.al rfl;have dB:w5.heap[g8]? =some (.cells p 84 (0,0)):=bD;obtain⟨sl,G,dR,hP, -⟩:=A.c rfl;have c9:v 14=sl:=by
  have h1:=(A.a rfl).2;have h2:=(A.e rfl).2;rw[h1,h2,dR];rfl
 rw[c8,c9];have J:=A.low;have a2:=(aT.o.go (S':=fun k=>k=rb) J (fun k hk=> .inl (.inl hk)) (fun q hq e=>by
  simp only[List.mem_singleton]at hq;subst hq;have:=aT.o.ge 0 rfl;have e':p6=rb:=e;omega))
 have a2:=a2.cons dB (by omega) (fun q hq=>by
  simp only[List.mem_singleton]at hq;subst hq;have:=aT.o.lt 0 rfl;show p6≠g8;omega)
 have d6:z0z w5 rb bb ep'->KIn w5 kb rb bb tb mb sb B E S F b ep' s:=fun hr=>H.o.upd a2.low hr (a7.o.bk.only J (fun k hk e=>H.o.rS (by subst e;exact hk))) (a7.o.fs.same (fun k hk=>J.block k (a7.o.fs.lt k hk) (fun e=>H.o.rF (by subst e;exact hk))) J.size) H.o.ok (fun _ h=> .inl h) (fun _ h=> .inl h) H.o.sF;have bY:=bH.o w5 J;have a0:=z7 a2;have N:=z7 d6;have aF:=z7 bY;have aU:=z7 hP.now;have aR:=a2.low.size;clear A c8 c9 dR hP bD dB J a2 d6 bY a4 bI a7 bH;rcases L.o with⟨h1,rfl,rfl,rfl,rfl⟩|⟨h1,h2,rfl,rfl,rfl,rfl⟩|⟨h1,h2,rfl,rfl,rfl,rfl⟩
 ·have a8:=aU.o;simp only at a8 h1;obtain⟨a9,rfl⟩:=a8;have hd:((r1:Int)==0)=false:=beq_false_of_ne (by omega);have Y:K=((r1:Int), [],b,ep',s):=by rw[cE.o,if_pos h1]
  have aS:=z7 Y;have H1:=z7 h1;have bJ:=z7 a9;clear Y h1 a9 L aU;go_wp2;go_ret2;rw[aS.o];exact⟨KU rb S F,⟨rb,tb,mb,B,E,S,F,N.o bJ.o,rfl⟩,a0.o.low,fun x h=> .inl h,.inl ⟨by simpa using H1.o,rfl⟩⟩
 ·have a8:=aU.o;simp only at a8 h1 h2;obtain⟨a9,g,rfl,a5,cT⟩:=a8;have Y:K=(0, [z6N (z5u b ak f.epoch f.series)],b,ep',s):=by rw[cE.o,if_neg (by simp[h1]),if_pos h2]
  have hA:=y6w (b:=b) (k:=ak) (ep:=f.epoch) (id:=f.series) (by have:=q3U b ep f l;rw[<-b0.o]at this;exact Nat.lt_trans this (by decide)) HF.o.epoch HF.o.series (H.o.bk.serOk _) (Nat.le_of_lt aN);have cS:=z7 (y1T g 1 1 [z5u b ak f.epoch f.series] (fun y hy=>by rw[List.mem_singleton.1 hy];exact hA) (by decide) w5 (y0b.one a5));have aS:=z7 Y;have bJ:=z7 a9;clear Y h1 h2 a9 L aU a5 cT hA;go_wp2_with (refine cS.o.mono ?_;rintro e w6 ⟨a6,m6,c6,xs,rfl,bB,aE,bF,b5⟩;have cG:=z7 bB;have aA:=z7 aE;have cH:=z7 bF;have aY:=z7 b5;clear bB aE bF b5);go_ret2;rw[aS.o];exact⟨KU rb S F,⟨rb,tb,mb,B,E,S,F,(N.o bJ.o).low aY.o,rfl⟩,(a0.o.call aY.o).low,fun x h=> .inl h,.inr ⟨rfl,a6,m6,c6,xs,rfl,cG.o,⟨z0c aA.o.row aR,fun x U=>z0c (aA.o.ent x U) aR⟩,cH.o,fun j hj hu=>by have h1:=aA.o.ge hj;have h2:=(N.o bJ.o).lt hu;omega⟩⟩
 ·have a8:=aU.o;simp only at a8 h1 h2;obtain⟨a9,rfl⟩:=a8;subst h1 h2;have K5:=N.o a9;obtain⟨bC,dO,aM⟩:=y2T b ep f l (by rw[<-b0.o]) (by rw[<-b0.o]);rw[<-b0.o]at aM;simp only at aM;have Y:K=if(wrS s (z3y f l)).1≠0 then((wrS s (z3y f l)).1, [],b,ep',(wrS s (z3y f l)).2)else(0, [z6N (z5u (takeB b f l) 4 ep' f.series)],takeB b f l,ep',(wrS s (z3y f l)).2):=by rw[cE.o,if_neg (by simp),if_neg (by simp)]
  have bL:=z7 (q2D kb rb bb tb sb s F f a1 fl c1 l HF.o cB.o ⟨bC.1,bC.2.1,by rw[aZ.o];exact bC.2.2⟩ aZ.o w5 K5.k K5.t K5.fs K5.ok K5.kF K5.tF aF.o);have aO:=q5D K5.ok (z3y f l);obtain⟨⟨e1,s1⟩,hw⟩:∃r,r=wrS s (z3y f l):=⟨_,rfl⟩;rw[<-hw]at Y bL aO;simp only at Y aO;have aS:=z7 Y;have bT:=z7 aO;have N:=z7 K5;have e2:=z7 dO;have cD:=z7 aM;have cX:(prog.info? 84).map (·.size)=some (z2V f (.slice a1 fl c1)).size:=z0O;have aI:=bL.o;unfold pcV at aI;obtain⟨PC,cL⟩:=zN (z2V f (.slice a1 fl c1));have dD:=z7 cL;rw[<-cL]at aI a0 cX;have bL:=z7 aI;have bU:=z7 cX;clear Y aO K5 dO aM hw a9 aI L aU cX cL bE dL dI;go_wp2_with (refine z0J rfl 84 _ rfl g8 0 rfl PC (z1X (a0.o.get 0 rfl)) z2o bU.o ?_);refine bL.o.mono ?_;rintro e w6 ⟨rfl,F6,d4,d2⟩;have dY:=z7 d4;have a3:=z7 d2;clear d4 d2;go_upto_region 10 with fail
  have d7:KIn w6 kb rb bb tb mb sb B E S F6 b ep' s1:=N.o.upd (a3.o.only.mono fun x U=> .inl (.inr (.inr U))) ((a3.o.block rb N.o.r.lt N.o.rF).trans N.o.r) (N.o.bk.only a3.o.only fun k hk O=>N.o.sF k O hk) dY.o bT.o (fun _ h=> .inl h) a3.o.fresh (fun x U hs=>by
   rcases a3.o.fresh x U with h|h
   ·exact N.o.sF x h hs
   ·have:=(N.o.bk.lo x hs).2;omega)
  have bX:=a0.o.go (S':=fun x=>x∈F) a3.o.only (fun x U=> .inl (.inr (.inr U))) (fun q hq O=>by
   have h1:=H.o.fs.lt _ O;have h2:=(a0.o.blk q hq).2;omega)
  have aD:=z7 d7;have aH:=z7 bX;have bZ:z0r w6 a1 fl c1 l f.b:=⟨Rd.kept aF.o.rd fun k hk bR=>a3.o.block k bR (fun e=>by have h1:=bS.o k hk;have h2:=H.o.fs.lt k e;omega),aF.o.len,aF.o.bits⟩;have cZ:=z7 bZ;clear d7 bX bZ;by_cases he1:e1=0
  ·subst he1;have b3:K=(0, [z6N (z5u (takeB b f l) 4 ep' f.series)],takeB b f l,ep',s1):=(by rw[aS.o,if_neg (by simp)]);have aW:=z7 b3;have d3:=z7 (fun w' (hk:KIn w' kb rb bb tb mb sb B E S F6 b ep' s1) (hb:z0r w' a1 fl c1 l f.b)=>q5O rb bb mb B ep' E b S f a1 fl c1 l HF.o cB.o aZ.o hl aN w' hk.bk hk.r hk.rS hb hk.db);have aJ:=d3.o;unfold pcV at aJ;rw[<-dD.o]at aJ;have dV:=z7 aJ;have bV:Hid (∀u w',z2B w' kb rb bb tb/\(true=false->Below w6.heap.size w6 w')/\(true=true->∃w7,Below w6.heap.size w6 w7/\y3Y rb bb mb B ep' S b f l w7 (.returned u) w')->∃u0 u1,u= .tuple #[u0,u1]):=z7 fun u w' h=>by
    obtain⟨-, -,h⟩:=h;obtain⟨w7, -,⟨-,h, -⟩|⟨-,g,E',S',h, -⟩⟩:=h rfl
    ·simp only[Ending.returned.injEq]at h;exact⟨_,_,h⟩
    ·simp only[Ending.returned.injEq]at h;exact⟨_,_,h⟩
   have e9:=aD.o.k.lt;clear b3 d3 aJ;go_upto_region 12 with fail
   refine q6 11 58 (fun D v w'=>z4O 5 2 (fun d u w'=>z2B w' kb rb bb tb/\(d=false->Below w6.heap.size w6 w')/\(d=true->∃w7,Below w6.heap.size w6 w7/\y3Y rb bb mb B ep' S b f l w7 (.returned u) w')) D v w') (z4O.start ⟨aD.o.k.low (Below.refl _ _).drew,fun _=>(Below.refl _ _).drew,fun h=>by cases h⟩) ?_;simp only[z0v];iterate 4 (refine q8.rl (e:=?_) (fun D v w h=>h.read _ (by omega)) (fun D v w' I A=>?_) ?_;rotate_left;(have cU:=A.t.1;obtain⟨k0,k1,k2,kf⟩:=cU.cells;have lk:=cU.lt;clear cU;clear A I;go_simp;try with_reducible rfl);go_simp)
   refine q8.rl (.agg PC) (fun D v w h=>h.read _ (by omega)) (fun D v w' I A=>?_) ?_
   ·have d5:D 5=false:=I.post 5 _ rfl (by kernel_rfl);exact z1o _ _ rfl g8 0 rfl _ (z1X ((aH.o.call (A.t.2.1 d5)).get 0 rfl)) z2o bU.o
   go_simp;refine q8.re (fun D v w' I A=>?_) ?_
   ·have d5:D 5=false:=I.self;have hb:=A.t.2.1 d5;have aX:=A.t.1;have aC:=z7 (dV.o w' (aD.o.low hb) (cZ.o.low hb));have HZ:=z7 A;have HB:=z7 hb;have dU:=z7 d5;have cC:=z7 aX;clear A I hb d5 aX;go_simp;go_at_call 23;refine aC.o.mono ?_;intro e w2 ht;obtain⟨u,rfl⟩:∃u,e= .returned u:=by
     obtain⟨-,h, -⟩|⟨-,g,E',S',h, -⟩:=ht
     ·exact⟨_,h⟩
     ·exact⟨_,h⟩
    have e6:z2B w2 kb rb bb tb:=by
     rcases ht with⟨-, -,e5⟩|⟨-,g,E',S', -, -, -, -,ho, -⟩
     ·exact cC.o.low e5
     ·exact(ho.block kb cC.o.lt H.o.kS).trans cC.o
    exact HZ.o.called dU.o ⟨e6,(fun h=>by cases h),fun _=>⟨w',HB.o,ht⟩⟩
   go_simp;refine q8.re (fun D v w' I A=>?_) ?_;(focus (have dn:=I.pre 5 (by kernel_rfl);have O:=z7 (A.moved dn);clear I A dn;go_simp;first|exact O.o|exact⟨_,rfl,O.o,trivial⟩));go_simp;refine q8.re (fun D v w' I A=>?_) ?_;(focus (have dn:=I.pre 6 (by kernel_rfl);obtain⟨u0,u1,hu⟩:=bV.o _ _ (by have h0:=A.t;rw[(A.mv dn).1]at h0;exact h0);have O:=z7 (A.ext 0 (by omega) dn (show z8V _ _=_ by rw[hu]));have hv:=(A.mv dn).2;rw[hu]at hv;clear I A dn;go_simp;first|exact O.o|exact⟨_,rfl,O.o,trivial⟩));go_simp;refine q8.re (fun D v w' I A=>?_) ?_;(focus (have dn:=I.pre 6 (by kernel_rfl);obtain⟨u0,u1,hu⟩:=bV.o _ _ (by have h0:=A.t;rw[(A.mv dn).1]at h0;exact h0);have O:=z7 (A.ext 1 (by omega) dn (show z8V _ _=_ by rw[hu]));have hv:=(A.mv dn).2;rw[hu]at hv;clear I A dn;go_simp;first|exact O.o|exact⟨_,rfl,O.o,trivial⟩));go_simp;refine q8.re (fun D v w' I A=>?_) ?_;(focus (have dn:=I.pre 7 (by kernel_rfl);have O:=z7 (A.asg 0 (by omega) dn);clear I A dn;go_simp;first|exact O.o|exact⟨_,rfl,O.o,trivial⟩));go_simp;refine q8.re (fun D v w' I A=>?_) ?_;(focus (have dn:=I.pre 8 (by kernel_rfl);have O:=z7 (A.asg 1 (by omega) dn);clear I A dn;go_simp;first|exact O.o|exact⟨_,rfl,O.o,trivial⟩));go_simp;refine q8.fin (fun v w7 A=>?_);obtain⟨-, -,ht⟩:=(z4O.fin rfl A).1;obtain⟨wm,b8,ht⟩:=ht rfl;obtain⟨aE, -⟩|⟨-,g,E',S',hu,a5,cT,cI,aV,bO⟩:=ht
   ·exact absurd e2.o aE
   simp only[Ending.returned.injEq]at hu;obtain⟨-, -, -,dS,c7⟩:=z4O.parts2 rfl A hu;rw[dS,c7];have Km:=aD.o.low b8;have dM:z0z w7 rb bb ep':=(aV.block rb Km.r.lt Km.rS).trans Km.r;have d8:KIn w7 kb rb bb tb mb sb B E' S' F6 (takeB b f l) ep' s1:=Km.upd (aV.mono fun x U=> .inl (.inr (.inl U))) dM cI (Km.fs.same (fun x U=>aV.block x (Km.fs.lt x U) (Km.sF x U)) aV.size) bT.o bO (fun _ h=> .inl h) (fun x U hs=>by
    rcases bO x hs with h|h
    ·exact Km.sF x U h
    ·have:=Km.fs.lt x U;omega)
   have b4:z0t (KU rb S F) w w7:=(aH.o.call b8).low.trans aV (fun x U=> .inl (.inr (.inl U)));have hA:=y6w (b:=takeB b f l) (k:=4) (ep:=ep') (id:=f.series) (by decide) (by rw[cD.o];exact HF.o.epoch) HF.o.series (cI.serOk _) (y2O b f l aN);have cS:=z7 (y1T g 1 1 [z5u (takeB b f l) 4 ep' f.series] (fun y hy=>by rw[List.mem_singleton.1 hy];exact hA) (by decide) w7 (y0b.one a5));have cW:=z7 d8;have d0:=z7 b4;have e0:=z7 bO;have eB:=b8.size;have c5:w.heap.size<=w7.heap.size:=b4.size;have eJ:w.heap.size<=wm.heap.size:=(aH.o.call b8).low.size;have eI:w.heap.size<=w5.heap.size:=aR;clear A hu a5 cT cI aV bO dS c7 Km dM d8 b4 hA b8;go_wp2_with (refine cS.o.mono ?_;rintro e w8 ⟨a6,m6,c6,xs,rfl,bB,aE,bF,b5⟩;have cG:=z7 bB;have aA:=z7 aE;have cH:=z7 bF;have aY:=z7 b5;clear bB aE bF b5);go_ret2;rw[aW.o];refine⟨KU rb S' F6,⟨rb,tb,mb,B,E',S',F6,cW.o.low aY.o,rfl⟩,d0.o.trans (S':=fun _=>False) (z0t.of_below aY.o) (fun _ h=>h.elim),fun x U=>?_,.inr ⟨rfl,a6,m6,c6,xs,rfl,cG.o,⟨z0c aA.o.row c5,fun x U=>z0c (aA.o.ent x U) c5⟩,cH.o,fun j hj hu=>by have h1:=aA.o.ge hj;have h2:=cW.o.lt hu;omega⟩⟩;rcases U with h|h|h
   ·exact .inl (.inl h)
   ·rcases e0.o x h with h|h
    ·exact .inl (.inr (.inl h))
    ·exact .inr (by omega)
   ·rcases a3.o.fresh x h with h|h
    ·exact .inl (.inr (.inr h))
    ·exact .inr (by omega)
  ·have d:((e1:Int)==0)=false:=beq_false_of_ne he1;have b3:K=(e1, [],b,ep',s1):=(by rw[aS.o,if_pos he1]);have aW:=z7 b3;have dX:=z7 he1;clear b3 he1;go_wp2;go_ret2;rw[aW.o];refine⟨KU rb S F6,⟨rb,tb,mb,B,E,S,F6,aD.o,rfl⟩,aH.o.low,fun x U=>?_,.inl ⟨dX.o,rfl⟩⟩;rcases U with h|h|h
   ·exact .inl (.inl h)
   ·exact .inl (.inr (.inl h))
   ·rcases a3.o.fresh x h with h|h
    ·exact .inl (.inr (.inr h))
    ·exact .inr (Nat.le_trans aR h)
end
section
open Go.RowKit Go.ChangeShapes Go.WideShapes Go.ChangeAt Go.Deep
theorem y6u{H:Type}{enc:TypeId×Value->H}{W:World}{fuel:Nat}{cs:List Value}{x:DataW H×List MemPlace}(h:DataW.trod enc prog W 0 (fun _=>true) true fuel 23 cs=some x):
  ∃(v:Value) (ls:List Bs),cs= [v]/\z7U W v ls/\ls.length<=maxLen:=by
 rcases open_slice underlying23 h with⟨rfl,_⟩|⟨a,len,cap,m,n,D,Pl,rfl,_,O,hm,R,_,hi⟩
 ·exact⟨_, [],rfl,z7U.nil W,by decide⟩
 simp only[if_true]at R;have hC:prog.cellsOf 47=1:=by kernel_rfl
 have key:∀i,i<len->∃y:Value×Bs,W.cell? (a.add i)=some y.1/\RdB W y.1 y.2/\∃a' c,y.1= .slice a' y.2.length c/\y.2.length<=c/\c<=9223372036854775807:=by
  intro i a2;obtain⟨a0,hc,ht⟩:=hi i (by omega);rw[hC,Nat.mul_one]at hc;obtain⟨_,a1,J⟩:=World.cells?_some hc;obtain⟨a',c,b,rfl,hr,h1,h2⟩:=y5C ht;have h0:=J 0 (by omega);exact⟨(.slice a' b.length c,b),by simpa[Addr.add]using h0,hr,a',c,rfl,h1,h2⟩
 obtain⟨L,I,Y⟩:=z5M len key;subst I;refine⟨_,L.map (·.2),rfl,⟨L.map (·.1),⟨by simp,.inr ⟨a,cap,by simp,fun j u hu=>?_⟩⟩,by simp,(fun i v l hv O=>?_),some a,cap,by rw[List.length_map],by rw[List.length_map];omega,by unfold maxLen at*;omega⟩,by rw[List.length_map];omega⟩
 ·simp only[List.getElem?_map,Option.map_eq_some_iff]at hu;obtain⟨y,A,rfl⟩:=hu;obtain⟨N,rfl⟩:=List.getElem?_eq_some_iff.1 A;exact(Y j N).1
 ·simp only[List.getElem?_map,Option.map_eq_some_iff]at hv O;obtain⟨y,A,rfl⟩:=hv;obtain⟨z,U,rfl⟩:=O;rw[A]at U;simp only[Option.some.injEq]at U;subst U;obtain⟨N,rfl⟩:=List.getElem?_eq_some_iff.1 A;exact(Y i N).2
end

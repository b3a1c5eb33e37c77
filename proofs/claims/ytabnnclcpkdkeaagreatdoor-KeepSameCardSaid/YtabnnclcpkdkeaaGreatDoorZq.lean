/- A keep's write. -/
import Derived.Test.YtabnnclcpkdkeaaGreatDoorZo
import Derived.Test.YtabnnclcpkdkeaaGreatDoorZm
import Derived.Defers
import Derived.Recover
namespace Go.Proofs.YtabnnclcpkdkeaaGreatDoor
open Go.Proofs.Tryz
set_option linter.all false
set_option maxRecDepth 100000
set_option maxHeartbeats 0
open Go.RowKit Go.Maps
def z1A:Bs:= [107,101,101,112]
def z2W(w:World)(kb rb bb tb:Nat):Prop:=w.heap[kb]? =some (.cells #[.pointer (some ⟨rb,0,none⟩),.pointer (some ⟨bb,0,none⟩),.pointer (some ⟨tb,0,none⟩)] 75 (0,0))
theorem z2W.lt{w:World}{kb rb bb tb:Nat}(h:z2W w kb rb bb tb):kb<w.heap.size:=(wI.1 h).1
theorem z2W.low{w w':World}{kb rb bb tb:Nat}(h:z2W w kb rb bb tb)(hb:Below w.heap.size w w'):z2W w' kb rb bb tb:=(hb.block kb h.lt).trans h
theorem z2W.cells{w:World}{kb rb bb tb:Nat}(h:z2W w kb rb bb tb):w.cell? ⟨kb,0,none⟩=some (.pointer (some ⟨rb,0,none⟩))/\w.cell? ⟨kb,1,none⟩=some (.pointer (some ⟨bb,0,none⟩))/\w.cell? ⟨kb,2,none⟩=some (.pointer (some ⟨tb,0,none⟩))/\∀j,w.frozen? ⟨kb,j,none⟩=false:=cells3 h
def z2i(f:Fr)(l:List Bool):List UInt8:=z5a f.series f.chunk f.bits f.cnt f.count f.closed l.length f.b
theorem z4Y(f:Fr)(l:List Bool):(z2i f l).length=24+f.b.length:=by
 unfold z2i z5a;simp only[wP,z3k,z2q,wW,ob]
theorem Chg.only{F F':List Nat}{w w':World}(h:Chg F F' w w'):z0n (fun k=>k∈F) w w':=⟨h.os,h.tape,h.output,h.size,h.block⟩
def wrS(s:FsS)(n:List UInt8):Int×FsS:=if(z2R s z1A n).1≠0 then z2R s z1A n else z2G (z2R s z1A n).2 z1A
theorem q4h(kb rb bb tb sb:Nat)(s:FsS)(F:List Nat)(f:Fr)(a:Option Addr)(n c:Nat)(l:List Bool)(hf:f.Ok)(aG:f.n=(l.length:Nat))(hm:f.cnt<f.count/\0<l.length/\n<=500)(aV:n=f.b.length)(w:World)(hk:z2W w kb rb bb tb)(ht:z3F w tb sb z1A)(h:z1L w sb s F)(ok:s.Ok)(aU:kb∉F)(aX:tb∉F)(hb:z0r w a n c l f.b):
  Calls prog 40 #[.pointer (some ⟨kb,0,none⟩),pcV f (.slice a n c)] w fun e w'=>e= .returned (.int .u16 (wrS s (z2i f l)).1)/\z2e w sb F (wrS s (z2i f l)).2 w':=by
 have a5:=z7 ((z0U.start (fun k=>k∈F) w).new (.cells (z2m f (.slice a n c)) 92));have aZ:=h.lt;have HK:=z7 hk;have HT:=z7 ht;have H:=z7 h;have HB:=z7 hb;have aC:=z7 ok;have a4:=z7 (fun w' (h1:z0r w' a n c l f.b)=>y4s f.series f.chunk f.bits f.cnt f.count f.closed a n c l f.b hf.series hf.chunk hf.bits hf.cnt hf.count hm w' h1);have Y:=z4Y f l;obtain⟨nb,O⟩:=zN (z2i f l);have J:=a4.o;have aI:z5a f.series f.chunk f.bits f.cnt f.count f.closed l.length f.b=nb:=by rw[O];rfl
 rw[aI]at J;have a4:=z7 J;rw[<-O]at Y ⊢;have aJ:z2m f (.slice a n c)= #[.int .u8 4,.int .u32 0,.int .u32 f.series,.int .i64 0,.int .u64 0,.int .u32 f.chunk,.int .u32 f.bits,.int .u32 f.cnt,.int .u32 f.count,.bool f.closed,.slice a n c,.int .i64 (l.length:Nat)]:=by unfold z2m;rw[aG]
 unfold pcV;rw[aJ]at a5 ⊢;have aW:=z7 Y;have b0:=z7 (show nb.length<=524 by rw[Y];omega);clear h hk ht hb ok J aI O aJ aG hm hf Y aV;have b1:=HK.o.lt;have b2:=HT.o.lt;have L:=q5 w (.cells #[.int .u8 4,.int .u32 0,.int .u32 f.series,.int .i64 0,.int .u64 0,.int .u32 f.chunk,.int .u32 f.bits,.int .u32 f.cnt,.int .u32 f.count,.bool f.closed,.slice a n c,.int .i64 (l.length:Nat)] 92);go_enter func40,ntmps40;go_wp2_with (refine z0u rfl 92 _ rfl w.heap.size 0 rfl _ (z1o (a5.o.get 0 rfl)) z1U z0K ?_);refine(a4.o _ (HB.o.low L)).mono ?_;rintro e w2 ⟨a',m',c',rfl,I,aB,a9⟩;have aD:=z7 (a5.o.call a9);have A:Below w.heap.size w w2:=L.trans (a9.mono L.size);obtain⟨k0,k1,k2,kf⟩:=(HK.o.low A).cells;have aH:=(HK.o.low A).lt;have N:=z0Q I;have a2:=z7 (q1i tb sb s F z1A wG a' m' c' nb w2 (HT.o.low A) (H.o.low A) aC.o (by have h9:=z0d I;unfold RdB;rw[<-aB];exact h9) aB N.1 N.2 (fun _ j hj=>(I.lt j hj).2));obtain⟨⟨e1,s1⟩,h1⟩:∃r,r=z2R s z1A nb:=⟨_,rfl⟩;have a0:s1.Ok:=by have:=z8p aC.o z1A nb;rw[<-h1]at this;exact this
 rw[<-h1]at a2;have hw:wrS s nb=if e1≠0 then(e1,s1)else z2G s1 z1A:=by unfold wrS;rw[<-h1]
 have HW:=z7 hw;have U:=z7 A;have aO:=z7 a0;clear I aB a9 A N h1 hw a0;go_upto_region 5 with(refine a2.o.mono ?_;rintro e w3 ⟨rfl,F1,a8,a7⟩)
 have aN:=z7 a8;have a3:=z7 a7;have aM:z2e w sb F s1 w3:=⟨F1,a8,(Chg.of_below U.o).trans a7⟩;have aR:=z7 aM;clear a8 a7 aM k0 k1 k2 kf a2;by_cases h0:e1=0
 .have d:((e1:Int)==0)=true:=by rw[h0];rfl
  have aA:z2W w3 kb rb bb tb:=(a3.o.block kb aH aU).trans (HK.o.low U.o);obtain⟨k0,k1,k2,kf⟩:=aA.cells;have aY:=aA.lt;have aL:z3F w3 tb sb z1A:=(HT.o.low U.o).chg a3.o aX;have aE:=z7 (q5G tb sb s1 F1 z1A wG w3 aL aN.o aO.o);obtain⟨⟨e2,s2⟩,h2⟩:∃r,r=z2G s1 z1A:=⟨_,rfl⟩;rw[<-h2]at aE;have R:wrS s nb=(e2,s2):=by rw[HW.o,wR (by simp[h0]),h2]
  have a6:=z7 R;clear aA aL h2 R;subst h0;go_wp2_with (refine aE.o.mono ?_;rintro e w4 ⟨rfl,a1⟩;have aF:=z7 a1;clear a1);go_ret;rw[a6.o];obtain⟨F2,aT,aS⟩:=aF.o;exact⟨rfl,F2,aT,((Chg.of_below U.o).trans a3.o).trans aS⟩
 have d:((e1:Int)==0)=false:=uy h0;have R:wrS s nb=(e1,s1):=by rw[HW.o,wZ h0]
 have a6:=z7 R;have H0:=z7 h0;clear R h0;go_wp2;go_ret;rw[a6.o];exact⟨rfl,aR.o⟩
structure LkS (W:World) (rb:Nat) (p:Array Value) (bo er:Value) (P:Value->World->Prop) (D:Nat->Bool) (v:Nat->Value) (w':World):Prop where
 low:z0n (fun k=>k=rb) W w'
 q0:D 5=false->w'.heap[rb]? =W.heap[rb]?
 c:D 5=true->∃(sl:Value) (F:Nat->Prop),v 5= .tuple #[.agg p,bo,sl,er]/\Kept F w' (P sl)/\∀k,F k->k<w'.heap.size/\(D 11=true->v 11≠ .pointer (some ⟨k,0,none⟩))
 m:D 6=true->D 5=true/\v 6=v 5
 e:D 9=true->D 5=true/\v 9=y0f 2 (v 5)
 a:D 14=true->D 9=true/\v 14=v 9
 al:D 11=true->∃g,v 11= .pointer (some ⟨g,0,none⟩)/\W.heap.size<=g/\w'.heap[g]? =some (.cells (if D 12 then p else z1l) 92 (0,0))
section
variable {W w' w'':World} {rb:Nat} {p:Array Value} {bo er:Value} {P:Value->World->Prop} {D:Nat->Bool} {v:Nat->Value}
theorem LkS.start(W:World)(rb:Nat)(p:Array Value)(bo er:Value)(P:Value->World->Prop):LkS W rb p bo er P (fun _=>false) (fun _=>undef) W.drew:=
 ⟨⟨rfl,rfl,rfl,wJ _,fun _ _ _=>rfl⟩,(fun _=>rfl),(fun h=>by cases h),(fun h=>by cases h),(fun h=>by cases h),(fun h=>by cases h),fun h=>by cases h⟩
theorem LkS.read(h:LkS W rb p bo er P D v w')(k:Nat)(I:k≠5)(O:k≠6)(N:k≠9)(A:k≠11)(J:k≠12)(L:k≠14):LkS W rb p bo er P (mark D k) v w':=by
 refine⟨h.low,?_,?_,?_,?_,?_,?_⟩
 .rw[q9 I];exact h.q0
 .rw[q9 I,q9 A];exact h.c
 .rw[q9 O,q9 I];exact h.m
 .rw[q9 N,q9 I];exact h.e
 .rw[q9 L,q9 N];exact h.a
 rw[q9 A,q9 J];exact h.al
theorem LkS.call(h:LkS W rb p bo er P D v w')(J:D 5=false)(hr:rb<W.heap.size)(O:z0n (fun k=>k=rb) w' w'')(R:Value)(F:Nat->Prop)(hP:Kept F w'' (P R))(Y:∀k,F k->k=rb\/(w'.heap.size<=k/\k<w''.heap.size)):LkS W rb p bo er P (mark D 5) (z3d v 5 (.tuple #[.agg p,bo,R,er])) w'':=by
 refine⟨h.low.trans O (fun _ I=> .inl I),fun e=>?_,fun _=>⟨R,F,z0q _ _ _,hP,fun k I=>?_⟩,fun e=>?_,fun e=>?_,fun e=>?_,fun e=>?_⟩
 .rw[z1T]at e;cases e
 .have a1:=h.low.size;have a0:=O.size;refine⟨by rcases Y k I with N|N<;>omega,fun e=>?_⟩;rw[q9 wF]at e;rw[z0g wF];obtain⟨g,L,U,A⟩:=h.al e;rw[L];intro e2;simp only[dx,wK,oh,dc]at e2;have:=(wI.1 A).1;rcases Y k I with N|N<;>omega
 .rw[q9 wF]at e;have:=(h.m e).1;rw[J]at this;cases this
 .rw[q9 wF]at e;have:=(h.e e).1;rw[J]at this;cases this
 .rw[q9 wF]at e;have:=(h.e (h.a e).1).1;rw[J]at this;cases this
 rw[q9 wF]at e;rw[q9 wF,z0g wF];obtain⟨g,L,U,A⟩:=h.al e;exact⟨g,L,U,(O.block g (wI.1 A).1 wF).trans A⟩
theorem LkS.move(h:LkS W rb p bo er P D v w')(A:D 5=true):LkS W rb p bo er P (mark D 6) (z3d v 6 (v 5)) w':=by
 refine⟨h.low,?_,?_,fun _=>⟨by rw[q9 wF];exact A,by rw[z0q,z0g wF]⟩,?_,?_,?_⟩
 .rw[q9 wF];exact h.q0
 .rw[q9 wF,q9 wF,z0g wF,z0g wF];exact h.c
 .rw[q9 wF,q9 wF,z0g wF,z0g wF];exact h.e
 .rw[q9 wF,q9 wF,z0g wF,z0g wF];exact h.a
 rw[q9 wF,q9 wF,z0g wF];exact h.al
theorem LkS.ext(h:LkS W rb p bo er P D v w')(I:D 5=true){u:Value}(J:y0f 2 (v 5)=u)(A:D 14=false):LkS W rb p bo er P (mark D 9) (z3d v 9 u) w':=by
 refine⟨h.low,?_,?_,?_,fun _=>⟨by rw[q9 wF];exact I,by rw[z0q,z0g wF,J]⟩,fun e=>?_,?_⟩
 .rw[q9 wF];exact h.q0
 .rw[q9 wF,q9 wF,z0g wF,z0g wF];exact h.c
 .rw[q9 wF,q9 wF,z0g wF,z0g wF];exact h.m
 .rw[q9 wF,A]at e;cases e
 rw[q9 wF,q9 wF,z0g wF];exact h.al
theorem LkS.asg(h:LkS W rb p bo er P D v w')(A:D 9=true):LkS W rb p bo er P (mark D 14) (z3d v 14 (v 9)) w':=by
 refine⟨h.low,?_,?_,?_,?_,fun _=>⟨by rw[q9 wF];exact A,by rw[z0q,z0g wF]⟩,?_⟩
 .rw[q9 wF];exact h.q0
 .rw[q9 wF,q9 wF,z0g wF,z0g wF];exact h.c
 .rw[q9 wF,q9 wF,z0g wF,z0g wF];exact h.m
 .rw[q9 wF,q9 wF,z0g wF,z0g wF];exact h.e
 rw[q9 wF,q9 wF,z0g wF];exact h.al
theorem LkS.make(h:LkS W rb p bo er P D v w')(U:rb<W.heap.size)(I:D 12=false):LkS W rb p bo er P (mark D 11) (z3d v 11 (.pointer (some ⟨w'.heap.size,0,none⟩))) (w'.alloc (.cells z1l 92)):=by
 have hb:=q5 w' (.cells z1l 92);refine⟨h.low.trans (S':=fun _=>False) (z0n.of_below hb) (fun _ A=>A.elim),?_,fun e=>?_,?_,?_,?_,fun _=>⟨w'.heap.size,z0q _ _ _,h.low.size,?_⟩⟩
 .rw[q9 wF];exact fun e=>(hb.block rb (by have:=h.low.size;omega)).trans (h.q0 e)
 .rw[q9 wF]at e;obtain⟨R,F,N,O,J⟩:=h.c e;refine⟨R,F,by rw[z0g wF];exact N,O.next fun k A=>hb.block k (J k A).1,fun k A=>⟨wS (J k A).1 hb.size,fun _=>?_⟩⟩;rw[z0q];intro L;simp only[dx,wK,oh,dc]at L;have:=(J k A).1;omega
 .rw[q9 wF,q9 wF,z0g wF,z0g wF];exact h.m
 .rw[q9 wF,q9 wF,z0g wF,z0g wF];exact h.e
 .rw[q9 wF,q9 wF,z0g wF,z0g wF];exact h.a
 rw[q9 wF,I];exact j8 _ _
theorem LkS.store(h:LkS W rb p bo er P D v w')(hr:rb<W.heap.size)(U:D 5=true)(A:D 11=true)(J:D 12=false){g:Nat}(N:v 11= .pointer (some ⟨g,0,none⟩))(hp:p.size=12):LkS W rb p bo er P (mark D 12) v (w'.setCells g 0 p.toList):=by
 obtain⟨g',L,g2,Y⟩:=h.al A;rw[N]at L;simp only[dx,wK,oh,dc]at L;subst L;rw[J]at Y;have hb:∀k,k≠g->(w'.setCells g 0 p.toList).heap[k]? =w'.heap[k]? :=fun k I=>z1n I _ _ _;have O:(w'.setCells g 0 p.toList).heap.size=w'.heap.size:=size_setCells _ _ _;have ho:=z0n.setCells (S:=fun k=>k=g) (b:=g) rfl p.toList 0 w';refine⟨h.low.trans ho (fun k I=> .inr wF),fun e=>?_,fun e=>?_,?_,?_,?_,fun e=>⟨g,N,g2,?_⟩⟩
 .rw[q9 wF,U]at e;cases e
 .obtain⟨sl,F,k1,k2,R⟩:=h.c U;refine⟨sl,F,k1,k2.next fun k I=>hb k fun e=>?_,fun k I=>⟨by rw[O];exact(R k I).1,fun _=>(R k I).2 A⟩⟩;subst e;exact(R _ I).2 A N
 .rw[q9 wF,q9 wF];exact h.m
 .rw[q9 wF,q9 wF];exact h.e
 .rw[q9 wF,q9 wF];exact h.a
 rw[z1T,z0Y p.toList 0 _ _ Y (by simp[hp]),z4D (by simp[hp])];simp
end
theorem q2G{b:z0h}{k ep id:Nat}(L:k<256)(I:ep<4294967296)(J:id<4294967296)(A:(j9 b id).Ok)(R:(j9 b id).done.length<=1000000000):(z6s b k ep id).Ok/\(z6s b k ep id).b= []:=by
 have N:=A.cur.bits;have O:=A.cur.len;refine⟨⟨L,I,J,?_,?_,?_,(by decide:0<4294967296),?_,(by decide:(-9223372036854775808:Int)<=0),(by decide:(0:Int)<=9223372036854775807)⟩,rfl⟩
 .show(j9 b id).done.length<_;omega
 .show(j9 b id).cur.l.length<_;omega
 .show(j9 b id).cur.st.length<_;omega
 show(z9t (j9 b id) (z1P (j9 b id))).1<_;rw[y0t A];exact gQ (y2F _ _ wG) wG
structure KIn (w:World) (kb rb bb tb mb sb B:Nat) (E:List (Int×z0I)) (S:Nat->Prop) (F:List Nat) (b:z0h) (ep:Nat) (s:FsS):Prop where
 k:z2W w kb rb bb tb
 r:z0Z w rb bb ep
 bk:z0w w bb mb E b B S
 t:z3F w tb sb z1A
 fs:z1L w sb s F
 ok:s.Ok
 db:z1H w
 kr:kb≠rb
 tr:tb≠rb
 kF:kb∉F
 rF:rb∉F
 tF:tb∉F
 kS:¬S kb
 rS:¬S rb
 tS:¬S tb
 sF:∀x∈F,¬S x
 dr:0≠rb
 dS:¬S 0
 dF:0∉F
section
variable {w w':World} {kb rb bb tb mb sb B:Nat} {E E':List (Int×z0I)} {S S':Nat->Prop} {F F':List Nat} {b b':z0h} {ep ep':Nat} {s s':FsS}
def KU(rb:Nat)(S:Nat->Prop)(F:List Nat)(x:Nat):Prop:=x=rb\/S x\/x∈F
theorem z1H.lt(h:z1H w):0<w.heap.size:=by
 have I:=h 0 wG;by_cases A:0<w.heap.size
 .exact A
 simp[World.cell?,ie (iQ A)]at I
theorem z1H.only{U:Nat->Prop}(h:z1H w)(N:z0n U w w')(J:¬U 0):z1H w':=fun j L=>by
 have A:=h j L;have I:=N.block _ h.lt J;unfold World.cell? at A ⊢;simp only at A ⊢;rw[I];exact A
theorem KIn.upd(h:KIn w kb rb bb tb mb sb B E S F b ep s)(N:z0n (KU rb S F) w w')(Y:z0Z w' rb bb ep')(hb:z0w w' bb mb E' b' B S')(U:z1L w' sb s' F')(ok:s'.Ok)(J:∀x,S' x->S x\/w.heap.size<=x)(I:∀x∈F',x∈F\/w.heap.size<=x)(hd:∀x∈F',¬S' x):KIn w' kb rb bb tb mb sb B E' S' F' b' ep' s':=by
 have L:=h.k.lt;have a0:=h.r.lt;have O:=h.t.lt;have R:=h.db.lt;refine⟨(N.block kb L ?_).trans h.k,Y,hb,(N.block tb O ?_).trans h.t,U,ok,h.db.only N ?_,h.kr,h.tr,fun A=>?_,fun A=>?_,fun A=>?_,fun A=>?_,fun A=>?_,fun A=>?_,hd,h.dr,fun A=>?_,fun A=>?_⟩
 .rintro(e|e|e)
  .exact h.kr e
  .exact h.kS e
  exact h.kF e
 .rintro(e|e|e)
  .exact h.tr e
  .exact h.tS e
  exact h.tF e
 .rintro(e|e|e)
  .exact h.dr e
  .exact h.dS e
  exact h.dF e
 .rcases I _ A with e|e
  .exact h.kF e
  omega
 .rcases I _ A with e|e
  .exact h.rF e
  omega
 .rcases I _ A with e|e
  .exact h.tF e
  omega
 .rcases J _ A with e|e
  .exact h.kS e
  omega
 .rcases J _ A with e|e
  .exact h.rS e
  omega
 .rcases J _ A with e|e
  .exact h.tS e
  omega
 .rcases J _ A with e|e
  .exact h.dS e
  omega
 rcases I _ A with e|e
 .exact h.dF e
 omega
theorem KIn.lt(h:KIn w kb rb bb tb mb sb B E S F b ep s){x:Nat}(A:KU rb S F x):x<w.heap.size:=by
 rcases A with e|e|e
 .rw[e];exact h.r.lt
 .exact(h.bk.lo x e).2
 exact h.fs.lt x e
theorem z0E.ge{B:Nat}{w:World}{v:Value}{A:List (Value×List UInt8)}(h:z0E B w v A){j:Nat}(I:v.ownBlock=some j\/∃x∈A,x.1.ownBlock=some j):B<=j:=by
 rcases I with e|⟨x,J,e⟩
 .exact(h.row.lt j e).1
 exact((h.ent x J).lt j e).1
theorem KIn.low(h:KIn w kb rb bb tb mb sb B E S F b ep s)(hb:Below w.heap.size w w'):KIn w' kb rb bb tb mb sb B E S F b ep s:=
 h.upd (z0n.of_below hb) (h.r.low hb) (h.bk.low hb) (h.fs.low hb) h.ok (fun _ h=> .inl h) (fun _ h=> .inl h) h.sF
end
def y0J(w:World)(kb bb sb:Nat)(b:z0h)(ep:Nat)(s:FsS)(U:Nat->Prop):Prop:=∃rb tb mb B E S F,KIn w kb rb bb tb mb sb B E S F b ep s/\U=KU rb S F
def tkS(b:z0h)(ep:Nat)(s:FsS)(f:Fr)(l:List Bool):Int×List Bs×z0h×Nat×FsS:=
 if(z3u b ep f l).1≠0 then(((z3u b ep f l).1:Nat), [],b,(z3u b ep f l).2.2,s)
 else if(z3u b ep f l).2.1≠0 then(0, [z7Y (z6s b (z3u b ep f l).2.1 f.epoch f.series)],b,(z3u b ep f l).2.2,s)
 else if(wrS s (z2i f l)).1≠0 then((wrS s (z2i f l)).1, [],b,(z3u b ep f l).2.2,(wrS s (z2i f l)).2)
 else(0, [z7Y (z6s (takeB b f l) 4 (z3u b ep f l).2.2 f.series)],takeB b f l,(z3u b ep f l).2.2,(wrS s (z2i f l)).2)
def q7c(kb bb sb:Nat)(R:Int×List Bs×z0h×Nat×FsS)(U:Nat->Prop)(w:World)(e:Ending)(w':World):Prop:=
 ∃U',y0J w' kb bb sb R.2.2.1 R.2.2.2.1 R.2.2.2.2 U'/\z0n U w w'/\(∀x,U' x->U x\/w.heap.size<=x)/\
  ((R.1≠0/\e= .returned (.tuple #[.slice none 0 0,.int .u16 R.1]))\/(R.1=0/\∃a m cc xs,e= .returned (.tuple #[.slice a m cc,.int .u16 0])/\m=xs.length/\z0E w.heap.size w' (.slice a m cc) xs/\xs.map Prod.snd=R.2.1/\∀j,((Value.slice a m cc).ownBlock=some j\/∃x∈xs,x.1.ownBlock=some j)->¬U' j))
def q7n(b:z0h)(f:Fr)(sl:Value)(rb bb N:Nat)(R:Nat×Nat×Nat)(p:Array Value)(B:Bool)(x:Int)(P:Value->World->Prop):Prop:=
 (R.1≠0/\p=z1l/\B=false/\x=(R.1:Nat)/\P=fun s w'=>z0Z w' rb bb R.2.2/\s= .slice none 0 0)\/
 (R.1=0/\R.2.1≠0/\p=z1l/\B=false/\x=0/\P=fun s w'=>z0Z w' rb bb R.2.2/\∃g,s= .slice (some ⟨g,0,none⟩) 1 1/\w'.heap[g]? =some (.cells (z0b (z6s b R.2.1 f.epoch f.series) (.slice none 0 0)) 51 (0,0))/\N<=g)\/
 (R.1=0/\R.2.1=0/\p=z2m f sl/\B=true/\x=0/\P=fun s w'=>z0Z w' rb bb R.2.2/\s= .slice none 0 0)
theorem q3Y(b:z0h)(f:Fr)(a:Option Addr)(n c rb bb:Nat)(N:Nat)(R:Nat×Nat×Nat):∃p B x P,q7n b f (.slice a n c) rb bb N R p B x P/\p.size=12/\p.all (·.oneCell')=true/\
  ∀w e w',N<=w.heap.size->rb<w.heap.size->y1P rb bb b f (.slice a n c) R w e w'->∃(sl:Value) (G:Nat->Prop),e= .returned (.tuple #[.agg p,.bool B,sl,.int .u16 x])/\z0n (fun k=>k=rb) w w'/\Kept G w' (P sl)/\∀k,G k->k=rb\/(w.heap.size<=k/\k<w'.heap.size):=by
 have A:∀{w':World} {Q:Prop},z0Z w' rb bb R.2.2->Q->Kept (fun k=>k=rb) w' fun w''=>z0Z w'' rb bb R.2.2/\Q:=fun L hq w'' hw=>⟨(hw rb rfl).trans L,hq⟩;by_cases J:R.1=0
 .by_cases h2:R.2.1=0
  .refine⟨_,_,_,_,.inr (.inr ⟨J,h2,rfl,rfl,rfl,rfl⟩),rfl,by unfold z2m;simp[Value.oneCell'],?_⟩;rintro w e w' hN U ⟨O,L,⟨I, -⟩|⟨-,Y, -⟩|⟨-, -,rfl⟩⟩
   .exact absurd J I
   .exact absurd h2 Y
   exact⟨_,_,rfl,O,A L rfl,fun k A=> .inl A⟩
  refine⟨_,_,_,_,.inr (.inl ⟨J,h2,rfl,rfl,rfl,rfl⟩),rfl,by simp[Value.oneCell'],?_⟩;rintro w e w' hN U ⟨O,L,⟨I, -⟩|⟨-,Y,g,rfl,hg,a0⟩|⟨-,Y, -⟩⟩
  .exact absurd J I
  .refine⟨_,fun k=>k=rb\/k=g,rfl,O,fun w'' hw=>⟨(hw rb (.inl rfl)).trans L,g,rfl,(hw g (.inr rfl)).trans hg,wF⟩,fun k A=>?_⟩;rcases A with rfl|rfl
   .exact .inl rfl
   exact .inr ⟨a0,(wI.1 hg).1⟩
  exact absurd Y h2
 refine⟨_,_,_,_,.inl ⟨J,rfl,rfl,rfl,rfl⟩,rfl,by simp[Value.oneCell'],?_⟩;rintro w e w' hN U ⟨O,L,⟨-,rfl⟩|⟨I, -⟩|⟨I, -⟩⟩
 .exact⟨_,_,rfl,O,A L rfl,fun k A=> .inl A⟩
 .exact absurd I J
 exact absurd I J
theorem q5P(b:z0h)(ep:Nat)(f:Fr)(l:List Bool):(z3u b ep f l).2.1<6:=by
 unfold z3u
 repeat' split
 all_goals simp
theorem y4v(b:z0h)(ep:Nat)(f:Fr)(l:List Bool)(A:(z3u b ep f l).1=0)(I:(z3u b ep f l).2.1=0):(f.cnt<f.count/\0<l.length/\f.b.length<=500)/\z3O b f l=0/\(z3u b ep f l).2.2=f.epoch:=by
 unfold z3u at A I ⊢;split at A
 .cases A
 rename_i c1;rw[wR c1]at I ⊢;split at A
 .cases A
 rename_i c2;rw[wR c2]at I ⊢;split at A
 .rename_i c3;rw[wZ c3]at I;cases I
 rename_i c3;rw[wR c3]at I ⊢;split at A
 .rename_i c4;rw[wZ c4]at I;cases I
 rename_i c4;rw[wR c4]at I ⊢;split at A
 .cases A
 rename_i J;rw[wR J];refine⟨kj fun h=>J (.inl h),kj fun h=>J (.inr h),rfl⟩
theorem q7m{s:FsS}(h:s.Ok)(n:List UInt8):(wrS s n).2.Ok:=by
 unfold wrS;split
 .exact z8p h _ _
 exact z8v (z8p h _ _) _
theorem y4P(kb rb bb tb mb sb B ep:Nat)(E:List (Int×z0I))(S:Nat->Prop)(F:List Nat)(b:z0h)(s:FsS)(a:Option Addr)(n c:Nat)(bs:List UInt8)(f:Fr)(l:List Bool)(hn:n=bs.length)(hc:n<=c)(dG:c<=9223372036854775807)(hd:y3l bs=0)(cO:y1r bs=f)(cX:f.kind≠1)(dH:f.n=(l.length:Nat))(b7:z0S f.b l)(hl:l.length<=1000000)(eG:ep<4294967296)(aN:(j9 b f.series).done.length<1000000000)(w:World)(h:KIn w kb rb bb tb mb sb B E S F b ep s)(U:RdB w (.slice a n c) bs):
  Calls prog 12 #[.pointer (some ⟨kb,0,none⟩),.slice a n c] w (q7c kb bb sb (tkS b ep s f l) (KU rb S F) w):=by
 have hf:f.Ok:=by rw[<-cO];exact q7r bs
 have bH:=z7 (q0D a c bs w (by rw[<-hn];exact U) wF wF dG);rw[hd,cO,<-hn]at bH;obtain⟨⟨r1,ak,ep'⟩,hR⟩:∃R,R=z3u b ep f l:=⟨_,rfl⟩;obtain⟨N0,dA⟩:=zN w.heap.size;obtain⟨K,hK⟩:=zN (tkS b ep s f l);have b2:=hK;unfold tkS at b2;rw[<-hR]at b2;simp only at b2;rw[<-hK];obtain⟨fl,cR⟩:=zN f.b.length;have aG:=bH.o;unfold Told at aG;rw[<-cR]at aG;have bH:=z7 aG;clear aG;have H:=z7 h;have cF:=z7 b2;have b0:=z7 hR;have HF:=z7 hf;have cC:=z7 dH;have dU:=z7 b7;have eF:=z7 dA;have aZ:=z7 cR;have eI:=h.r.lt;have bS:=h.k.lt;clear h U hd cO hn hc dG hR hK b2 hf dH b7 dA cR;go_enter func12,ntmps12;go_wp2_with fail;refine bH.o.mono ?_;rintro e w1 ⟨a1,c1,rfl,c5,dB,bA⟩;obtain⟨C,hC⟩:=zN (z0b f (.slice a1 fl c1));have b1:C.size=11:=by rw[hC];rfl
 have e5:C.all (·.oneCell')=true:=by rw[hC];unfold z0b;simp[Value.oneCell']
 have cS:frV f (.slice a1 fl c1)= .agg C:=by rw[hC];rfl
 have dI:(prog.info? 51).map (·.size)=some C.size:=by rw[b1];exact z0D
 rw[cS];have HC:=z7 hC;have dD:=z7 cS;have e0:=z7 c5;have cB:=z7 dB;have bT:=z7 bA;clear hC cS c5 dB bA;go_upto_region 4 with(refine z0e rfl 51 _ _ rfl w1.heap.size 0 rfl C rfl (fun j hj=>by exact z0B (j8 w1 _) (n:=C.size) (by rw[b1];rfl) j hj) (by exact z0y (j8 w1 _)) dI e5 ?_;rw[z3m _ _ _ _ (by rw[du,b1];rfl)])
 have b6:Below w.heap.size w (w1.alloc (.cells C 51)):=cB.o.trans ((q5 w1 _).mono cB.o.size);obtain⟨W,hW,cL⟩:=(((z0U.start (KU rb S F) w).go (S':=fun _=>False) (z0n.of_below cB.o) (fun _ h=>h.elim) (fun p hp=>by cases hp)).new (.cells C 51)).named;refine z0s hW ?_;rw[<-hW]at b6;obtain⟨p6,dL⟩:=zN w1.heap.size;rw[<-dL]at cL ⊢;have bO:=H.o.low b6;have aL:z0r W a1 fl c1 l f.b:=⟨by rw[hW];exact e0.o.low (q5 w1 _),aZ.o,dU.o⟩;have bB:∀(w':World),z0n (fun k=>k=rb) W w'->z0r w' a1 fl c1 l f.b:=fun w' ho=>⟨Rd.kept aL.rd fun k hk bS=>ho.block k bS (fun e=>by have:=bT.o k hk;omega),aL.len,aL.bits⟩;obtain⟨p,Bo,x,P,L,bF,dM,bJ⟩:=q3Y b f a1 fl c1 rb bb W.heap.size (r1,ak,ep');have a4:=z7 (fun w' (h1:z0w w' bb mb E b B S) (h2:z0Z w' rb bb ep) (h4:z0r w' a1 fl c1 l f.b) (h5:z1H w') (h6:∀w'',z0n (fun k=>k=rb) w' w''->z1H w'') (h7:∀w'',z0n (fun k=>k=rb) w' w''->z0r w'' a1 fl c1 l f.b)=>q5r rb bb mb B ep E b S f a1 fl c1 l HF.o cC.o aZ.o hl (qI aN) cX w' h1 h2 H.o.rS h4 h5 h6 h7);have cG:=a4.o;rw[<-b0.o,dD.o]at cG;have a4:=z7 cG;have aT:=z7 cL;have a7:=z7 bO;have bI:=z7 bB;have bJ:=z7 bJ;have L:=z7 L;have cZ:=bO.r.lt;have e8:=bO.k.lt;have eB:=b6.size;have eE:=z7 b6;have dJ:=z7 (show(prog.info? 92).map (·.size)=some p.size by rw[bF];exact z0K);clear hW cL dL bO aL bB cG b6
 refine q6 16 58 (fun D v w'=>LkS W rb p (.bool Bo) (.int .u16 x) P D v w') (LkS.start _ _ _ _ _ _) ?_;simp only[z0C];iterate 4 (refine q8.rl ?_ (fun D v w h=>h.read _ wG wG wG wG wG wG) (fun D v w' I A=>?_) ?_;rotate_left;(have aX:z2W w' kb rb bb tb:=(A.low.block kb e8 H.o.kr).trans a7.o.k;obtain⟨k0,k1,k2,kf⟩:=aX.cells;have lk:=aX.lt;clear aX;clear A I;go_simp;try rfl);go_simp)
 refine q8.rl (.agg C) (fun D v w h=>h.read _ wG wG wG wG wG wG) (fun D v w' I A=>z1E _ _ rfl p6 0 rfl _ (z1o ((A.low.block p6 (aT.o.lt 0 rfl) (fun e=>by have:=aT.o.ge 0 rfl;omega)).trans (aT.o.get 0 rfl))) z1R dI) ?_;go_simp;refine q8.re (fun D v w' I A=>?_) ?_
 .have d5:=z7 I.self;have J:=A.low;have dF:=a7.o.bk.only J (fun k hk e=>H.o.rS (by subst e;exact hk));have dO:z0Z w' rb bb ep:=(A.q0 d5.o).trans a7.o.r;have cN:=a7.o.db.only J H.o.dr;have dE:=bI.o w' J;have aC:=z7 (a4.o w' dF dO dE cN (fun w'' ho=>cN.only ho H.o.dr) (fun w'' ho=>bI.o w'' (J.trans ho fun _ h=> .inl h)));have HZ:=z7 A;have e9:=J.size;clear A I J dF dO cN dE;go_simp;go_at_call 38;refine aC.o.mono ?_;intro e w'' ht;obtain⟨sl,G,rfl,ho,hP,hG⟩:=bJ.o w' e w'' e9 wF ht;exact HZ.o.call d5.o cZ ho sl G hP hG
 go_simp;refine q8.re (fun D v w' I A=>?_) ?_
 .have d:=I.pre 5 (by kernel_rfl);have aB:=z7 (A.move d);clear A I;go_simp;exact aB.o
 go_simp;refine q8.rl (.agg p) (fun D v w h=>h.read _ wG wG wG wG wG wG) (fun D v w' I A=>?_) ?_
 .obtain⟨d,O⟩:=A.m (I.pre 6 (by kernel_rfl));obtain⟨sl,G,hp, -⟩:=A.c d;rw[hp]at O;clear A I hp;go_simp
 go_simp;refine q8.rl (.bool Bo) (fun D v w h=>h.read _ wG wG wG wG wG wG) (fun D v w' I A=>?_) ?_
 .obtain⟨d,O⟩:=A.m (I.pre 6 (by kernel_rfl));obtain⟨sl,G,hp, -⟩:=A.c d;rw[hp]at O;clear A I hp;go_simp
 go_simp;refine q8.re (fun D v w' I A=>?_) ?_
 .obtain⟨d,O⟩:=A.m (I.pre 6 (by kernel_rfl));obtain⟨sl,G,hp, -⟩:=A.c d;have e4:D 14=false:=I.post 14 _ rfl (by kernel_rfl);have aB:=z7 (A.ext d (u:=sl) (by rw[hp];rfl) e4);rw[hp]at O;clear A I hp;go_simp;exact aB.o
 go_simp;refine q8.rl (.int .u16 x) (fun D v w h=>h.read _ wG wG wG wG wG wG) (fun D v w' I A=>?_) ?_
 .obtain⟨d,O⟩:=A.m (I.pre 6 (by kernel_rfl));obtain⟨sl,G,hp, -⟩:=A.c d;rw[hp]at O;clear A I hp;go_simp
 go_simp;refine q8.re (fun D v w' I A=>?_) ?_
 .have bN:D 12=false:=I.post 12 _ rfl (by kernel_rfl);have aB:=z7 (A.make cZ bN);clear A I;go_simp;exact aB.o
 go_simp;refine q8.ca undef (fun D v w' I A=>?_) ?_
 .have d5:=I.pre 5 (by kernel_rfl);have d2:=I.pre 11 (by kernel_rfl);have bN:D 12=false:=I.self;obtain⟨g,hg, -,a5⟩:=A.al d2;rw[bN]at a5;refine z2y _ _ _ rfl g 0 hg p rfl (fun j hj=>z0B a5 (n:=12) rfl j wF) (z0y a5) dJ.o dM ?_;exact⟨undef,rfl,rfl,A.store cZ d5 d2 bN hg bF⟩
 go_simp;(refine q8.rl ?_ (fun D v w h=>h.read _ wG wG wG wG wG wG) (fun D v w' I A=>?_) ?_;rotate_left;(clear A I;go_simp;try rfl);go_simp)
 refine q8.re (fun D v w' I A=>?_) ?_
 .have d:=I.pre 9 (by kernel_rfl);have aB:=z7 (A.asg d);clear A I;go_simp;exact aB.o
 go_simp;(refine q8.rl ?_ (fun D v w h=>h.read _ wG wG wG wG wG wG) (fun D v w' I A=>?_) ?_;rotate_left;(clear A I;go_simp;try rfl);go_simp)
 refine q8.fin (fun v w5 A=>?_);obtain⟨g8,c9,eH,bW⟩:=A.al rfl;have dC:w5.heap[g8]? =some (.cells p 92 (0,0)):=bW;obtain⟨sl,G,dS,hP, -⟩:=A.c rfl;have cA:v 14=sl:=by
  have h1:=(A.a rfl).2;have h2:=(A.e rfl).2;rw[h1,h2,dS];rfl
 rw[c9,cA];have J:=A.low;have a2:=(aT.o.go (S':=fun k=>k=rb) J (fun k hk=> .inl (.inl hk)) (fun q hq e=>by
  simp only[uD]at hq;subst hq;have:=aT.o.ge 0 rfl;have e':p6=rb:=e;omega))
 have a2:=a2.cons dC wF (fun q hq=>by
  simp only[uD]at hq;subst hq;have:=aT.o.lt 0 rfl;show p6≠g8;omega)
 have d7:z0Z w5 rb bb ep'->KIn w5 kb rb bb tb mb sb B E S F b ep' s:=fun hr=>H.o.upd a2.low hr (a7.o.bk.only J (fun k hk e=>H.o.rS (by subst e;exact hk))) (a7.o.fs.same (fun k hk=>J.block k (a7.o.fs.lt k hk) (fun e=>H.o.rF (by subst e;exact hk))) J.size) H.o.ok (fun _ h=> .inl h) (fun _ h=> .inl h) H.o.sF;have bZ:=bI.o w5 J;have a0:=z7 a2;have N:=z7 d7;have aF:=z7 bZ;have aU:=z7 hP.now;have aR:=a2.low.size;clear A c9 cA dS hP bW dC J a2 d7 bZ a4 bJ a7 bI;rcases L.o with⟨h1,rfl,rfl,rfl,rfl⟩|⟨h1,h2,rfl,rfl,rfl,rfl⟩|⟨h1,h2,rfl,rfl,rfl,rfl⟩
 .have a8:=aU.o;simp only at a8 h1;obtain⟨a9,rfl⟩:=a8;have hd:((r1:Int)==0)=false:=uy wF;have Y:K=((r1:Int), [],b,ep',s):=by rw[cF.o,wZ h1]
  have aS:=z7 Y;have H1:=z7 h1;have bL:=z7 a9;clear Y h1 a9 L aU;go_wp2;go_ret2;rw[aS.o];exact⟨KU rb S F,⟨rb,tb,mb,B,E,S,F,N.o bL.o,rfl⟩,a0.o.low,fun x h=> .inl h,.inl ⟨by simpa using H1.o,rfl⟩⟩
 .have a8:=aU.o;simp only at a8 h1 h2;obtain⟨a9,g,rfl,a5,cU⟩:=a8;have Y:K=(0, [z7Y (z6s b ak f.epoch f.series)],b,ep',s):=by rw[cF.o,wR (by simp[h1]),wZ h2]
  have hA:=q2G (b:=b) (k:=ak) (ep:=f.epoch) (id:=f.series) (by have:=q5P b ep f l;rw[<-b0.o]at this;exact gQ this wG) HF.o.epoch HF.o.series (H.o.bk.serOk _) (qI aN);have cT:=z7 (y6C g 1 1 [z6s b ak f.epoch f.series] (fun y hy=>by rw[uD.1 hy];exact hA) wG w5 (y1b.one a5));have aS:=z7 Y;have bL:=z7 a9;clear Y h1 h2 a9 L aU a5 cU hA;go_wp2_with (refine cT.o.mono ?_;rintro e w6 ⟨a6,m6,c6,xs,rfl,bC,aE,bG,b5⟩;have cH:=z7 bC;have aA:=z7 aE;have cI:=z7 bG;have aY:=z7 b5;clear bC aE bG b5);go_ret2;rw[aS.o];exact⟨KU rb S F,⟨rb,tb,mb,B,E,S,F,(N.o bL.o).low aY.o,rfl⟩,(a0.o.call aY.o).low,fun x h=> .inl h,.inr ⟨rfl,a6,m6,c6,xs,rfl,cH.o,⟨z0f aA.o.row aR,fun x U=>z0f (aA.o.ent x U) aR⟩,cI.o,fun j hj hu=>by have h1:=aA.o.ge hj;have h2:=(N.o bL.o).lt hu;omega⟩⟩
 have a8:=aU.o;simp only at a8 h1 h2;obtain⟨a9,rfl⟩:=a8;subst h1 h2;have K5:=N.o a9;obtain⟨bE,dR,aM⟩:=y4v b ep f l (by rw[<-b0.o]) (by rw[<-b0.o]);rw[<-b0.o]at aM;simp only at aM;have Y:K=if(wrS s (z2i f l)).1≠0 then((wrS s (z2i f l)).1, [],b,ep',(wrS s (z2i f l)).2)else(0, [z7Y (z6s (takeB b f l) 4 ep' f.series)],takeB b f l,ep',(wrS s (z2i f l)).2):=by rw[cF.o,wR wH,wR wH]
 have bM:=z7 (q4h kb rb bb tb sb s F f a1 fl c1 l HF.o cC.o ⟨bE.1,bE.2.1,by rw[aZ.o];exact bE.2.2⟩ aZ.o w5 K5.k K5.t K5.fs K5.ok K5.kF K5.tF aF.o);have aO:=q7m K5.ok (z2i f l);obtain⟨⟨e1,s1⟩,hw⟩:∃r,r=wrS s (z2i f l):=⟨_,rfl⟩;rw[<-hw]at Y bM aO;simp only at Y aO;have aS:=z7 Y;have bU:=z7 aO;have N:=z7 K5;have e3:=z7 dR;have cW:=z7 aM;have cY:(prog.info? 92).map (·.size)=some (z2m f (.slice a1 fl c1)).size:=z0K;have aI:=bM.o;unfold pcV at aI;obtain⟨PC,cM⟩:=zN (z2m f (.slice a1 fl c1));have dW:=z7 cM;rw[<-cM]at aI a0 cY;have bM:=z7 aI;have bV:=z7 cY;clear Y aO K5 dR aM hw a9 aI L aU cY cM bF dM dJ;go_wp2_with (refine z0u rfl 92 _ rfl g8 0 rfl PC (z1o (a0.o.get 0 rfl)) z1U bV.o ?_);refine bM.o.mono ?_;rintro e w6 ⟨rfl,F6,d6,d3⟩;have dZ:=z7 d6;have a3:=z7 d3;clear d6 d3;go_upto_region 10 with fail
 have d8:KIn w6 kb rb bb tb mb sb B E S F6 b ep' s1:=N.o.upd (a3.o.only.mono fun x U=> .inl (.inr (.inr U))) ((a3.o.block rb N.o.r.lt N.o.rF).trans N.o.r) (N.o.bk.only a3.o.only fun k hk O=>N.o.sF k O hk) dZ.o bU.o (fun _ h=> .inl h) a3.o.fresh (fun x U hs=>by
  rcases a3.o.fresh x U with h|h
  .exact N.o.sF x h hs
  have:=(N.o.bk.lo x hs).2;omega)
 have bY:=a0.o.go (S':=fun x=>x∈F) a3.o.only (fun x U=> .inl (.inr (.inr U))) (fun q hq O=>by
  have h1:=H.o.fs.lt _ O;have h2:=(a0.o.blk q hq).2;omega)
 have aD:=z7 d8;have aH:=z7 bY;have bD:z0r w6 a1 fl c1 l f.b:=⟨Rd.kept aF.o.rd fun k hk bS=>a3.o.block k bS (fun e=>by have h1:=bT.o k hk;have h2:=H.o.fs.lt k e;omega),aF.o.len,aF.o.bits⟩;have cD:=z7 bD;clear d8 bY bD;by_cases b9:e1=0
 .subst b9;have b3:K=(0, [z7Y (z6s (takeB b f l) 4 ep' f.series)],takeB b f l,ep',s1):=(by rw[aS.o,wR wH]);have aW:=z7 b3;have d4:=z7 (fun w' (hk:KIn w' kb rb bb tb mb sb B E S F6 b ep' s1) (hb:z0r w' a1 fl c1 l f.b)=>q6S rb bb mb B ep' E b S f a1 fl c1 l HF.o cC.o aZ.o hl aN w' hk.bk hk.r hk.rS hb hk.db);have aJ:=d4.o;unfold pcV at aJ;rw[<-dW.o]at aJ;have dX:=z7 aJ;have bX:Hid (∀u w',z2W w' kb rb bb tb/\(true=false->Below w6.heap.size w6 w')/\(true=true->∃w7,Below w6.heap.size w6 w7/\y1K rb bb mb B ep' S b f l w7 (.returned u) w')->∃u0 u1,u= .tuple #[u0,u1]):=z7 fun u w' h=>by
   obtain⟨-, -,h⟩:=h;obtain⟨w7, -,⟨-,h, -⟩|⟨-,g,E',S',h, -⟩⟩:=h rfl
   .simp only[ek]at h;exact⟨_,_,h⟩
   simp only[ek]at h;exact⟨_,_,h⟩
  have eA:=aD.o.k.lt;clear b3 d4 aJ;go_upto_region 12 with fail
  refine q6 11 58 (fun D v w'=>z5q 5 2 (fun d u w'=>z2W w' kb rb bb tb/\(d=false->Below w6.heap.size w6 w')/\(d=true->∃w7,Below w6.heap.size w6 w7/\y1K rb bb mb B ep' S b f l w7 (.returned u) w')) D v w') (z5q.start ⟨aD.o.k.low wD.drew,fun _=>wD.drew,fun h=>by cases h⟩) ?_;simp only[z0C];iterate 4 (refine q8.rl ?_ (fun D v w h=>h.read _ wF) (fun D v w' I A=>?_) ?_;rotate_left;(have cV:=A.t.1;obtain⟨k0,k1,k2,kf⟩:=cV.cells;have lk:=cV.lt;clear cV;clear A I;go_simp;try rfl);go_simp)
  refine q8.rl (.agg PC) (fun D v w h=>h.read _ wF) (fun D v w' I A=>?_) ?_
  .have d5:D 5=false:=I.post 5 _ rfl (by kernel_rfl);exact z1E _ _ rfl g8 0 rfl _ (z1o ((aH.o.call (A.t.2.1 d5)).get 0 rfl)) z1U bV.o
  go_simp;refine q8.re (fun D v w' I A=>?_) ?_
  .have d5:D 5=false:=I.self;have hb:=A.t.2.1 d5;have aX:=A.t.1;have aC:=z7 (dX.o w' (aD.o.low hb) (cD.o.low hb));have HZ:=z7 A;have HB:=z7 hb;have dV:=z7 d5;have cE:=z7 aX;clear A I hb d5 aX;go_simp;go_at_call 27;refine aC.o.mono ?_;intro e w2 ht;obtain⟨u,rfl⟩:∃u,e= .returned u:=by
    obtain⟨-,h, -⟩|⟨-,g,E',S',h, -⟩:=ht
    .exact⟨_,h⟩
    exact⟨_,h⟩
   have e7:z2W w2 kb rb bb tb:=by
    rcases ht with⟨-, -,e6⟩|⟨-,g,E',S', -, -, -, -,ho, -⟩
    .exact cE.o.low e6
    exact(ho.block kb cE.o.lt H.o.kS).trans cE.o
   exact HZ.o.called dV.o ⟨e7,(fun h=>by cases h),fun _=>⟨w',HB.o,ht⟩⟩
  go_simp;refine q8.re (fun D v w' I A=>?_) ?_;(focus (have dn:=I.pre 5 (by kernel_rfl);have O:=z7 (A.moved dn);clear I A dn;go_simp;first|exact O.o|exact⟨_,rfl,O.o,trivial⟩));go_simp;refine q8.re (fun D v w' I A=>?_) ?_;(focus (have dn:=I.pre 6 (by kernel_rfl);obtain⟨u0,u1,hu⟩:=bX.o _ _ (by have h0:=A.t;rw[(A.mv dn).1]at h0;exact h0);have O:=z7 (A.ext 0 wF dn (show y0f _ _=_ by rw[hu]));have hv:=(A.mv dn).2;rw[hu]at hv;clear I A dn;go_simp;first|exact O.o|exact⟨_,rfl,O.o,trivial⟩));go_simp;refine q8.re (fun D v w' I A=>?_) ?_;(focus (have dn:=I.pre 6 (by kernel_rfl);obtain⟨u0,u1,hu⟩:=bX.o _ _ (by have h0:=A.t;rw[(A.mv dn).1]at h0;exact h0);have O:=z7 (A.ext 1 wF dn (show y0f _ _=_ by rw[hu]));have hv:=(A.mv dn).2;rw[hu]at hv;clear I A dn;go_simp;first|exact O.o|exact⟨_,rfl,O.o,trivial⟩));go_simp;refine q8.re (fun D v w' I A=>?_) ?_;(focus (have dn:=I.pre 7 (by kernel_rfl);have O:=z7 (A.asg 0 wF dn);clear I A dn;go_simp;first|exact O.o|exact⟨_,rfl,O.o,trivial⟩));go_simp;refine q8.re (fun D v w' I A=>?_) ?_;(focus (have dn:=I.pre 8 (by kernel_rfl);have O:=z7 (A.asg 1 wF dn);clear I A dn;go_simp;first|exact O.o|exact⟨_,rfl,O.o,trivial⟩));go_simp;refine q8.fin (fun v w7 A=>?_);obtain⟨-, -,ht⟩:=(z5q.fin rfl A).1;obtain⟨wm,b8,ht⟩:=ht rfl;obtain⟨aE, -⟩|⟨-,g,E',S',hu,a5,cU,cJ,aV,bR⟩:=ht
  .exact absurd e3.o aE
  simp only[ek]at hu;obtain⟨-, -, -,dT,c8⟩:=z5q.parts2 rfl A hu;rw[dT,c8];have Km:=aD.o.low b8;have dN:z0Z w7 rb bb ep':=(aV.block rb Km.r.lt Km.rS).trans Km.r;have d9:KIn w7 kb rb bb tb mb sb B E' S' F6 (takeB b f l) ep' s1:=Km.upd (aV.mono fun x U=> .inl (.inr (.inl U))) dN cJ (Km.fs.same (fun x U=>aV.block x (Km.fs.lt x U) (Km.sF x U)) aV.size) bU.o bR (fun _ h=> .inl h) (fun x U hs=>by
   rcases bR x hs with h|h
   .exact Km.sF x U h
   have:=Km.fs.lt x U;omega)
  have b4:z0n (KU rb S F) w w7:=(aH.o.call b8).low.trans aV (fun x U=> .inl (.inr (.inl U)));have hA:=q2G (b:=takeB b f l) (k:=4) (ep:=ep') (id:=f.series) wG (by rw[cW.o];exact HF.o.epoch) HF.o.series (cJ.serOk _) (y4g b f l aN);have cT:=z7 (y6C g 1 1 [z6s (takeB b f l) 4 ep' f.series] (fun y hy=>by rw[uD.1 hy];exact hA) wG w7 (y1b.one a5));have d0:=z7 d9;have d1:=z7 b4;have e2:=z7 bR;have eC:=b8.size;have c7:w.heap.size<=w7.heap.size:=b4.size;have eL:w.heap.size<=wm.heap.size:=(aH.o.call b8).low.size;have eJ:w.heap.size<=w5.heap.size:=aR;clear A hu a5 cU cJ aV bR dT c8 Km dN d9 b4 hA b8;go_wp2_with (refine cT.o.mono ?_;rintro e w8 ⟨a6,m6,c6,xs,rfl,bC,aE,bG,b5⟩;have cH:=z7 bC;have aA:=z7 aE;have cI:=z7 bG;have aY:=z7 b5;clear bC aE bG b5);go_ret2;rw[aW.o];refine⟨KU rb S' F6,⟨rb,tb,mb,B,E',S',F6,d0.o.low aY.o,rfl⟩,d1.o.trans (S':=fun _=>False) (z0n.of_below aY.o) (fun _ h=>h.elim),fun x U=>?_,.inr ⟨rfl,a6,m6,c6,xs,rfl,cH.o,⟨z0f aA.o.row c7,fun x U=>z0f (aA.o.ent x U) c7⟩,cI.o,fun j hj hu=>by have h1:=aA.o.ge hj;have h2:=d0.o.lt hu;omega⟩⟩;rcases U with h|h|h
  .exact .inl (.inl h)
  .rcases e2.o x h with h|h
   .exact .inl (.inr (.inl h))
   exact .inr wF
  rcases a3.o.fresh x h with h|h
  .exact .inl (.inr (.inr h))
  exact .inr wF
 have d:((e1:Int)==0)=false:=uy b9;have b3:K=(e1, [],b,ep',s1):=(by rw[aS.o,wZ b9]);have aW:=z7 b3;have dY:=z7 b9;clear b3 b9;go_wp2;go_ret2;rw[aW.o];refine⟨KU rb S F6,⟨rb,tb,mb,B,E,S,F6,aD.o,rfl⟩,aH.o.low,fun x U=>?_,.inl ⟨dY.o,rfl⟩⟩;rcases U with h|h|h
 .exact .inl (.inl h)
 .exact .inl (.inr (.inl h))
 rcases a3.o.fresh x h with h|h
 .exact .inl (.inr (.inr h))
 exact .inr (wV aR h)
abbrev y2E (s b c wi t d:Int):Array Value:= #[.int .i64 s,.int .i64 b,.int .i64 c,.int .i64 wi,.int .i64 t,.int .i64 d]
theorem y9P(sb:Nat)(s:FsS)(F:List Nat)(ns nc:Nat)(b wi t d:Int)(hR:y4K ns b nc wi t d)(h1:(z2u s z1A).1=0)(h2:(z2u s z1A).2.2= [])(w:World)(h:z1L w sb s F)(ok:s.Ok)(b0:z1H w)(aW:0∉F):
  Calls prog 7 #[.pointer (some ⟨sb,0,none⟩),.agg (y2E ns b nc wi t d)] w fun e w'=>∃kb rb bb tb mb B E S F',e= .returned (.tuple #[.pointer (some ⟨kb,0,none⟩),.int .u16 0])/\KIn w' kb rb bb tb mb sb B E S F' ⟨ns,nc, []⟩ 0 (z2u s z1A).2.1/\Chg F F' w w'/\(∀x,S x->w.heap.size<=x)/\w.heap.size<=rb/\w.heap.size<=kb/\w.heap.size<=tb/\w.heap.size<=bb:=by
 have a5:=z7 ((z0U.start (fun k=>k∈F) w).new (.cells (y2E ns b nc wi t d) 32));have aX:=q5 w (.cells (y2E ns b nc wi t d) 32);have bF:1<=ns/\ns<=64:=by have:=hR.s;omega
 have bC:1<=nc/\nc<=24:=by have:=hR.c;omega
 have hO:=fun w' (hb:Below w.heap.size w w')=>y9V sb s F z1A wG w' (h.low hb) ok;have R:=y3L ok z1A;have b6:=h.lt;obtain⟨⟨e1,s1,L⟩,hT⟩:∃r,r=z2u s z1A:=⟨_,rfl⟩;have Y:=hO;unfold z3S at Y;rw[<-hT]at Y h1 h2 R ⊢;simp only at h1 h2 Y R ⊢;subst h1 h2;have aN:=z7 Y;have bB:=z7 (fun w'=>y6p ns b nc wi t d hR w');have aM:=z7 (fun w'=>y8Z ns nc bF bC w');have aI:=z7 aX;have aJ:=z7 b0;have bA:=z7 R;clear h ok b0 hO Y hT aX R hR;obtain⟨c0,c1,c2,c3,c4,c5,cf⟩:=y2B (a5.o.get 0 rfl);have l0:=a5.o.lt 0 rfl;go_enter func7,ntmps7;go_wp2_with fail;refine(bB.o _).mono ?_;rintro e w1 ⟨rfl,aH⟩;have aE:=z7 (a5.o.call aH);have a1:Below w.heap.size w w1:=aI.o.trans (aH.mono aI.o.size);have a6:=z7 (aN.o w1 a1);have aB:=z7 a1;clear aH a1 c0 c1 c2 c3 c4 c5 cf l0;go_wp2_with fail;refine a6.o.mono ?_;rintro e w2 ⟨F2,aT,aG,⟨bE, -⟩|⟨-,tb,a,cc,xs,rfl,aV,b1,b2, -,b4, -⟩⟩
 .exact absurd rfl bE
 have bG:xs= []:=by simpa using b4
 subst bG;have aU:=aE.o.go (S':=fun k=>k∈F) aG.only (fun k hk=> .inl hk) (fun q hq O=>by have h1:=b6 _ O;have h2:=(aE.o.blk q hq).2;omega);have aF:=z7 aU;have aL:=z7 aT;have a4:=z7 aG;have aS:=z7 aV;have b7:=z7 b1;have b9:=z7 b2;obtain⟨c0,c1,c2,c3,c4,c5,cf⟩:=y2B (aF.o.get 0 rfl);have l0:=aF.o.lt 0 rfl;clear aU aT aG aV b1 b2 b4 aN a6;go_wp2_with fail;refine(aM.o _).mono ?_;rintro e w3 ⟨bb,mb,S,rfl,aD,aY⟩;have aC:=z7 aD;have a3:=z7 aY;clear aD aY;go_wp2_with fail;refine(q3E bb _).mono ?_;rintro e w4 ⟨rb,rfl,b3,aA,aZ⟩;have aO:=z7 b3;have I:=z7 aA;have U:=z7 aZ;clear b3 aA aZ;go_wp2_with fail;obtain⟨W5,a0⟩:=zN (w4.alloc (.cells #[.pointer (some ⟨rb,0,none⟩),.pointer (some ⟨bb,0,none⟩),.pointer (some ⟨tb,0,none⟩)] 75));refine z0s a0 ?_;have J:Below w2.heap.size w2 W5:=by
  rw[a0];exact(a3.o.trans (U.o.mono a3.o.size)).trans ((q5 w4 _).mono (wV a3.o.size U.o.size))
 have a2:Below w4.heap.size w4 W5:=by rw[a0];exact q5 w4 _
 have a7:Below w3.heap.size w3 W5:=U.o.trans (a2.mono U.o.size);have bJ:w.heap.size<=w1.heap.size:=aB.o.size;have bL:w1.heap.size<=w2.heap.size:=a4.o.size;have bM:w2.heap.size<=w3.heap.size:=a3.o.size;have bN:w3.heap.size<=w4.heap.size:=U.o.size;have A:∀x∈F2,x<w2.heap.size:=fun x hx=>aL.o.lt x hx;have bO:tb<w2.heap.size:=aS.o.lt;have N:∀x,S x->w2.heap.size<=x/\x<w3.heap.size:=fun x hx=>aC.o.lo x hx;have bH:rb<w4.heap.size:=aO.o.lt;have a9:∀x∈F2,x∈F\/w1.heap.size<=x:=a4.o.fresh;have bI:=aJ.o.lt;have a8:z1H w2:=(aJ.o.low aB.o).only a4.o.only aW;have K5:KIn W5 w4.heap.size rb bb tb mb sb w2.heap.size [] S F2 ⟨ns,nc, []⟩ 0 s1:=by
  refine⟨by rw[a0];exact j8 _ _,aO.o.low a2,aC.o.low a7,aS.o.low J,aL.o.low J,bA.o,a8.low J,wF,by have:=I.o;omega,fun O=>?_,fun O=>?_,b9.o,fun O=>?_,fun O=>?_,fun O=>?_,fun x hx hs=>?_,?_,fun O=>?_,fun O=>?_⟩
  .have:=A _ O;omega
  .have:=A _ O;have:=I.o;omega
  .have:=(N _ O).2;omega
  .have:=(N _ O).2;have:=I.o;omega
  .have:=(N _ O).1;omega
  .have:=A x hx;have:=(N x hs).1;omega
  .have:=I.o;omega
  .have:=(N _ O).1;omega
  rcases a9 _ O with e|e
  .exact aW e
  omega
 have b8:=z7 K5;have b5:=z7 (show Chg F F2 w W5 from((Chg.of_below aB.o).trans a4.o).trans (Chg.of_below J));have aR:=z7 N;clear K5 J a2 a7 A N a9 a8 a0 c0 c1 c2 c3 c4 c5 cf l0 aF aE a5;go_loopw[40] (fun kv wr=>kv= .int .i64 0/\wr=W5) (fun _ _=>0)
 case atStart=>exact⟨rfl,rfl⟩
 case round=>
  obtain⟨rfl,rfl⟩:=hrel;go_wp2;go_ret2;refine⟨w4.heap.size,rb,bb,tb,mb,w2.heap.size, [],S,F2,rfl,b8.o,b5.o,fun x hx=>?_,?_,?_,?_,?_⟩
  .have:=(aR.o x hx).1;omega
  .have:=I.o;omega
  .omega
  .have:=b7.o;omega
  have:=(aR.o bb aC.o.own.1).1;omega
theorem z9S(kb rb bb tb:Nat)(w:World)(h:z2W w kb rb bb tb):Calls prog 9 #[.pointer (some ⟨kb,0,none⟩)] w fun e w'=>e= .returned (.pointer (some ⟨bb,0,none⟩))/\w'=w:=by
 obtain⟨I,J,L,N⟩:=h.cells;have A:=h.lt;clear h;go_enter func9,ntmps9;go_wp2;go_ret;exact⟨rfl,rfl⟩
theorem q4U(rb bb ep:Nat)(w:World)(h:z0Z w rb bb ep):Calls prog 20 #[.pointer (some ⟨rb,0,none⟩)] w fun e w'=>e= .returned (.int .u32 ep)/\w'=w:=by
 obtain⟨I,J,L⟩:=h.cells;have A:=h.lt;clear h;go_enter func20,ntmps20;go_wp2;go_ret;exact⟨rfl,rfl⟩
theorem filter_one(a:Int):∀(l:List Int),l.Pairwise (·≠·)->l.length<=(l.filter fun x=>decide (x≠a)).length+1
 | [],_=>wH
 | x::l,h=>by
  obtain⟨I,J⟩:=uj.1 h;rw[ot];split
  .have:=filter_one a l J;simp only[wW];omega
  rename_i L;have A:x=a:=(by simpa using L);have:l.filter (fun y=>decide (y≠a))=l:=dv.2 fun y N=>by
   have:=I y N;rw[A]at this;simp only[ne_eq,tT,mP,ia];exact fun e=>this e.symm
  rw[this];simp
theorem q4j:∀(n:Nat) (l:List Int),l.Pairwise (·≠·)->(∀x∈l,0<=x/\x<n)->l.length<=n
 | 0,l,h,hb=>by
  cases l with
  | nil=>simp
  | cons x l=>have:=hb x uK;omega
 | n+1,l,h,hb=>by
  have I:=filter_one (n:Int) l h;have J:=q4j n (l.filter fun x=>decide (x≠(n:Int))) (h.sublist rT) (fun x A=>by
   rw[ev]at A;have L:=hb x A.1;have N:x≠(n:Int):=ua A.2;omega)
  omega
theorem q0f(b:z0h)(hd:b.all.Pairwise fun p q=>p.1≠q.1)(R:∀p∈b.all,0<=p.1/\p.1<64)(hm:b.most=64){id:Nat}(O:id<64):z3Q b id=0:=by
 unfold z3Q;rw[wR];rintro⟨J,Y⟩;have L:=z8C J;have N:=q4j 64 ((id:Int)::b.all.map Prod.fst) (by
  rw[uj];refine⟨fun y U=>?_,?_⟩
  .obtain⟨p,A,rfl⟩:=uC.1 U;exact fun e=>L p A e.symm
  .rw[oy];exact hd) (fun x I=>by
  rcases wy.1 I with rfl|I
  .omega
  obtain⟨p,A,rfl⟩:=uC.1 I;exact R p A)
 rw[wW,we]at N;omega
structure q7V (ab kb:z0h):Prop where
 front:∀id,z3a (j9 kb id) (j9 ab id)
 most:kb.most=64
 size:kb.size=24
 keys:∀p∈kb.all,0<=p.1/\p.1<64
theorem q7V.start(A:z0h)(I:∀id,(j9 A id).Ok):q7V A ⟨64,24, []⟩:=⟨fun id=>z6H (I id),rfl,rfl,fun p J=>by cases J⟩
def z7l(r:z9M)(b:List UInt8):Fr:=⟨2,0,r.series,r.p.1,r.p.2.1,r.p.2.2,r.count,r.closed,r.sum,b,(r.bits.length:Nat)⟩
def knF:Fr:=⟨2,1,5,0,0,0,1,false,0,List.replicate 16 0,128⟩
def knL:List Bool:=List.replicate 128 false
def knS:FsS:=(z2u (z7F 9000) z1A).2.1
def knK:Int×List Bs×z0h×Nat×FsS:=tkS ⟨2,4, []⟩ 0 knS knF knL
theorem q0s:(z2u (z7F 9000) z1A).1=0/\(z2u (z7F 9000) z1A).2.2= []:=by decide+kernel
theorem q4P:z2l knF=true:=by decide+kernel
theorem q6H:z3u ⟨2,4, []⟩ 0 knF knL=(0,0,1):=by decide+kernel
theorem q2V:(wrS knS (z2i knF knL)).1=0:=by decide+kernel
theorem q7C:z3u (takeB ⟨2,4, []⟩ knF knL) 1 knF knL=(0,4,1):=by decide+kernel
theorem q7b:(z2A (j9 (takeB ⟨2,4, []⟩ knF knL) 5)).length=1:=by decide+kernel
theorem q8C:knK=(0, [z7Y (z6s (takeB ⟨2,4, []⟩ knF knL) 4 1 5)],takeB ⟨2,4, []⟩ knF knL,1,(wrS knS (z2i knF knL)).2):=by
 unfold knK tkS;rw[q6H];simp only;rw[wR wH,wR wH,wR (by rw[q2V];simp)];rfl
theorem q8j:tkS (takeB ⟨2,4, []⟩ knF knL) 1 (wrS knS (z2i knF knL)).2 knF knL=(0, [z7Y (z6s (takeB ⟨2,4, []⟩ knF knL) 4 1 5)],takeB ⟨2,4, []⟩ knF knL,1,(wrS knS (z2i knF knL)).2):=by
 unfold tkS;rw[q7C];simp only;rw[wR wH,wZ wH];rfl
theorem q6e:(j9 (takeB ⟨2,4, []⟩ knF knL) 5).done.length<=1:=by decide+kernel
theorem q6i{P:Program}{w:World}{g o:Nat}{I:TypeId}{v:Value}(J:w.cell? ⟨g,o,none⟩=some v)(N:(P.underlying I).map z6N=some false):(loadVar I ⟨g,o,none⟩).run P w= .ok v w:=by
 obtain⟨d,hd,L⟩:=uM.1 N;have A:(isAgg I).run P w= .ok false w:=by
  unfold isAgg;rw[gh,rQ hd w];cases d<;>simp_all [z6N]
 simp[loadVar,gh,A,J]
theorem q7O{P:Program}{fn:Func}{tmps:Array Value}{w:World}{p q:Tmp}{N I:TypeId}(h:fn.results= #[.cell p N,.cell q I]){g g':Nat}{O:Array Value}{t:TypeId}{fr:Nat×Nat}{v:Value}(hp:tmps.getD p undef= .pointer (some ⟨g,0,none⟩))(R:w.heap[g]? =some (.cells O t fr))(hu:(P.underlying N).map z6N=some true)(U:(P.info? N).map (·.size)=some O.size)
  (L:tmps.getD q undef= .pointer (some ⟨g',0,none⟩)) (Y:(loadVar I ⟨g',0,none⟩).run P w= .ok v w):(results fn tmps).run P w= .ok (.tuple #[.agg O,v]) w:=by
 have J:tmps[p]?.getD undef= .pointer (some ⟨g,0,none⟩):=by simpa using hp
 have A:tmps[q]?.getD undef= .pointer (some ⟨g',0,none⟩):=by simpa using L
 simp[results,h,J,A,asAddr,z8L R hu U,Y]
theorem q5S(p q:Addr)(w:World):
  CallsD prog 61 #[.pointer (some p),.pointer (some q)] .returning w fun e J w'=>e= .returned (.tuple #[])/\J= .returning/\w'=w:=by
 refine callsD_of_wpS func61 rfl fun A cs I=>?_;apply wpS_seq;apply wpS_region;simp[wpOpsS,go_sem,recoverD,I,ntmps61,Exit.thenS];refine wpS_of_wp ?_;go_wp2;cases A
 simp_all [bodyPostS,results,Tryz.results61]
theorem y9g(f:Fr)(l:List Bool)(hf:f.Ok)(aR:f.n=(l.length:Nat))(hl:l.length<=4000)(hb:z0S f.b l)(hm:f.cnt<f.count/\0<l.length/\f.b.length<=500)(a:Option Addr)(n c:Nat)(w:World)(hx:RdB w (.slice a n c) (z2i f l))(hn:n=(z2i f l).length)(hc:n<=c)(aO:c<=9223372036854775807):
  Calls prog 26 #[.slice a n c] w fun e w'=>∃a' c',e= .returned (.tuple #[pcV f (.slice a' f.b.length c'),.int .u16 0])/\w'.ownsRow w.heap.size 5 1 (.slice a' f.b.length c') f.b.length (z0c f.b)/\Below w.heap.size w w':=by
 have bB:0<n:=by rw[hn,z4Y];omega
 obtain⟨ad,rfl,a9⟩:∃ad:Addr,a=some ad/\ad.block<w.heap.size:=by
  obtain⟨b,bC,c',e,_,hb⟩:=Rd.addr hx wF wF;simp only[wO]at e;exact⟨_,e.1,hb⟩
 have bA:∀(fn:Fn) (first aJ:Array Value) (w:World),(Instr.makeFunc fn first aJ).run prog w= .ok (.func fn first aJ) w:=fun _ _ _ _=>rfl;have hz:(zeroValue 92).run prog w= .ok (.agg z1l) w:=by kernel_rfl
 obtain⟨W3,aM,a5⟩:=((((Loc.start w).new (.cells z1l 92)).new' (.cells #[.int .u16 0] 37) (n:=w.heap.size+1) wH).new' (.cells #[.slice (some ad) n c] 163) (n:=w.heap.size+1+1) wH).named;have aA:z3j w.heap.size W3 (w.heap.size+1+1) (z2i f l):=⟨ad,n,c,⟨a5.get 0 rfl,Rd.low hx a5.low,a9,wF,hn,hc,aO⟩⟩;have aB:=z7 (q2E w.heap.size (w.heap.size+1+1) f.series f.chunk f.bits f.cnt f.count l.length f.closed f.b hf.series hf.chunk hf.bits hf.cnt hf.count wF wF W3 aA);have a1:=z7 ((z0U.of (S:=fun j=>j=w.heap.size+1+1) a5.less));have aZ:=z7 aM;obtain⟨A,a8⟩:=zN f.b.length;have U:=aB.o;rw[<-a8]at U ⊢;have aB:=z7 U;have aH:=z7 a8;have HF:=z7 hf;have aX:=z7 aR;have HB:=z7 hb;have aS:decide (f.cnt<f.count/\0<l.length/\A<=500)=true:=wQ (by rw[a8];exact hm);clear hx hn hc aO aM a5 aA U a8 hf aR hb hm a9
 go_enter_defers func26,ntmps26
 go_upto_region 3 with fail
 refine z0s aZ.o ?_;go_wp2_with fail;refine aB.o.mono ?_;rintro e w4 ⟨aT,aU,L,c4,rfl,J⟩;have a6:=a1.o.go (S':=fun j=>j=w.heap.size+1+1) aT (fun k hk=> .inl hk) (fun p hp e=>by
  simp only[wy,ou,kg]at hp;rcases hp with rfl|rfl
  .have e':w.heap.size+1=w.heap.size+1+1:=e;omega
  have e':w.heap.size=w.heap.size+1+1:=e;omega)
 have aF:=z7 (z0B (a6.get 1 rfl) (n:=12) rfl);have aG:=z7 (z0y (a6.get 1 rfl));obtain⟨W5,a7,aL⟩:=(a6.lay (K':= [(w.heap.size+1,.cells #[.int .u16 0] 37 (0,0)),(w.heap.size,.cells #[.int .u8 4,.int .u32 0,.int .u32 f.series,.int .i64 0,.int .u64 0,.int .u32 f.chunk,.int .u32 f.bits,.int .u32 f.cnt,.int .u32 f.count,.bool f.closed,.slice L A c4,.int .i64 l.length] 92 (0,0))]) 1 0 (#[.int .u8 4,.int .u32 0,.int .u32 f.series,.int .i64 0,.int .u64 0,.int .u32 f.chunk,.int .u32 f.bits,.int .u32 f.cnt,.int .u32 f.count,.bool f.closed,.slice L A c4,.int .i64 l.length]:Array Value).toList rfl rfl rfl rfl).named;have b7:z3j w.heap.size W5 (w.heap.size+1+1) []:=aU.set w.heap.size wE wF (fun k hk=>by rw[a7];exact z0p hk _ _ _);have a0:W5.ownsRow W3.heap.size 5 1 (.slice L A c4) A (z0c f.b):=j7 J fun k hk=>by
  rw[a7];exact z0p (by have h1:=(J.lt k hk).1;have h2:=a1.o.lt 1 rfl;omega) _ _ _
 have aD:=z7 a7;have a2:=z7 aL;have O:=z7 a0;have aV:w.heap.size<=W3.heap.size:=a1.o.low.size;clear aU J a6 a7 aL a0 aT;go_upto_region 4 with(refine z0e rfl 92 _ _ rfl w.heap.size 0 rfl #[.int .u8 4,.int .u32 0,.int .u32 f.series,.int .i64 0,.int .u64 0,.int .u32 f.chunk,.int .u32 f.bits,.int .u32 f.cnt,.int .u32 f.count,.bool f.closed,.slice L A c4,.int .i64 l.length] rfl aF.o aG.o z0K (by simp[Value.oneCell']) ?_)
 refine z0s aD.o ?_;obtain⟨aW,m5,c5,h5⟩:=b7;have b4:m5=0:=h5.len;subst b4;have q0:W5.cell? ⟨w.heap.size+1+1,0,none⟩=some (.slice (some aW) 0 c5):=by have h9:=z1o h5.blk 0 _ rfl;rwa [uZ]at h9
 have qf:=z0y h5.blk;have lq:=h5.lt;have k2:=z7 (a2.o.get 1 rfl);have N:=z7 (y8N f.series f.chunk f.bits f.cnt f.count f.closed L A c4 l f.b W5 ⟨by have h9:=z0d O.o;unfold RdB;rw[<-aH.o];exact h9,aH.o,HB.o⟩ wF);have I:=N.o;rw[aS]at I;have N:=z7 I;clear h5 I;obtain⟨c0,c1,c2,c3,b2,b3,c6,c7,c8,c9,b0,b1,cf⟩:=z5K (a2.o.get 1 rfl);have l5:=a2.o.lt 1 rfl;go_wp2_with fail;refine N.o.mono ?_;rintro e w6 ⟨rfl,aC⟩;have a3:=z7 (a2.o.call aC);have R:=z7 (ownsRow_below O.o aC wE);have k6:=z7 (a3.o.get 1 rfl);have aF:=z7 (z0B (a3.o.get 1 rfl) (n:=12) rfl);have aG:=z7 (z0y (a3.o.get 1 rfl));obtain⟨W7,aN,Y⟩:=(a3.o.lay (K':= [(w.heap.size+1,.cells #[.int .u16 0] 37 (0,0)),(w.heap.size,.cells #[.int .u8 4,.int .u32 0,.int .u32 f.series,.int .i64 0,.int .u64 0,.int .u32 f.chunk,.int .u32 f.bits,.int .u32 f.cnt,.int .u32 f.count,.bool f.closed,.slice L A c4,.int .i64 l.length] 92 (0,0))]) 1 0 (#[.int .u8 4,.int .u32 0,.int .u32 f.series,.int .i64 0,.int .u64 0,.int .u32 f.chunk,.int .u32 f.bits,.int .u32 f.cnt,.int .u32 f.count,.bool f.closed,.slice L A c4,.int .i64 l.length]:Array Value).toList rfl rfl rfl rfl).named;have aI:=z7 aN;have aY:=z7 Y;have e0:W7.cell? ⟨w.heap.size+1,0,none⟩=some (.int .u16 0):=by have h9:=z1o (Y.get 0 rfl) 0 _ rfl;rwa [uZ]at h9
 have ef:=z0y (Y.get 0 rfl);have le:=Y.lt 0 rfl;clear q0 qf lq aC aN Y c0 c1 c2 c3 b2 b3 c6 c7 c8 c9 b0 b1 cf l5;go_wp2_with (first|refine z0u rfl 92 _ rfl w.heap.size 0 rfl #[.int .u8 4,.int .u32 0,.int .u32 f.series,.int .i64 0,.int .u64 0,.int .u32 f.chunk,.int .u32 f.bits,.int .u32 f.cnt,.int .u32 f.count,.bool f.closed,.slice L A c4,.int .i64 l.length] (z1o k6.o) z1U z0K ?_|(refine z0e rfl 92 _ _ rfl w.heap.size 0 rfl #[.int .u8 4,.int .u32 0,.int .u32 f.series,.int .i64 0,.int .u64 0,.int .u32 f.chunk,.int .u32 f.bits,.int .u32 f.cnt,.int .u32 f.count,.bool f.closed,.slice L A c4,.int .i64 l.length] rfl aF.o aG.o z0K (by simp[Value.oneCell']) ?_;refine z5J aI.o ?_));refine tQ (f:=61) (args:= #[.pointer (some ⟨w.heap.size,0,none⟩),.pointer (some ⟨w.heap.size+1,0,none⟩)]) wH (by simp[go_sem]) ?_;refine(q5S _ _ _).mono ?_;rintro e u' w'' ⟨rfl,rfl,rfl⟩;have aE:=aY.o.set 0 rfl 0 (.int .u16 0);have g0:=z1o (aE.get 0 rfl) 0 (.int .u16 0) rfl;have g1:=aE.get 1 rfl;have b8:(W7.setCell ⟨w.heap.size+1,0,none⟩ (.int .u16 0)).ownsRow W3.heap.size 5 1 (.slice L A c4) A (z0c f.b):=j7 R.o fun k hk=>by
  have h1:=(R.o.lt k hk).1;have h2:=a1.o.lt 0 rfl;have b5:k≠w.heap.size+1:=wF
  have b6:k≠w.heap.size:=wF
  refine(z0p b5 [.int .u16 0] 0 W7).trans ?_;rw[aI.o];exact z0p b6 _ _ _
 have b9:=z0f b8 aV;refine⟨.tuple #[pcV f (.slice L A c4),.int .u16 0],?_,L,c4,rfl,b9,(aE.low.mono (fun i hi=> .inr (by have e:i=w.heap.size+1+1:=hi;omega))).toBelow⟩;have hp:pcV f (.slice L A c4)= .agg #[.int .u8 4,.int .u32 0,.int .u32 f.series,.int .i64 0,.int .u64 0,.int .u32 f.chunk,.int .u32 f.bits,.int .u32 f.cnt,.int .u32 f.count,.bool f.closed,.slice L A c4,.int .i64 l.length]:=by rw[<-aX.o];rfl
 rw[hp];exact q7O Tryz.results26 rfl g1 z1U z0K rfl (q6i g0 rfl)

/-
  The walks of a book's Take, Fits, End.
-/
import Derived.Test.YtpocjegemokjgaaGreatDoorZBkH
import Derived.Test.YtpocjegemokjgaaGreatDoorZRoA
namespace Go.Proofs.YtpocjegemokjgaaGreatDoor
open Go.Proofs.Tryz
set_option linter.all false
set_option maxRecDepth 100000
set_option maxHeartbeats 12800000
section
open Go.RowKit Go.Maps
structure Grown (w w11:World) (bb mb B:Nat) (E:List (Int×z0C)) (b:z0j) (S:Nat->Prop) (id:Nat) (X':z0C):Prop where
 blk:w11.heap[bb]? =w.heap[bb]?
 map:z9P w11 mb E
 then_:∀w12,z9P w12 mb (z1B z4p (id:Int) X' E)->w11.grownBy w12 (some mb)->∃S',z0q w12 bb mb (z1B z4p (id:Int) X' E) (b.set id X'.ser) B S'/\z0t S w w12/\∀k,S' k->S k\/w.heap.size<=k
theorem z0q.grown{w a7 a0:World}{bb mb B:Nat}{E:List (Int×z0C)}{b:z0j}{S:Nat->Prop}(h:z0q w bb mb E b B S)(id:Nat)(X X':z0C)(a1:z0P (id:Int) E=some X\/(z0P (id:Int) E=none/\∀k,X.In k->w.heap.size<=k))
  (N:Below w.heap.size w a7) {T':Nat->Prop} (a8:∀k,T' k->w.heap.size<=k) (I:z0t (fun k=>k=X.g\/k=X.sb) a7 a0) (U:∀k,X'.In k->X.In k\/T' k\/a7.heap.size<=k) (a9:z0D a0 X') (a6:z3A b id=0):Grown w a0 bb mb B E b S id X':=by
 have a2:∀k,(k=X.g\/k=X.sb)->X.In k:=fun k e=>by
  rcases e with rfl|rfl
  ·exact .inr (.inl rfl)
  ·exact .inl rfl
 have R:∀k,S k->(∀Y,z0P (id:Int) E=some Y->¬Y.In k)->a0.heap[k]? =w.heap[k]? :=fun k J hn=>by
  have aH:=(h.lo k J).2;have aI:=N.size;refine(I.block k (by omega) fun e=>?_).trans (N.block k aH);rcases a1 with O|⟨-,O⟩
  ·exact hn X O (a2 k e)
  ·have:=O k (a2 k e);omega
 have a5:∀Y,z0P (id:Int) E=some Y->¬Y.In bb/\¬Y.In mb:=fun Y hY=>⟨fun J=>((h.each _ (z1z hY)).2 bb J).2.1 rfl,fun J=>((h.each _ (z1z hY)).2 mb J).2.2 rfl⟩;have a3:=R bb h.own.1 fun Y hY=>(a5 Y hY).1;have a4:z9P a0 mb E:=h.map.same (R mb h.own.2 fun Y hY=>(a5 Y hY).2);refine⟨a3,a4,fun aL aC A=>?_⟩;have aO:=I.size;have aN:=N.size;have aR:=A.size;have aS:=(h.lo mb h.own.2).2;have aE:∀k,X'.In k->k≠mb:=fun k J e=>by
  subst e;rcases U k J with L|L|L
  ·rcases a1 with O|⟨-,O⟩
   ·exact(a5 X O).2 L
   ·have:=O k L;omega
  ·have:=a8 k L;omega
  ·omega
 have aA:z0D aL X':=a9.keep (fun k J=>A.block k (a9.lts k J) fun e=>aE k J (by simpa using e)) A.size;obtain⟨S',aF,aG⟩:=h.upd id X' aA aC (by omega) (fun k J=>by
  rcases U k J with L|L|L
  ·rcases a1 with O|⟨-,O⟩
   ·exact .inl ⟨X,O,L⟩
   ·exact .inr (O k L)
  ·exact .inr (a8 k L)
  ·exact .inr (by omega)) (fun k J aJ hn=>(A.block k (by have:=(h.lo k J).2;omega) fun e=>aJ (by simpa using e)).trans (R k J hn)) (fun hn=>by
  have L:=a6;unfold z3A at L;split at L
  ·cases L
  ·rename_i hr;have aM:b.all.length=E.length:=(by rw[h.all];simp);have aB:z0P (id:Int) b.all=none:=(by rw[h.all,z8N,hn];rfl);have:¬b.most<=b.all.length:=fun h=>hr ⟨aB,h⟩;omega)
 refine⟨S',aF,⟨A.os.trans (I.os.trans N.os),A.tape.trans (I.tape.trans N.tape),A.output.trans (I.output.trans N.output),by omega,fun k J hn=>?_⟩,aG⟩;refine(A.block k (by omega) fun e=>hn (by rw[show k=mb by simpa using e];exact h.own.2)).trans ((I.block k (by omega) fun e=>?_).trans (N.block k J));rcases a1 with O|⟨-,O⟩
 ·exact hn ((h.each _ (z1z O)).2 k (a2 k e)).1
 ·have:=O k (a2 k e);omega
theorem y3G{b:z0j}{x:z0U}{f:Fr}{l:List Bool}(h:(z1a b x f l).1=0):z3A b f.series=0:=by
 unfold z1a at h;split at h
 ·contradiction
 ·rename_i A;simpa using A
def takeB(b:z0j)(f:Fr)(l:List Bool):z0j:=b.set f.series (z5f (z0g b f.series) (z1a b (z0g b f.series) f l).2 f.closed)
def z4a(b:z0j)(f:Fr)(l:List Bool):Nat:=(z1a b (z0g b f.series) f l).1
def y6i(bb mb B:Nat)(S:Nat->Prop)(b:z0j)(f:Fr)(l:List Bool)(w:World)(e:Ending)(w':World):Prop:=
 e= .returned (.int .u16 (z4a b f l:Nat))/\((z4a b f l≠0/\Below w.heap.size w w')\/(z4a b f l=0/\∃E' S',z0q w' bb mb E' (takeB b f l) B S'/\z0t S w w'/\∀k,S' k->S k\/w.heap.size<=k))
theorem q3a(bb mb B:Nat)(E:List (Int×z0C))(b:z0j)(S:Nat->Prop)(f:Fr)(a:Option Addr)(n c:Nat)(l:List Bool)(hf:f.Ok)(b5:f.n=(l.length:Nat))(b4:n=f.b.length)(hl:l.length<=1000000)(N:(z0g b f.series).done.length<=1000000000)(w:World)(h:z0q w bb mb E b B S)(b8:z0r w a n c l f.b)(hT:z1u w):
  Calls prog 51 #[.pointer (some ⟨bb,0,none⟩),frV f (.slice a n c)] w (y6i bb mb B S b f l w):=by
 have I:=z7 ((Loc.start w).new (.cells (j9 f (.slice a n c)) 51));have H:=z7 h;have aS:=z7 b8;have HT:=z7 hT;have R:=z7 N;have a8:=z7 (z9e bb mb B E b S f.series hf.series _ (h.low I.o.low));have a9:=z7 (fun X (N:X.done.length<=1000000000) w' h1 h2 h3 h4=>y1w bb mb B E b S X f a n c l hf b5 b4 hl N w' h1 h2 h3 h4);have a5:=hf.series;obtain⟨F,hF⟩:=zN f;have c5:=z7 hF;rw[<-hF]at I a8 a9 aS a5 R ⊢;obtain⟨kind,epoch,series,ck,pb,pc,cnt,closed,sum,fb,fn⟩:=F;unfold frV j9 at a9 ⊢;unfold j9 at I a8;simp only at I a8 a9 a5 ⊢;clear h b8 hT N hF hf b5 b4;go_enter func51,ntmps51;obtain⟨f0,f1,f2,f3,f4,f5,f6,f7,f8,f9,aB,ff⟩:=z0o (I.o.get 0 rfl);go_wp2_with fail;refine a8.o.mono ?_;rintro e w2 ⟨X,rfl,hX,aC,hb,hw⟩;have J:=z7 (I.o.call hb);have aM:=a9.o X (by have:=R.o;rw[<-aC,X.done_len]at this;exact this) w2 (H.o.low J.o.low) hX (aS.o.low J.o.low) (HT.o.low J.o.low);rw[aC]at aM;have HB:=z7 aM;have aA:=z7 hX;have aX:=z7 aC;have aV:=z7 hw;have bW:=z7 hb;clear hX aC hb hw aM f0 f1 f2 f3 f4 f5 f6 f7 f8 f9 aB ff;obtain⟨f0,f1,f2,f3,f4,f5,f6,f7,f8,f9,aB,ff⟩:=z0o (J.o.get 0 rfl);have l1:=J.o.lt 0 rfl;obtain⟨BR,aJ⟩:=zN (z1a b (z0g b series) ⟨kind,epoch,series,ck,pb,pc,cnt,closed,sum,fb,fn⟩ l);have L:=z7 aJ;unfold z7b at HB;rw[<-aJ]at HB;obtain⟨er,P⟩:=BR;simp only at HB;clear aJ;go_wp2_with fail;refine HB.o.mono ?_
 rintro e w3 ⟨a4,⟨bA,rfl⟩|⟨aN,y,T',rfl,bH,bG,bE,bF⟩⟩
 ·have Y:=z7 (J.o.call a4);have hd:((er:Int)==0)=false:=beq_false_of_ne (by omega);have bL:=z7 bA;clear bA a4 HB;go_wp2_with (refine z0f rfl _ _ _ rfl w3.heap.size 0 rfl (z1K.vals false).toArray rfl (by exact z0w (j8 w3 _) rfl) (by exact z0y (j8 w3 _)) z0S (z1K.one false) ?_;rw[z3x _ _ _ _ (by rfl)]);go_ret;have a7:z4a b ⟨kind,epoch,series,ck,pb,pc,cnt,closed,sum,fb,fn⟩ l=er:=by unfold z4a;rw[<-L.o]
  exact⟨by rw[a7];rfl,.inl ⟨by rw[a7];exact bL.o,(Y.o.call (q5 _ _)).low⟩⟩
 ·have Y:=z7 (J.o.call a4);have hd:((er:Int)==0)=true:=by rw[aN];rfl
  have aI:=z7 aN;have bS:=z7 bH;have bR:=z7 bG;have bO:=z7 bE;have a1:=z7 bF;have bN:=z7 (aA.o.low a4);clear aN bH bG bE bF a4 HB;obtain⟨W4,a2,aY⟩:=(Y.o.new (.cells (y.vals closed).toArray 100)).named;have aD:z0D W4 X:=by rw[a2];exact bN.o.low (q5 _ _)
  have aH:y.Ok T' W4:=bR.o.next fun k A=>by rw[a2];exact(q5 w3 _).block k (a1.o k A).2
  have a3:∀k,X.In k->k<w2.heap.size:=fun k A=>aA.o.lts k A;have bM:=z7 a2;have a0:=z7 aY;have b7:=z7 (y8z X y closed T' (by have:=R.o;rw[<-aX.o,X.done_len]at this;exact this) W4 aD aH (fun k A=>⟨by have:=(a1.o k A).2;rw[a2];simp;omega,by have:=(a1.o k A).1;have:=a3 X.sb (.inl rfl);omega,by have:=(a1.o k A).1;have:=a3 X.g (.inr (.inl rfl));omega⟩) bO.o);obtain⟨bT,bU,bV, -⟩:=z0o (Y.o.get 0 rfl);have bD:=Y.o.lt 0 rfl;clear a2 aY aD aH a3 f0 f1 f2 f3 f4 f5 f6 f7 f8 f9 aB ff;go_upto_region 3 with(refine z0f rfl _ _ _ rfl w3.heap.size 0 rfl (y.vals closed).toArray rfl (by exact z0w (j8 w3 _) rfl) (by exact z0y (j8 w3 _)) z0S (y.one closed) ?_;rw[z3x _ _ _ _ (by rfl)])
  refine z0G bM.o ?_;obtain⟨p0,bB⟩:=zN w3.heap.size;rw[<-bB]at a0 ⊢;clear bB bT bU bV bD l1;have bC:=a0.o.get 0 rfl;go_wp2_with (refine z0J rfl 100 _ rfl p0 0 rfl _ (z1X bC) z3j z0S ?_);refine b7.o.mono ?_;rintro e w5 ⟨rfl,X',aG,a6,aL,aO,aF⟩;have HG:=z7 (H.o.grown series X X' (by
   rcases aV.o with h|⟨h1,h2⟩
   ·exact .inl h
   ·exact .inr ⟨h1,fun k A=>by have:=h2 k A;have:=I.o.low.size;omega⟩) a0.o.low (fun k A=>by have:=(a1.o k A).1;have:=J.o.low.size;omega) aO aF aL (by
   have h1:=y3G (b:=b) (x:=z0g b series) (f:=⟨kind,epoch,series,ck,pb,pc,cnt,closed,sum,fb,fn⟩) (l:=l) (by rw[<-L.o];exact aI.o);exact h1))
  have c6:=z7 aL;have aU:=z7 a6;have aZ:∀k,(k=X.g\/k=X.sb)->k<w2.heap.size:=fun k A=>by
   rcases A with rfl|rfl
   ·exact aA.o.lts _ (.inr (.inl rfl))
   ·exact aA.o.lts _ (.inl rfl)
  have aE:w5.heap[w.heap.size]? =some (.cells #[.int .u8 kind,.int .u32 epoch,.int .u32 series,.int .u32 ck,.int .u32 pb,.int .u32 pc,.int .u32 cnt,.bool closed,.int .u64 sum,.slice a n c,.int .i64 fn] 51 (0,0)):=(aO.block _ (a0.o.lt 1 rfl) (fun e=>by
   have A:X.In w.heap.size:=by
    rcases e with e|e
    ·exact .inr (.inl e)
    ·exact .inl e
   rcases aV.o with h|⟨h1,h2⟩
   ·have:=(H.o.lo _ ((H.o.each _ (z1z h)).2 _ A).1).2;omega
   ·have:=h2 _ A;have:=I.o.lt 0 rfl;omega)).trans (a0.o.get 1 rfl)
  have aT:=z7 aE;have aR:=z7 (HG.o.blk.trans H.o.blk);have bX:E.length<maxLen:=by have:=H.o.few;unfold maxLen;omega
  rw[<-aG];clear aG a6 aL aO aF b7 bC aE aZ;go_wp2_with fail;refine q6 7 32 (fun D v w'=>Below w5.heap.size w5 w') (Below.refl _ _).drew ?_;simp only[z0v];iterate 7 (refine q8.rd (e:=?_) (fun D v w' hD hS=>?_) ?_;rotate_left;(have aW:=(hS.block _ (Array.getElem?_eq_some_iff.1 aR.o).1).trans aR.o;obtain⟨b0,b1,b2,bf⟩:=cells3 aW;have lb:=(Array.getElem?_eq_some_iff.1 aW).1;have b3:=(hS.block _ (Array.getElem?_eq_some_iff.1 aT.o).1).trans aT.o;obtain⟨f0,f1,f2,f3,f4,f5,f6,f7,f8,f9,aB,ff⟩:=z0o b3;have lf:=(Array.getElem?_eq_some_iff.1 b3).1;clear hS hD;go_simp;try with_reducible rfl);go_simp)
  refine q8.fin (fun vv w6 hS=>?_);have bI:=z7 (HG.o.map.low hS);have O:=z7 hS;clear hS;go_wp2_with (at_mapUpdate;refine z3U z5a rfl _ _ _ 120 rfl 92 underlying120 rfl bI.o bX (series:Int) rfl (z8E a5) X' rfl rfl ?_;intro w7 b9 b6 bY;have bJ:=z7 b9;have U:=z7 b6;clear b9 b6 bY);go_ret;have a7:z4a b ⟨kind,epoch,series,ck,pb,pc,cnt,closed,sum,fb,fn⟩ l=er:=by unfold z4a;rw[<-L.o]
  have bZ:takeB b ⟨kind,epoch,series,ck,pb,pc,cnt,closed,sum,fb,fn⟩ l=b.set series X'.ser:=by
   unfold takeB;rw[<-L.o,aU.o,bS.o,aX.o]
  obtain⟨S',h1,h2,h3⟩:=HG.o.then_ w7 bJ.o ⟨U.o.os.trans O.o.os,U.o.tape.trans O.o.tape,U.o.output.trans O.o.output,Nat.le_trans O.o.size U.o.size,fun k A hn=>(U.o.block k (Nat.lt_of_lt_of_le A O.o.size) hn).trans (O.o.block k A)⟩;refine⟨by rw[a7,aI.o];rfl,.inr ⟨by rw[a7];exact aI.o,z1B z4p (series:Int) X' E,S',?_,h2,h3⟩⟩;rw[bZ];exact h1
structure FiS (W:World) (n m:Nat) (g:Option z0C) (s:z0U) (sz:Nat) (ty:TypeId) (y:Value) (R:Array Value->World->Prop) (D:Nat->Bool) (v:Nat->Value) (w':World):Prop where
 cs:CsS W n sz ty y R D v w'
 at_:D m=true->D n=false->∃X,v m= .pointer (some ⟨X.sb,0,none⟩)/\z0D w' X/\X.ser=s
theorem FiS.other{W w' A:World}{n m sz:Nat}{g:Option z0C}{s:z0U}{J:TypeId}{y:Value}{R:Array Value->World->Prop}{D:Nat->Bool}{v:Nat->Value}(h:FiS W n m g s sz J y R D v w')(k:Nat)(I:k≠n)(U:k≠n+1)(Y:k≠n+2)(h4:k≠n+4)(h5:k≠n+5)(hm:k≠m)(hb:Below w'.heap.size w' A):FiS W n m g s sz J y R (mark D k) v A:=
 ⟨h.cs.other k I U Y h4 h5 hb,fun e B=>by
  rw[q9 hm]at e;rw[q9 I]at B;obtain⟨X,L,N,O⟩:=h.at_ e B;exact⟨X,L,N.low hb,O⟩⟩
theorem q3q(bb mb B:Nat)(E:List (Int×z0C))(b:z0j)(S:Nat->Prop)(f:Fr)(a:Option Addr)(n c:Nat)(l:List Bool)(hf:f.Ok)(a9:f.n=(l.length:Nat))(a8:n=f.b.length)(hl:l.length<=1000000)(J:(z0g b f.series).done.length<=1000000000)(w:World)(h:z0q w bb mb E b B S)(aB:z0r w a n c l f.b)(hT:z1u w):
  Calls prog 72 #[.pointer (some ⟨bb,0,none⟩),frV f (.slice a n c)] w fun e w'=>e= .returned (.int .u16 (z4a b f l:Nat))/\Below w.heap.size w w':=by
 have Y:=z7 ((Loc.start w).new (.cells (j9 f (.slice a n c)) 51));have H:=z7 h;have a5:=z7 aB;have HT:=z7 hT;have a0:=z7 J;have a2:=z7 (fun w' h=>z9e bb mb B E b S f.series hf.series w' h);have U:=z7 (fun X (J:X.done.length<=1000000000) w' h1 h2 h3 h4=>y1w bb mb B E b S X f a n c l hf a9 a8 hl J w' h1 h2 h3 h4);have a1:=hf.series;obtain⟨F,hF⟩:=zN f;have aL:=z7 hF;rw[<-hF]at Y a2 U a5 a1 a0 ⊢;obtain⟨kind,epoch,series,ck,pb,pc,cnt,closed,sum,fb,fn⟩:=F;unfold frV j9 at U ⊢;unfold j9 at Y;simp only at Y a2 U a1 ⊢;clear h aB hT J hF hf a9 a8;obtain⟨er,a4⟩:=zN (z4a b ⟨kind,epoch,series,ck,pb,pc,cnt,closed,sum,fb,fn⟩ l);have aF:Hid (er=(z1a b (z0g b series) ⟨kind,epoch,series,ck,pb,pc,cnt,closed,sum,fb,fn⟩ l).1):=z7 a4;rw[<-a4];clear a4;go_enter func72,ntmps72;go_upto_region 1 with fail
 obtain⟨W,hW,hL⟩:=Y.o.named;refine z0G hW ?_;have HL:=z7 hL;clear hL hW;refine q6 13 18 (fun D v w'=>FiS W 6 4 (z0P (series:Int) E) (z0g b series) 11 100 (.int .u16 (er:Nat)) (fun _ _=>True) D v w') ⟨CsS.start _ _ _ _ _ _,fun e=>by cases e⟩ ?_;simp only[z0v];iterate 4 (refine q8.rl (e:=?_) (fun D v w h=>⟨h.cs.other _ (by decide) (by decide) (by decide) (by decide) (by decide) (Below.refl _ _),h.at_⟩) (fun D v w' I A=>?_) ?_;rotate_left;(obtain⟨f0,f1,f2,f3,f4,f5,f6,f7,f8,f9,aG,ff⟩:=z0o ((HL.o.call A.cs.low).get 0 rfl);have l1:=(HL.o.call A.cs.low).lt 0 rfl;clear A I;go_simp;try with_reducible rfl);go_simp)
 refine q8.re (fun D v w' I A=>?_) ?_
 ·have HZ:=z7 A;clear A I;go_simp;go_at_call 24;refine(a2.o w' (H.o.low (HL.o.call HZ.o.cs.low).low)).mono ?_;rintro e aJ ⟨X,rfl,hX,O,hb, -⟩;exact⟨(HZ.o.cs.other 4 (by decide) (by decide) (by decide) (by decide) (by decide) hb).value 4 _ (by decide) (by decide) (by decide) (by decide),fun _ _=>⟨X,z0p _ _ _,hX,O⟩⟩
 go_simp;iterate 1 (refine q8.rl (e:=?_) (fun D v w h=>⟨h.cs.other _ (by decide) (by decide) (by decide) (by decide) (by decide) (Below.refl _ _),h.at_⟩) (fun D v w' I A=>?_) ?_;rotate_left;(obtain⟨f0,f1,f2,f3,f4,f5,f6,f7,f8,f9,aG,ff⟩:=z0o ((HL.o.call A.cs.low).get 0 rfl);have l1:=(HL.o.call A.cs.low).lt 0 rfl;clear A I;go_simp;try with_reducible rfl);go_simp)
 refine q8.re (fun D v w' I A=>?_) ?_
 ·obtain⟨X,aO,hX,O⟩:=A.at_ (I.pre 4 (by kernel_rfl)) I.self;have L:=(HL.o.call A.cs.low).low;have R:=U.o X (by have:=a0.o;rw[<-O,X.done_len]at this;exact this) w' (H.o.low L) hX (a5.o.low L) (HT.o.low L);rw[O]at R;unfold z7b at R;rw[<-aF.o]at R;have HB:=z7 R;have HZ:=z7 A;have d6:=z7 I.self;clear A I hX O L R;go_simp;go_at_call 102;refine HB.o.mono ?_;rintro e aJ ⟨a7,⟨aN,rfl⟩|⟨aH,y,T',rfl,aU,aT,aR,aS⟩⟩
  ·exact⟨HZ.o.cs.call d6.o a7 (z1K.vals false).toArray (fun _=>False) rfl (z1K.one false) (fun _ _=>trivial) (fun k hk=>hk.elim),fun _ e=>by rw[z1L]at e;cases e⟩
  ·have h9:=HZ.o.cs.call d6.o a7 (y.vals closed).toArray (fun _=>False) rfl (y.one closed) (fun _ _=>trivial) (fun k hk=>hk.elim);have e9:Value.int .u16 (er:Int)= .int .u16 0:=(by rw[aH];rfl);rw[e9]at h9 ⊢;exact⟨h9,fun _ e=>by rw[z1L]at e;cases e⟩
 go_simp;refine q8.re (fun D v w' I A=>?_) ?_
 ·have d:=I.pre 6 (by kernel_rfl);have N:=z7 (A.cs.move d);clear A I;go_simp;exact⟨N.o,fun _ e=>by rw[q9 (by decide),d]at e;cases e⟩
 go_simp;refine q8.re (fun D v w' I A=>?_) ?_
 ·obtain⟨d,hm⟩:=A.cs.m (I.pre 7 (by kernel_rfl));obtain⟨p,F,hp, -⟩:=A.cs.c d;have a3:D 11=false:=I.post 11 _ rfl (by kernel_rfl);have N:=z7 (A.cs.ext d hp a3);rw[hp]at hm;clear A I hp;go_simp;exact⟨N.o,fun _ e=>by rw[q9 (by decide),d]at e;cases e⟩
 go_simp;refine q8.rl (.int .u16 (er:Nat)) (fun D v w h=>⟨h.cs.other 9 (by decide) (by decide) (by decide) (by decide) (by decide) (Below.refl _ _),h.at_⟩) (fun D v w' I A=>?_) ?_
 ·obtain⟨d,hm⟩:=A.cs.m (I.pre 7 (by kernel_rfl));obtain⟨p,F,hp, -⟩:=A.cs.c d;rw[hp]at hm;clear A I hp;go_simp
 go_simp;refine q8.re (fun D v w' I A=>?_) ?_
 ·have a3:D 11=false:=I.post 11 _ rfl (by kernel_rfl);have N:=z7 (A.cs.make a3 (Z:= #[.slice none 0 0,.int .i64 0,.slice none 0 0,.int .i64 0,.int .i64 0,.int .i64 0,.bool false,.int .u64 0,.int .u8 0,.int .u8 0,.bool false]) rfl);have HA:=z7 A.at_;clear A I;go_simp;refine⟨N.o,fun e e'=>?_⟩;rw[q9 (by decide)]at e e';obtain⟨X,h1,h2,h3⟩:=HA.o e e';exact⟨X,by rw[z0d (by decide)];exact h1,h2.low (q5 _ _),h3⟩
 go_simp;refine q8.ca undef (fun D v w' I A=>?_) ?_
 ·have d8:=I.pre 8 (by kernel_rfl);have a6:=I.pre 10 (by kernel_rfl);obtain⟨d,he⟩:=A.cs.e d8;obtain⟨p,F,hp,aC,aI, -⟩:=A.cs.c d;have aE:=he p hp;obtain⟨g,cs,hg, -,aA,aM, -⟩:=A.cs.al a6;refine z1P _ _ _ rfl g 0 hg p aE (z0w aA (by omega)) (z0y aA) (by rw[aC];exact z0S) aI ?_;exact⟨undef,rfl,rfl,⟨A.cs.store d8 a6 hg aE aC,fun _ e=>by rw[q9 (by decide),d]at e;cases e⟩⟩
 go_simp;iterate 1 (refine q8.rl (e:=?_) (fun D v w h=>⟨h.cs.other _ (by decide) (by decide) (by decide) (by decide) (by decide) (Below.refl _ _),h.at_⟩) (fun D v w' I A=>?_) ?_;rotate_left;(clear A I;go_simp;try with_reducible rfl);go_simp)
 refine q8.fin (fun v w9 A=>?_);have hb:=A.cs.low;clear A;go_wp2;go_ret;exact⟨rfl,(HL.o.call hb).low⟩
def z0C.parts(X:z0C):List (z1r×Bool):=X.done.map (fun x=>(x,true))++ [(X.cur,false)]
def z0U.parts(s:z0U):List (z0N×Bool):=s.done.map (fun x=>(x,true))++ [(s.cur,false)]
theorem z0C.parts_ser(X:z0C):X.ser.parts=X.parts.map fun x=>(x.1.p,x.2):=by simp[z0C.parts,z0U.parts,z0C.ser]
theorem z0C.parts_len(X:z0C):X.parts.length=X.done.length+1:=by simp[z0C.parts]
theorem z0U.parts_len(s:z0U):s.parts.length=s.done.length+1:=by simp[z0U.parts]
theorem z0C.parts_cells(X:z0C):X.cells=X.parts.flatMap fun x=>x.1.vals x.2:=by simp[z0C.parts,z0C.cells,List.flatMap_append,List.flatMap_map]
theorem z6I{α:Type}(f:α->List Value)(m:Nat)(A:∀a,(f a).length=m):∀(l:List α) (k:Nat) (a:α),l[k]? =some a->∀j,j<m->(l.flatMap f)[k*m+j]? =(f a)[j]?
 | [],k,a,h,j,hj=>by simp at h
 | x::l,0,a,h,j,hj=>by
  simp only[List.getElem?_cons_zero,Option.some.injEq]at h;subst h;rw[List.flatMap_cons,List.getElem?_append_left (by rw[A];omega),Nat.zero_mul,Nat.zero_add]
 | x::l,k+1,a,h,j,hj=>by
  simp only[List.getElem?_cons_succ]at h;rw[List.flatMap_cons,List.getElem?_append_right (by rw[A,Nat.succ_mul];omega),A,<-z6I f m A l k a h j hj]
  congr 1
  rw[Nat.succ_mul];omega
theorem z0D.partAt{w:World}{X:z0C}(h:z0D w X){k:Nat}{x:z1r}{cl:Bool}(N:X.parts[k]? =some (x,cl)){o:Nat}(O:o=k*11):∀j v,(x.vals cl).toArray[j]? =some v->w.cell? ⟨X.g,o+j,none⟩=some v:=fun j v I=>by
 subst O;have L:j<11:=by
  have:=(Array.getElem?_eq_some_iff.1 I).1;simpa[z1r.vals_len]using this
 have A:=(z0e h.row).2;rcases A with A|⟨R,U,A,J⟩
 ·exact absurd A.2 (by omega)
 ·have B:=J (k*11+j) v (by rw[X.parts_cells,z6I _ 11 (fun a=>z1r.vals_len _ _) _ _ _ N j L];simpa using I);simp only[Value.slice.injEq,Option.some.injEq]at A;rw[<-A.1,y0y,Nat.zero_add]at B;exact B
theorem z0D.partOk{w:World}{X:z0C}(h:z0D w X){k:Nat}{x:z1r}{cl:Bool}(I:X.parts[k]? =some (x,cl)):x.Ok X.T w/\(cl=true->0<x.p.st.length):=by
 have A:=List.mem_of_getElem? I;unfold z0C.parts at A;rw[List.mem_append,List.mem_map,List.mem_singleton]at A;rcases A with⟨y,B,e⟩|e
 ·simp only[Prod.mk.injEq]at e;obtain⟨rfl,rfl⟩:=e;exact⟨(h.done _ B).1,fun _=>(h.done _ B).2⟩
 ·simp only[Prod.mk.injEq]at e;obtain⟨rfl,rfl⟩:=e;exact⟨h.cur,fun e=>by cases e⟩
theorem q2G(bb mb B:Nat)(E:List (Int×z0C))(b:z0j)(S:Nat->Prop)(id:Nat)(hid:id<4294967296)(I:(z0g b id).done.length<=1000000000)(w:World)(h:z0q w bb mb E b B S):
  Calls prog 103 #[.pointer (some ⟨bb,0,none⟩),.int .u32 id] w fun e w'=>e= .returned (z4z (z2v (z0g b id)))/\Below w.heap.size w w':=by
 have R:=z7 ((Loc.start w).new (.cells #[.int .u32 0,.int .u32 0,.int .u32 0] 45));have Y:=z7 (z9e bb mb B E b S id hid _ (h.low R.o.low));obtain⟨⟨D,EB,EC⟩,L⟩:∃e,e=z2v (z0g b id):=⟨_,rfl⟩;have a0:=z7 L;rw[<-L];have O:=z7 I;clear h L I;go_enter func103,ntmps103;go_wp2_with fail;refine Y.o.mono ?_;rintro e w1 ⟨X,rfl,hX,N,hb,hw⟩;have a2:=z7 (R.o.call hb);have A:=y6r X (by have:=O.o;rw[<-N,X.done_len]at this;exact this) w1 hX;rw[N,<-a0.o]at A;have a1:=z7 A;clear hX N hb hw A;go_wp2_with fail;refine a1.o.mono ?_;rintro e w2 ⟨rfl,hb⟩;have J:=z7 (a2.o.call hb);clear hb;obtain⟨p0,p1,p2,pf⟩:=cells3 (J.o.get 0 rfl);have l0:=J.o.lt 0 rfl;go_wp2;have U:=(z0K.of (S:=fun _=>False) J.o).lay (K':= [(w.heap.size,.cells #[.int .u32 D,.int .u32 EB,.int .u32 EC] 45 (0,0))]) 0 0 [.int .u32 D,.int .u32 EB,.int .u32 EC] rfl rfl rfl rfl;refine bodyPost_ret (y2Q rfl _ _ w.heap.size _ _ _ rfl (U.get 0 rfl) rfl) rfl ?_;exact⟨rfl,U.low.toBelow⟩
def toP(p:z0N)(n:Nat):Nat:=if n=0 then 0 else((z1p p.st)[n - 1]?).getD 0
theorem q4w(X:z0C)(k:Nat)(x:z1r)(cl:Bool)(J:X.parts[k]? =some (x,cl))(o:Nat)(ho:o=k*11)(n:Nat)(Y:n<=x.p.st.length)(w:World)(h:z0D w X):
  Calls prog 58 #[.pointer (some ⟨X.g,o,none⟩),.int .i64 n] w fun e w'=>e= .returned (.int .i64 (toP x.p n:Nat))/\w=w':=by
 by_cases h0:n=0
 ·subst h0;have ht:toP x.p 0=0:=rfl;rw[ht];clear h J Y ht;go_enter func58,ntmps58;go_wp2;go_ret;exact⟨rfl,rfl⟩
 ·have L:n - 1<(z1p x.p.st).length:=by unfold z1p;rw[List.length_map];omega
  obtain⟨T,U⟩:=zN (toP x.p n);have I:(z1p x.p.st)[n - 1]? =some T:=by rw[U];unfold toP;rw[if_neg h0,List.getElem?_eq_getElem L];rfl
  rw[<-U];have hc:=h.partAt J ho 2 (.slice x.ea x.p.st.length x.ec) rfl;have B:=(h.partOk J).1.ends.now;have lg:=h.lts X.g (.inr (.inl rfl));have A:=(h.partOk J).1.ok.len;obtain⟨pn,N⟩:=zN x.p.st.length;rw[<-N]at hc B Y A;rcases B.2 with⟨-,R⟩|⟨ad,cp,O,R⟩
  ·omega
  ·simp only[Value.slice.injEq,true_and]at O;have h3:=R (n - 1) (.int .i64 (T:Nat)) (by unfold z2p;rw[List.getElem?_map,I];rfl);have a3:=World.block_lt_of_cell? _ _ h3;rw[O.1]at hc;obtain⟨m,hm⟩:∃m,n=m+1:=⟨n - 1,by omega⟩;subst hm;simp only[Nat.add_sub_cancel]at h3;have a2:IntKind.i64.wrap (m:Int)=(m:Int):=(by rw[IntKind.wrap_i64];omega);have a0:(0:Int)<=m/\(m:Int)<pn:=(by omega);have a1:((m:Int)+1==0)=false:=beq_false_of_ne (by omega);clear h J Y U I B O R N L h0 A ho;go_enter func58,ntmps58;go_wp2;go_ret;exact⟨rfl,rfl⟩
theorem q1y{p:z0N}(h:p.Ok)(n:Nat):toP p n<=3504:=by
 unfold toP;split
 ·omega
 ·cases hg:(z1p p.st)[n - 1]? with
  | none=>exact Nat.zero_le _
  | some e=>
   unfold z1p at hg;rw[List.getElem?_map,Option.map_eq_some_iff]at hg;obtain⟨x,A,rfl⟩:=hg;have B:=((z3C h.rd).2.2.2.1 x (List.mem_of_getElem? A)).2.2.2.1;have I:=h.bits;show x.at_<=3504;omega
def z4j(s:z0U)(p:Nat×Nat×Nat):Option (z0N×Bool):=
 match s.parts[p.1]? with
 | none=>none
 | some (x,cl)=>if x.st.length<p.2.2\/(cl=true/\p.2.2=x.st.length)\/toP x p.2.2≠p.2.1 then none else some (x,cl)
def y6l(X:z0C)(p:Nat×Nat×Nat)(e:Ending):Prop:=
 (z4j X.ser p=none/\e= .returned (.pointer none))\/(∃x cl,X.parts[p.1]? =some (x,cl)/\z4j X.ser p=some (x.p,cl)/\p.2.2<=x.p.st.length/\e= .returned (.pointer (some ⟨X.g,p.1*11,none⟩)))
theorem y8e(X:z0C)(aJ:X.done.length<=1000000000)(L I A:Nat)(h1:L<4294967296)(h2:I<4294967296)(h3:A<4294967296)(w:World)(h:z0D w X):
  Calls prog 54 #[.pointer (some ⟨X.sb,0,none⟩),z4z (L,I,A)] w fun e w'=>y6l X (L,I,A) e/\Below w.heap.size w w':=by
 have aB:=z7 ((Loc.start w).new (.cells #[.int .u32 L,.int .u32 I,.int .u32 A] 45));have HX:=z7 h;have aU:IntKind.u64.wrap (L:Int)=(L:Int):=by rw[IntKind.wrap_u64];omega
 have aN:IntKind.u64.wrap ((X.done.length:Int)+1)=((X.done.length:Int)+1):=by rw[IntKind.wrap_u64];omega
 have a9:=X.parts_len;obtain⟨n,hn⟩:=zN X.done.length;rw[<-hn]at aN a9 aJ;have HN:=z7 hn;by_cases hc:L<=n
 ·obtain⟨⟨x,cl⟩,O⟩:∃y,X.parts[L]? =some y:=⟨_,List.getElem?_eq_getElem (by omega)⟩;have aF:=z7 (fun(hn:A<=x.p.st.length) w' h'=>q4w X L x cl O _ rfl A hn w' h');have aO:=((h.partOk O).1).ok.len;have a7:z4j X.ser (L,I,A)=if x.p.st.length<A\/(cl=true/\A=x.p.st.length)\/toP x.p A≠I then none else some (x.p,cl):=by
   unfold z4j;rw[X.parts_ser,List.getElem?_map,O];rfl
  obtain⟨pn,U⟩:=zN x.p.st.length;obtain⟨T,hT⟩:=zN (toP x.p A);rw[<-U,<-hT]at aF;rw[<-U,<-hT]at a7;rw[<-U]at aO;obtain⟨J,a3⟩:=zN (decide (pn<A\/(cl=true/\A=pn)\/T≠I));have aR:T<=3504:=by rw[hT];exact q1y ((h.partOk O).1).ok A
  have d1:decide ((n:Int)+1<=(L:Int))=false:=decide_eq_false (by omega);have aT:(L:Int)<n+1:=by omega
  have aV:IntKind.u64.wrap (pn:Int)=(pn:Int):=by rw[IntKind.wrap_u64];omega
  have aX:IntKind.u64.wrap (A:Int)=(A:Int):=by rw[IntKind.wrap_u64];omega
  have aY:IntKind.i64.wrap (A:Int)=(A:Int):=by rw[IntKind.wrap_i64];omega
  have aZ:IntKind.u64.wrap (T:Int)=(T:Int):=by rw[IntKind.wrap_u64];omega
  have aD:IntKind.u64.wrap (I:Int)=(I:Int):=by rw[IntKind.wrap_u64];omega
  have a1:=z7 O;have aE:=z7 a7;have aC:=z7 U;have B:=z7 a3;clear h a9 hn hc O a7 U hT a3;go_enter func54,ntmps54;go_upto_region 1 with fail
  obtain⟨W,hW,hL⟩:=aB.o.named;refine z0G hW ?_;have HL:=z7 hL;clear hL hW;obtain⟨p0,p1,p2,pf⟩:=cells3 (HL.o.get 0 rfl);have l0:=HL.o.lt 0 rfl;have N:=HX.o.low HL.o.low;obtain⟨s0,s1,s2,sf⟩:=N.cells;rw[<-HN.o]at s0;have ls:=N.lts X.sb (.inl rfl);have lg:=N.lts X.g (.inr (.inl rfl));have c2:=N.partAt a1.o rfl 2 (.slice x.ea x.p.st.length x.ec) rfl;have aH:=N.partAt a1.o rfl 10 (.bool cl) rfl;rw[<-aC.o]at c2;clear N;go_quiet (fail)
  go_wp2_with fail;go_quiet (fail)
  go_upto_region 5 with fail
  refine q4u (w0:=W) (z0k (Below.refl _ _)) (fun W2 aI=>?_);have a0:=z7 (HL.o.call aI);clear p0 p1 p2 pf l0 s0 s1 s2 sf ls lg c2 aH aI;obtain⟨p0,p1,p2,pf⟩:=cells3 (a0.o.get 0 rfl);have l0:=a0.o.lt 0 rfl;have N:=HX.o.low a0.o.low;have lg:=N.lts X.g (.inr (.inl rfl));have aH:=N.partAt a1.o rfl 10 (.bool cl) rfl;have aL:=z7 N;clear N
  go_cut[59] (fun v wx=>v= .bool J/\Hid (Below W2.heap.size W2 wx))
  case first=>
   by_cases t1:pn<A
   ·have e1:decide ((pn:Int)<(A:Int))=true:=decide_eq_true (by omega);have Y:J=true:=(by rw[B.o];exact decide_eq_true (.inl t1));go_quiet (fail)
    go_wp2;go_meet
    exact⟨by rw[Y],z7 (z0k (Below.refl _ _))⟩
   ·have e1:decide ((pn:Int)<(A:Int))=false:=decide_eq_false (by omega);by_cases t2:cl=true/\A=pn
    ·obtain⟨rfl,aA⟩:=t2;have e2:((A:Int)==(pn:Int))=true:=(by rw[aA];simp);have R:=z7 aA;clear aA;have Y:J=true:=(by rw[B.o];exact decide_eq_true (.inr (.inl ⟨rfl,R.o⟩)));go_quiet (fail)
     go_wp2;go_meet
     exact⟨by rw[Y],z7 (z0k (Below.refl _ _))⟩
    ·have R:=z7 t2;have a2:=z7 (fun w' (hb:Below W2.heap.size W2 w')=>aF.o (by omega) w' (aL.o.low hb));have aS:¬pn<A:=t1;clear t2;cases cl with
     | true=>
      have e2:((A:Int)==(pn:Int))=false:=beq_false_of_ne (fun h=>R.o ⟨rfl,by omega⟩);by_cases t3:T=I
      ·have e3:((T:Int) !=(I:Int))=false:=(by rw[t3];simp);have a6:=z7 t3;clear t3;have Y:J=false:=(by rw[B.o];exact decide_eq_false (fun h=>by rcases h with h|h|h<;>first|omega|exact absurd h R.o|exact absurd a6.o h));go_quiet ((go_at_call 58;exact Calls.quiet_of_same ((a2.o _ (z0k (Below.refl _ _))).mono fun e w' h=>⟨h.1,h.2.symm⟩)))
       go_wp2;go_meet
       exact⟨by rw[Y],z7 (z0k (Below.refl _ _))⟩
      ·have e3:((T:Int) !=(I:Int))=true:=(by rw[bne_iff_ne];omega);have Y:J=true:=(by rw[B.o];exact decide_eq_true (.inr (.inr t3)));go_quiet ((go_at_call 58;exact Calls.quiet_of_same ((a2.o _ (z0k (Below.refl _ _))).mono fun e w' h=>⟨h.1,h.2.symm⟩)))
       go_wp2;go_meet
       exact⟨by rw[Y],z7 (z0k (Below.refl _ _))⟩
     | false=>
      by_cases t3:T=I
      ·have e3:((T:Int) !=(I:Int))=false:=(by rw[t3];simp);have a6:=z7 t3;clear t3;have Y:J=false:=(by rw[B.o];exact decide_eq_false (fun h=>by rcases h with h|h|h<;>first|omega|exact absurd h R.o|exact absurd a6.o h));go_quiet ((go_at_call 58;exact Calls.quiet_of_same ((a2.o _ (z0k (Below.refl _ _))).mono fun e w' h=>⟨h.1,h.2.symm⟩)))
       go_wp2;go_meet
       exact⟨by rw[Y],z7 (z0k (Below.refl _ _))⟩
      ·have e3:((T:Int) !=(I:Int))=true:=(by rw[bne_iff_ne];omega);have Y:J=true:=(by rw[B.o];exact decide_eq_true (.inr (.inr t3)));go_quiet ((go_at_call 58;exact Calls.quiet_of_same ((a2.o _ (z0k (Below.refl _ _))).mono fun e w' h=>⟨h.1,h.2.symm⟩)))
       go_wp2;go_meet
       exact⟨by rw[Y],z7 (z0k (Below.refl _ _))⟩
  case rest=>
   obtain⟨rfl,a8⟩:=hcut;have a4:=(a0.o.call a8.o).low;cases J with
   | true=>
    have a5:Hid (z4j X.ser (L,I,A)=none):=z7 (by rw[aE.o,if_pos (of_decide_eq_true B.o.symm)]);clear a8;go_wp2;go_ret;exact⟨.inl ⟨a5.o,rfl⟩,a4⟩
   | false=>
    have hn:=of_decide_eq_false B.o.symm;have aG:Hid (z4j X.ser (L,I,A)=some (x.p,cl)):=z7 (by rw[aE.o,if_neg hn]);have aM:Hid (A<=x.p.st.length):=z7 (by rw[<-aC.o];exact Nat.le_of_not_lt fun h=>hn (.inl h));clear a8 hn;go_wp2;go_ret;exact⟨.inr ⟨x,cl,a1.o,aG.o,aM.o,rfl⟩,a4⟩
 ·have a5:Hid (z4j X.ser (L,I,A)=none):=z7 (by
   unfold z4j;rw[X.parts_ser,List.getElem?_map,List.getElem?_eq_none (by simp only;omega)];rfl)
  have d1:decide ((n:Int)+1<=(L:Int))=true:=decide_eq_true (by omega);clear h a9 hn hc;go_enter func54,ntmps54;go_upto_region 1 with fail
  obtain⟨W,hW,hL⟩:=aB.o.named;refine z0G hW ?_;have HL:=z7 hL;clear hL hW;obtain⟨p0,p1,p2,pf⟩:=cells3 (HL.o.get 0 rfl);have l0:=HL.o.lt 0 rfl;have N:=HX.o.low HL.o.low;obtain⟨s0,s1,s2,sf⟩:=N.cells;rw[<-HN.o]at s0;have ls:=N.lts X.sb (.inl rfl);clear N;go_quiet (fail)
  go_wp2;go_ret;exact⟨.inl ⟨a5.o,rfl⟩,z0k HL.o.low⟩
end
section
open Go.RowKit
def z9g(s:Nat)(one:Bool):Nat:=(s*1000000007+(if one then 2 else 1))%2305843009213693951
def z3r(s:Nat)(l:List Bool):Nat:=l.foldl z9g s
theorem q0U(s:Nat)(one:Bool):z9g s one<2305843009213693951:=by
 unfold z9g;exact Nat.mod_lt _ (by omega)
theorem y7G(s:Nat)(l:List Bool)(b:Bool):z3r s (l++ [b])=z9g (z3r s l) b:=by unfold z3r;rw[List.foldl_append,List.foldl_cons,List.foldl_nil]
theorem y7e(s:Nat)(b:Bool)(l:List Bool):z3r s (b::l)=z3r (z9g s b) l:=by unfold z3r;rw[List.foldl_cons]
theorem y5u(l:List Bool):∀(s:Nat),s<2305843009213693951->z3r s l<2305843009213693951:=by
 induction l with
 | nil=>intro s h;exact h
 | cons b l ih=>intro s h;rw[y7e];exact ih _ (q0U s b)
theorem q5g(h l:Nat)(Y:h<18446744073709551616)(O:l<18446744073709551616)(w:World):
  Calls prog 195 #[.int .u64 h,.int .u64 l] w fun e w'=>e= .returned (.int .u64 (((h*18446744073709551616+l)%2305843009213693951:Nat):Int))/\Below w.heap.size w w':=by
 obtain⟨H,A⟩:=zN (h%2305843009213693951);have R:(h:Int).tmod 2305843009213693951=(H:Int):=by rw[A];exact Int.ofNat_tmod h 2305843009213693951
 have U:(h:Int)%2305843009213693951=(H:Int):=by rw[A];simp
 have B:H<2305843009213693951:=by rw[A];exact Nat.mod_lt _ (by decide)
 have J:(h*18446744073709551616+l)%2305843009213693951=(H*18446744073709551616+l)%2305843009213693951:=by
  rw[A]
  conv=>lhs;rw[Nat.add_mod,Nat.mul_mod]
  conv=>rhs;rw[Nat.add_mod,Nat.mul_mod,Nat.mod_mod]
 rw[J];have I:=z7 (q1H H l B O);obtain⟨r,L⟩:=zN ((H*18446744073709551616+l)%2305843009213693951);rw[<-L]at I ⊢;clear L J A;go_enter func195,ntmps195;go_wp2_with fail;refine(I.o _).mono ?_;rintro e w1 ⟨⟨q,rfl⟩,hb⟩;have N:=z7 hb;clear hb;go_wp2;go_ret;exact⟨rfl,N.o⟩
theorem q2J(a b:Nat)(J:a<18446744073709551616)(hb:b<18446744073709551616)(w:World):
  Calls prog 184 #[.int .u64 a,.int .u64 b] w fun e w'=>e= .returned (.int .u64 ((a*b%2305843009213693951:Nat):Int))/\Below w.heap.size w w':=by
 have I:=z7 (q4J a b J hb);have A:a*b/18446744073709551616<18446744073709551616:=by
  rw[Nat.div_lt_iff_lt_mul (by decide)];exact Nat.mul_lt_mul'' J hb
 have B:=z7 (q5g (a*b/18446744073709551616) (a*b%18446744073709551616) A (Nat.mod_lt _ (by decide)));rw[show a*b/18446744073709551616*18446744073709551616+a*b%18446744073709551616=a*b from Nat.div_add_mod' _ _]at B;obtain⟨r,O⟩:=zN (a*b%2305843009213693951);obtain⟨p,L⟩:=zN (a*b/18446744073709551616);obtain⟨q,N⟩:=zN (a*b%18446744073709551616);rw[<-O]at B ⊢;rw[<-L,<-N]at B I;clear O L N A;go_enter func184,ntmps184;go_wp2_with fail;refine(I.o _).mono ?_;rintro e U ⟨rfl,rfl⟩;go_wp2_with fail;refine(B.o _).mono ?_;rintro e Y ⟨rfl,hb⟩;have R:=z7 hb;clear hb;go_wp2;go_ret;exact⟨rfl,R.o⟩
theorem q4v(a b:Nat)(ha:a<18446744073709551616)(hb:b<18446744073709551616)(w:World):
  Calls prog 183 #[.int .u64 a,.int .u64 b] w fun e w'=>e= .returned (.int .u64 (((a+b)%2305843009213693951:Nat):Int))/\w'=w:=by
 obtain⟨A,J⟩:=zN (a%2305843009213693951);obtain⟨B,L⟩:=zN (b%2305843009213693951);obtain⟨S,O⟩:=zN (A+B);obtain⟨r,N⟩:=zN ((a+b)%2305843009213693951);have R:(a:Int).tmod 2305843009213693951=(A:Int):=by rw[J];exact Int.ofNat_tmod a 2305843009213693951
 have U:(a:Int)%2305843009213693951=(A:Int):=by rw[J];simp
 have Y:(b:Int).tmod 2305843009213693951=(B:Int):=by rw[L];exact Int.ofNat_tmod b 2305843009213693951
 have b2:(b:Int)%2305843009213693951=(B:Int):=by rw[L];simp
 have hs:IntKind.u64.wrap ((A:Int)+B)=(S:Int):=by rw[z3f (by omega) (by omega)];omega
 have I:r=S%2305843009213693951:=by rw[N,O,J,L,<-Nat.add_mod]
 have c1:(S:Int).tmod 2305843009213693951=(r:Int):=by rw[I];exact Int.ofNat_tmod S 2305843009213693951
 have c2:(S:Int)%2305843009213693951=(r:Int):=by rw[I];simp
 rw[<-N];clear J L O N I;go_enter func183,ntmps183;go_wp2;go_ret;exact⟨rfl,rfl⟩
theorem q3b(s:Nat)(one:Bool)(hs:s<18446744073709551616)(w:World):
  Calls prog 162 #[.int .u64 s,.bool one] w fun e w'=>e= .returned (.int .u64 (z9g s one:Nat))/\Below w.heap.size w w':=by
 have R:=z7 (q2J s 1000000007 hs (by decide));have B:s*1000000007%2305843009213693951<18446744073709551616:=Nat.lt_trans (Nat.mod_lt _ (by decide)) (by decide);have O:=z7 (fun n (Y:n<18446744073709551616)=>q4v (s*1000000007%2305843009213693951) n B Y);have I:∀n,(s*1000000007%2305843009213693951+n)%2305843009213693951=(s*1000000007+n)%2305843009213693951:=fun n=>by rw[Nat.add_mod,Nat.mod_mod,<-Nat.add_mod]
 obtain⟨t,U⟩:=zN (s*1000000007%2305843009213693951);rw[<-U]at R O I;cases one with
 | true=>
  have N:Hid (z9g s true=(t+2)%2305843009213693951):=z7 (by rw[I];rfl);rw[N.o];have A:=z7 (O.o 2 (by decide));obtain⟨r,J⟩:=zN ((t+2)%2305843009213693951);rw[<-J]at A ⊢;have a0:IntKind.u64.wrap 2=2:=by rw[IntKind.wrap_u64];rfl
  clear J I U B;go_enter func162,ntmps162;go_wp2_with fail;refine(R.o _).mono ?_;rintro e w1 ⟨rfl,hb⟩;have L:=z7 hb;clear hb;go_wp2_with fail;refine(A.o _).mono ?_;rintro e w2 ⟨rfl,rfl⟩;go_wp2;go_ret;exact⟨rfl,L.o⟩
 | false=>
  have N:Hid (z9g s false=(t+1)%2305843009213693951):=z7 (by rw[I];rfl);rw[N.o];have A:=z7 (O.o 1 (by decide));obtain⟨r,J⟩:=zN ((t+1)%2305843009213693951);rw[<-J]at A ⊢;clear J I U B;go_enter func162,ntmps162;go_wp2_with fail;refine(R.o _).mono ?_;rintro e w1 ⟨rfl,hb⟩;have L:=z7 hb;clear hb;go_wp2_with fail;refine(A.o _).mono ?_;rintro e w2 ⟨rfl,rfl⟩;go_wp2;go_ret;exact⟨rfl,L.o⟩
theorem q4Q{b:List UInt8}{l:List Bool}(h:z0R b l){i:Nat}(J:i<l.length):(b.getD (i/8) 0).toNat/2^(7 - i%8)%2=(if l.getD i false then 1 else 0):=by
 have I:=h.len;have B:=h.at (j:=i/8) (k:=i%8) (by omega) (Nat.mod_lt _ (by decide));rw[show 8*(i/8)+i%8=i from Nat.div_add_mod i 8]at B;rw[<-B,Nat.testBit_eq_decide_div_mod_eq];have A:=Nat.mod_two_eq_zero_or_one ((b.getD (i/8) 0).toNat/2^(7 - i%8));rcases A with A|A<;>rw[A]<;>rfl
theorem y7C{l:List Bool}{i s:Nat}(A:i<l.length):z3r s (l.take (i+1))=z9g (z3r s (l.take i)) (l.getD i false):=by
 rw[List.take_add_one,<-y7G]
 congr 2
 simp[List.getD_eq_getElem?_getD,A]
theorem q3p(s:Nat)(a:Option Addr)(n c:Nat)(l:List Bool)(b:List UInt8)(hs:s<2305843009213693951)(w:World)(h:z0r w a n c l b)(hl:l.length<=549755813888):
  Calls prog 136 #[.int .u64 s,.agg #[.slice a n c,.int .i64 l.length]] w fun e w'=>e= .returned (.tuple #[.int .u64 (z3r s l:Nat),.int .u16 0])/\Below w.heap.size w w':=by
 obtain⟨N,hN⟩:=zN l.length;rw[<-hN];have a7:=z7 (z2q h.bits);have A:=z7 h.len;have aM:n<=70368744177665:=by have:=h.bits.len;have:=h.len;omega
 have aJ:N<=549755813888:=by omega
 have H:=z7 h;have HN:=z7 hN;have a2:=z7 ((Loc.start w).new (.cells #[.slice a n c,.int .i64 (N:Nat)] 49));have m1:(s:Int).tmod 2305843009213693951=(s:Int):=Int.tmod_eq_of_lt (by omega) (by omega);have m2:(s:Int)%2305843009213693951=(s:Int):=Int.emod_eq_of_lt (by omega) (by omega);have aO:Hid (s<2305843009213693951):=z7 hs;clear h hN hl;go_enter func136,ntmps136;go_wp2_with fail;have a1:=z2M a c b N _ (by have:=(H.o.low a2.o.low).rd;rw[A.o]at this;exact this) (by have:=A.o;omega) (by omega) (by omega);rw[<-A.o,HN.o,a7.o,<-HN.o]at a1;refine a1.mono ?_;rintro e w2 ⟨rfl,a3⟩;have R:=z7 (a2.o.call a3);clear a3 a1;obtain⟨c0,c1,cf⟩:=z0i (R.o.get 0 rfl);go_wp2_with fail;clear c0 c1 cf;go_loopw[0,14] (fun sv iv wr=>∃k:Nat,sv= .int .u64 (z3r s (l.take k):Nat)/\iv= .int .i64 k/\k<=N/\Hid (Loc w [(w.heap.size,.cells #[.slice a n c,.int .i64 (N:Nat)] 49 (0,0))] wr)) (fun _ iv _=>match iv with | .int _ x=>N - x.toNat|_=>0)
 case atStart=>exact⟨0,rfl,rfl,Nat.zero_le _,R⟩
 case round=>
  obtain⟨k,rfl,rfl,hk,hL⟩:=hrel;clear R;obtain⟨S,hS⟩:=zN (z3r s (l.take k));have a8:S<18446744073709551616:=by rw[hS];exact Nat.lt_trans (y5u _ _ hs) (by decide)
  rw[<-hS];have HS:=z7 hS;clear hS;obtain⟨c0,c1,cf⟩:=z0i (hL.o.get 0 rfl);by_cases hkN:k<N
  ·have d1:decide ((k:Int)<N)=true:=decide_eq_true (by omega);have a0:k<l.length:=(by have:=HN.o;omega);obtain⟨g,aT,a9,cz,hg⟩:=(H.o.low hL.o.low).cell (j:=k/8) (by have:=H.o.bits.len;have:=A.o;omega);obtain⟨z,hz⟩:=zN ((b.getD (k/8) 0).toNat);have aC:z<256:=(by rw[hz];exact(b.getD (k/8) 0).toNat_lt);rw[<-hz]at cz;obtain⟨q,hq⟩:=zN (k/8);obtain⟨m,hm⟩:=zN (7 - k%8);obtain⟨kr,a6⟩:=zN (k%8);rw[<-hq]at cz;have aF:(k:Int).tdiv 8=(q:Int):=(by rw[hq];exact Int.ofNat_tdiv k 8);have aG:(k:Int)/8=(q:Int):=(by omega);have aI:(k:Int).tmod 8=(kr:Int):=(by rw[a6];exact Int.ofNat_tmod k 8);have aH:(k:Int)%8=(kr:Int):=(by omega);have aS:IntKind.i64.wrap (7 - (kr:Int))=(m:Int):=(by rw[z0n (by omega) (by omega)];omega);have aL:m<=8:=(by omega);obtain⟨v,hv⟩:=zN (z/2^m);have aR:(z:Int)/2^m=(v:Int):=(by rw[hv];simp);have aA:v<256:=(by rw[hv];exact Nat.lt_of_le_of_lt (Nat.div_le_self _ _) aC);obtain⟨t,ht⟩:=zN (v%2);have aE:bits .and .u8 (v:Int) 1=(t:Int):=by
    have:=u8_and_nat v 1 aA (by decide);rw[Nat.and_one_is_mod]at this;rw[ht];exact this
   have B:t=if l.getD k false then 1 else 0:=by rw[ht,hv,hz,hm];exact q4Q H.o.bits a0
   obtain⟨x,hx⟩:=zN (l.getD k false);have J:=y7C (s:=s) a0;rw[<-hx]at B J;rw[<-HS.o]at J;have Y:=z7 J;have aN:q<n:=(by have:=H.o.bits.len;have:=A.o;omega);have aB:IntKind.i64.wrap ((k:Int)+1)=((k+1:Nat):Int):=z0n (by omega) (by omega);obtain⟨k',a4⟩:=zN (k+1);rw[<-a4]at aB Y;have O:k'<=N/\k<k':=(by omega);have L:=z7 (q3b S x a8);subst a9;clear hz hq hm a6 hv ht hx J a4 a0;cases x with
   | true=>
    simp only[if_true]at B;subst B;go_wp2_with fail;refine(L.o _).mono ?_;rintro e w3 ⟨rfl,I⟩;have U:=z7 (hL.o.call I);clear I;go_wp2;exact⟨⟨k',by rw[Y.o],rfl,O.1,U⟩,by show N - (k':Int).toNat<N - (k:Int).toNat;omega⟩
   | false=>
    simp only[Bool.false_eq_true,if_false]at B;subst B;go_wp2_with fail;refine(L.o _).mono ?_;rintro e w3 ⟨rfl,I⟩;have U:=z7 (hL.o.call I);clear I;go_wp2;exact⟨⟨k',by rw[Y.o],rfl,O.1,U⟩,by show N - (k':Int).toNat<N - (k:Int).toNat;omega⟩
  ·have d1:decide ((k:Int)<N)=false:=decide_eq_false (by omega);have a5:k=N:=(by omega);go_wp2;go_ret2;refine⟨?_,hL.o.low⟩;rw[HS.o,a5,HN.o,List.take_length];rfl
theorem q5V(a:Option Addr)(n c:Nat)(l:List Bool)(b:List UInt8)(w:World)(h:z0r w a n c l b)(R:l.length<=549755813888):
  Calls prog 104 #[.agg #[.slice a n c,.int .i64 l.length]] w fun e w'=>e= .returned (.tuple #[.int .u64 (z3r 0 l:Nat),.int .u16 0])/\Below w.heap.size w w':=by
 obtain⟨N,L⟩:=zN l.length;have J:=z7 (fun w' (U:z0r w' a n c l b)=>q3p 0 a n c l b (by decide) w' U R);rw[<-L]at J ⊢;have H:=z7 h;have A:=z7 ((Loc.start w).new (.cells #[.slice a n c,.int .i64 (N:Nat)] 49));obtain⟨S,O⟩:=zN (z3r 0 l);rw[<-O]at J ⊢;clear h R L O;go_enter func104,ntmps104;go_wp2_with fail;refine(J.o _ (H.o.low A.o.low)).mono ?_;rintro e Y ⟨rfl,B⟩;have I:=z7 (A.o.call B);clear B;go_wp2;go_ret2;exact⟨rfl,I.o.low⟩
end
section
open Go.RowKit Go.Maps
structure q3e (W:World) (s:z0U) (p:Nat×Nat×Nat) (D:Nat->Bool) (v:Nat->Value) (w':World):Prop where
 low:Below W.heap.size W w'
 at_:D 2=true->∃X,v 2= .pointer (some ⟨X.sb,0,none⟩)/\z0D w' X/\X.ser=s
 pt:D 4=true->∃X u,v 4=u/\z0D w' X/\X.ser=s/\y6l X p (.returned u)
 as_:D 5=true->D 4=true/\v 5=v 4
theorem q3e.other{W w' A:World}{s:z0U}{p:Nat×Nat×Nat}{D:Nat->Bool}{v:Nat->Value}(h:q3e W s p D v w')(k:Nat)(O:k≠2)(J:k≠4)(R:k≠5)(hb:Below w'.heap.size w' A):q3e W s p (mark D k) v A:=
 ⟨h.low.trans (hb.mono h.low.size),(fun e=>by
  rw[q9 O]at e;obtain⟨X,B,I,N⟩:=h.at_ e;exact⟨X,B,I.low hb,N⟩),(fun e=>by
  rw[q9 J]at e;obtain⟨X,u,L,B,I⟩:=h.pt e;exact⟨X,u,L,B.low hb,I⟩),fun e=>by rw[q9 R]at e;rw[q9 J];exact h.as_ e⟩
theorem z9c{p:z0N}(h:p.Ok)(n:Nat):toP p n<=p.l.length:=by
 unfold toP;split
 ·omega
 ·cases hg:(z1p p.st)[n - 1]? with
  | none=>exact Nat.zero_le _
  | some e=>
   unfold z1p at hg;rw[List.getElem?_map,Option.map_eq_some_iff]at hg;obtain⟨x,A,rfl⟩:=hg;exact((z3C h.rd).2.2.2.1 x (List.mem_of_getElem? A)).2.2.2.1
theorem z8A{s:z0U}{p:Nat×Nat×Nat}{x:z0N}{cl:Bool}(h:z4j s p=some (x,cl)):s.parts[p.1]? =some (x,cl)/\p.2.2<=x.st.length/\¬(cl=true/\p.2.2=x.st.length)/\toP x p.2.2=p.2.1:=by
 unfold z4j at h;split at h
 ·cases h
 ·rename_i y I B;split at h
  ·cases h
  ·rename_i A;simp only[Option.some.injEq,Prod.mk.injEq]at h;obtain⟨rfl,rfl⟩:=h;refine⟨B,Nat.le_of_not_lt fun e=>A (.inl e),fun e=>A (.inr (.inl e)),?_⟩;by_cases e:toP y p.2.2=p.2.1
   ·exact e
   ·exact absurd (.inr (.inr e)) A
def z8y(s:z0U)(p:Nat×Nat×Nat):Nat×Nat:=
 match z4j s p with
 | none=>(0,122)
 | some (x,_)=>(z3r 0 (x.l.take p.2.1),0)
theorem y2R:(prog.info? 49).map (·.size)=some 2:=by kernel_rfl
def q6b(L:List Bool)(p:Array Value)(w:World):Prop:=∃a b c,p= #[.slice a b.length c,.int .i64 (L.length:Nat)]/\z0r w a b.length c L b
theorem y7M(bb mb B:Nat)(E:List (Int×z0C))(b:z0j)(S:Nat->Prop)(id:Nat)(hid:id<4294967296)(ck R pc:Nat)(h1:ck<4294967296)(h2:R<4294967296)(h3:pc<4294967296)(a5:(z0g b id).done.length<=1000000000)(w:World)(h:z0q w bb mb E b B S):
  Calls prog 56 #[.pointer (some ⟨bb,0,none⟩),.int .u32 id,z4z (ck,R,pc)] w fun e w'=>e= .returned (.tuple #[.int .u64 ((z8y (z0g b id) (ck,R,pc)).1:Nat),.int .u16 ((z8y (z0g b id) (ck,R,pc)).2:Nat)])/\Below w.heap.size w w':=by
 have aX:=z7 ((Loc.start w).new (.cells #[.int .u32 ck,.int .u32 R,.int .u32 pc] 45));have H:=z7 h;have aG:=z7 a5;have aT:=z7 (fun w' h=>z9e bb mb B E b S id hid w' h);clear h a5;go_enter func56,ntmps56;go_upto_region 1 with fail
 obtain⟨W,hW,hL⟩:=aX.o.named;refine z0G hW ?_;have HL:=z7 hL;clear hL hW;refine q6 6 33 (fun D v w'=>q3e W (z0g b id) (ck,R,pc) D v w') ⟨(Below.refl _ _).drew,(fun e=>by cases e),(fun e=>by cases e),fun e=>by cases e⟩ ?_;simp only[z0v];iterate 2 (refine q8.rl (e:=?_) (fun D v w h=>⟨h.low,h.at_,h.pt,h.as_⟩) (fun D v w' I A=>?_) ?_;rotate_left;(clear A I;go_simp;try with_reducible rfl);go_simp)
 refine q8.re (fun D v w' I A=>?_) ?_
 ·have d4:D 4=false:=I.post 4 _ rfl (by kernel_rfl);have O:=z7 A;clear A I;go_simp;go_at_call 24;refine(aT.o w' (H.o.low (HL.o.call O.o.low).low)).mono ?_;rintro e aS ⟨X,rfl,hX,J,hb, -⟩;exact⟨O.o.low.trans (hb.mono O.o.low.size),(fun _=>⟨X,z0p _ _ _,hX,J⟩),(fun e=>by rw[q9 (by decide),d4]at e;cases e),fun e=>by rw[q9 (by decide)]at e;have:=(O.o.as_ e).1;rw[d4]at this;cases this⟩
 go_simp;iterate 1 (refine q8.rl (e:=?_) (fun D v w h=>⟨h.low,h.at_,h.pt,h.as_⟩) (fun D v w' I A=>?_) ?_;rotate_left;(obtain⟨p0,p1,p2,pf⟩:=cells3 ((HL.o.call A.low).get 0 rfl);have l0:=(HL.o.call A.low).lt 0 rfl;clear A I;go_simp;try with_reducible rfl);go_simp)
 refine q8.re (fun D v w' I A=>?_) ?_
 ·obtain⟨X,b8,hX,J⟩:=A.at_ (I.pre 2 (by kernel_rfl));have d4:=z7 I.self;have aE:=z7 (y8e X (by have:=aG.o;rw[<-J,X.done_len]at this;exact this) ck R pc h1 h2 h3 w' hX);have HX:=z7 hX;have aW:=z7 J;have O:=z7 A;clear A I hX J;go_simp;go_at_call 54;refine aE.o.mono ?_;rintro e aS ⟨a6,hb⟩;obtain⟨u,rfl⟩:∃u,e= .returned u:=by
   rcases a6 with⟨-,rfl⟩|⟨_,_, -, -, -,rfl⟩
   ·exact⟨_,rfl⟩
   ·exact⟨_,rfl⟩
  refine⟨O.o.low.trans (hb.mono O.o.low.size),(fun e=>?_),(fun _=>⟨X,u,z0p _ _ _,HX.o.low hb,aW.o,a6⟩),fun e=>?_⟩
  ·rw[q9 (by decide)]at e;rw[z0d (by decide)];obtain⟨Y,g1,g2,g3⟩:=O.o.at_ e;exact⟨Y,g1,g2.low hb,g3⟩
  ·rw[q9 (by decide)]at e;have:=(O.o.as_ e).1;rw[d4.o]at this;cases this
 go_simp;refine q8.re (fun D v w' I A=>?_) ?_
 ·have d4:=I.pre 4 (by kernel_rfl);have O:=z7 A;clear A I;go_simp;refine⟨O.o.low,(fun e=>?_),(fun e=>?_),fun _=>⟨by rw[q9 (by decide)];exact d4,by rw[z0p,z0d (by decide)]⟩⟩
  ·rw[z0d (by decide)];rw[q9 (by decide)]at e;exact O.o.at_ e
  ·rw[z0d (by decide)];rw[q9 (by decide)]at e;exact O.o.pt e
 go_simp;refine q8.fin (fun v w1 A=>?_);obtain⟨X,u,aN,hX,J,aE⟩:=A.pt rfl;have aO:=(A.as_ rfl).2;rw[aO,aN];have a3:=z7 (HL.o.call A.low);clear A aN aO;rcases aE with⟨aI,hu⟩|⟨x,cl,aF,a0,b2,hu⟩
 ·simp only[Ending.returned.injEq]at hu;subst hu;have a8:Hid (z8y (z0g b id) (ck,R,pc)=(0,122)):=z7 (by unfold z8y;rw[<-J,aI]);clear aI hX J;go_wp2;go_ret2;rw[a8.o];exact⟨rfl,a3.o.low⟩
 ·simp only[Ending.returned.injEq]at hu;subst hu;obtain⟨b5, -, -,aJ⟩:=z8A a0;have a4:=(hX.partOk aF).1;have a9:z8y (z0g b id) (ck,R,pc)=(z3r 0 (x.p.l.take R),0):=by unfold z8y;rw[<-J,a0]
  have aL:R<=x.p.l.length:=by have:=z9c a4.ok pc;simp only at aJ;omega
  have b4:=a4.ok.bits;obtain⟨N,hN⟩:=zN x.p.l.length;obtain⟨bl,aA⟩:=zN x.b.length;have hcut:=z7 (fun w' (hb:Below w1.heap.size w1 w')=>q0k x.a bl x.c x.p.l x.b 0 R w' (by rw[aA];exact(a4.next fun k hk=>hb.block k (hX.lt k hk)).rd.now) (by omega) (Nat.zero_le _) aL);rw[<-hN,List.drop_zero,Nat.sub_zero]at hcut;obtain⟨L,hL⟩:=zN (x.p.l.take R);rw[<-hL]at a9 hcut;have b6:L.length<=3504:=by rw[hL,List.length_take];omega
  have aM:=z7 (fun a' n' c' b' w' (h':z0r w' a' n' c' L b')=>q5V a' n' c' L b' w' h' (by omega));have aH:=z7 (fun w' (hb:Below w1.heap.size w1 w')=>(hX.low hb).partAt aF rfl);have b9:IntKind.i64.wrap (R:Int)=(R:Int):=by rw[IntKind.wrap_i64];omega
  have HN:=z7 hN;have aV:=z7 aA;have a8:=z7 a9;have aD:=z7 (fun w' (hb:Below w1.heap.size w1 w')=>(hX.low hb).lts X.g (.inr (.inl rfl)));clear hX J aF a0 b2 b5 aJ a4 a9 aL hN aA hL b4;go_upto_region 4 with fail
  refine q6 14 33 (fun D v w'=>CsS w1 7 2 49 (.int .u16 0) (q6b L) D v w') (CsS.start _ _ _ _ _ _) ?_;simp only[z0v];iterate 7 (refine q8.rl (e:=?_) (fun D v w h=>h.other _ (by decide) (by decide) (by decide) (by decide) (by decide) (Below.refl _ _)) (fun D v w' I A=>?_) ?_;rotate_left;(obtain⟨p0,p1,p2,pf⟩:=cells3 ((a3.o.call A.low).get 0 rfl);have l0:=(a3.o.call A.low).lt 0 rfl;have lg:=aD.o w' A.low;have c0:=aH.o w' A.low 0 (.slice x.a bl x.c) (by rw[aV.o];rfl);have c1:=aH.o w' A.low 1 (.int .i64 (N:Nat)) (by rw[HN.o];rfl);simp only[Nat.add_zero]at c0;clear A I;go_simp;try with_reducible rfl);go_simp)
  refine q8.re (fun D v w' I A=>?_) ?_
  ·have O:=z7 A;have d7:=z7 I.self;clear A I;go_simp;go_at_call 57;refine(hcut.o w' O.o.low).mono ?_;rintro e aS ⟨a',n',c',b',rfl,a7,rfl,b0,hb⟩;exact O.o.call d7.o hb #[.slice a' b'.length c',.int .i64 (L.length:Nat)] (fun k=>(Value.slice a' b'.length c').ownBlock=some k) rfl (by simp[Value.oneCell']) (fun w3 hk=>⟨a',b',c',rfl,z5l (j7 a7 fun k b1=>hk k b1) rfl b0⟩) (fun k hk=>a7.lt k hk)
  go_simp
  refine q8.re (fun D v w' I A=>?_) ?_;(focus (have d:=I.pre 7 (by kernel_rfl);have a1:=z7 (A.move d);clear A I;go_simp;exact a1.o));go_simp;refine q8.re (fun D v w' I A=>?_) ?_;(focus (obtain⟨d,hm⟩:=A.m (I.pre 8 (by kernel_rfl));obtain⟨p,F,hp, -⟩:=A.c d;have a1:=z7 (A.ext d hp (I.post 12 _ rfl (by kernel_rfl)));rw[hp]at hm;clear A I hp;go_simp;exact a1.o));go_simp;refine q8.rl (.int .u16 0) (fun D v w h=>h.other 10 (by decide) (by decide) (by decide) (by decide) (by decide) (Below.refl _ _)) (fun D v w' I A=>?_) ?_;(focus (obtain⟨d,hm⟩:=A.m (I.pre 8 (by kernel_rfl));obtain⟨p,F,hp, -⟩:=A.c d;rw[hp]at hm;clear A I hp;go_simp));go_simp;refine q8.re (fun D v w' I A=>?_) ?_;(focus (have a1:=z7 (A.make (I.post 12 _ rfl (by kernel_rfl)) (Z:= #[.slice none 0 0,.int .i64 0]) rfl);clear A I;go_simp;exact a1.o));go_simp;refine q8.ca undef (fun D v w' I A=>?_) ?_;(focus (have d2:=I.pre 9 (by kernel_rfl);have d4:=I.pre 11 (by kernel_rfl);obtain⟨d,he⟩:=A.e d2;obtain⟨p,F,hp,a0,b3, -⟩:=A.c d;have hv:=he p hp;obtain⟨g,cs,hg, -,U,aC, -⟩:=A.al d4;refine z1P _ _ _ rfl g 0 hg p hv (z0w U (by omega)) (z0y U) (by rw[a0];exact y2R) b3 ?_;exact⟨undef,rfl,rfl,A.store d2 d4 hg hv a0⟩));go_simp;iterate 1 (refine q8.rl (e:=?_) (fun D v w h=>h.other _ (by decide) (by decide) (by decide) (by decide) (by decide) (Below.refl _ _)) (fun D v w' I A=>?_) ?_;rotate_left;(clear A I;go_simp;try with_reducible rfl);go_simp)
  refine q8.fin (fun v w2 A=>?_);obtain⟨p,F,hp, -, -,hR, -⟩:=A.c rfl;obtain⟨g,cs,hg,b7,U, -,aC⟩:=A.al rfl;have aR:=(A.e rfl).2 p hp;have aB:=aC rfl;rw[aR]at aB;simp only[Value.agg.injEq]at aB;subst aB;obtain⟨a',b',c',rfl,a2⟩:=hR.now;rw[hg];have aY:=z7 (a3.o.call A.low);have aU:=z7 a2;obtain⟨q0,q1,qf⟩:=z0i U;have lq:=(Array.getElem?_eq_some_iff.1 U).1;clear A hp hR hg U aC aR a2;go_wp2_with fail;refine(aM.o a' _ c' b' w2 aU.o).mono ?_;rintro e w3 ⟨rfl,hb⟩;have aZ:=z7 (aY.o.call hb);clear hb;go_wp2;go_ret2;rw[a8.o];exact⟨rfl,aZ.o.low⟩
end

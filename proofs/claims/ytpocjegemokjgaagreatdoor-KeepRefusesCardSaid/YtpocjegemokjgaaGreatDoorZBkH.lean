/-
  The walk of a book's brought.
-/
import Derived.Test.YtpocjegemokjgaaGreatDoorZBkEBkFBkG
import Derived.Laws.StructEq
import Derived.Deep.DeepCutAuto
namespace Go.Proofs.YtpocjegemokjgaaGreatDoor
open Go.Proofs.Tryz
set_option linter.all false
set_option maxRecDepth 100000
set_option maxHeartbeats 12800000
open Go.RowKit Go.Maps
def z6e(f:Fr):Nat×Nat×Nat:=(f.chunk,f.bits,f.cnt)
def y2I(x:z0U)(f:Fr):List Bool:=if z6e f=z2v x then x.cur.l else []
def firstT(st:List z1d):Int:=(st.head?.map fun x=>x.s.t).getD 0
def y5O(b:z0j)(x:z0U)(f:Fr)(st:List z1d):Bool:=decide (st.length≠f.count\/f.count<=f.cnt\/b.size<st.length\/(z5y x.done=true/\firstT st<=z3S x.done))
def z1a(b:z0j)(x:z0U)(f:Fr)(l:List Bool):Nat×z0N:=
 if z3A b f.series≠0 then(z3A b f.series,z1J)
 else if z6e f≠z2v x/\z6e f≠((z2v x).1,0,0)then(122,z1J)
 else match z5o (y2I x f++l)with
  | none=>(61,z1J)
  | some st=>if y5O b x f st then(61,z1J)else(0,⟨y2I x f++l,st⟩)
def z7b(b:z0j)(x:z0U)(f:Fr)(l:List Bool)(w:World)(e:Ending)(w':World):Prop:=
 Below w.heap.size w w'/\(((z1a b x f l).1≠0/\e= .returned (.tuple #[.agg (z1K.vals false).toArray,.int .u16 ((z1a b x f l).1:Nat)]))\/
  ((z1a b x f l).1=0/\∃(y:z1r) (T':Nat->Prop),e= .returned (.tuple #[.agg (y.vals f.closed).toArray,.int .u16 0])/\y.p=(z1a b x f l).2/\y.Ok T' w'/\0<y.p.st.length/\∀k,T' k->w.heap.size<=k/\k<w'.heap.size))
theorem y1w(bb mb B:Nat)(E:List (Int×z0C))(b:z0j)(S:Nat->Prop)(X:z0C)(f:Fr)(a:Option Addr)(n c:Nat)(l:List Bool)(hf:f.Ok)(d1:f.n=(l.length:Nat))(cI:n=f.b.length)(hl:l.length<=1000000)(bZ:X.done.length<=1000000000)(w:World)(h:z0q w bb mb E b B S)(hX:z0D w X)(bN:z0r w a n c l f.b)(hT:z1u w):
  Calls prog 102 #[.pointer (some ⟨bb,0,none⟩),.pointer (some ⟨X.sb,0,none⟩),frV f (.slice a n c)] w (z7b b X.ser f l w):=by
 have aN:=z7 (((Loc.start w).new (.cells (j9 f (.slice a n c)) 51)).new' (.cells #[.slice none 0 0,.int .i64 0,.slice none 0 0,.int .i64 0,.int .i64 0,.int .i64 0,.bool false,.int .u64 0,.int .u8 0,.int .u8 0,.bool false] 100) (n:=w.heap.size+1) (by simp));have H:=z7 h;have HX:=z7 hX;have cR:=z7 bN;have HT:=z7 hT;have HR:=z7 (y8d bb mb B E b S f.series hf.series _ (h.low aN.o.low));have aY:=z7 (fun w' (h':z0D w' X)=>y6r X bZ w' h');have bL:=hf;obtain⟨kind,epoch,series,R,U,J,cnt,closed,sum,fb,fn⟩:=f;simp only at d1 cI;subst d1;have dT:=z7 cI;clear cI;obtain⟨⟨D,EB,EC⟩,aR⟩:∃e,e=z2v X.ser:=⟨_,rfl⟩;simp only[<-aR]at aY;have cS:=z7 aR;have d9:=z7 bL;unfold frV j9;unfold j9 at aN HR;simp only at aN HR cR ⊢;rcases y2v b series with hr|hr
 ·rw[hr]at HR;have dE:=z7 hr;by_cases hAB:(R=D/\U=EB/\J=EC)\/(R=D/\U=0/\J=0)
  ·have cL:=z7 hAB;clear h hX bN hT hf hr bL aR hAB;obtain⟨aG,a6⟩:=zN (decide ((R,U,J)=(D,EB,EC)));obtain⟨BS,aX⟩:=zN (y2I X.ser ⟨kind,epoch,series,R,U,J,cnt,closed,sum,fb,(l.length:Nat)⟩);have bG:Hid (BS=if aG then X.cur.p.l else []):=z7 (by
    rw[aX,a6];unfold y2I z6e;rw[<-cS.o];simp only[decide_eq_true_eq];rfl)
   have cN:=z7 aX;have dD:BS.length<=3504:=by
    rw[bG.o];split
    ·exact HX.o.cur.ok.bits
    ·exact Nat.zero_le _
   have d4:Hid (decide ((R,U,J)≠(D,EB,EC))=!aG):=z7 (by rw[a6];simp);have dH:Hid (aG=false->decide ((R,U,J)≠(D,0,0))=false):=z7 fun hi=>by
    rw[hi]at a6;rcases cL.o with⟨rfl,rfl,rfl⟩|⟨rfl,rfl,rfl⟩
    ·simp at a6
    ·simp
   have dI:Hid (decide ((R,U,J)=(D,EB,EC))=aG):=z7 a6.symm;clear a6 aX;go_enter func102,ntmps102;go_wp2_with fail;refine HR.o.mono ?_;rintro e w1 ⟨rfl,hb⟩;have Y:=z7 (aN.o.call hb);clear hb;obtain⟨f0,f1,f2,f3,f4,f5,f6,f7,f8,f9,N,ff⟩:=z0o (Y.o.get 1 rfl);have l1:=Y.o.lt 1 rfl;go_wp2_with fail;refine(aY.o w1 (HX.o.low Y.o.low)).mono ?_;rintro e w2 ⟨rfl,hb⟩;have aH:=z7 (Y.o.call hb);clear hb f0 f1 f2 f3 f4 f5 f6 f7 f8 f9 N ff;obtain⟨f0,f1,f2,f3,f4,f5,f6,f7,f8,f9,N,ff⟩:=z0o (aH.o.get 1 rfl);have l1:=aH.o.lt 1 rfl;go_upto_region 5 with fail
   obtain⟨W3,aD,aZ⟩:=(aH.o.new (.cells #[.int .u32 D,.int .u32 EB,.int .u32 EC] 45)).named;refine z0G aD ?_;have a8:=z7 aZ;clear aZ aD f0 f1 f2 f3 f4 f5 f6 f7 f8 f9 N ff l1;obtain⟨f0,f1,f2,f3,f4,f5,f6,f7,f8,f9,N,ff⟩:=z0o (a8.o.get 2 rfl);obtain⟨p0,p1,p2,pf⟩:=cells3 (a8.o.get 0 rfl);have l1:=a8.o.lt 2 rfl;have l2:=a8.o.lt 0 rfl
   go_cut[39] (fun v wx=>v= .bool false/\wx=W3)
   case first=>
    cases aG with
    | true=>
     go_wp2_with (refine z2P (by rfl) (.bool false) (z3K _ _ _ rfl (R,U,J) (D,EB,EC) rfl rfl false d4.o) ?_);go_meet
     exact⟨rfl,rfl⟩
    | false=>
     go_wp2_with (first|refine z2P (by rfl) (.bool true) (z3K _ _ _ rfl (R,U,J) (D,EB,EC) rfl rfl true d4.o) ?_|refine z2P (by rfl) (.bool false) (z3K _ _ _ rfl (R,U,J) (D,0,0) rfl rfl false (dH.o rfl)) ?_);go_meet
     exact⟨rfl,rfl⟩
   case rest=>
    obtain⟨rfl,rfl⟩:=hcut;go_upto_region 8 with fail
    obtain⟨W4,cD,aF⟩:=(a8.o.new (.cells #[.slice none 0 0,.int .i64 0] 49)).named;refine z0G cD ?_;have a9:=z7 aF;clear aF cD f0 f1 f2 f3 f4 f5 f6 f7 f8 f9 N ff l1 p0 p1 p2 pf l2;obtain⟨f0,f1,f2,f3,f4,f5,f6,f7,f8,f9,N,ff⟩:=z0o (a9.o.get 3 rfl);obtain⟨p0,p1,p2,pf⟩:=cells3 (a9.o.get 1 rfl);have l1:=a9.o.lt 3 rfl;have l2:=a9.o.lt 1 rfl;have cV:=z7 (z7D X bZ W4 (HX.o.low a9.o.low))
    go_upto_if 44 with(refine z2P (by rfl) (.bool aG) (z4G _ _ _ rfl (R,U,J) (D,EB,EC) rfl rfl aG dI.o) ?_)
    obtain⟨q,hq⟩:=zN wc.heap.size;rw[<-hq]at a9 ⊢;have HQ:=z7 hq;clear hq;go_simp
    go_cut[] (fun wx=>Hid (∃ab nb cb bH,Loc w [(q,.cells #[.slice ab nb cb,.int .i64 (BS.length:Nat)] 49 (0,0)),(w2.heap.size,.cells #[.int .u32 D,.int .u32 EB,.int .u32 EC] 45 (0,0)),(w.heap.size+1,.cells (z1K.vals false).toArray 100 (0,0)),(w.heap.size,.cells #[.int .u8 kind,.int .u32 epoch,.int .u32 series,.int .u32 R,.int .u32 U,.int .u32 J,.int .u32 cnt,.bool closed,.int .u64 sum,.slice a n c,.int .i64 l.length] 51 (0,0))] wx/\z0r wx ab nb cb BS bH))
    case first=>
     cases aG with
     | true=>
      have hv:(X.cur.vals false).toArray[0]? =some (.slice X.cur.a X.cur.b.length X.cur.c):=rfl;go_wp2_with fail;refine cV.o.mono ?_;rintro e w5 ⟨rfl,hb⟩;have a2:=z7 (a9.o.call hb);have aW:=HX.o.low a2.o.low;have g0:=aW.at (j:=0) rfl;have g1:=aW.at (j:=1) rfl;simp only[Nat.add_zero]at g0;have lg:=aW.lts X.g (.inr (.inl rfl));obtain⟨q0,q1,qf⟩:=z0i (a2.o.get 0 rfl);have lq:=a2.o.lt 0 rfl;have dF:=z7 aW;have aX:Hid (BS=X.cur.p.l):=z7 bG.o;clear hb aW hv;go_wp2;go_meet
      have h6:=(z0K.of (S:=fun _=>False) a2.o).lay (K':= [(q,.cells #[.slice X.cur.a X.cur.b.length X.cur.c,.int .i64 (X.cur.p.l.length:Nat)] 49 (0,0)),(w2.heap.size,.cells #[.int .u32 D,.int .u32 EB,.int .u32 EC] 45 (0,0)),(w.heap.size+1,.cells (z1K.vals false).toArray 100 (0,0)),(w.heap.size,.cells #[.int .u8 kind,.int .u32 epoch,.int .u32 series,.int .u32 R,.int .u32 U,.int .u32 J,.int .u32 cnt,.bool closed,.int .u64 sum,.slice a n c,.int .i64 l.length] 51 (0,0))]) 0 0 [.slice X.cur.a X.cur.b.length X.cur.c,.int .i64 (X.cur.p.l.length:Nat)] rfl rfl rfl rfl;rw[aX.o];have d5:∀k,X.In k->k≠q:=fun k hk e=>by
       have:=HX.o.lts k hk;have:=a9.o.ge 0 rfl;omega
      exact⟨X.cur.a,_,X.cur.c,X.cur.b,h6.toLoc,(dF.o.keep (fun k hk=>(q7 (d5 k hk)).trans (q7 (d5 k hk))) (by simp[World.setCell])).cur.rd.now⟩
     | false=>
      go_wp2;go_meet
      refine⟨none,0,0, [],?_,?_⟩
      ·have:=a9.o;rw[bG.o];exact this
      ·rw[bG.o];exact⟨RdB.nil W4,rfl,z0R.nil⟩
    case rest=>
     obtain⟨ab,nb,cb,bH,cY,cX⟩:=hcut;have a2:=z7 cY;have d7:=z7 cX;clear cY cX f0 f1 f2 f3 f4 f5 f6 f7 f8 f9 N ff l1 p0 p1 p2 pf l2 cV;obtain⟨f0,f1,f2,f3,f4,f5,f6,f7,f8,f9,N,ff⟩:=z0o (a2.o.get 3 rfl);obtain⟨q0,q1,qf⟩:=z0i (a2.o.get 0 rfl);have l1:=a2.o.lt 3 rfl;have l2:=a2.o.lt 0 rfl;go_wp2_with fail;obtain⟨W6,cE,cC⟩:=(a2.o.new (.cells #[.slice ab nb cb,.int .i64 (BS.length:Nat),.slice a n c,.int .i64 (l.length:Nat)] 49)).named;have cA:=d7.o.low (q5 wc (.cells #[.slice ab nb cb,.int .i64 (BS.length:Nat),.slice a n c,.int .i64 (l.length:Nat)] 49));rw[<-cE]at cA ⊢;have b8:z8q W6 (.slice (some ⟨wc.heap.size,0,none⟩) 2 2) [⟨ab,nb,cb,BS,bH⟩,⟨a,n,c,l,fb⟩]:=⟨by rw[cE];exact y0t wc _ _ _ 2 2 rfl (by decide) rfl,fun x hx=>by
      simp only[List.mem_cons,List.not_mem_nil,or_false]at hx;rcases hx with rfl|rfl
      ·exact⟨cA,by simp only;omega⟩
      ·exact⟨cR.o.low cC.low,by simp only;omega⟩⟩
     have cU:=z7 cC;have bM:=q3z _ _ _ _ _ b8 rfl (by decide);have d2:joinL [⟨ab,nb,cb,BS,bH⟩,⟨a,n,c,l,fb⟩]=BS++l:=(by simp[joinL]);rw[d2]at bM;obtain⟨L,hL⟩:=zN (BS++l);rw[<-hL]at bM;have dU:=z7 hL;have c5:Hid (z1a b X.ser ⟨kind,epoch,series,R,U,J,cnt,closed,sum,fb,(l.length:Nat)⟩ l=match z5o L with
       | none=>(61,z1J)
       | some st=>if y5O b X.ser ⟨kind,epoch,series,R,U,J,cnt,closed,sum,fb,(l.length:Nat)⟩ st then(61,z1J)else(0,⟨L,st⟩)):=z7 (by
      rw[hL,cN.o];unfold z1a;rw[if_neg (by simpa using dE.o),if_neg];unfold z6e;rw[<-cS.o];simp only[ne_eq,Prod.mk.injEq];rintro⟨h1,h2⟩;rcases cL.o with h|h
      ·exact h1 h
      ·exact h2 h)
     have dZ:L.length<=1003504:=(by rw[hL,List.length_append];omega);have HJ:=z7 bM;clear cC cE cA b8 d2 hL bM f0 f1 f2 f3 f4 f5 f6 f7 f8 f9 N ff l1 q0 q1 qf l2;refine HJ.o.mono ?_;rintro e w7 ⟨a7,n7,c7,b7,rfl,bB,rfl,bY,d0⟩;have dA:=z7 (cU.o.call d0);have c8:=z7 bB;have aS:=z7 bY;clear bB bY d0 HJ;go_upto_region 11 with fail
     obtain⟨W8,cF,cZ⟩:=(dA.o.new (.cells #[.slice a7 b7.length c7,.int .i64 (L.length:Nat)] 49)).named;refine z0G cF ?_;have aL:=c8.o.alloc (.cells #[.slice a7 b7.length c7,.int .i64 (L.length:Nat)] 49);rw[<-cF]at aL;have aI:=z7 cZ;have aT:=z7 aL;obtain⟨r,hr⟩:=zN w7.heap.size;rw[<-hr]at aI ⊢;have dN:=z7 (show r<W8.heap.size by have:=aI.o.lt 0 rfl;exact this);have dV:=z7 hr;clear cZ cF aL hr;have b3:=z7 (q0p a7 b7.length c7 L b7 W8 (z5l aT.o rfl aS.o) (by omega) (HT.o.low aI.o.low));obtain⟨q0,q1,qf⟩:=z0i (aI.o.get 0 rfl);have l2:=aI.o.lt 0 rfl;go_wp2_with fail;refine b3.o.mono ?_;rintro e w9 ⟨⟨st,av,cv,d6,rfl,bC⟩|⟨bA,rfl⟩,b6⟩
     ·have c6:=z7 (aI.o.call b6);have aJ:=z7 bC;have aU:=z7 d6;have d8:=z7 (ownsRow_below aT.o b6 (Nat.le_refl _));clear bC d6 b6 b3 q0 q1 qf l2;obtain⟨en,el,ed,has,prev,lead,width,hE⟩:∃en el ed has prev lead width,(⟨en,el,ed,⟨has,prev,lead,width⟩⟩:z1M)=z0m z0h st:=⟨_,_,_,_,_,_,_,rfl⟩;rw[<-hE];have HE:=z7 hE;clear hE;simp only;obtain⟨n1,b9⟩:=zN st.length;rw[<-b9]at aJ ⊢;have a3:=z7 b9;clear b9;have dJ:=z1O aJ.o;go_upto_region 15 with fail
      obtain⟨aO,a4,aE⟩:=(c6.o.new (.cells #[.int .i64 (en:Nat),.int .i64 el,.int .i64 ed,.bool has,.int .u64 (prev:Nat),.int .u8 (lead:Nat),.int .u8 (width:Nat)] 98)).named;refine z0G a4 ?_;have b4:Below w9.heap.size w9 aO:=(by rw[a4];exact q5 _ _);have a1:=z7 aE;have aA:=z7 (ownsRow_below aJ.o b4 (Nat.le_refl _));have cM:=z7 (ownsRow_below d8.o b4 (Nat.le_refl _));obtain⟨s,hs⟩:=zN w9.heap.size;rw[<-hs]at a1 ⊢;have dY:=z7 hs;clear aE a4 b4 hs;obtain⟨f0,f1,f2,f3,f4,f5,f6,f7,f8,f9,N,ff⟩:=z0o (a1.o.get 6 rfl);have l1:=a1.o.lt 6 rfl;have bJ:=H.o.low a1.o.low;obtain⟨b0,b1,b2,bf⟩:=bJ.cells;have lb:=(bJ.lo bb bJ.own.1).2;have cG:=HX.o.low a1.o.low;obtain⟨s0,s1,s2,sf⟩:=cG.cells;have ls:=cG.lts X.sb (.inl rfl);clear bJ cG;obtain⟨so,bR⟩:=zN (z5y X.ser.done);obtain⟨ah,bI⟩:=zN (z3S X.ser.done);obtain⟨aV,aM⟩:=zN b.size;rw[<-bR]at s2;rw[<-bI]at s1;rw[<-aM]at b1;have e7:IntKind.u64.wrap (n1:Int)=(n1:Int):=(by rw[IntKind.wrap_u64];omega);have e8:IntKind.u64.wrap (cnt:Int)=(cnt:Int):=(by have:=d9.o.count;simp only at this;rw[IntKind.wrap_u64];omega);obtain⟨FB,cB⟩:=zN (y5O b X.ser ⟨kind,epoch,series,R,U,J,cnt,closed,sum,fb,(l.length:Nat)⟩ st);have a0:Hid (FB=decide (n1≠cnt\/cnt<=J\/aV<n1\/(so=true/\firstT st<=ah))):=z7 (by rw[cB,a3.o,bR,bI,aM];rfl);have bV:=z7 cB;have dX:=z7 bR;have dS:=z7 bI;have cO:=z7 aM;clear cB bR bI aM
      go_cut[111] (fun v wx=>v= .bool FB/\Hid (Below aO.heap.size aO wx))
      case first=>
       by_cases t1:n1=cnt
       ·have e1:((n1:Int) !=(cnt:Int))=false:=(by rw[t1];simp);have c9:=z7 t1;clear t1;by_cases t2:cnt<=J
        ·have e2:decide ((cnt:Int)<=(J:Int))=true:=decide_eq_true (by omega);have hr:FB=true:=(by rw[a0.o];exact decide_eq_true (.inr (.inl t2)));go_quiet (fail)
         go_wp2;go_meet
         exact⟨by rw[hr],z7 (z0k (Below.refl _ _))⟩
        ·have e2:decide ((cnt:Int)<=(J:Int))=false:=decide_eq_false (by omega);by_cases t3:aV<n1
         ·have e3:decide ((aV:Int)<(n1:Int))=true:=decide_eq_true (by omega);have hr:FB=true:=(by rw[a0.o];exact decide_eq_true (.inr (.inr (.inl t3))));go_quiet (fail)
          go_wp2;go_meet
          exact⟨by rw[hr],z7 (z0k (Below.refl _ _))⟩
         ·have e3:decide ((aV:Int)<(n1:Int))=false:=decide_eq_false (by omega);have bW:0<n1:=(by have:=c9.o;omega);obtain⟨x0,bS,bE⟩:∃x0 bS,st=x0::bS:=by
           cases st with
           | nil=>have:=a3.o;simp at this;omega
           | cons x0 bS=>exact⟨x0,bS,rfl⟩
          obtain⟨t0,cJ⟩:=zN x0.s.t;have bD:firstT st=t0:=(by rw[bE,cJ];rfl);obtain⟨gv,dO,cW, -⟩:=z2z aA.o (fun e=>by simp only[Value.slice.injEq]at e;omega);simp only[Value.slice.injEq,true_and]at cW;obtain⟨rfl,rfl⟩:=cW;have cH:=aA.o.cells (g:=gv) rfl 0 (.int .i64 t0) (by rw[bE,cJ];rfl);rw[y0y,Nat.zero_add]at cH;have e9:=(aA.o.lt gv rfl).2;have dW:(0:Int)<n1:=(by omega);have bX:=z7 bD;clear bE cJ bD;cases so with
          | false=>
           have hr:FB=false:=(by rw[a0.o];exact decide_eq_false (fun h=>by rcases h with h|h|h|⟨h, -⟩<;>first|exact absurd c9.o h|omega|cases h));go_quiet (fail)
           go_wp2;go_meet
           exact⟨by rw[hr],z7 (z0k (Below.refl _ _))⟩
          | true=>
           by_cases t4:t0<=ah
           ·have e4:decide (t0<=ah)=true:=decide_eq_true t4;have hr:FB=true:=(by rw[a0.o];exact decide_eq_true (.inr (.inr (.inr ⟨rfl,by rw[bX.o];exact t4⟩))));go_quiet (fail)
            go_wp2;go_meet
            exact⟨by rw[hr],z7 (z0k (Below.refl _ _))⟩
           ·have e4:decide (t0<=ah)=false:=decide_eq_false t4;have hr:FB=false:=(by rw[a0.o];exact decide_eq_false (fun h=>by rw[bX.o]at h;rcases h with h|h|h|⟨-,h⟩<;>first|exact absurd c9.o h|omega|exact absurd h t4));go_quiet (fail)
            go_wp2;go_meet
            exact⟨by rw[hr],z7 (z0k (Below.refl _ _))⟩
       ·have e1:((n1:Int) !=(cnt:Int))=true:=(by rw[bne_iff_ne];omega);have hr:FB=true:=(by rw[a0.o];exact decide_eq_true (.inl t1));go_quiet (fail)
        go_wp2;go_meet
        exact⟨by rw[hr],z7 (z0k (Below.refl _ _))⟩
      case rest=>
       obtain⟨rfl,a5⟩:=hcut;have I:=z7 (a1.o.call a5.o);have bT:=z7 (ownsRow_below cM.o a5.o (Nat.le_refl _));clear a5 f0 f1 f2 f3 f4 f5 f6 f7 f8 f9 N ff l1 b0 b1 b2 bf lb s0 s1 s2 sf ls;cases FB with
       | true=>
        have A:Hid (z1a b X.ser ⟨kind,epoch,series,R,U,J,cnt,closed,sum,fb,(l.length:Nat)⟩ l=(61,z1J)):=z7 (by
         rw[c5.o,aU.o];simp only;rw[<-bV.o];rfl)
        go_wp2_with (refine z0f rfl _ _ _ rfl (w.heap.size+1) 0 rfl (z1K.vals false).toArray rfl (z0w (I.o.get 5 rfl) rfl) (z0y (I.o.get 5 rfl)) z0S (z1K.one false) ?_);refine bodyPost_ret (y1n rfl rfl (q1c (z0Q _ 0 _ _ (I.o.get 5 rfl) (Nat.le_refl _)) (z4l rfl)) z3j z0S) rfl ?_;exact⟨((z0K.of (S:=fun _=>False) I.o).puts 5 (z1K.vals false) 0 _ rfl).low.toBelow,.inl ⟨by rw[A.o];decide,by rw[A.o];rfl⟩⟩
       | false=>
        have A:Hid (z1a b X.ser ⟨kind,epoch,series,R,U,J,cnt,closed,sum,fb,(l.length:Nat)⟩ l=(0,⟨L,st⟩)):=z7 (by
         rw[c5.o,aU.o];simp only;rw[<-bV.o];rfl)
        obtain⟨q0,q1,qf⟩:=z0i (I.o.get 1 rfl);have l2:=I.o.lt 1 rfl;have cT:=z7 (q4i a7 b7.length c7 L b7 wc (z5l bT.o rfl aS.o) (by omega) (HT.o.low I.o.low));go_wp2_with fail;refine cT.o.mono ?_;rintro e dM ⟨⟨st2,ea,ec,bF,rfl,aC⟩|⟨bA,rfl⟩,b5⟩
        ·rw[aU.o]at bF;simp only[Option.some.injEq]at bF;subst bF;rw[<-a3.o]at aC ⊢;have O:=z7 (I.o.call b5);have bU:=z7 (ownsRow_below bT.o b5 (Nat.le_refl _));have aB:=z7 aC;obtain⟨q0,q1,qf⟩:=z0i (O.o.get 1 rfl);obtain⟨e0,e1,e2,e3,e4,e5,e6,ef⟩:=z2X (O.o.get 0 rfl);obtain⟨f0,f1,f2,f3,f4,f5,f6,f7,f8,f9,N,ff⟩:=z0o (O.o.get 6 rfl);have l2:=O.o.lt 1 rfl;have l3:=O.o.lt 0 rfl;have l4:=O.o.lt 6 rfl;clear aC b5 cT;go_wp2_with (refine z0f rfl _ _ _ rfl (w.heap.size+1) 0 rfl #[.slice a7 b7.length c7,.int .i64 (L.length:Nat),.slice ea n1 ec,.int .i64 (en:Nat),.int .i64 el,.int .i64 ed,.bool has,.int .u64 (prev:Nat),.int .u8 (lead:Nat),.int .u8 (width:Nat),.bool closed] rfl (z0w (O.o.get 5 rfl) rfl) (z0y (O.o.get 5 rfl)) z0S (by simp[Value.oneCell']) ?_);have d3:=((z0K.of (S:=fun _=>False) O.o).puts 5 [.slice a7 b7.length c7,.int .i64 (L.length:Nat),.slice ea n1 ec,.int .i64 (en:Nat),.int .i64 el,.int .i64 ed,.bool has,.int .u64 (prev:Nat),.int .u8 (lead:Nat),.int .u8 (width:Nat),.bool closed] 0 _ rfl).low.toBelow;refine bodyPost_ret (y1n rfl rfl (q1c (z0Q _ 0 _ _ (O.o.get 5 rfl) (Nat.le_refl _)) (z4l rfl)) z3j z0S) rfl ?_;have dL:z0N.Ok ⟨L,st⟩:=⟨aU.o,by
          have h1:=a0.o;have h2:=of_decide_eq_false h1.symm;have h3:=H.o.size.2;have h4:=cO.o;rw[<-a3.o];have h5:¬aV<n1:=fun h=>h2 (.inr (.inr (.inl h)));omega⟩
         have bW:0<n1:=by
          have h2:=of_decide_eq_false a0.o.symm;have h5:¬n1≠cnt:=fun h=>h2 (.inl h);have h6:¬cnt<=J:=fun h=>h2 (.inr (.inl h));omega
         have dR:=cU.o.lt 3 rfl;have dG:=I.o.lt 5 rfl;have bO:∀k,((Value.slice a7 b7.length c7).ownBlock=some k\/(Value.slice ea n1 ec).ownBlock=some k)->k≠w.heap.size+1/\w.heap.size<=k/\k<dM.heap.size:=fun k hk=>by
          rcases hk with hk|hk
          ·have:=bU.o.lt k hk;omega
          ·have:=aB.o.lt k hk;omega
         refine⟨d3,.inr ⟨by rw[A.o],⟨a7,c7,b7,ea,ec,⟨L,st⟩⟩,fun k=>(Value.slice a7 b7.length c7).ownBlock=some k\/(Value.slice ea n1 ec).ownBlock=some k,?_,by rw[A.o],⟨fun w' hk=>?_,fun w' hk=>?_,dL,?_⟩,by show 0<st.length;rw[<-a3.o];exact bW,fun k hk=>⟨(bO k hk).2.1,by rw[size_setCells];exact(bO k hk).2.2⟩⟩⟩
         ·show Ending.returned (.tuple #[.agg #[_,_,_,_,_,_,_,_,_,_,_],_])=Ending.returned (.tuple #[.agg #[_,_,_,_,_,_,_,_,_,_,_],_]);rw[<-HE.o,<-a3.o];rfl
         ·exact z5l (j7 bU.o fun k hb=>(hk k (.inl hb)).trans (z0Z (bO k (.inl hb)).1 _ _ _)) rfl aS.o
         ·show Rd w' (.slice ea st.length ec) 1 st.length (z2p (z1p st));rw[<-a3.o];exact z0e (j7 aB.o fun k hb=>(hk k (.inr hb)).trans (z0Z (bO k (.inr hb)).1 _ _ _))
         ·show st.length<=ec;rw[<-a3.o];exact(z1O aB.o).1
        ·rw[aU.o]at bA;cases bA
     ·have c6:=z7 (aI.o.call b6);have dC:=z7 bA;clear bA b6 b3 q0 q1 qf l2;go_upto_region 15 with fail
      obtain⟨aO,a4,aE⟩:=(c6.o.new (.cells #[.int .i64 0,.int .i64 0,.int .i64 0,.bool false,.int .u64 0,.int .u8 0,.int .u8 0] 98)).named;refine z0G a4 ?_;have a1:=z7 aE;clear aE a4;have A:Hid (z1a b X.ser ⟨kind,epoch,series,R,U,J,cnt,closed,sum,fb,(l.length:Nat)⟩ l=(61,z1J)):=z7 (by rw[c5.o,dC.o])
      go_cut[111] (fun v wx=>v= .bool true/\Hid (Below aO.heap.size aO wx))
      case first=>
       go_quiet (fail)
       go_wp2;go_meet
       exact⟨rfl,z7 (z0k (Below.refl _ _))⟩
      case rest=>
       obtain⟨rfl,a5⟩:=hcut;have I:=z7 (a1.o.call a5.o);clear a5;go_wp2_with (refine z0f rfl _ _ _ rfl (w.heap.size+1) 0 rfl (z1K.vals false).toArray rfl (z0w (I.o.get 5 rfl) rfl) (z0y (I.o.get 5 rfl)) z0S (z1K.one false) ?_);refine bodyPost_ret (y1n rfl rfl (q1c (z0Q _ 0 _ _ (I.o.get 5 rfl) (Nat.le_refl _)) (z4l rfl)) z3j z0S) rfl ?_;exact⟨((z0K.of (S:=fun _=>False) I.o).puts 5 (z1K.vals false) 0 _ rfl).low.toBelow,.inl ⟨by rw[A.o];decide,by rw[A.o];rfl⟩⟩
  ·have hA:¬(R=D/\U=EB/\J=EC):=fun e=>hAB (.inl e);have hB:¬(R=D/\U=0/\J=0):=fun e=>hAB (.inr e);have A:Hid (z1a b X.ser ⟨kind,epoch,series,R,U,J,cnt,closed,sum,fb,(l.length:Nat)⟩ l=(122,z1J)):=z7 (by
    unfold z1a;rw[if_neg (by simpa using hr),if_pos];unfold z6e;rw[<-aR];simp only[ne_eq,Prod.mk.injEq];exact⟨hA,hB⟩)
   have a3:Hid (decide ((R,U,J)≠(D,EB,EC))=true):=z7 (decide_eq_true (by simp only[ne_eq,Prod.mk.injEq];exact hA));have dB:Hid (decide ((R,U,J)≠(D,0,0))=true):=z7 (decide_eq_true (by simp only[ne_eq,Prod.mk.injEq];exact hB));clear h hX bN hT hf hr bL aR hA hB hAB;go_enter func102,ntmps102;go_wp2_with fail;refine HR.o.mono ?_;rintro e w1 ⟨rfl,hb⟩;have Y:=z7 (aN.o.call hb);clear hb;obtain⟨f0,f1,f2,f3,f4,f5,f6,f7,f8,f9,N,ff⟩:=z0o (Y.o.get 1 rfl);have l1:=Y.o.lt 1 rfl;go_wp2_with fail;refine(aY.o w1 (HX.o.low Y.o.low)).mono ?_;rintro e w2 ⟨rfl,hb⟩;have aH:=z7 (Y.o.call hb);clear hb f0 f1 f2 f3 f4 f5 f6 f7 f8 f9 N ff;obtain⟨f0,f1,f2,f3,f4,f5,f6,f7,f8,f9,N,ff⟩:=z0o (aH.o.get 1 rfl);have l1:=aH.o.lt 1 rfl;go_upto_region 6 with(first|refine z2P (by rfl) (.bool true) (z3K _ _ _ rfl (R,U,J) (D,EB,EC) rfl rfl true a3.o) ?_|refine z2P (by rfl) (.bool true) (z3K _ _ _ rfl (R,U,J) (D,0,0) rfl rfl true dB.o) ?_)
   obtain⟨W3,aD,aZ⟩:=(aH.o.new (.cells #[.int .u32 D,.int .u32 EB,.int .u32 EC] 45)).named;refine z0G aD ?_;have a8:=z7 aZ;clear aZ aD f0 f1 f2 f3 f4 f5 f6 f7 f8 f9 N ff;go_wp2_with (refine z0f rfl _ _ _ rfl (w.heap.size+1) 0 rfl (z1K.vals false).toArray rfl (z0w (a8.o.get 1 rfl) rfl) (z0y (a8.o.get 1 rfl)) z0S (z1K.one false) ?_);have aF:=(z0K.of (S:=fun _=>False) a8.o).lay (K':= [(w2.heap.size,.cells #[.int .u32 D,.int .u32 EB,.int .u32 EC] 45 (0,0)),(w.heap.size+1,.cells (z1K.vals false).toArray 100 (0,0)),(w.heap.size,.cells #[.int .u8 kind,.int .u32 epoch,.int .u32 series,.int .u32 R,.int .u32 U,.int .u32 J,.int .u32 cnt,.bool closed,.int .u64 sum,.slice a n c,.int .i64 l.length] 51 (0,0))]) 1 0 (z1K.vals false) rfl rfl rfl rfl;refine bodyPost_ret (y1n rfl rfl (aF.get 1 rfl) z3j z0S) rfl ?_;exact⟨aF.low.toBelow,.inl ⟨by rw[A.o];decide,by rw[A.o];rfl⟩⟩
 ·rw[hr]at HR;have A:Hid (z1a b X.ser ⟨kind,epoch,series,R,U,J,cnt,closed,sum,fb,(l.length:Nat)⟩ l=(121,z1J)):=z7 (by
   unfold z1a;rw[if_pos (by simp only;omega)];simp only[hr])
  clear h hX bN hT hf hr bL aR;go_enter func102,ntmps102;go_wp2_with fail;refine HR.o.mono ?_;rintro e w1 ⟨rfl,hb⟩;have Y:=z7 (aN.o.call hb);clear hb;go_wp2_with (refine z0f rfl _ _ _ rfl (w.heap.size+1) 0 rfl (z1K.vals false).toArray rfl (z0w (Y.o.get 0 rfl) rfl) (z0y (Y.o.get 0 rfl)) z0S (z1K.one false) ?_);have aF:=(z0K.of (S:=fun _=>False) Y.o).lay (K':= [(w.heap.size+1,.cells (z1K.vals false).toArray 100 (0,0)),(w.heap.size,.cells #[.int .u8 kind,.int .u32 epoch,.int .u32 series,.int .u32 R,.int .u32 U,.int .u32 J,.int .u32 cnt,.bool closed,.int .u64 sum,.slice a n c,.int .i64 l.length] 51 (0,0))]) 0 0 (z1K.vals false) rfl rfl rfl rfl;refine bodyPost_ret (y1n rfl rfl (aF.get 0 rfl) z3j z0S) rfl ?_;exact⟨aF.low.toBelow,.inl ⟨by rw[A.o];decide,by rw[A.o];rfl⟩⟩

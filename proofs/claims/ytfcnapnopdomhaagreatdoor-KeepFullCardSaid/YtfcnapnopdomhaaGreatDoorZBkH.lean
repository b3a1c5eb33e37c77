/-
  The walk of a book's brought.
-/
import Derived.Test.YtfcnapnopdomhaaGreatDoorZBkG
import Derived.Laws.StructEq
import Derived.Deep.DeepCutAuto
namespace Go.Proofs.YtfcnapnopdomhaaGreatDoor
set_option linter.unusedSimpArgs false
set_option linter.unusedVariables false
set_option maxRecDepth 100000
set_option maxHeartbeats 12800000
open Go.RowKit Go.Maps
def z5E(f:Fr):Nat×Nat×Nat:=(f.chunk,f.bits,f.cnt)
def y1n(x:z1o)(f:Fr):List Bool:=if z5E f=z1U x then x.cur.l else []
def firstT(st:List z0V):Int:=(st.head?.map fun x=>x.s.t).getD 0
def y4I(b:z0m)(x:z1o)(f:Fr)(st:List z0V):Bool:=decide (st.length≠f.count∨f.count≤f.cnt∨b.size<st.length∨(z5g x.done=true∧firstT st≤z3B x.done))
def z0Z(b:z0m)(x:z1o)(f:Fr)(l:List Bool):Nat×z1h:=
 if z3q b f.series≠0 then (z3q b f.series,z2e)
 else if z5E f≠z1U x∧z5E f≠((z1U x).1,0,0) then (122,z2e)
 else match z5c (y1n x f++l) with
  | none=>(61,z2e)
  | some st=>if y4I b x f st then (61,z2e) else (0,⟨y1n x f++l,st⟩)
def z6U(b:z0m)(x:z1o)(f:Fr)(l:List Bool)(w:World)(e:Ending)(w':World):Prop:=
 Below w.heap.size w w'∧(((z0Z b x f l).1≠0∧e= .returned (.tuple #[.agg (z1y.vals false).toArray, .int .u16 ((z0Z b x f l).1:Nat)]))∨
  ((z0Z b x f l).1=0∧∃(y:z1g) (T':Nat→Prop),e= .returned (.tuple #[.agg (y.vals f.closed).toArray, .int .u16 0])∧y.p=(z0Z b x f l).2∧y.Ok T' w'∧0<y.p.st.length∧∀k,T' k→w.heap.size≤k∧k<w'.heap.size))
theorem y0i(bb mb B:Nat)(E:List (Int×z0C))(b:z0m)(S:Nat→Prop)(X:z0C)(f:Fr)(a:Option Addr)(n c:Nat)(l:List Bool)(hf:f.Ok)(hfn:f.n=(l.length:Nat))(hfb:n=f.b.length)(hl:l.length≤1000000)(hfew:X.done.length≤1000000000)(w:World)(h:z0r w bb mb E b B S)(hX:z0v w X)(hl':z0o w a n c l f.b)(hT:z1m w):
  Calls Tryz.prog 166 #[.pointer (some ⟨bb,0,none⟩), .pointer (some ⟨X.sb,0,none⟩),frV f (.slice a n c)] w (z6U b X.ser f l w):=by
 have HL0:=z7 (((Loc.start w).new (.cells (z0a f (.slice a n c)) 50)).new' (.cells #[.slice none 0 0, .int .i64 0, .slice none 0 0, .int .i64 0, .int .i64 0, .int .i64 0, .bool false, .int .u64 0, .int .u8 0, .int .u8 0, .bool false] 141) (n:=w.heap.size+1) (by simp));have H:=z7 h;have HX:=z7 hX;have HBT:=z7 hl';have HT:=z7 hT;have HR:=z7 (y6S bb mb B E b S f.series hf.series _ (h.low HL0.out.low));have hEnd:=z7 (fun w' (h':z0v w' X)=>y5n X hfew w' h');have hfo:=hf;obtain ⟨kind,epoch,series,ck,pb,pc,cnt,closed,sum,fb,fn⟩:=f;simp only at hfn hfb;subst hfn;have HFB:=z7 hfb;clear hfb;obtain ⟨⟨D,EB,EC⟩,hDE⟩:∃e,e=z1U X.ser:=⟨_,rfl⟩;simp only [←hDE] at hEnd;have HDE:=z7 hDE;have HFO:=z7 hfo;unfold frV z0a;unfold z0a at HL0 HR;simp only at HL0 HR HBT ⊢;rcases y1V b series with hr | hr
 ·rw [hr] at HR;have HRR:=z7 hr;by_cases hAB:(ck=D∧pb=EB∧pc=EC)∨(ck=D∧pb=0∧pc=0)
  ·have HAB:=z7 hAB;clear h hX hl' hT hf hr hfo hDE hAB;obtain ⟨isA,hisA⟩:∃isA,isA=decide ((ck,pb,pc)=(D,EB,EC)):=⟨_,rfl⟩;obtain ⟨BS,hBS⟩:∃BS,BS=y1n X.ser ⟨kind,epoch,series,ck,pb,pc,cnt,closed,sum,fb,(l.length:Nat)⟩:=⟨_,rfl⟩;have HBS:Hid (BS=if isA then X.cur.p.l else []):=z7 (by
    rw [hBS,hisA];unfold y1n z5E;rw [←HDE.out];simp only [decide_eq_true_eq];rfl)
   have HBS2:=z7 hBS;have hbl:BS.length≤3504:=by
    rw [HBS.out];split
    ·exact HX.out.cur.ok.bits
    ·exact Nat.zero_le _
   have hn1:Hid (decide ((ck,pb,pc)≠(D,EB,EC))=!isA):=z7 (by rw [hisA];simp);have hn2:Hid (isA=false→decide ((ck,pb,pc)≠(D,0,0))=false):=z7 fun hi=>by
    rw [hi] at hisA;rcases HAB.out with ⟨rfl,rfl,rfl⟩ | ⟨rfl,rfl,rfl⟩
    ·simp at hisA
    ·simp
   have hn3:Hid (decide ((ck,pb,pc)=(D,EB,EC))=isA):=z7 hisA.symm;clear hisA hBS;go_enter Tryz.func166,Tryz.ntmps166;go_wp2_with fail;refine HR.out.mono ?_;rintro e w1 ⟨rfl,hb⟩;have HL1:=z7 (HL0.out.call hb);clear hb;obtain ⟨f0,f1,f2,f3,f4,f5,f6,f7,f8,f9,f10,ff⟩:=z0q (HL1.out.get 1 rfl);have l1:=HL1.out.lt 1 rfl;go_wp2_with fail;refine (hEnd.out w1 (HX.out.low HL1.out.low)).mono ?_;rintro e w2 ⟨rfl,hb⟩;have HL2:=z7 (HL1.out.call hb);clear hb f0 f1 f2 f3 f4 f5 f6 f7 f8 f9 f10 ff;obtain ⟨f0,f1,f2,f3,f4,f5,f6,f7,f8,f9,f10,ff⟩:=z0q (HL2.out.get 1 rfl);have l1:=HL2.out.lt 1 rfl;go_upto_region 5 with fail
   obtain ⟨W3,hW3,hL3⟩:=(HL2.out.new (.cells #[.int .u32 D, .int .u32 EB, .int .u32 EC] 42)).named;refine z0D hW3 ?_;have HL3:=z7 hL3;clear hL3 hW3 f0 f1 f2 f3 f4 f5 f6 f7 f8 f9 f10 ff l1;obtain ⟨f0,f1,f2,f3,f4,f5,f6,f7,f8,f9,f10,ff⟩:=z0q (HL3.out.get 2 rfl);obtain ⟨p0,p1,p2,pf⟩:=cells3 (HL3.out.get 0 rfl);have l1:=HL3.out.lt 2 rfl;have l2:=HL3.out.lt 0 rfl
   go_cut [39] (fun v wx=>v= .bool false∧wx=W3)
   case first=>
    cases isA with
    | true=>
     go_wp2_with (refine z2F (by rfl) (.bool false) (z2V _ _ _ rfl (ck,pb,pc) (D,EB,EC) rfl rfl false hn1.out) ?_);go_meet
     exact ⟨rfl,rfl⟩
    | false=>
     go_wp2_with (first | refine z2F (by rfl) (.bool true) (z2V _ _ _ rfl (ck,pb,pc) (D,EB,EC) rfl rfl true hn1.out) ?_ | refine z2F (by rfl) (.bool false) (z2V _ _ _ rfl (ck,pb,pc) (D,0,0) rfl rfl false (hn2.out rfl)) ?_);go_meet
     exact ⟨rfl,rfl⟩
   case rest=>
    obtain ⟨rfl,rfl⟩:=hcut;go_upto_region 8 with fail
    obtain ⟨W4,hW4,hL4⟩:=(HL3.out.new (.cells #[.slice none 0 0, .int .i64 0] 48)).named;refine z0D hW4 ?_;have HL4:=z7 hL4;clear hL4 hW4 f0 f1 f2 f3 f4 f5 f6 f7 f8 f9 f10 ff l1 p0 p1 p2 pf l2;obtain ⟨f0,f1,f2,f3,f4,f5,f6,f7,f8,f9,f10,ff⟩:=z0q (HL4.out.get 3 rfl);obtain ⟨p0,p1,p2,pf⟩:=cells3 (HL4.out.get 1 rfl);have l1:=HL4.out.lt 3 rfl;have l2:=HL4.out.lt 1 rfl;have HLA:=z7 (z7h X hfew W4 (HX.out.low HL4.out.low))
    go_upto_if 44 with (refine z2F (by rfl) (.bool isA) (z4g _ _ _ rfl (ck,pb,pc) (D,EB,EC) rfl rfl isA hn3.out) ?_)
    obtain ⟨q,hq⟩:∃q,q=wc.heap.size:=⟨_,rfl⟩;rw [←hq] at HL4 ⊢;have HQ:=z7 hq;clear hq;go_simp
    go_cut [] (fun wx=>Hid (∃ab nb cb bb',Loc w [(q, .cells #[.slice ab nb cb, .int .i64 (BS.length:Nat)] 48 (0,0)),(w2.heap.size, .cells #[.int .u32 D, .int .u32 EB, .int .u32 EC] 42 (0,0)),(w.heap.size+1, .cells (z1y.vals false).toArray 141 (0,0)),(w.heap.size, .cells #[.int .u8 kind, .int .u32 epoch, .int .u32 series, .int .u32 ck, .int .u32 pb, .int .u32 pc, .int .u32 cnt, .bool closed, .int .u64 sum, .slice a n c, .int .i64 l.length] 50 (0,0))] wx∧z0o wx ab nb cb BS bb'))
    case first=>
     cases isA with
     | true=>
      have hv:(X.cur.vals false).toArray[0]? =some (.slice X.cur.a X.cur.b.length X.cur.c):=rfl;go_wp2_with fail;refine HLA.out.mono ?_;rintro e w5 ⟨rfl,hb⟩;have HL5:=z7 (HL4.out.call hb);have hX5:=HX.out.low HL5.out.low;have g0:=hX5.at (j:=0) rfl;have g1:=hX5.at (j:=1) rfl;simp only [Nat.add_zero] at g0;have lg:=hX5.lts X.g (.inr (.inl rfl));obtain ⟨q0,q1,qf⟩:=z0g (HL5.out.get 0 rfl);have lq:=HL5.out.lt 0 rfl;have HX5:=z7 hX5;have hBS:Hid (BS=X.cur.p.l):=z7 HBS.out;clear hb hX5 hv;go_wp2;go_meet
      have h6:=(z0E.of (S:=fun _=>False) HL5.out).lay (K':= [(q, .cells #[.slice X.cur.a X.cur.b.length X.cur.c, .int .i64 (X.cur.p.l.length:Nat)] 48 (0,0)),(w2.heap.size, .cells #[.int .u32 D, .int .u32 EB, .int .u32 EC] 42 (0,0)),(w.heap.size+1, .cells (z1y.vals false).toArray 141 (0,0)),(w.heap.size, .cells #[.int .u8 kind, .int .u32 epoch, .int .u32 series, .int .u32 ck, .int .u32 pb, .int .u32 pc, .int .u32 cnt, .bool closed, .int .u64 sum, .slice a n c, .int .i64 l.length] 50 (0,0))]) 0 0 [.slice X.cur.a X.cur.b.length X.cur.c, .int .i64 (X.cur.p.l.length:Nat)] rfl rfl rfl rfl;rw [hBS.out];have hqx:∀k,X.In k→k≠q:=fun k hk e=>by
       have:=HX.out.lts k hk;have:=HL4.out.ge 0 rfl;omega
      exact ⟨X.cur.a,_,X.cur.c,X.cur.b,h6.toLoc,(HX5.out.keep (fun k hk=>(q7 (hqx k hk)).trans (q7 (hqx k hk))) (by simp [World.setCell])).cur.rd.now⟩
     | false=>
      go_wp2;go_meet
      refine ⟨none,0,0, [],?_,?_⟩
      ·have:=HL4.out;rw [HBS.out];exact this
      ·rw [HBS.out];exact ⟨RdB.nil W4,rfl,z0U.nil⟩
    case rest=>
     obtain ⟨ab,nb,cb,bb',hL5,hB5⟩:=hcut;have HL5:=z7 hL5;have HB5:=z7 hB5;clear hL5 hB5 f0 f1 f2 f3 f4 f5 f6 f7 f8 f9 f10 ff l1 p0 p1 p2 pf l2 HLA;obtain ⟨f0,f1,f2,f3,f4,f5,f6,f7,f8,f9,f10,ff⟩:=z0q (HL5.out.get 3 rfl);obtain ⟨q0,q1,qf⟩:=z0g (HL5.out.get 0 rfl);have l1:=HL5.out.lt 3 rfl;have l2:=HL5.out.lt 0 rfl;go_wp2_with fail;obtain ⟨W6,hW6,hL6⟩:=(HL5.out.new (.cells #[.slice ab nb cb, .int .i64 (BS.length:Nat), .slice a n c, .int .i64 (l.length:Nat)] 48)).named;have hB6:=HB5.out.low (q5 wc (.cells #[.slice ab nb cb, .int .i64 (BS.length:Nat), .slice a n c, .int .i64 (l.length:Nat)] 48));rw [←hW6] at hB6 ⊢;have hbits:z7U W6 (.slice (some ⟨wc.heap.size,0,none⟩) 2 2) [⟨ab,nb,cb,BS,bb'⟩,⟨a,n,c,l,fb⟩]:=⟨by rw [hW6];exact y2y wc _ _ _ 2 2 rfl (by decide) rfl,fun x hx=>by
      simp only [List.mem_cons,List.not_mem_nil,or_false] at hx;rcases hx with rfl | rfl
      ·exact ⟨hB6,by simp only;omega⟩
      ·exact ⟨HBT.out.low hL6.low,by simp only;omega⟩⟩
     have HL6:=z7 hL6;have hjo:=q1Y _ _ _ _ _ hbits rfl (by decide);have hjl:joinL [⟨ab,nb,cb,BS,bb'⟩,⟨a,n,c,l,fb⟩]=BS++l:=by simp [joinL]
     rw [hjl] at hjo;obtain ⟨L,hL⟩:∃L,L=BS++l:=⟨_,rfl⟩;rw [←hL] at hjo;have HLL:=z7 hL;have HBR:Hid (z0Z b X.ser ⟨kind,epoch,series,ck,pb,pc,cnt,closed,sum,fb,(l.length:Nat)⟩ l=match z5c L with
       | none=>(61,z2e)
       | some st=>if y4I b X.ser ⟨kind,epoch,series,ck,pb,pc,cnt,closed,sum,fb,(l.length:Nat)⟩ st then (61,z2e) else (0,⟨L,st⟩)):=z7 (by
      rw [hL,HBS2.out];unfold z0Z;rw [if_neg (by simpa using HRR.out),if_neg];unfold z5E;rw [←HDE.out];simp only [ne_eq,Prod.mk.injEq];rintro ⟨h1,h2⟩;rcases HAB.out with h | h
      ·exact h1 h
      ·exact h2 h)
     have hLl:L.length≤1003504:=by rw [hL,List.length_append];omega
     have HJ:=z7 hjo;clear hL6 hW6 hB6 hbits hjl hL hjo f0 f1 f2 f3 f4 f5 f6 f7 f8 f9 f10 ff l1 q0 q1 qf l2;refine HJ.out.mono ?_;rintro e w7 ⟨a7,n7,c7,b7,rfl,hrow7,rfl,hbt7,hb7⟩;have HL7:=z7 (HL6.out.call hb7);have HROW7:=z7 hrow7;have HBT7:=z7 hbt7;clear hrow7 hbt7 hb7 HJ;go_upto_region 11 with fail
     obtain ⟨W8,hW8,hL8⟩:=(HL7.out.new (.cells #[.slice a7 b7.length c7, .int .i64 (L.length:Nat)] 48)).named;refine z0D hW8 ?_;have hrow8:=HROW7.out.alloc (.cells #[.slice a7 b7.length c7, .int .i64 (L.length:Nat)] 48);rw [←hW8] at hrow8;have HL8:=z7 hL8;have HROW8:=z7 hrow8;obtain ⟨r,hr⟩:∃r,r=w7.heap.size:=⟨_,rfl⟩;rw [←hr] at HL8 ⊢;have HLT8:=z7 (show r<W8.heap.size by have:=HL8.out.lt 0 rfl;exact this);have HRW:=z7 hr;clear hL8 hW8 hrow8 hr;have hall:=z7 (q0H a7 b7.length c7 L b7 W8 (z4O HROW8.out rfl HBT7.out) (by omega) (HT.out.low HL8.out.low));obtain ⟨q0,q1,qf⟩:=z0g (HL8.out.get 0 rfl);have l2:=HL8.out.lt 0 rfl;go_wp2_with fail;refine hall.out.mono ?_;rintro e w9 ⟨⟨st,av,cv,hst,rfl,hrow9⟩ | ⟨hno,rfl⟩,hb9⟩
     ·have HL9:=z7 (HL8.out.call hb9);have HROW9:=z7 hrow9;have HST:=z7 hst;have HB9:=z7 (ownsRow_below HROW8.out hb9 (Nat.le_refl _));clear hrow9 hst hb9 hall q0 q1 qf l2;obtain ⟨en,el,ed,has,prev,lead,width,hE⟩:∃en el ed has prev lead width,(⟨en,el,ed,⟨has,prev,lead,width⟩⟩:z1A)=z0l z0e st:=⟨_,_,_,_,_,_,_,rfl⟩;rw [←hE];have HE:=z7 hE;clear hE;simp only;obtain ⟨n1,hn1'⟩:∃n1,n1=st.length:=⟨_,rfl⟩;rw [←hn1'] at HROW9 ⊢;have HN1:=z7 hn1';clear hn1';have hncap:=z1C HROW9.out;go_upto_region 15 with fail
      obtain ⟨W10,hW10,hL10⟩:=(HL9.out.new (.cells #[.int .i64 (en:Nat), .int .i64 el, .int .i64 ed, .bool has, .int .u64 (prev:Nat), .int .u8 (lead:Nat), .int .u8 (width:Nat)] 139)).named;refine z0D hW10 ?_;have hb10:Below w9.heap.size w9 W10:=by rw [hW10];exact q5 _ _
      have HL10:=z7 hL10;have HROW10:=z7 (ownsRow_below HROW9.out hb10 (Nat.le_refl _));have HB10:=z7 (ownsRow_below HB9.out hb10 (Nat.le_refl _));obtain ⟨s,hs⟩:∃s,s=w9.heap.size:=⟨_,rfl⟩;rw [←hs] at HL10 ⊢;have HSS:=z7 hs;clear hL10 hW10 hb10 hs;obtain ⟨f0,f1,f2,f3,f4,f5,f6,f7,f8,f9,f10,ff⟩:=z0q (HL10.out.get 6 rfl);have l1:=HL10.out.lt 6 rfl;have hbk:=H.out.low HL10.out.low;obtain ⟨b0,b1,b2,bf⟩:=hbk.cells;have lb:=(hbk.lo bb hbk.own.1).2;have hXk:=HX.out.low HL10.out.low;obtain ⟨s0,s1,s2,sf⟩:=hXk.cells;have ls:=hXk.lts X.sb (.inl rfl);clear hbk hXk;obtain ⟨so,hso⟩:∃so,so=z5g X.ser.done:=⟨_,rfl⟩;obtain ⟨ah,hah⟩:∃ah,ah=z3B X.ser.done:=⟨_,rfl⟩;obtain ⟨bsz,hbsz⟩:∃z,z=b.size:=⟨_,rfl⟩;rw [←hso] at s2;rw [←hah] at s1;rw [←hbsz] at b1;have hw1:IntKind.u64.wrap (n1:Int)=(n1:Int):=by rw [IntKind.wrap_u64];omega
      have hw2:IntKind.u64.wrap (cnt:Int)=(cnt:Int):=by have:=HFO.out.count;simp only at this;rw [IntKind.wrap_u64];omega
      obtain ⟨FB,hFB⟩:∃FB,FB=y4I b X.ser ⟨kind,epoch,series,ck,pb,pc,cnt,closed,sum,fb,(l.length:Nat)⟩ st:=⟨_,rfl⟩;have HFB':Hid (FB=decide (n1≠cnt∨cnt≤pc∨bsz<n1∨(so=true∧firstT st≤ah))):=z7 (by rw [hFB,HN1.out,hso,hah,hbsz];rfl);have HFBB:=z7 hFB;have HSO:=z7 hso;have HAH:=z7 hah;have HBSZ:=z7 hbsz;clear hFB hso hah hbsz
      go_cut [111] (fun v wx=>v= .bool FB∧Hid (Below W10.heap.size W10 wx))
      case first=>
       by_cases t1:n1=cnt
       ·have e1:((n1:Int) !=(cnt:Int))=false:=by rw [t1];simp
        have HT1:=z7 t1;clear t1;by_cases t2:cnt≤pc
        ·have e2:decide ((cnt:Int)≤(pc:Int))=true:=decide_eq_true (by omega);have hr:FB=true:=by rw [HFB'.out];exact decide_eq_true (.inr (.inl t2))
         go_quiet (fail)
         go_wp2;go_meet
         exact ⟨by rw [hr],z7 (z0k (Below.refl _ _))⟩
        ·have e2:decide ((cnt:Int)≤(pc:Int))=false:=decide_eq_false (by omega);by_cases t3:bsz<n1
         ·have e3:decide ((bsz:Int)<(n1:Int))=true:=decide_eq_true (by omega);have hr:FB=true:=by rw [HFB'.out];exact decide_eq_true (.inr (.inr (.inl t3)))
          go_quiet (fail)
          go_wp2;go_meet
          exact ⟨by rw [hr],z7 (z0k (Below.refl _ _))⟩
         ·have e3:decide ((bsz:Int)<(n1:Int))=false:=decide_eq_false (by omega);have hpos:0<n1:=by have:=HT1.out;omega
          obtain ⟨x0,st',hst'⟩:∃x0 st',st=x0::st':=by
           cases st with
           | nil=>have:=HN1.out;simp at this;omega
           | cons x0 st'=>exact ⟨x0,st',rfl⟩
          obtain ⟨t0,ht0⟩:∃t0,t0=x0.s.t:=⟨_,rfl⟩;have hfst:firstT st=t0:=by rw [hst',ht0];rfl
          obtain ⟨gv,capv,hav, -⟩:=z4N HROW10.out (fun e=>by simp only [Value.slice.injEq] at e;omega);simp only [Value.slice.injEq,true_and] at hav;obtain ⟨rfl,rfl⟩:=hav;have hcell:=HROW10.out.cells (g:=gv) rfl 0 (.int .i64 t0) (by rw [hst',ht0];rfl);rw [z9O,Nat.zero_add] at hcell;have lgv:=(HROW10.out.lt gv rfl).2;have hin:(0:Int)<n1:=by omega
          have HFST:=z7 hfst;clear hst' ht0 hfst;cases so with
          | false=>
           have hr:FB=false:=by rw [HFB'.out];exact decide_eq_false (fun h=>by rcases h with h | h | h | ⟨h, -⟩<;>first | exact absurd HT1.out h | omega | cases h)
           go_quiet (fail)
           go_wp2;go_meet
           exact ⟨by rw [hr],z7 (z0k (Below.refl _ _))⟩
          | true=>
           by_cases t4:t0≤ah
           ·have e4:decide (t0≤ah)=true:=decide_eq_true t4;have hr:FB=true:=by rw [HFB'.out];exact decide_eq_true (.inr (.inr (.inr ⟨rfl,by rw [HFST.out];exact t4⟩)))
            go_quiet (fail)
            go_wp2;go_meet
            exact ⟨by rw [hr],z7 (z0k (Below.refl _ _))⟩
           ·have e4:decide (t0≤ah)=false:=decide_eq_false t4;have hr:FB=false:=by rw [HFB'.out];exact decide_eq_false (fun h=>by rw [HFST.out] at h;rcases h with h | h | h | ⟨-,h⟩<;>first | exact absurd HT1.out h | omega | exact absurd h t4)
            go_quiet (fail)
            go_wp2;go_meet
            exact ⟨by rw [hr],z7 (z0k (Below.refl _ _))⟩
       ·have e1:((n1:Int) !=(cnt:Int))=true:=by rw [bne_iff_ne];omega
        have hr:FB=true:=by rw [HFB'.out];exact decide_eq_true (.inl t1)
        go_quiet (fail)
        go_wp2;go_meet
        exact ⟨by rw [hr],z7 (z0k (Below.refl _ _))⟩
      case rest=>
       obtain ⟨rfl,hb11⟩:=hcut;have HL11:=z7 (HL10.out.call hb11.out);have HB11:=z7 (ownsRow_below HB10.out hb11.out (Nat.le_refl _));clear hb11 f0 f1 f2 f3 f4 f5 f6 f7 f8 f9 f10 ff l1 b0 b1 b2 bf lb s0 s1 s2 sf ls;cases FB with
       | true=>
        have HFIN:Hid (z0Z b X.ser ⟨kind,epoch,series,ck,pb,pc,cnt,closed,sum,fb,(l.length:Nat)⟩ l=(61,z2e)):=z7 (by
         rw [HBR.out,HST.out];simp only;rw [←HFBB.out];rfl)
        go_wp2_with (refine z0h rfl _ _ _ rfl (w.heap.size+1) 0 rfl (z1y.vals false).toArray rfl (z0y (HL11.out.get 5 rfl) rfl) (z0B (HL11.out.get 5 rfl)) z0Q (z1y.one false) ?_);refine bodyPost_ret (z9R rfl rfl (q0x (z0I _ 0 _ _ (HL11.out.get 5 rfl) (Nat.le_refl _)) (z3T rfl)) z3k z0Q) rfl ?_;exact ⟨((z0E.of (S:=fun _=>False) HL11.out).puts 5 (z1y.vals false) 0 _ rfl).low.toBelow, .inl ⟨by rw [HFIN.out];decide,by rw [HFIN.out];rfl⟩⟩
       | false=>
        have HFIN:Hid (z0Z b X.ser ⟨kind,epoch,series,ck,pb,pc,cnt,closed,sum,fb,(l.length:Nat)⟩ l=(0,⟨L,st⟩)):=z7 (by
         rw [HBR.out,HST.out];simp only;rw [←HFBB.out];rfl)
        obtain ⟨q0,q1,qf⟩:=z0g (HL11.out.get 1 rfl);have l2:=HL11.out.lt 1 rfl;have HEN:=z7 (q0Z a7 b7.length c7 L b7 wc (z4O HB11.out rfl HBT7.out) (by omega) (HT.out.low HL11.out.low));go_wp2_with fail;refine HEN.out.mono ?_;rintro e w12 ⟨⟨st2,ea,ec,hst2,rfl,hrow12⟩ | ⟨hno,rfl⟩,hb12⟩
        ·rw [HST.out] at hst2;simp only [Option.some.injEq] at hst2;subst hst2;rw [←HN1.out] at hrow12 ⊢;have HL12:=z7 (HL11.out.call hb12);have HB12:=z7 (ownsRow_below HB11.out hb12 (Nat.le_refl _));have HROW12:=z7 hrow12;obtain ⟨q0,q1,qf⟩:=z0g (HL12.out.get 1 rfl);obtain ⟨e0,e1,e2,e3,e4,e5,e6,ef⟩:=z2G (HL12.out.get 0 rfl);obtain ⟨f0,f1,f2,f3,f4,f5,f6,f7,f8,f9,f10,ff⟩:=z0q (HL12.out.get 6 rfl);have l2:=HL12.out.lt 1 rfl;have l3:=HL12.out.lt 0 rfl;have l4:=HL12.out.lt 6 rfl;clear hrow12 hb12 HEN;go_wp2_with (refine z0h rfl _ _ _ rfl (w.heap.size+1) 0 rfl #[.slice a7 b7.length c7, .int .i64 (L.length:Nat), .slice ea n1 ec, .int .i64 (en:Nat), .int .i64 el, .int .i64 ed, .bool has, .int .u64 (prev:Nat), .int .u8 (lead:Nat), .int .u8 (width:Nat), .bool closed] rfl (z0y (HL12.out.get 5 rfl) rfl) (z0B (HL12.out.get 5 rfl)) z0Q (by simp [Value.oneCell']) ?_);have hlow:=((z0E.of (S:=fun _=>False) HL12.out).puts 5 [.slice a7 b7.length c7, .int .i64 (L.length:Nat), .slice ea n1 ec, .int .i64 (en:Nat), .int .i64 el, .int .i64 ed, .bool has, .int .u64 (prev:Nat), .int .u8 (lead:Nat), .int .u8 (width:Nat), .bool closed] 0 _ rfl).low.toBelow;refine bodyPost_ret (z9R rfl rfl (q0x (z0I _ 0 _ _ (HL12.out.get 5 rfl) (Nat.le_refl _)) (z3T rfl)) z3k z0Q) rfl ?_;have hpk:z1h.Ok ⟨L,st⟩:=⟨HST.out,by
          have h1:=HFB'.out;have h2:=of_decide_eq_false h1.symm;have h3:=H.out.size.2;have h4:=HBSZ.out;rw [←HN1.out];have h5:¬bsz<n1:=fun h=>h2 (.inr (.inr (.inl h)));omega⟩
         have hpos:0<n1:=by
          have h2:=of_decide_eq_false HFB'.out.symm;have h5:¬n1≠cnt:=fun h=>h2 (.inl h);have h6:¬cnt≤pc:=fun h=>h2 (.inr (.inl h));omega
         have hlt6:=HL6.out.lt 3 rfl;have hlt11:=HL11.out.lt 5 rfl;have hne:∀k,((Value.slice a7 b7.length c7).ownBlock=some k∨(Value.slice ea n1 ec).ownBlock=some k)→k≠w.heap.size+1∧w.heap.size≤k∧k<w12.heap.size:=fun k hk=>by
          rcases hk with hk | hk
          ·have:=HB12.out.lt k hk;omega
          ·have:=HROW12.out.lt k hk;omega
         refine ⟨hlow, .inr ⟨by rw [HFIN.out],⟨a7,c7,b7,ea,ec,⟨L,st⟩⟩,fun k=>(Value.slice a7 b7.length c7).ownBlock=some k∨(Value.slice ea n1 ec).ownBlock=some k,?_,by rw [HFIN.out],⟨fun w' hk=>?_,fun w' hk=>?_,hpk,?_⟩,by show 0<st.length;rw [←HN1.out];exact hpos,fun k hk=>⟨(hne k hk).2.1,by rw [size_setCells];exact (hne k hk).2.2⟩⟩⟩
         ·show Ending.returned (.tuple #[.agg #[_,_,_,_,_,_,_,_,_,_,_],_])=Ending.returned (.tuple #[.agg #[_,_,_,_,_,_,_,_,_,_,_],_]);rw [←HE.out,←HN1.out];rfl
         ·exact z4O (j7 HB12.out fun k hb=>(hk k (.inl hb)).trans (z0T (hne k (.inl hb)).1 _ _ _)) rfl HBT7.out
         ·show Rd w' (.slice ea st.length ec) 1 st.length (z2h (z1i st));rw [←HN1.out];exact z0d (j7 HROW12.out fun k hb=>(hk k (.inr hb)).trans (z0T (hne k (.inr hb)).1 _ _ _))
         ·show st.length≤ec;rw [←HN1.out];exact (z1C HROW12.out).1
        ·rw [HST.out] at hno;cases hno
     ·have HL9:=z7 (HL8.out.call hb9);have HNO:=z7 hno;clear hno hb9 hall q0 q1 qf l2;go_upto_region 15 with fail
      obtain ⟨W10,hW10,hL10⟩:=(HL9.out.new (.cells #[.int .i64 0, .int .i64 0, .int .i64 0, .bool false, .int .u64 0, .int .u8 0, .int .u8 0] 139)).named;refine z0D hW10 ?_;have HL10:=z7 hL10;clear hL10 hW10;have HFIN:Hid (z0Z b X.ser ⟨kind,epoch,series,ck,pb,pc,cnt,closed,sum,fb,(l.length:Nat)⟩ l=(61,z2e)):=z7 (by rw [HBR.out,HNO.out])
      go_cut [111] (fun v wx=>v= .bool true∧Hid (Below W10.heap.size W10 wx))
      case first=>
       go_quiet (fail)
       go_wp2;go_meet
       exact ⟨rfl,z7 (z0k (Below.refl _ _))⟩
      case rest=>
       obtain ⟨rfl,hb11⟩:=hcut;have HL11:=z7 (HL10.out.call hb11.out);clear hb11;go_wp2_with (refine z0h rfl _ _ _ rfl (w.heap.size+1) 0 rfl (z1y.vals false).toArray rfl (z0y (HL11.out.get 5 rfl) rfl) (z0B (HL11.out.get 5 rfl)) z0Q (z1y.one false) ?_);refine bodyPost_ret (z9R rfl rfl (q0x (z0I _ 0 _ _ (HL11.out.get 5 rfl) (Nat.le_refl _)) (z3T rfl)) z3k z0Q) rfl ?_;exact ⟨((z0E.of (S:=fun _=>False) HL11.out).puts 5 (z1y.vals false) 0 _ rfl).low.toBelow, .inl ⟨by rw [HFIN.out];decide,by rw [HFIN.out];rfl⟩⟩
  ·have hA:¬(ck=D∧pb=EB∧pc=EC):=fun e=>hAB (.inl e);have hB:¬(ck=D∧pb=0∧pc=0):=fun e=>hAB (.inr e);have HFIN:Hid (z0Z b X.ser ⟨kind,epoch,series,ck,pb,pc,cnt,closed,sum,fb,(l.length:Nat)⟩ l=(122,z2e)):=z7 (by
    unfold z0Z;rw [if_neg (by simpa using hr),if_pos];unfold z5E;rw [←hDE];simp only [ne_eq,Prod.mk.injEq];exact ⟨hA,hB⟩)
   have HN1:Hid (decide ((ck,pb,pc)≠(D,EB,EC))=true):=z7 (decide_eq_true (by simp only [ne_eq,Prod.mk.injEq];exact hA));have HN2:Hid (decide ((ck,pb,pc)≠(D,0,0))=true):=z7 (decide_eq_true (by simp only [ne_eq,Prod.mk.injEq];exact hB));clear h hX hl' hT hf hr hfo hDE hA hB hAB;go_enter Tryz.func166,Tryz.ntmps166;go_wp2_with fail;refine HR.out.mono ?_;rintro e w1 ⟨rfl,hb⟩;have HL1:=z7 (HL0.out.call hb);clear hb;obtain ⟨f0,f1,f2,f3,f4,f5,f6,f7,f8,f9,f10,ff⟩:=z0q (HL1.out.get 1 rfl);have l1:=HL1.out.lt 1 rfl;go_wp2_with fail;refine (hEnd.out w1 (HX.out.low HL1.out.low)).mono ?_;rintro e w2 ⟨rfl,hb⟩;have HL2:=z7 (HL1.out.call hb);clear hb f0 f1 f2 f3 f4 f5 f6 f7 f8 f9 f10 ff;obtain ⟨f0,f1,f2,f3,f4,f5,f6,f7,f8,f9,f10,ff⟩:=z0q (HL2.out.get 1 rfl);have l1:=HL2.out.lt 1 rfl;go_upto_region 6 with (first | refine z2F (by rfl) (.bool true) (z2V _ _ _ rfl (ck,pb,pc) (D,EB,EC) rfl rfl true HN1.out) ?_ | refine z2F (by rfl) (.bool true) (z2V _ _ _ rfl (ck,pb,pc) (D,0,0) rfl rfl true HN2.out) ?_)
   obtain ⟨W3,hW3,hL3⟩:=(HL2.out.new (.cells #[.int .u32 D, .int .u32 EB, .int .u32 EC] 42)).named;refine z0D hW3 ?_;have HL3:=z7 hL3;clear hL3 hW3 f0 f1 f2 f3 f4 f5 f6 f7 f8 f9 f10 ff;go_wp2_with (refine z0h rfl _ _ _ rfl (w.heap.size+1) 0 rfl (z1y.vals false).toArray rfl (z0y (HL3.out.get 1 rfl) rfl) (z0B (HL3.out.get 1 rfl)) z0Q (z1y.one false) ?_);have hL4:=(z0E.of (S:=fun _=>False) HL3.out).lay (K':= [(w2.heap.size, .cells #[.int .u32 D, .int .u32 EB, .int .u32 EC] 42 (0,0)),(w.heap.size+1, .cells (z1y.vals false).toArray 141 (0,0)),(w.heap.size, .cells #[.int .u8 kind, .int .u32 epoch, .int .u32 series, .int .u32 ck, .int .u32 pb, .int .u32 pc, .int .u32 cnt, .bool closed, .int .u64 sum, .slice a n c, .int .i64 l.length] 50 (0,0))]) 1 0 (z1y.vals false) rfl rfl rfl rfl;refine bodyPost_ret (z9R rfl rfl (hL4.get 1 rfl) z3k z0Q) rfl ?_;exact ⟨hL4.low.toBelow, .inl ⟨by rw [HFIN.out];decide,by rw [HFIN.out];rfl⟩⟩
 ·rw [hr] at HR;have HFIN:Hid (z0Z b X.ser ⟨kind,epoch,series,ck,pb,pc,cnt,closed,sum,fb,(l.length:Nat)⟩ l=(121,z2e)):=z7 (by
   unfold z0Z;rw [if_pos (by simp only;omega)];simp only [hr])
  clear h hX hl' hT hf hr hfo hDE;go_enter Tryz.func166,Tryz.ntmps166;go_wp2_with fail;refine HR.out.mono ?_;rintro e w1 ⟨rfl,hb⟩;have HL1:=z7 (HL0.out.call hb);clear hb;go_wp2_with (refine z0h rfl _ _ _ rfl (w.heap.size+1) 0 rfl (z1y.vals false).toArray rfl (z0y (HL1.out.get 0 rfl) rfl) (z0B (HL1.out.get 0 rfl)) z0Q (z1y.one false) ?_);have hL4:=(z0E.of (S:=fun _=>False) HL1.out).lay (K':= [(w.heap.size+1, .cells (z1y.vals false).toArray 141 (0,0)),(w.heap.size, .cells #[.int .u8 kind, .int .u32 epoch, .int .u32 series, .int .u32 ck, .int .u32 pb, .int .u32 pc, .int .u32 cnt, .bool closed, .int .u64 sum, .slice a n c, .int .i64 l.length] 50 (0,0))]) 0 0 (z1y.vals false) rfl rfl rfl rfl;refine bodyPost_ret (z9R rfl rfl (hL4.get 0 rfl) z3k z0Q) rfl ?_;exact ⟨hL4.low.toBelow, .inl ⟨by rw [HFIN.out];decide,by rw [HFIN.out];rfl⟩⟩
end Go.Proofs.YtfcnapnopdomhaaGreatDoor

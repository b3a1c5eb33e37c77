/- The walk of stuff. -/
import Derived.Test.YtabnnclcpkdkeaaGreatDoorZQ
import Derived.Test.YtabnnclcpkdkeaaGreatDoorZD
import Derived.Deep.DeepCutAuto
namespace Go.Proofs.YtabnnclcpkdkeaaGreatDoor
open Go.Proofs.Tryz
set_option linter.all false
set_option maxRecDepth 100000
set_option maxHeartbeats 0
open Go.RowKit
def nul:List UInt8->List UInt8
 | []=> []
 | c::l=>if c=0 then []else c::nul l
theorem q0v:∀{l:List UInt8},NoZ l->nul l=l
 | [],_=>rfl
 | c::l,h=>by
  have A:=h c wH;show(if c=0 then []else c::nul l)=_;rw[wR A,q0v fun x I=>h x (by simp[I])]
theorem y5j:∀{o:List UInt8},NoZ o->∀r,nul (o++0::r)=o
 | [],_,r=>by simp[nul]
 | c::o,h,r=>by
  have A:=h c wH;show(if c=0 then []else c::nul (o++0::r))=_;rw[wR A,y5j (fun x I=>h x (by simp[I]))]
theorem q3A(l:List UInt8):NoZ (nul l)/\((nul l=l/\Lib.indexByte l 0= -1)\/∃r,l=nul l++0::r/\Lib.indexByte l 0=((nul l).length:Int)):=by
 rcases z7V l with⟨A,I⟩|⟨o,r,rfl,A,I⟩
 .rw[q0v A];exact⟨A,.inl ⟨rfl,I⟩⟩
 rw[y5j A r];exact⟨A,.inr ⟨r,rfl,I⟩⟩
def opened(b:List UInt8):Option (List UInt8):=if nul b= []\/nul b=b then none else z3H (nul b) false
def oB(b:List UInt8):List UInt8:=(opened b).getD []
def oN(b:List UInt8):Int:=if(opened b).isSome then(((nul b).length+1:Nat):Int)else 0
def oE(b:List UInt8):Int:=if(opened b).isSome then 0 else 90
theorem y1h{b:List UInt8}(h:opened b=none):oB b= []/\oN b=0/\oE b=90:=by simp[oB,oN,oE,h]
theorem z8k{b x:List UInt8}(h:opened b=some x):oB b=x/\oN b=(((nul b).length+1:Nat):Int)/\oE b=0:=by simp[oB,oN,oE,h]
def y2U(b:List UInt8)(w:World)(e:Ending)(w':World):Prop:=
 ∃a n' c',e= .returned (.tuple #[.slice a n' c',.int .i64 (oN b),.int .u16 (oE b)])/\w'.ownsRow w.heap.size 5 1 (.slice a n' c') n' (z0c (oB b))/\n'=(oB b).length/\Below w.heap.size w w'
theorem z6v{b:List UInt8}{w w':World}(h:opened b=none)(hb:Below w.heap.size w w'):y2U b w (.returned (.tuple #[.slice none 0 0,.int .i64 0,.int .u16 90])) w':=by
 obtain⟨A,I,J⟩:=y1h h;unfold y2U;rw[A,I,J];exact⟨_,_,_,rfl,uN _ _ _ _,rfl,hb⟩
theorem y7l{b x:List UInt8}{w w':World}{a:Option Addr}{n c:Nat}{k:Int}(h:opened b=some x)(I:w'.ownsRow w.heap.size 5 1 (.slice a n c) x.length (z0c x))(A:n=x.length)(J:k=oN b)(hb:Below w.heap.size w w'):
  y2U b w (.returned (.tuple #[.slice a n c,.int .i64 k,.int .u16 0])) w':=by
 obtain⟨L,O,N⟩:=z8k h;unfold y2U;rw[L,N,J];exact⟨_,_,_,rfl,by rw[A];rw[A]at I;exact I,A,hb⟩
theorem RdB.mid{w:World}{A:Addr}{c n:Nat}{l:List UInt8}(h:RdB w (.slice (some A) n c) l)(J:n=l.length)(L:n<=c)(k:Nat)(N:k<=n)(c':Nat):
  RdB w (.slice (if c=1 then some A else some ⟨A.block,A.off+1,none⟩) (k - 1) c') ((l.take k).drop 1):=by
 have I:=h.upto J k c k (by simp;omega);exact I.rest (by simp;omega) wF 1 c' (k - 1) (by simp;omega)
def q0k(s:List UInt8)(w:World)(ov lv rv:Value)(wr:World):Prop:=
 ∃(O t:List UInt8) (lg:Bool) (aO ar:Option Addr) (nO cO nt ct:Nat),ov= .slice aO nO cO/\lv= .bool lg/\rv= .slice ar nt ct/\nt<=ct/\ct<=9223372036854775807/\nO+nt<=1100000/\Hid (nt=t.length)/\Hid (nO=O.length)/\Hid (NoZ t)/\
     Hid (z9d w w.heap.size 5 (.slice aO nO cO) O wr)/\Hid (RdB wr (.slice ar nt ct) t)/\Hid (∀k,(Value.slice ar nt ct).ownBlock=some k->k<w.heap.size)/\Hid (z3H s false=(z3H t lg).map fun r=>O++r)
theorem q6w(b:List UInt8)(ao:Option Addr)(c:Nat)(w:World)(hx:RdB w (.slice ao b.length c) b)(bX:b.length<=c)(hc:c<=9223372036854775807)(bO:b.length<=1100000):
  Calls prog 140 #[.slice ao b.length c] w (y2U b w):=by
 have H:=z7 (y0c _ b w hx);have HX:=z7 hx;obtain⟨hz,⟨h1,h2⟩|⟨r,h1,h2⟩⟩:=q3A b
 .have ho:opened b=none:=by unfold opened;rw[wZ (.inr h1)]
  rw[h2]at H;have U:=z7 ho;clear hx hz h1 h2 ho HX;go_enter func140,ntmps140;go_wp2_with (refine H.o.mono ?_;rintro e w' ⟨rfl,rfl⟩);go_ret3
  exact z6v U.o wD
 rw[h2]at H;by_cases hs:nul b= []
 .have ho:opened b=none:=(by unfold opened;rw[wZ (.inl hs)]);rw[hs]at H;have U:=z7 ho;clear hx hz h1 h2 ho HX hs;go_enter func140,ntmps140;go_wp2_with (refine H.o.mono ?_;rintro e w' ⟨rfl,rfl⟩);go_ret3
  exact z6v U.o wD
 have b8:nul b≠b:=fun e=>by
  have:=uS List.length h1;rw[e]at this;simp at this
 have ho:opened b=z3H (nul b) false:=(by unfold opened;rw[wR (by simp[hs,b8])]);have b7:b.length=(nul b).length+1+r.length:=by
  have:=uS List.length h1;rw[wP,wW]at this;omega
 have aL:0<(nul b).length:=qD.2 hs;obtain⟨s,hS⟩:=zN (nul b);rw[<-hS]at H hz b7 aL ho;have hN:∀x,opened b=some x->oN b=((s.length+1:Nat):Int):=fun x hx=>by rw[(z8k hx).2.1,hS]
 have aV:b.take s.length=s:=(by rw[h1,<-hS,qy rfl]);obtain⟨m,hm⟩:=zN s.length;rw[<-hm]at H;have HM:=z7 hm;have bY:(0:Int)<m:=wF;have bZ:¬((m:Int)<=0):=wF;have bD:(m:Int)<=c:=wF;have bW:m<=1100000:=wF;obtain⟨ad,rfl⟩:∃ad,ao=some ad:=by
  rcases hx.2 with⟨he,hz⟩|⟨bF,c2,he,_⟩
  .have:b.length=0:=hz;omega
  simp only[wO]at he;exact⟨bF,he.1⟩
 have b4:Hid (∀k,(Value.slice (some ad) m c).ownBlock=some k->k<w.heap.size):=z7 fun k hk=>by
  obtain⟨b0,o0,c0,he,_,bT⟩:=RdB.at (k:=0) hx wF;simp only[wO,wK]at he;obtain⟨rfl,_⟩:=he;have:k=b0:=(by simpa[Value.ownBlock]using hk.symm);omega
 have b9:=z7 (by have:=hx.upto rfl m c m (by rw[hm,aV]);rwa [hm,aV,<-hm]at this);have HZ:=z7 hz;have HO:=z7 ho;have HN:=z7 hN;clear hx h1 h2 ho HX hs b8 b7 aL hS hN aV hm hz;go_enter func140,ntmps140;go_wp2_with (refine H.o.mono ?_;clear H;rintro e w ⟨rfl,rfl⟩);go_loopw[6,7,8] (fun ov lv rv wr=>q0k s w ov lv rv wr) (fun _ _ rv _=>match rv with | .slice _ n _=>n|_=>0)
 case atStart=>exact⟨[],s,false,none,some ad,0,0,m,c,rfl,rfl,rfl,wF,hc,wF,HM,z7 rfl,HZ,z7 ⟨uN _ _ _ _,wN _ _,wJ _⟩,b9,b4,z7 wH⟩
 case round=>
  obtain⟨O,t,lg,aO,ar,nO,cO,J,ct,rfl,rfl,rfl,aJ,bV,bS,L,aG,aY,hO,ht,bI,aA⟩:=hrel;clear b9 b4 HZ;cases t with
  | nil=>
   have h0:J=0:=L.o;subst h0;cases lg with
   | true=>
    have ho:opened b=none:=(by rw[HO.o,aA.o,y0Q];rfl);have U:=z7 ho;have HB:=z7 hO.o.2.1;clear ho;go_wp2;go_ret3
    exact z6v U.o HB.o
   | false=>
    have ho:opened b=some O:=(by rw[HO.o,aA.o,y0Q];simp);have U:=z7 ho;have bB:=z7 (show((m:Int)+1)=oN b by rw[HN.o O ho,HM.o];rfl);have HR:=z7 hO.o;clear ho;go_wp2;go_ret3
    exact y7l U.o HR.o.1 aG.o bB.o HR.o.2.1
  | cons Y t=>
   have b5:Y≠0:=aY.o Y wH;have bJ:0<Y.toNat:=by
    rcases il Y.toNat with h|h
    .exact absurd (rC h) b5
    exact h
   have bL:=Y.toNat_lt;obtain⟨N,A,c9,he,a9,bU⟩:=RdB.at (k:=0) (l:=Y::t) (by have:=ht.o;rw[L.o]at this;exact this) wH;simp only[wO]at he;obtain⟨rfl, -⟩:=he;have aE:wr.cell? ⟨N,A,none⟩=some (.int .u8 (Y.toNat:Nat)):=(by simpa using a9);obtain⟨k,hk⟩:=zN Y.toNat;rw[<-hk]at bJ bL aE;have HK:=z7 hk;have bR:0<J:=(by rw[L.o];simp);clear a9 hk b5;by_cases bN:J<k
   .have ho:opened b=none:=by
     rw[HO.o,aA.o,q4n Y t lg (by
      have h1:=HK.o;have h2:=L.o;simp at h2;omega)]
     rfl
    have U:=z7 ho;have HB:=z7 hO.o.2.1;have i2:(J:Int)<k:=wF;clear ho;go_wp2;go_ret3
    exact z6v U.o HB.o
   have i2:¬((J:Int)<k):=wF;have i3:(1:Int)<=k:=wF;have i4:(k:Int)<=ct:=wF;have i5:(k:Int)<=J:=wF;have aD:=z7 (show RdB wr (.slice (if ct=1 then some ⟨N,A,none⟩else some ⟨N,A+1,none⟩) (k - 1) (ct - 1)) (((Y::t).take k).drop 1) by
    exact ht.o.mid L.o aJ k wF (ct - 1))
   have b1:=z7 (show RdB wr (.slice (if ct=k then some ⟨N,A,none⟩else some ⟨N,A+k,none⟩) (J - k) (ct - k)) ((Y::t).drop k) by
    exact ht.o.rest L.o aJ k (ct - k) (J - k) (by have:=L.o;simp at this ⊢;omega))
   obtain⟨P,hP⟩:=zN (t.take (k - 1));obtain⟨T,hT⟩:=zN (t.drop (k - 1));have aW:((Y::t).take k).drop 1=P:=by
    obtain⟨j,rfl⟩:∃j,k=j+1:=⟨k - 1,wF⟩;rw[hP];simp
   have a0:(Y::t).drop k=T:=by
    obtain⟨j,rfl⟩:∃j,k=j+1:=⟨k - 1,wF⟩;rw[hT];simp
   rw[aW]at aD;rw[a0]at b1;have aN:Hid (P.length=k - 1):=z7 (by rw[hP];have:=L.o;simp at this ⊢;omega);have a8:Hid (J - k=T.length):=z7 (by rw[hT];have:=L.o;simp at this ⊢;omega);have aX:Hid (NoZ T):=z7 fun x hx=>aY.o x (uJ _ (List.mem_of_mem_drop (by rw[hT]at hx;exact hx)));have R:Hid (z3H s false=(z3H T (Y==255)).map fun r=>O++(P++((if Y≠255/\T≠ []then [0]else [])++r))):=z7 (by
    rw[aA.o,z9m Y t lg (by have:=HK.o;have:=L.o;simp at this;omega),<-HK.o,<-hP,<-hT];simp only[qS];rfl)
   have a7:Hid (∀j,(Value.slice (if ct=k then some ⟨N,A,none⟩else some ⟨N,A+k,none⟩) (J - k) (ct - k)).ownBlock=some j->j<w.heap.size):=z7 fun j hj=>by
    have h1:=z3A ⟨N,A,none⟩ ct k (J - k) (ct - k);rw[h1]at hj;exact bI.o j hj
   have b6:(O.length+P.length:Nat)<=1100000:=(by rw[aN.o,<-aG.o];omega);have aM:=z7 b6;clear hP hT aW a0 b6 ht aA aY;have bG:Hid (z9d w w.heap.size 5 (.slice aO nO cO) O wr):=hO;have aI:Hid ((O++P).length+(J - k)<=1100000):=z7 (by rw[wP];have:=aM.o;have:=aN.o;have:=aG.o;omega);go_upto_region 13 with(at_builtin;refine wpList_copy_own rfl _ _ 47 rfl w w.heap.size 5 underlying47 (by kernel_rfl) _ O rfl (by exact bG.o) _ P rfl (by exact aD.o) (by have:=aM.o;omega) ?_;intro a1 aC w1 a5 b2;obtain⟨n1,aT⟩:=zN ((O++P).length);rw[<-aT]at a5 ⊢;have N1:=z7 aT;have aB:=z7 a5;have aR:=z7 (RdB.keep b1.o (w':=w1) fun j hj=>b2.block j (a7.o j hj));clear aT a5 b2)
   by_cases aH:k=255
   .subst aH;have a4:Y=255:=rC HK.o.symm;have a3:Hid (z3H s false=(z3H T true).map fun r=>(O++P)++r):=z7 (by
     rw[R.o,a4];simp)
    have I:Hid (q0k s w (.slice a1 n1 aC) (.bool true) (.slice (if ct=255 then some ⟨N,A,none⟩else some ⟨N,A+255,none⟩) (J - 255) (ct - 255)) w1):=z7
     ⟨O++P,T,true,a1,(if ct=255 then some ⟨N,A,none⟩else some ⟨N,A+255,none⟩),n1,aC,J - 255,ct - 255,rfl,rfl,rfl,wF,wF,by have:=aI.o;have:=N1.o;omega,a8,N1,aX,aB,aR,a7,a3⟩
    clear R a4;go_wp2_with fail;all_goals (first
     | (refine⟨⟨_,_,_,_,_,_,?_,rfl,rfl,rfl,rfl,rfl,rfl⟩,wF⟩;simpa[*]using I.o)
     | (refine⟨_,_,_,_,_,_,?_,rfl,rfl,rfl,rfl,rfl,rfl⟩;simpa[*]using I.o))
   have a4:Y≠255:=fun e=>aH (by rw[HK.o,e];rfl);have aF:(Y==255)=false:=by simpa using a4
   have j1:¬((k:Int)=255):=wF;have j2:((k:Int)==255)=false:=(by simpa using j1);by_cases aS:J=k
   .have a0:T= []:=wT (by have:=a8.o;omega);have a3:Hid (z3H s false=(z3H T false).map fun r=>(O++P)++r):=z7 (by
     rw[R.o,aF,a0];simp)
    have I:Hid (q0k s w (.slice a1 n1 aC) (.bool false) (.slice (if ct=k then some ⟨N,A,none⟩else some ⟨N,A+k,none⟩) (J - k) (ct - k)) w1):=z7
     ⟨O++P,T,false,a1,(if ct=k then some ⟨N,A,none⟩else some ⟨N,A+k,none⟩),n1,aC,J - k,ct - k,rfl,rfl,rfl,wF,wF,by have:=aI.o;have:=N1.o;omega,a8,N1,aX,aB,aR,a7,a3⟩
    have j3:¬(0<J - k):=wF;have j4:¬((0:Int)<((J - k:Nat):Int)):=wF;have j5:J<=k:=wF;clear R a4 aF a0 aS;go_wp2_with fail;all_goals (first
     | (refine⟨⟨_,_,_,_,_,_,?_,rfl,rfl,rfl,rfl,rfl,rfl⟩,wF⟩;simpa[*]using I.o)
     | (refine⟨_,_,_,_,_,_,?_,rfl,rfl,rfl,rfl,rfl,rfl⟩;simpa[*]using I.o))
   have a0:T≠ []:=fun e=>aS (by have:=a8.o;rw[e]at this;simp at this;omega);have a3:Hid (z3H s false=(z3H T false).map fun r=>(O++P++ [0])++r):=z7 (by
    rw[R.o,aF,wZ ⟨a4,a0⟩];simp)
   have j3:0<J - k:=wF;have j5:k<J:=wF;have j6:ct≠k:=wF;have bM:Hid ((O++P++ [0]).length+(J - k)<=1100000):=z7 (by
    have h2:=aN.o;have h3:=aG.o;simp only[wP,wW,ob];omega)
   clear R a4 aF a0 aS;have bA:=z7 (z3t w1 #[.int .u8 0] 5 1 1 wG rfl);have bC:=z7 (aB.o.to (q5 w1 (.cells #[.int .u8 0] 5)));go_wp2_with (at_builtin;refine wpList_copy_own rfl _ _ 47 rfl w w.heap.size 5 underlying47 (by kernel_rfl) _ (O++P) rfl (by exact bC.o) _ [0] rfl (by exact bA.o) (by have:=aM.o;simp;omega) ?_;intro a2 aZ w2 a6 b3;obtain⟨n2,aU⟩:=zN ((O++P++ [0]).length);rw[<-aU]at a6 ⊢;have N2:=z7 aU;have bE:=z7 a6;have bH:=z7 (RdB.keep aR.o (w':=w2) fun j hj=>(b3.block j (a7.o j hj)).trans (ub w1 _ j (by have:=a7.o j hj;have:=aB.o.2.2;omega)));clear aU a6 b3);all_goals
    have I:Hid (q0k s w (.slice a2 n2 aZ) (.bool false) (.slice (if ct=k then some ⟨N,A,none⟩else some ⟨N,A+k,none⟩) (J - k) (ct - k)) w2):=z7
     ⟨O++P++ [0],T,false,a2,(if ct=k then some ⟨N,A,none⟩else some ⟨N,A+k,none⟩),n2,aZ,J - k,ct - k,rfl,rfl,rfl,wF,wF,by have:=bM.o;have:=N2.o;omega,a8,N2,aX,bE,bH,a7,a3⟩
   all_goals (first
    | (refine⟨⟨_,_,_,_,_,_,?_,rfl,rfl,rfl,rfl,rfl,rfl⟩,wF⟩;simpa[*]using I.o)
    | (refine⟨_,_,_,_,_,_,?_,rfl,rfl,rfl,rfl,rfl,rfl⟩;simpa[*]using I.o))
theorem y0F{b x:List UInt8}(h:opened b=some x):(nul b).length<b.length:=by
 unfold opened at h;split at h
 .cases h
 rename_i I;rcases(q3A b).2 with⟨A,_⟩|⟨r,A,_⟩
 .exact absurd (.inr A) I
 have:=uS List.length A;simp at this;omega
def z0X(b:List UInt8):List (List UInt8)×Nat:=
 match h:opened b with
 | none=>([],0)
 | some x=>if 600<x.length then([],0)else(x::(z0X (b.drop ((nul b).length+1))).1,(nul b).length+1+(z0X (b.drop ((nul b).length+1))).2)
termination_by b.length
decreasing_by all_goals (have:=y0F h;rw[uE];omega)
theorem z7M{b:List UInt8}(h:opened b=none):z0X b=([],0):=by
 rw[z0X];split
 .rfl
 rename_i x A;rw[h]at A;cases A
theorem y0W{b x:List UInt8}(h:opened b=some x)(I:600<x.length):z0X b=([],0):=by
 rw[z0X];split
 .rfl
 rename_i y A;rw[h]at A;simp only[wK]at A;subst A;rw[wZ I]
theorem z8o{b x:List UInt8}(h:opened b=some x)(J:x.length<=600):z0X b=(x::(z0X (b.drop ((nul b).length+1))).1,(nul b).length+1+(z0X (b.drop ((nul b).length+1))).2):=by
 rw[z0X];split
 .rename_i I;rw[h]at I;cases I
 rename_i y A;rw[h]at A;simp only[wK]at A;subst A;rw[wR wF]
theorem y3W:∀(n:Nat) (b:List UInt8),b.length<=n->(z0X b).2<=b.length/\(z0X b).1.length<=b.length/\∀x∈(z0X b).1,x.length<=600
 | 0,b,hn=>by
  have:b= []:=wT wF;subst this;rw[z7M (by simp[opened,nul])];simp
 | n+1,b,hn=>by
  cases h:opened b with
  | none=>rw[z7M h];simp
  | some x=>
   by_cases I:x.length<=600
   .have O:=y0F h;obtain⟨J,L,N⟩:=y3W n (b.drop ((nul b).length+1)) (by rw[uE];omega);rw[uE]at J L;rw[z8o h I];refine⟨by simp only;omega,by simp only[wW];omega,fun y A=>?_⟩;rcases wy.1 A with rfl|A
    .exact I
    exact N y A
   rw[y0W h wF];simp

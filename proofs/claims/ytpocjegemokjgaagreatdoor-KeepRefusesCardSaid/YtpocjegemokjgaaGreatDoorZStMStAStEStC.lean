/-
  Bytes that are wrapped without noughts, as plain data: how they are wrapped, what is opened. No program.
-/
import Derived.Lib.BytesEntry
import Derived.Lib.Walk
import Derived.ProofKit
import Derived.Deep.DeepCutAuto
import Derived.Test.YtpocjegemokjgaaGreatDoorZStBTaAChCTaAB
namespace Go.Proofs.YtpocjegemokjgaaGreatDoor
open Go.Proofs.Tryz
set_option linter.unnecessarySimpa false
set_option linter.all false
set_option maxRecDepth 100000
set_option maxHeartbeats 12800000
section
def part(p:List UInt8):List UInt8:=
 if h:254<=p.length then 255::(p.take 254++part (p.drop 254))else UInt8.ofNat (p.length+1)::p
termination_by p.length
decreasing_by simp;omega
theorem y3e{p:List UInt8}(h:254<=p.length):part p=255::(p.take 254++part (p.drop 254)):=by rw[part,dif_pos h]
theorem y0R{p:List UInt8}(h:p.length<254):part p=UInt8.ofNat (p.length+1)::p:=by rw[part,dif_neg (by omega)]
def z1G:List UInt8->List (List UInt8)
 | []=> [[]]
 | c::l=>if c=0 then []::z1G l else(match z1G l with | []=> [[c]]|p::ps=>(c::p)::ps)
theorem z9B:∀l,z1G l≠ []
 | []=>by simp[z1G]
 | c::l=>by
  unfold z1G;split
  ·simp
  ·split<;>simp
def y2r(b:List UInt8):List UInt8:=(z1G b).flatMap part
def z2c(b:List UInt8):List UInt8:=y2r b++ [0]
def NoZ(l:List UInt8):Prop:=∀c∈l,c≠0
theorem y4W(l:List UInt8):z1G (0::l)= []::z1G l:=by simp[z1G]
theorem y1y:∀{o:List UInt8},NoZ o->z1G o= [o]
 | [],_=>rfl
 | c::o,h=>by
  have A:=h c (by simp);have I:=y1y (o:=o) fun x B=>h x (by simp[B]);unfold z1G;rw[if_neg A,I]
theorem y1g:∀{o:List UInt8},NoZ o->∀(r p:List UInt8) (A:List (List UInt8)),z1G r=p::A->z1G (o++r)=(o++p)::A
 | [],_,r,p,A,h=>h
 | c::o,ho,r,p,A,h=>by
  have B:=ho c (by simp);have J:=y1g (o:=o) (fun x I=>ho x (by simp[I])) r p A h;rw[List.cons_append];show(if c=0 then []::z1G (o++r)else _)=_;rw[if_neg B,J];rfl
def z9h:List (List UInt8)->List UInt8
 | []=> []
 | [p]=>p
 | p::q::ps=>p++0::z9h (q::ps)
theorem y1C{p:List UInt8}{A:List (List UInt8)}(h:A≠ []):z9h (p::A)=p++0::z9h A:=by
 cases A with
 | nil=>exact absurd rfl h
 | cons q A=>rfl
theorem y7i(c:UInt8)(p:List UInt8)(A:List (List UInt8)):z9h ((c::p)::A)=c::z9h (p::A):=by
 cases A<;>rfl
theorem y0W:∀b:List UInt8,z9h (z1G b)=b
 | []=>rfl
 | c::l=>by
  have A:=y0W l;unfold z1G;split
  ·rename_i B;rw[y1C (z9B l),A,B];rfl
  ·split
   ·rename_i e;exact absurd e (z9B l)
   ·rename_i q I e;rw[e]at A;rw[y7i,A]
theorem y1K{n:Nat}(h:n<256):(UInt8.ofNat n).toNat=n:=by rw[UInt8.toNat_ofNat'];omega
def z3Z(s:List UInt8)(long:Bool):Option (List UInt8):=
 match s with
 | []=>if long then none else some []
 | c::l=>
  if h:0<c.toNat/\c.toNat<=l.length+1 then
   (z3Z (l.drop (c.toNat - 1)) (c==255)).map fun r=>l.take (c.toNat - 1)++((if c≠255/\l.drop (c.toNat - 1)≠ []then [0]else [])++r)
  else none
termination_by s.length
decreasing_by simp;omega
theorem y2U(long:Bool):z3Z [] long=if long then none else some []:=by rw[z3Z]
theorem y7k(c:UInt8)(l:List UInt8)(long:Bool)(h:0<c.toNat/\c.toNat<=l.length+1):
  z3Z (c::l) long=(z3Z (l.drop (c.toNat - 1)) (c==255)).map fun r=>l.take (c.toNat - 1)++((if c≠255/\l.drop (c.toNat - 1)≠ []then [0]else [])++r):=by rw[z3Z,dif_pos h]
theorem q2E(c:UInt8)(l:List UInt8)(long:Bool)(h:¬(0<c.toNat/\c.toNat<=l.length+1)):z3Z (c::l) long=none:=by rw[z3Z,dif_neg h]
theorem z5Q:∀(n:Nat) (p:List UInt8),p.length<=n->(part p).length=p.length+1+p.length/254
 | n,p,hn=>by
  by_cases hl:254<=p.length
  ·cases n with
   | zero=>omega
   | succ n=>
    rw[y3e hl,List.length_cons,List.length_append,z5Q n (p.drop 254) (by simp;omega)];simp;omega
  ·rw[y0R (by omega),List.length_cons];omega
theorem z9q:∀A:List (List UInt8),A≠ []->(A.flatMap part).length<=(z9h A).length+1+(z9h A).length/254
 | [],h=>absurd rfl h
 | [p],_=>by simp[z9h,z5Q p.length p (Nat.le_refl _)]
 | p::q::A,_=>by
  have B:=z9q (q::A) (by simp);rw[List.flatMap_cons,List.length_append,z5Q p.length p (Nat.le_refl _),y1C (by simp),List.length_append,List.length_cons];omega
theorem z5U(b:List UInt8):(z2c b).length<=b.length+b.length/254+2:=by
 have:=z9q _ (z9B b);rw[y0W]at this;unfold z2c y2r;rw[List.length_append,show([0]:List UInt8).length=1 from rfl];omega
end
section
open Go.RowKit
theorem y7P:NoZ []:=by
 intro c h;cases h
theorem y5B{c:UInt8}{l:List UInt8}(B:c≠0)(h:NoZ l):NoZ (c::l):=by
 intro x A;rcases List.mem_cons.1 A with e|A
 ·rw[e];exact B
 ·exact h x A
theorem z7u:∀l:List UInt8,(NoZ l/\Lib.indexByte l 0= -1)\/∃o r,l=o++0::r/\NoZ o/\Lib.indexByte l 0=(o.length:Int)
 | []=> .inl ⟨y7P,rfl⟩
 | c::l=>by
  by_cases hc:c=0
  ·subst hc;refine .inr ⟨[],l,rfl,y7P,?_⟩;simp[Lib.indexByte]
  ·rcases z7u l with⟨B,A⟩|⟨o,r,rfl,B,A⟩
   ·exact .inl ⟨y5B hc B,by simp[Lib.indexByte,hc,A]⟩
   ·refine .inr ⟨c::o,r,rfl,y5B hc B,?_⟩;have:¬((o.length:Int)= -1):=(by omega);simp[Lib.indexByte,hc,A,this]
theorem y0N:∀l:List UInt8,Lib.bytesOf (l.map fun b=>(b.toNat:Int))=l
 | []=>rfl
 | c::l=>by
  have A:=y0N l;simp only[Lib.bytesOf,List.map_cons,Int.toNat_natCast]at A ⊢;rw[A]
  congr 1
  exact UInt8.ofNat_toNat
theorem y4X{P:Program}(w:World)(x:Value)(l:List UInt8)(h:RdB w x l)(c:Int):
  (Extern.BytealgIndexByte.indexByte #[x,.int .u8 c]).run P w= .ok (.int .i64 (Lib.indexByte l c.toNat.toUInt8)) w:=by
 obtain⟨I,⟨rfl,hz⟩|⟨N,cap,rfl,O⟩⟩:=h
 ·obtain rfl:l= []:=List.eq_nil_of_length_eq_zero hz;exact Lib.run_indexByteNil w 0 0 c
 ·obtain⟨B,A⟩:∃B:List Int,B=l.map fun b=>(b.toNat:Int):=⟨_,rfl⟩;have hb:Lib.bytesOf B=l:=by rw[A,y0N]
  have U:B.length=l.length:=by simp[A]
  have I:=Lib.run_loadBytesX (P:=P) w B N .empty (fun j y J=>by
   refine O j _ ?_;rw[A]at J;simp only[List.getElem?_map,Option.map_eq_some_iff]at J;obtain⟨u,Y,rfl⟩:=J;simp[z0b,Y])
  rw[U,hb]at I;have L:=Lib.run_indexByteString (P:=P) ⟨l.toArray⟩ c w;have R:(⟨ByteArray.empty.data++l.toArray⟩:ByteArray)=⟨l.toArray⟩:=by
   apply ByteArray.ext;show(#[]:Array UInt8)++l.toArray=l.toArray;simp
  rw[R]at I;change Sem.run P (do
   let b <-Extern.Bytes.bytesOf (.slice (some N) l.length cap)
   let c <-Extern.Bytes.asByte (.int .u8 c)
   match(List.range b.size).find? fun i=>b[i]! ==c with
   | some i=>pure (goInt i)
   | none=>pure (goInt (-1))) w=_
  change Sem.run P (do
   let b <-Extern.Bytes.bytesOf (.string ⟨l.toArray⟩)
   let c <-Extern.Bytes.asByte (.int .u8 c)
   match(List.range b.size).find? fun i=>b[i]! ==c with
   | some i=>pure (goInt i)
   | none=>pure (goInt (-1))) w=_ at L
  simp only[Extern.Bytes.bytesOf,Sem.run_bind,Sem.run_pure,I,Result.andThen]at L ⊢;exact L
theorem z9a(x:Value)(l:List UInt8)(w:World)(h:RdB w x l):
  Calls prog 160 #[x,.int .u8 0] w fun e w'=>e= .returned (.int .i64 (Lib.indexByte l 0))/\w'=w:=by
 have A:=y4X (P:=prog) w x l h 0;obtain⟨a,c,rfl⟩:=h.head;go_enter func160,ntmps160;go_wp2;rw[run_callFunc_extern func182 (by kernel_rfl) (by kernel_rfl) (by kernel_rfl) (e:=Extern.BytealgIndexByte.indexByte) (by kernel_rfl),A];simp only[Result.andThen];rw[Oper.upon_value];go_wp2;go_ret;exact⟨rfl,rfl⟩
theorem q1h(x:Value)(l:List UInt8)(b c:Nat)(w:World)(h:RdB w x l)(A:w.cell? ⟨b,0,none⟩=some (.int .u8 0)):
  Calls prog 191 #[x,.slice (some ⟨b,0,none⟩) 1 c] w fun e w'=>e= .returned (.int .i64 (Lib.indexByte l 0))/\w'=w:=by
 have H:=z7 (z9a x l w h);obtain⟨a,c',rfl⟩:=h.head;clear h;go_enter func191,ntmps191;go_wp2_with (refine H.o.mono ?_;rintro e w' ⟨rfl,rfl⟩);go_ret;exact⟨rfl,rfl⟩
def nul:List UInt8->List UInt8
 | []=> []
 | c::l=>if c=0 then []else c::nul l
theorem y7O:∀{l:List UInt8},NoZ l->nul l=l
 | [],_=>rfl
 | c::l,h=>by
  have A:=h c (by simp);show(if c=0 then []else c::nul l)=_;rw[if_neg A,y7O fun x B=>h x (by simp[B])]
theorem y8v:∀{o:List UInt8},NoZ o->∀r,nul (o++0::r)=o
 | [],_,r=>by simp[nul]
 | c::o,h,r=>by
  have A:=h c (by simp);show(if c=0 then []else c::nul (o++0::r))=_;rw[if_neg A,y8v (fun x B=>h x (by simp[B]))]
theorem q2P(l:List UInt8):NoZ (nul l)/\((nul l=l/\Lib.indexByte l 0= -1)\/∃r,l=nul l++0::r/\Lib.indexByte l 0=((nul l).length:Int)):=by
 rcases z7u l with⟨A,B⟩|⟨o,r,rfl,A,B⟩
 ·rw[y7O A];exact⟨A,.inl ⟨rfl,B⟩⟩
 ·rw[y8v A r];exact⟨A,.inr ⟨r,rfl,B⟩⟩
def opened(b:List UInt8):Option (List UInt8):=if nul b= []\/nul b=b then none else z3Z (nul b) false
def oB(b:List UInt8):List UInt8:=(opened b).getD []
def oN(b:List UInt8):Int:=if(opened b).isSome then(((nul b).length+1:Nat):Int)else 0
def oE(b:List UInt8):Int:=if(opened b).isSome then 0 else 90
theorem z9Z{b:List UInt8}(h:opened b=none):oB b= []/\oN b=0/\oE b=90:=by simp[oB,oN,oE,h]
theorem z7w{b x:List UInt8}(h:opened b=some x):oB b=x/\oN b=(((nul b).length+1:Nat):Int)/\oE b=0:=by simp[oB,oN,oE,h]
def y0V(b:List UInt8)(w:World)(e:Ending)(w':World):Prop:=
 ∃a n' c',e= .returned (.tuple #[.slice a n' c',.int .i64 (oN b),.int .u16 (oE b)])/\w'.ownsRow w.heap.size 5 1 (.slice a n' c') n' (z0b (oB b))/\n'=(oB b).length/\Below w.heap.size w w'
theorem z5Y{b:List UInt8}{w w':World}(h:opened b=none)(hb:Below w.heap.size w w'):y0V b w (.returned (.tuple #[.slice none 0 0,.int .i64 0,.int .u16 90])) w':=by
 obtain⟨A,B,I⟩:=z9Z h;unfold y0V;rw[A,B,I];exact⟨_,_,_,rfl,World.ownsRow_nil _ _ _ _,rfl,hb⟩
theorem y5l{b x:List UInt8}{w w':World}{a:Option Addr}{n c:Nat}{k:Int}(h:opened b=some x)(B:w'.ownsRow w.heap.size 5 1 (.slice a n c) x.length (z0b x))(A:n=x.length)(I:k=oN b)(hb:Below w.heap.size w w'):
  y0V b w (.returned (.tuple #[.slice a n c,.int .i64 k,.int .u16 0])) w':=by
 obtain⟨J,N,L⟩:=z7w h;unfold y0V;rw[J,L,I];exact⟨_,_,_,rfl,by rw[A];rw[A]at B;exact B,A,hb⟩
theorem RdB.mid{w:World}{A:Addr}{c n:Nat}{l:List UInt8}(h:RdB w (.slice (some A) n c) l)(I:n=l.length)(J:n<=c)(k:Nat)(L:k<=n)(c':Nat):
  RdB w (.slice (if c=1 then some A else some ⟨A.block,A.off+1,none⟩) (k - 1) c') ((l.take k).drop 1):=by
 have B:=h.upto I k c k (by simp;omega);exact B.rest (by simp;omega) (by omega) 1 c' (k - 1) (by simp;omega)
def y7X(s:List UInt8)(w:World)(ov lv rv:Value)(wr:World):Prop:=
 ∃(O t:List UInt8) (lg:Bool) (aO ar:Option Addr) (nO cO nt ct:Nat),ov= .slice aO nO cO/\lv= .bool lg/\rv= .slice ar nt ct/\nt<=ct/\ct<=9223372036854775807/\nO+nt<=1100000/\Hid (nt=t.length)/\Hid (nO=O.length)/\Hid (NoZ t)/\
     Hid (z8h w w.heap.size 5 (.slice aO nO cO) O wr)/\Hid (RdB wr (.slice ar nt ct) t)/\Hid (∀k,(Value.slice ar nt ct).ownBlock=some k->k<w.heap.size)/\Hid (z3Z s false=(z3Z t lg).map fun r=>O++r)
theorem q4b(b:List UInt8)(ao:Option Addr)(c:Nat)(w:World)(hx:RdB w (.slice ao b.length c) b)(bT:b.length<=c)(hc:c<=9223372036854775807)(bL:b.length<=1100000):
  Calls prog 129 #[.slice ao b.length c] w (y0V b w):=by
 have H:=z7 (z9a _ b w hx);have HX:=z7 hx;obtain⟨hz,⟨h1,h2⟩|⟨r,h1,h2⟩⟩:=q2P b
 ·have Y:opened b=none:=by unfold opened;rw[if_pos (.inr h1)]
  rw[h2]at H;have R:=z7 Y;clear hx hz h1 h2 Y HX;go_enter func129,ntmps129;go_wp2_with (refine H.o.mono ?_;rintro e w' ⟨rfl,rfl⟩);go_ret3
  exact z5Y R.o (Below.refl _ _)
 ·rw[h2]at H;by_cases hs:nul b= []
  ·have Y:opened b=none:=(by unfold opened;rw[if_pos (.inl hs)]);rw[hs]at H;have R:=z7 Y;clear hx hz h1 h2 Y HX hs;go_enter func129,ntmps129;go_wp2_with (refine H.o.mono ?_;rintro e w' ⟨rfl,rfl⟩);go_ret3
   exact z5Y R.o (Below.refl _ _)
  ·have b6:nul b≠b:=fun e=>by
    have:=congrArg List.length h1;rw[e]at this;simp at this
   have Y:opened b=z3Z (nul b) false:=(by unfold opened;rw[if_neg (by simp[hs,b6])]);have b5:b.length=(nul b).length+1+r.length:=by
    have:=congrArg List.length h1;rw[List.length_append,List.length_cons]at this;omega
   have aL:0<(nul b).length:=List.length_pos_iff.2 hs;obtain⟨s,hS⟩:=zN (nul b);rw[<-hS]at H hz b5 aL Y;have hN:∀x,opened b=some x->oN b=((s.length+1:Nat):Int):=fun x hx=>by rw[(z7w hx).2.1,hS]
   have aT:b.take s.length=s:=(by rw[h1,<-hS,List.take_left' rfl]);obtain⟨m,hm⟩:=zN s.length;rw[<-hm]at H;have HM:=z7 hm;have bU:(0:Int)<m:=(by omega);have bV:¬((m:Int)<=0):=(by omega);have bX:(m:Int)<=c:=(by omega);have bY:m<=1100000:=(by omega);obtain⟨ad,rfl⟩:∃ad,ao=some ad:=by
    rcases hx.2 with⟨he,hz⟩|⟨bC,c2,he,_⟩
    ·have:b.length=0:=hz;omega
    ·simp only[Value.slice.injEq]at he;exact⟨bC,he.1⟩
   have b2:Hid (∀k,(Value.slice (some ad) m c).ownBlock=some k->k<w.heap.size):=z7 fun k hk=>by
    obtain⟨b0,o0,c0,he,_,bO⟩:=RdB.at (k:=0) hx (by omega);simp only[Value.slice.injEq,Option.some.injEq]at he;obtain⟨rfl,_⟩:=he;have:k=b0:=(by simpa[Value.ownBlock]using hk.symm);omega
   have b7:=z7 (by have:=hx.upto rfl m c m (by rw[hm,aT]);rwa [hm,aT,<-hm]at this);have HZ:=z7 hz;have HO:=z7 Y;have HN:=z7 hN;clear hx h1 h2 Y HX hs b6 b5 aL hS hN aT hm hz;go_enter func129,ntmps129;go_wp2_with (refine H.o.mono ?_;clear H;rintro e w ⟨rfl,rfl⟩);go_loopw[6,7,8] (fun ov lv rv wr=>y7X s w ov lv rv wr) (fun _ _ rv _=>match rv with | .slice _ n _=>n|_=>0)
   case atStart=>exact⟨[],s,false,none,some ad,0,0,m,c,rfl,rfl,rfl,by omega,hc,by omega,HM,z7 rfl,HZ,z7 ⟨World.ownsRow_nil _ _ _ _,Below.refl _ _,Nat.le_refl _⟩,b7,b2,z7 (by simp)⟩
   case round=>
    obtain⟨O,t,lg,aO,ar,nO,cO,B,ct,rfl,rfl,rfl,aJ,bS,bN,J,aH,aV,hO,ht,bG,aA⟩:=hrel;clear b7 b2 HZ;cases t with
    | nil=>
     have h0:B=0:=J.o;subst h0;cases lg with
     | true=>
      have Y:opened b=none:=(by rw[HO.o,aA.o,y2U];rfl);have R:=z7 Y;have HB:=z7 hO.o.2.1;clear Y;go_wp2;go_ret3
      exact z5Y R.o HB.o
     | false=>
      have Y:opened b=some O:=(by rw[HO.o,aA.o,y2U];simp);have R:=z7 Y;have b9:=z7 (show((m:Int)+1)=oN b by rw[HN.o O Y,HM.o];rfl);have HR:=z7 hO.o;clear Y;go_wp2;go_ret3
      exact y5l R.o HR.o.1 aH.o b9.o HR.o.2.1
    | cons U t=>
     have b3:U≠0:=aV.o U (by simp);have bH:0<U.toNat:=by
      rcases Nat.eq_zero_or_pos U.toNat with h|h
      ·exact absurd (UInt8.toNat.inj h) b3
      ·exact h
     have bI:=U.toNat_lt;obtain⟨L,A,c9,he,a9,bR⟩:=RdB.at (k:=0) (l:=U::t) (by have:=ht.o;rw[J.o]at this;exact this) (by simp);simp only[Value.slice.injEq]at he;obtain⟨rfl, -⟩:=he;have aF:wr.cell? ⟨L,A,none⟩=some (.int .u8 (U.toNat:Nat)):=(by simpa using a9);obtain⟨k,hk⟩:=zN U.toNat;rw[<-hk]at bH bI aF;have HK:=z7 hk;have bM:0<B:=(by rw[J.o];simp);have i1:(0:Int)<B:=(by omega);clear a9 hk b3;by_cases hbig:B<k
     ·have Y:opened b=none:=by
       rw[HO.o,aA.o,q2E U t lg (by
        have h1:=HK.o;have h2:=J.o;simp at h2;omega)]
       rfl
      have R:=z7 Y;have HB:=z7 hO.o.2.1;have i2:(B:Int)<k:=(by omega);clear Y;go_wp2;go_ret3
      exact z5Y R.o HB.o
     ·have i2:¬((B:Int)<k):=(by omega);have i3:(1:Int)<=k:=(by omega);have i4:(k:Int)<=ct:=(by omega);have i5:(k:Int)<=B:=(by omega);have aY:=z7 (show RdB wr (.slice (if ct=1 then some ⟨L,A,none⟩else some ⟨L,A+1,none⟩) (k - 1) (ct - 1)) (((U::t).take k).drop 1) by
       exact ht.o.mid J.o aJ k (by omega) (ct - 1))
      have aD:=z7 (show RdB wr (.slice (if ct=k then some ⟨L,A,none⟩else some ⟨L,A+k,none⟩) (B - k) (ct - k)) ((U::t).drop k) by
       exact ht.o.rest J.o aJ k (ct - k) (B - k) (by have:=J.o;simp at this ⊢;omega))
      obtain⟨P,hP⟩:=zN (t.take (k - 1));obtain⟨T,hT⟩:=zN (t.drop (k - 1));have aZ:((U::t).take k).drop 1=P:=by
       obtain⟨j,rfl⟩:∃j,k=j+1:=⟨k - 1,by omega⟩;rw[hP];simp
      have a0:(U::t).drop k=T:=by
       obtain⟨j,rfl⟩:∃j,k=j+1:=⟨k - 1,by omega⟩;rw[hT];simp
      rw[aZ]at aY;rw[a0]at aD;have aM:Hid (P.length=k - 1):=z7 (by rw[hP];have:=J.o;simp at this ⊢;omega);have a8:Hid (B - k=T.length):=z7 (by rw[hT];have:=J.o;simp at this ⊢;omega);have aU:Hid (NoZ T):=z7 fun x hx=>aV.o x (List.mem_cons_of_mem _ (List.mem_of_mem_drop (by rw[hT]at hx;exact hx)));have N:Hid (z3Z s false=(z3Z T (U==255)).map fun r=>O++(P++((if U≠255/\T≠ []then [0]else [])++r))):=z7 (by
       rw[aA.o,y7k U t lg (by have:=HK.o;have:=J.o;simp at this;omega),<-HK.o,<-hP,<-hT];simp only[Option.map_map];rfl)
      have a7:Hid (∀j,(Value.slice (if ct=k then some ⟨L,A,none⟩else some ⟨L,A+k,none⟩) (B - k) (ct - k)).ownBlock=some j->j<w.heap.size):=z7 fun j hj=>by
       have h1:=z3l ⟨L,A,none⟩ ct k (B - k) (ct - k);rw[h1]at hj;exact bG.o j hj
      have b4:(O.length+P.length:Nat)<=1100000:=(by rw[aM.o,<-aH.o];omega);have aB:=z7 b4;clear hP hT aZ a0 b4 ht aA aV;have bE:Hid (z8h w w.heap.size 5 (.slice aO nO cO) O wr):=hO;have aI:Hid ((O++P).length+(B - k)<=1100000):=z7 (by rw[List.length_append];have:=aB.o;have:=aM.o;have:=aH.o;omega);go_upto_region 13 with(at_builtin;refine wpList_copy_own rfl _ _ 47 rfl w w.heap.size 5 underlying47 (by kernel_rfl) _ O rfl (by exact bE.o) _ P rfl (by exact aY.o) (by have:=aB.o;omega) ?_;intro a1 aE w1 a5 aW;obtain⟨n1,aR⟩:=zN ((O++P).length);rw[<-aR]at a5 ⊢;have N1:=z7 aR;have aC:=z7 a5;have aN:=z7 (RdB.keep aD.o (w':=w1) fun j hj=>aW.block j (a7.o j hj));clear aR a5 aW)
      by_cases h255:k=255
      ·subst h255;have a4:U=255:=UInt8.toNat.inj HK.o.symm;have a3:Hid (z3Z s false=(z3Z T true).map fun r=>(O++P)++r):=z7 (by
        rw[N.o,a4];simp)
       have I:Hid (y7X s w (.slice a1 n1 aE) (.bool true) (.slice (if ct=255 then some ⟨L,A,none⟩else some ⟨L,A+255,none⟩) (B - 255) (ct - 255)) w1):=z7
        ⟨O++P,T,true,a1,(if ct=255 then some ⟨L,A,none⟩else some ⟨L,A+255,none⟩),n1,aE,B - 255,ct - 255,rfl,rfl,rfl,by omega,by omega,by have:=aI.o;have:=N1.o;omega,a8,N1,aU,aC,aN,a7,a3⟩
       clear N a4;go_wp2_with fail;all_goals (first
        | (refine⟨⟨_,_,_,_,_,_,?_,rfl,rfl,rfl,rfl,rfl,rfl⟩,by omega⟩;simpa[*]using I.o)
        | (refine⟨_,_,_,_,_,_,?_,rfl,rfl,rfl,rfl,rfl,rfl⟩;simpa[*]using I.o))
      ·have a4:U≠255:=fun e=>h255 (by rw[HK.o,e];rfl);have aG:(U==255)=false:=by simpa using a4
       have j1:¬((k:Int)=255):=(by omega);have j2:((k:Int)==255)=false:=(by simpa using j1);by_cases hTn:B=k
       ·have a0:T= []:=List.eq_nil_of_length_eq_zero (by have:=a8.o;omega);have a3:Hid (z3Z s false=(z3Z T false).map fun r=>(O++P)++r):=z7 (by
         rw[N.o,aG,a0];simp)
        have I:Hid (y7X s w (.slice a1 n1 aE) (.bool false) (.slice (if ct=k then some ⟨L,A,none⟩else some ⟨L,A+k,none⟩) (B - k) (ct - k)) w1):=z7
         ⟨O++P,T,false,a1,(if ct=k then some ⟨L,A,none⟩else some ⟨L,A+k,none⟩),n1,aE,B - k,ct - k,rfl,rfl,rfl,by omega,by omega,by have:=aI.o;have:=N1.o;omega,a8,N1,aU,aC,aN,a7,a3⟩
        have j3:¬(0<B - k):=(by omega);have j4:¬((0:Int)<((B - k:Nat):Int)):=(by omega);have j5:B<=k:=(by omega);clear N a4 aG a0 hTn;go_wp2_with fail;all_goals (first
         | (refine⟨⟨_,_,_,_,_,_,?_,rfl,rfl,rfl,rfl,rfl,rfl⟩,by omega⟩;simpa[*]using I.o)
         | (refine⟨_,_,_,_,_,_,?_,rfl,rfl,rfl,rfl,rfl,rfl⟩;simpa[*]using I.o))
       ·have a0:T≠ []:=fun e=>hTn (by have:=a8.o;rw[e]at this;simp at this;omega);have a3:Hid (z3Z s false=(z3Z T false).map fun r=>(O++P++ [0])++r):=z7 (by
         rw[N.o,aG,if_pos ⟨a4,a0⟩];simp)
        have j3:0<B - k:=(by omega);have j4:(0:Int)<((B - k:Nat):Int):=(by omega);have j5:k<B:=(by omega);have j6:ct≠k:=(by omega);have bJ:Hid ((O++P++ [0]).length+(B - k)<=1100000):=z7 (by
         have h1:=aB.o;have h2:=aM.o;have h3:=aH.o;simp only[List.length_append,List.length_cons,List.length_nil];omega)
        clear N a4 aG a0 hTn;have b8:=z7 (z3z w1 #[.int .u8 0] 5 1 1 (by decide) rfl);have bA:=z7 (aC.o.to (q5 w1 (.cells #[.int .u8 0] 5)));go_wp2_with (at_builtin;refine wpList_copy_own rfl _ _ 47 rfl w w.heap.size 5 underlying47 (by kernel_rfl) _ (O++P) rfl (by exact bA.o) _ [0] rfl (by exact b8.o) (by have:=aB.o;simp;omega) ?_;intro a2 aX w2 a6 b1;obtain⟨n2,aS⟩:=zN ((O++P++ [0]).length);rw[<-aS]at a6 ⊢;have N2:=z7 aS;have bB:=z7 a6;have bF:=z7 (RdB.keep aN.o (w':=w2) fun j hj=>(b1.block j (a7.o j hj)).trans (Below.heap_alloc w1 _ j (by have:=a7.o j hj;have:=aC.o.2.2;omega)));clear aS a6 b1);all_goals
         have I:Hid (y7X s w (.slice a2 n2 aX) (.bool false) (.slice (if ct=k then some ⟨L,A,none⟩else some ⟨L,A+k,none⟩) (B - k) (ct - k)) w2):=z7
          ⟨O++P++ [0],T,false,a2,(if ct=k then some ⟨L,A,none⟩else some ⟨L,A+k,none⟩),n2,aX,B - k,ct - k,rfl,rfl,rfl,by omega,by omega,by have:=bJ.o;have:=N2.o;omega,a8,N2,aU,bB,bF,a7,a3⟩
        all_goals (first
         | (refine⟨⟨_,_,_,_,_,_,?_,rfl,rfl,rfl,rfl,rfl,rfl⟩,by omega⟩;simpa[*]using I.o)
         | (refine⟨_,_,_,_,_,_,?_,rfl,rfl,rfl,rfl,rfl,rfl⟩;simpa[*]using I.o))
end
section
open Go.RowKit Go.Shelf
attribute [local go_sem] Oper.semAt_some
theorem y4N(A:Option Addr)(n c B:Nat)(w:World):
  Calls prog 168 #[.slice A n c,.slice (some ⟨B,0,none⟩) 1 1,.int .i64 0] w fun e w'=>e= .returned (.func (.func 189) #[] #[.pointer (some ⟨w.heap.size+1,0,none⟩),.pointer (some ⟨w.heap.size,0,none⟩),.pointer (some ⟨w.heap.size+2,0,none⟩)])/\
   w'=((w.alloc (.cells #[.slice A n c] 47)).alloc (.cells #[.slice (some ⟨B,0,none⟩) 1 1] 47)).alloc (.cells #[.int .i64 0] 3):=by
 go_enter func168,ntmps168;go_wp2;go_ret;exact⟨by simp,rfl⟩
theorem y5t(A:Option Addr)(n c B:Nat)(w:World):
  Calls prog 140 #[.slice A n c,.slice (some ⟨B,0,none⟩) 1 1] w fun e w'=>e= .returned (.func (.func 189) #[] #[.pointer (some ⟨w.heap.size+1,0,none⟩),.pointer (some ⟨w.heap.size,0,none⟩),.pointer (some ⟨w.heap.size+2,0,none⟩)])/\
   w'=((w.alloc (.cells #[.slice A n c] 47)).alloc (.cells #[.slice (some ⟨B,0,none⟩) 1 1] 47)).alloc (.cells #[.int .i64 0] 3):=by
 go_enter func140,ntmps140;go_wp2_with (refine(y4N A n c B w).mono ?_;rintro e w' ⟨rfl,rfl⟩);go_ret;exact⟨rfl,rfl⟩
theorem RdB.keep0{w w':World}{x:Value}{l:List UInt8}(h:RdB w x l)(I:0<l.length->∀b,x.ownBlock=some b->w'.heap[b]? =w.heap[b]?):RdB w' x l:=by
 by_cases h0:0<l.length
 ·exact h.keep (I h0)
 ·have:l= []:=List.eq_nil_of_length_eq_zero (by omega);subst this;obtain⟨A,B⟩:=h;exact⟨A,B.imp id fun⟨ad,c,e,_⟩=>⟨ad,c,e,fun j u J=>by simp[z0b]at J⟩⟩
def q4h(b:List UInt8)(B oB sB:Nat)(pre:List (Value×List UInt8))(x:Value×List UInt8)(W:World):Prop:=
 RdB W x.1 x.2/\(∃ao,x.1= .slice ao x.2.length x.2.length)/\(0<x.2.length->∀k,x.1.ownBlock=some k->k<B/\k≠oB/\k≠sB)/\∃r,pre.map Prod.snd++x.2::r=z1G b
def q5w(B oB:Nat)(W W':World):Prop:=W.heap.size<=W'.heap.size/\∀k,k<B->k≠oB->W'.heap[k]? =W.heap[k]?
def q5P(sB:Nat)(X X':World):Prop:=∃v,X'=X.setCell ⟨sB,0,none⟩ v
def y4m(sB:Nat)(w:World):Nat:=match w.cell? ⟨sB,0,none⟩with|some (.slice _ n _)=>n|_=>0
theorem q3w(n:Nat)(b4:1<=n)(b:List UInt8)(ao:Option Addr)(c B oB N pB qB Y:Nat)(w:World)
  (hs:w.heap[N]? =some (.cells #[.slice ao b.length c] 47)) (hp:w.heap[pB]? =some (.cells #[.slice (some ⟨Y,0,none⟩) 1 1] 47)) (hq:w.heap[qB]? =some (.cells #[.int .i64 0] 3)) (hz:w.cell? ⟨Y,0,none⟩=some (.int .u8 0))
  (hx:RdB w (.slice ao b.length c) b) (aH:b.length<=c) (hc:c<=9223372036854775807) (a9:0<b.length->∀k,(Value.slice ao b.length c).ownBlock=some k->k<B/\k≠oB/\k≠N)
  (lB:N<B/\pB<B/\qB<B/\Y<B) (hB:B<=w.heap.size) (nO:N≠oB/\pB≠oB/\qB≠oB/\Y≠oB) (nS:pB≠N/\qB≠N/\Y≠N):
  y7V Fence.wide n prog 189 #[.pointer (some ⟨pB,0,none⟩),.pointer (some ⟨N,0,none⟩),.pointer (some ⟨qB,0,none⟩)] (fun x:Value×List UInt8=> #[x.1]) (q4h b B oB N) (q5w B oB) (q5P N) (fun xs=>xs.map Prod.snd=z1G b) w:=by
 intro l J W hW hl hJ hY h0;refine callsIn_of_wp func189 rfl trivial ?_ rfl;simp only[ntmps189,List.size_toArray,List.length_cons,List.length_nil,Nat.reduceAdd,Nat.reduceSub,Array.replicate_succ,Array.replicate_zero,List.push_toArray,List.append_toArray,List.nil_append,List.cons_append];have aV:=(hW.block pB (by omega) (by simp)).trans hp;obtain⟨p1,_,_⟩:=z0u aV
 gi_wp2
 gi_loopw [7] (fun i wr=>∃(pre:List (Value×List UInt8)) (rest:List UInt8) (a':Option Addr) (n' c':Nat),Hid (n'=rest.length)/\Hid (pre.map Prod.snd++z1G rest=z1G b)/\wr.heap[N]? =some (.cells #[.slice a' n' c'] 47)/\
   wr.heap[pB]? =some (.cells #[.slice (some ⟨Y,0,none⟩) 1 1] 47)/\wr.heap[qB]? =some (.cells #[.int .i64 0] 3)/\wr.cell? ⟨Y,0,none⟩=some (.int .u8 0)/\Hid (RdB wr (.slice a' n' c') rest)/\n'<=c'/\c'<=9223372036854775807/\Hid (0<n'->∀k,(Value.slice a' n' c').ownBlock=some k->k<B/\k≠oB/\k≠N)/\Hid (B<=wr.heap.size)/\J pre wr) (fun i wr=>y4m N wr)
 case atStart=>
  have hb:=fun k (hk:k<B)=>hW.block k (by omega) (by simp);refine⟨[],b,ao,b.length,c,rfl,by rw[List.map_nil,List.nil_append];rfl,(hb _ lB.1).trans hs,(hb _ lB.2.1).trans hp,(hb _ lB.2.2.1).trans hq,(World.cell?_of_block (w:=w) (a:=⟨Y,0,none⟩) (hb _ lB.2.2.2)).trans hz,hx.chg hW (by simp),aH,hc,a9,Nat.le_trans hB hW.size,h0⟩
 case round=>
  obtain⟨pre,rest,a',n',c',hn,a1,us,up,uq,uz,hr,aI,b1,I,aR,aE⟩:=hrel;obtain⟨s1,s2,s3⟩:=z0u us;obtain⟨q1,_,_⟩:=z0u uq;obtain⟨r1,_,_⟩:=z0u up;have H:=z7 (q1h _ rest Y 1 wr (by have:=hr.o;rw[hn.o]at this;exact this) uz);rw[<-hn.o]at H;rcases z7u rest with⟨aZ,hi⟩|⟨o,r,A,aY,hi⟩
  ·rw[hi]at H;have L:z1G rest= [rest]:=y1y aZ;have a2:q4h b B oB N pre (.slice a' n' n',rest) wr:=by
    refine⟨?_,⟨a',by rw[hn.o]⟩,fun h0 j U=>I.o (by rw[hn.o];exact h0) j (by cases a'<;>exact U), [],?_⟩
    ·obtain⟨h1,⟨he,hz⟩|⟨a5,c2,he,aT⟩⟩:=hr.o
     ·simp only[Value.slice.injEq]at he;obtain⟨rfl,rfl,rfl⟩:=he;exact⟨h1,.inl ⟨rfl,hz⟩⟩
     ·simp only[Value.slice.injEq]at he;obtain⟨rfl,h5,rfl⟩:=he;exact⟨h1,.inr ⟨a5,n',by rw[h5],aT⟩⟩
    ·rw[<-L];exact a1.o
   have aG:(pre++ [(Value.slice a' n' n',rest)]).map Prod.snd=z1G b:=by
    rw[List.map_append,<-a1.o,L];rfl
   obtain⟨fn,tmps,assign,body,hy,hR⟩:=hY pre _ wr aE a2;dsimp only at hy;clear a9 hs hp hq hz hx hi hW hJ hY h0
   gi_wp2_with (refine⟨trivial,?_⟩;refine(callsIn_wide.2 H.o).mono ?_;clear H;rintro e wr ⟨rfl,rfl⟩)
   refine hR.mono ?_;rintro e W3 ⟨rfl,a6,R⟩
   gi_wp2
   go_end0
   exact⟨⟨_,rfl⟩,_,aG,a6⟩
  ·have a4:rest.length=o.length+1+r.length:=(by rw[A];simp;omega);rw[hi]at H;have a8:n'=o.length+1+r.length:=(by rw[hn.o,a4]);obtain⟨k,hk⟩:=zN o.length;rw[<-hk]at H a8;have a3:=hr.o;obtain⟨O,rfl⟩:∃O,a'=some O:=by
    rcases a3.2 with⟨he,hz⟩|⟨a5,c2,he,_⟩
    ·omega
    ·simp only[Value.slice.injEq]at he;exact⟨a5,he.1⟩
   have L:z1G rest=o::z1G r:=by
    have:=y1g aY (0::r) [] (z1G r) (y4W r);rw[List.append_nil]at this;rw[A,this]
   have a2:q4h b B oB N pre (.slice (some O) k k,o) wr:=by
    refine⟨?_,⟨some O,by rw[hk]⟩,fun _ j U=>I.o (by omega) j U,z1G r,?_⟩
    ·have:=a3.upto hn.o o.length k k (by rw[A,List.take_left' rfl];exact hk)
     rwa [A,List.take_left' rfl]at this
    ·rw[<-L];exact a1.o
   have a7:rest.drop (k+1)=r:=by
    rw[A,hk,show o++0::r=(o++ [0])++r by simp,List.drop_left' (by simp)]
   have aL:=z7 (by have:=a3.rest hn.o aI (k+1) (c' - (k+1)) (n' - (k+1)) (by rw[a7];omega);rwa [a7]at this);have aM:=z7 (show(pre++ [(Value.slice (some O) k k,o)]).map Prod.snd++z1G r=z1G b by
    rw[List.map_append,List.append_assoc,<-a1.o,L];rfl)
   have aS:=z7 hJ;obtain⟨fn,tmps,assign,body,hy,hR⟩:=hY pre _ wr aE a2;dsimp only at hy;have t1:¬((k:Int)<0):=(by omega);have t2:decide ((k:Int)<0)=false:=(by simpa using t1);have b3:k<n':=(by omega);have b2:k<=c':=(by omega);have N3:=z7 a8;have K:=z7 hk;have HR:=z7 A;have t3:True:=trivial;have aW:k+1<=n':=(by omega);have b0:k+1<=c':=(by omega);clear a9 hs hp hq hz hx hi hW hJ hY h0 aH hn a1 a2 hr a3 a4 a8 hk A L a7
   gi_wp2_with (refine⟨trivial,?_⟩;refine(callsIn_wide.2 H.o).mono ?_;clear H;rintro e wr ⟨rfl,rfl⟩)
   refine hR.mono ?_;rintro e W3 ⟨rfl,a6,R⟩;have aC:=(R.2 N lB.1 nO.1).trans us;have aA:=(R.2 pB lB.2.1 nO.2.1).trans up;have aB:=(R.2 qB lB.2.2.1 nO.2.2.1).trans uq;have aN:=(World.cell?_of_block (w:=wr) (w':=W3) (a:=⟨Y,0,none⟩) (R.2 Y lB.2.2.2 nO.2.2.2)).trans uz;obtain⟨s4,s5,s6⟩:=z0u aC;obtain⟨q4,_,_⟩:=z0u aB;obtain⟨r4,_,_⟩:=z0u aA;have aD:=s1;clear s1 s2 s3 q1 r1 us up uq uz;have a0:0<n':=(by have:=N3.o;omega);have aF:∀j,O.block=j->W3.heap[j]? =wr.heap[j]? :=fun j U=>R.2 j (I.o a0 j (by simp[Value.ownBlock,U])).1 (I.o a0 j (by simp[Value.ownBlock,U])).2.1;have aX:=z7 (aL.o.keep (w':=W3) fun j U=>by rw[z3l]at U;exact aF j (by simpa using U));have aU:=z7 ((I.o a0 O.block rfl).2.2);have aJ:Hid (0<n' - (k+1)->∀j,(Value.slice (if c'=k+1 then some O else some ⟨O.block,O.off+(k+1),none⟩) (n' - (k+1)) (c' - (k+1))).ownBlock=some j->j<B/\j≠oB/\j≠N):=z7 fun _ j U=>by
    rw[z3l]at U;exact I.o a0 j U
   have HS:=z7 aC;have HP:=z7 aA;have HQ:=z7 aB;have HZ:=z7 aN;have aO:=z7 R.1;clear aL aF I a0 aC aA aB aN R
   gi_wp2
   go_roundw
   case rel=>
    refine⟨_,r,(if c'=k+1 then some O else some ⟨O.block,O.off+(k+1),none⟩),n' - (k+1),c' - (k+1),z7 (by have:=N3.o;omega),aM,?_,?_,?_,?_,?_,by omega,by omega,aJ,z7 ?_,aS.o _ _ _ a6 ⟨_,rfl⟩⟩
    ·have:=z0a HS.o 0 (.slice (if c'=k+1 then some O else some ⟨O.block,O.off+(k+1),none⟩) (n' - (k+1)) (c' - (k+1)));simpa using this
    ·exact(q7 nS.1).trans HP.o
    ·exact(q7 nS.2.1).trans HQ.o
    ·exact(World.cell?_of_block (w:=W3) (a:=⟨Y,0,none⟩) (q7 nS.2.2)).trans HZ.o
    ·exact z7 (aX.o.keep fun j U=>q7 (by rw[z3l]at U;intro e;exact aU.o ((Option.some.inj U).trans e)))
    ·have:=aR.o;have:=aO.o;simp[World.setCell];omega
   case measure=>
    have e1:y4m N (W3.setCell ⟨N,0,none⟩ (.slice (if c'=k+1 then some O else some ⟨O.block,O.off+(k+1),none⟩) (n' - (k+1)) (c' - (k+1))))=n' - (k+1):=by
     unfold y4m;rw[World.cell?_setCell_same' _ _ _ (by rw[s4];rfl)]
    have e2:y4m N wr=n':=by
     unfold y4m;rw[aD]
    rw[e1,e2];omega
end

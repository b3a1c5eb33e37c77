/-
  Bytes that are wrapped without noughts, as plain data: how they are wrapped, what is opened. No program.
-/
import Derived.Lib.BytesEntry
import Derived.Lib.Walk
import Derived.ProofKit
import Derived.Test.YtfcnapnopdomhaaGreatDoorZItemsLawOwn
import Derived.Deep.DeepCutAuto
import Derived.Test.YtfcnapnopdomhaaGreatDoorZStBTaATaAB
namespace Go.Proofs.YtfcnapnopdomhaaGreatDoor
set_option linter.unnecessarySimpa false
set_option linter.unusedSimpArgs false
set_option linter.unusedVariables false
set_option maxRecDepth 100000
set_option maxHeartbeats 12800000
section
def part(p:List UInt8):List UInt8:=
 if h:254≤p.length then 255::(p.take 254++part (p.drop 254)) else UInt8.ofNat (p.length+1)::p
termination_by p.length
decreasing_by simp;omega
theorem y1z{p:List UInt8}(h:254≤p.length):part p=255::(p.take 254++part (p.drop 254)):=by rw [part,dif_pos h]
theorem y0s{p:List UInt8}(h:p.length<254):part p=UInt8.ofNat (p.length+1)::p:=by rw [part,dif_neg (by omega)]
def z1v:List UInt8→List (List UInt8)
 | []=> [[]]
 | c::l=>if c=0 then []::z1v l else (match z1v l with | []=> [[c]] | p::ps=>(c::p)::ps)
theorem z8X:∀l,z1v l≠ []
 | []=>by simp [z1v]
 | c::l=>by
  unfold z1v;split
  ·simp
  ·split<;>simp
def y1H(b:List UInt8):List UInt8:=(z1v b).flatMap part
def z3d(b:List UInt8):List UInt8:=y1H b++ [0]
def NoZ(l:List UInt8):Prop:=∀c∈l,c≠0
theorem y4Q(l:List UInt8):z1v (0::l)= []::z1v l:=by simp [z1v]
theorem y0j:∀{o:List UInt8},NoZ o→z1v o= [o]
 | [],_=>rfl
 | c::o,h=>by
  have hc:=h c (by simp);have ih:=y0j (o:=o) fun x hx=>h x (by simp [hx]);unfold z1v;rw [if_neg hc,ih]
theorem y0q:∀{o:List UInt8},NoZ o→∀(r p:List UInt8) (ps:List (List UInt8)),z1v r=p::ps→z1v (o++r)=(o++p)::ps
 | [],_,r,p,ps,h=>h
 | c::o,ho,r,p,ps,h=>by
  have hc:=ho c (by simp);have ih:=y0q (o:=o) (fun x hx=>ho x (by simp [hx])) r p ps h;rw [List.cons_append];show (if c=0 then []::z1v (o++r) else _)=_;rw [if_neg hc,ih];rfl
def z8o:List (List UInt8)→List UInt8
 | []=> []
 | [p]=>p
 | p::q::ps=>p++0::z8o (q::ps)
theorem y0c{p:List UInt8}{ps:List (List UInt8)}(h:ps≠ []):z8o (p::ps)=p++0::z8o ps:=by
 cases ps with
 | nil=>exact absurd rfl h
 | cons q ps=>rfl
theorem y5A(c:UInt8)(p:List UInt8)(ps:List (List UInt8)):z8o ((c::p)::ps)=c::z8o (p::ps):=by
 cases ps<;>rfl
theorem y0N:∀b:List UInt8,z8o (z1v b)=b
 | []=>rfl
 | c::l=>by
  have ih:=y0N l;unfold z1v;split
  ·rename_i hc;rw [y0c (z8X l),ih,hc];rfl
  ·split
   ·rename_i e;exact absurd e (z8X l)
   ·rename_i q qs e;rw [e] at ih;rw [y5A,ih]
theorem y0H{n:Nat}(h:n<256):(UInt8.ofNat n).toNat=n:=by rw [UInt8.toNat_ofNat'];omega
def z3M(s:List UInt8)(long:Bool):Option (List UInt8):=
 match s with
 | []=>if long then none else some []
 | c::l=>
  if h:0<c.toNat∧c.toNat≤l.length+1 then
   (z3M (l.drop (c.toNat - 1)) (c==255)).map fun r=>l.take (c.toNat - 1)++((if c≠255∧l.drop (c.toNat - 1)≠ [] then [0] else [])++r)
  else none
termination_by s.length
decreasing_by simp;omega
theorem y1u(long:Bool):z3M [] long=if long then none else some []:=by rw [z3M]
theorem y5v(c:UInt8)(l:List UInt8)(long:Bool)(h:0<c.toNat∧c.toNat≤l.length+1):
  z3M (c::l) long=(z3M (l.drop (c.toNat - 1)) (c==255)).map fun r=>l.take (c.toNat - 1)++((if c≠255∧l.drop (c.toNat - 1)≠ [] then [0] else [])++r):=by rw [z3M,dif_pos h]
theorem y8F(c:UInt8)(l:List UInt8)(long:Bool)(h:¬(0<c.toNat∧c.toNat≤l.length+1)):z3M (c::l) long=none:=by rw [z3M,dif_neg h]
theorem z5k:∀(n:Nat) (p:List UInt8),p.length≤n→(part p).length=p.length+1+p.length/254
 | n,p,hn=>by
  by_cases hl:254≤p.length
  ·cases n with
   | zero=>omega
   | succ n=>
    rw [y1z hl,List.length_cons,List.length_append,z5k n (p.drop 254) (by simp;omega)];simp;omega
  ·rw [y0s (by omega),List.length_cons];omega
theorem z8r:∀ps:List (List UInt8),ps≠ []→(ps.flatMap part).length≤(z8o ps).length+1+(z8o ps).length/254
 | [],h=>absurd rfl h
 | [p],_=>by simp [z8o,z5k p.length p (Nat.le_refl _)]
 | p::q::ps,_=>by
  have ih:=z8r (q::ps) (by simp);rw [List.flatMap_cons,List.length_append,z5k p.length p (Nat.le_refl _),y0c (by simp),List.length_append,List.length_cons];omega
theorem z6V(b:List UInt8):(z3d b).length≤b.length+b.length/254+2:=by
 have:=z8r _ (z8X b);rw [y0N] at this;unfold z3d y1H;rw [List.length_append,show ([0]:List UInt8).length=1 from rfl];omega
end
section
open Go.RowKit
theorem y6C:NoZ []:=by
 intro c h;cases h
theorem y3K{c:UInt8}{l:List UInt8}(hc:c≠0)(h:NoZ l):NoZ (c::l):=by
 intro x hx;rcases List.mem_cons.1 hx with e | hx
 ·rw [e];exact hc
 ·exact h x hx
theorem z6B:∀l:List UInt8,(NoZ l∧Lib.indexByte l 0= -1)∨∃o r,l=o++0::r∧NoZ o∧Lib.indexByte l 0=(o.length:Int)
 | []=> .inl ⟨y6C,rfl⟩
 | c::l=>by
  by_cases hc:c=0
  ·subst hc;refine .inr ⟨[],l,rfl,y6C,?_⟩;simp [Lib.indexByte]
  ·rcases z6B l with ⟨hz,hi⟩ | ⟨o,r,rfl,hz,hi⟩
   ·exact .inl ⟨y3K hc hz,by simp [Lib.indexByte,hc,hi]⟩
   ·refine .inr ⟨c::o,r,rfl,y3K hc hz,?_⟩;have:¬((o.length:Int)= -1):=by omega
    simp [Lib.indexByte,hc,hi,this]
theorem z9S:∀l:List UInt8,Lib.bytesOf (l.map fun b=>(b.toNat:Int))=l
 | []=>rfl
 | c::l=>by
  have ih:=z9S l;simp only [Lib.bytesOf,List.map_cons,Int.toNat_natCast] at ih ⊢;rw [ih]
  congr 1
  exact UInt8.ofNat_toNat
theorem y4J{P:Program}(w:World)(x:Value)(l:List UInt8)(h:RdB w x l)(c:Int):
  (Extern.BytealgIndexByte.indexByte #[x, .int .u8 c]).run P w= .ok (.int .i64 (Lib.indexByte l c.toNat.toUInt8)) w:=by
 obtain ⟨hl,⟨rfl,hz⟩ | ⟨ad,cap,rfl,hc⟩⟩:=h
 ·obtain rfl:l= []:=List.eq_nil_of_length_eq_zero hz;exact Lib.run_indexByteNil w 0 0 c
 ·obtain ⟨xs,hxs⟩:∃xs:List Int,xs=l.map fun b=>(b.toNat:Int):=⟨_,rfl⟩;have hb:Lib.bytesOf xs=l:=by rw [hxs,z9S]
  have hn:xs.length=l.length:=by simp [hxs]
  have hl:=Lib.run_loadBytesX (P:=P) w xs ad .empty (fun j y hj=>by
   refine hc j _ ?_;rw [hxs] at hj;simp only [List.getElem?_map,Option.map_eq_some_iff] at hj;obtain ⟨u,hu,rfl⟩:=hj;simp [z0b,hu])
  rw [hn,hb] at hl;have hs:=Lib.run_indexByteString (P:=P) ⟨l.toArray⟩ c w;have he:(⟨ByteArray.empty.data++l.toArray⟩:ByteArray)=⟨l.toArray⟩:=by
   apply ByteArray.ext;show (#[]:Array UInt8)++l.toArray=l.toArray;simp
  rw [he] at hl;change Sem.run P (do
   let b ←Extern.Bytes.bytesOf (.slice (some ad) l.length cap)
   let c ←Extern.Bytes.asByte (.int .u8 c)
   match (List.range b.size).find? fun i=>b[i]! ==c with
   | some i=>pure (goInt i)
   | none=>pure (goInt (-1))) w=_
  change Sem.run P (do
   let b ←Extern.Bytes.bytesOf (.string ⟨l.toArray⟩)
   let c ←Extern.Bytes.asByte (.int .u8 c)
   match (List.range b.size).find? fun i=>b[i]! ==c with
   | some i=>pure (goInt i)
   | none=>pure (goInt (-1))) w=_ at hs
  simp only [Extern.Bytes.bytesOf,Sem.run_bind,Sem.run_pure,hl,Result.andThen] at hs ⊢;exact hs
theorem z8k(x:Value)(l:List UInt8)(w:World)(h:RdB w x l):
  Calls Tryz.prog 265 #[x, .int .u8 0] w fun e w'=>e= .returned (.int .i64 (Lib.indexByte l 0))∧w'=w:=by
 have hr:=y4J (P:=Tryz.prog) w x l h 0;obtain ⟨a,c,rfl⟩:=h.head;go_enter Tryz.func265,Tryz.ntmps265;go_wp2;rw [run_callFunc_extern Tryz.func303 (by kernel_rfl) (by kernel_rfl) (by kernel_rfl) (e:=Extern.BytealgIndexByte.indexByte) (by kernel_rfl),hr];simp only [Result.andThen];rw [Oper.upon_value];go_wp2;go_ret;exact ⟨rfl,rfl⟩
theorem y9r(x:Value)(l:List UInt8)(b c:Nat)(w:World)(h:RdB w x l)(hs:w.cell? ⟨b,0,none⟩=some (.int .u8 0)):
  Calls Tryz.prog 312 #[x, .slice (some ⟨b,0,none⟩) 1 c] w fun e w'=>e= .returned (.int .i64 (Lib.indexByte l 0))∧w'=w:=by
 have H:=z7 (z8k x l w h);obtain ⟨a,c',rfl⟩:=h.head;clear h;go_enter Tryz.func312,Tryz.ntmps312;go_wp2_with (refine H.out.mono ?_;rintro e w' ⟨rfl,rfl⟩);go_ret;exact ⟨rfl,rfl⟩
def nul:List UInt8→List UInt8
 | []=> []
 | c::l=>if c=0 then [] else c::nul l
theorem y6i:∀{l:List UInt8},NoZ l→nul l=l
 | [],_=>rfl
 | c::l,h=>by
  have hc:=h c (by simp);show (if c=0 then [] else c::nul l)=_;rw [if_neg hc,y6i fun x hx=>h x (by simp [hx])]
theorem y6W:∀{o:List UInt8},NoZ o→∀r,nul (o++0::r)=o
 | [],_,r=>by simp [nul]
 | c::o,h,r=>by
  have hc:=h c (by simp);show (if c=0 then [] else c::nul (o++0::r))=_;rw [if_neg hc,y6W (fun x hx=>h x (by simp [hx]))]
theorem y8Q(l:List UInt8):NoZ (nul l)∧((nul l=l∧Lib.indexByte l 0= -1)∨∃r,l=nul l++0::r∧Lib.indexByte l 0=((nul l).length:Int)):=by
 rcases z6B l with ⟨hz,hi⟩ | ⟨o,r,rfl,hz,hi⟩
 ·rw [y6i hz];exact ⟨hz, .inl ⟨rfl,hi⟩⟩
 ·rw [y6W hz r];exact ⟨hz, .inr ⟨r,rfl,hi⟩⟩
def opened(b:List UInt8):Option (List UInt8):=if nul b= []∨nul b=b then none else z3M (nul b) false
def oB(b:List UInt8):List UInt8:=(opened b).getD []
def oN(b:List UInt8):Int:=if (opened b).isSome then (((nul b).length+1:Nat):Int) else 0
def oE(b:List UInt8):Int:=if (opened b).isSome then 0 else 90
theorem z9p{b:List UInt8}(h:opened b=none):oB b= []∧oN b=0∧oE b=90:=by simp [oB,oN,oE,h]
theorem z6T{b x:List UInt8}(h:opened b=some x):oB b=x∧oN b=(((nul b).length+1:Nat):Int)∧oE b=0:=by simp [oB,oN,oE,h]
def y0z(b:List UInt8)(w:World)(e:Ending)(w':World):Prop:=
 ∃a n' c',e= .returned (.tuple #[.slice a n' c', .int .i64 (oN b), .int .u16 (oE b)])∧w'.ownsRow w.heap.size 5 1 (.slice a n' c') n' (z0b (oB b))∧n'=(oB b).length∧Below w.heap.size w w'
theorem z5u{b:List UInt8}{w w':World}(h:opened b=none)(hb:Below w.heap.size w w'):y0z b w (.returned (.tuple #[.slice none 0 0, .int .i64 0, .int .u16 90])) w':=by
 obtain ⟨o1,o2,o3⟩:=z9p h;unfold y0z;rw [o1,o2,o3];exact ⟨_,_,_,rfl,World.ownsRow_nil _ _ _ _,rfl,hb⟩
theorem y3R{b x:List UInt8}{w w':World}{a:Option Addr}{n c:Nat}{k:Int}(h:opened b=some x)(ho:w'.ownsRow w.heap.size 5 1 (.slice a n c) x.length (z0b x))(hn:n=x.length)(hk:k=oN b)(hb:Below w.heap.size w w'):
  y0z b w (.returned (.tuple #[.slice a n c, .int .i64 k, .int .u16 0])) w':=by
 obtain ⟨o1,o2,o3⟩:=z6T h;unfold y0z;rw [o1,o3,hk];exact ⟨_,_,_,rfl,by rw [hn];rw [hn] at ho;exact ho,hn,hb⟩
theorem RdB.mid{w:World}{ad:Addr}{c n:Nat}{l:List UInt8}(h:RdB w (.slice (some ad) n c) l)(hn:n=l.length)(hc:n≤c)(k:Nat)(hk:k≤n)(c':Nat):
  RdB w (.slice (if c=1 then some ad else some ⟨ad.block,ad.off+1,none⟩) (k - 1) c') ((l.take k).drop 1):=by
 have h1:=h.upto hn k c k (by simp;omega);exact h1.rest (by simp;omega) (by omega) 1 c' (k - 1) (by simp;omega)
def y6n(s:List UInt8)(w:World)(ov lv rv:Value)(wr:World):Prop:=
 ∃(O t:List UInt8) (lg:Bool) (aO ar:Option Addr) (nO cO nt ct:Nat),ov= .slice aO nO cO∧lv= .bool lg∧rv= .slice ar nt ct∧nt≤ct∧ct≤9223372036854775807∧nO+nt≤1100000∧Hid (nt=t.length)∧Hid (nO=O.length)∧Hid (NoZ t)∧
     Hid (z7C w w.heap.size 5 (.slice aO nO cO) O wr)∧Hid (RdB wr (.slice ar nt ct) t)∧Hid (∀k,(Value.slice ar nt ct).ownBlock=some k→k<w.heap.size)∧Hid (z3M s false=(z3M t lg).map fun r=>O++r)
theorem q1l(b:List UInt8)(ao:Option Addr)(c:Nat)(w:World)(hx:RdB w (.slice ao b.length c) b)(hle:b.length≤c)(hc:c≤9223372036854775807)(hlen:b.length≤1100000):
  Calls Tryz.prog 215 #[.slice ao b.length c] w (y0z b w):=by
 have H:=z7 (z8k _ b w hx);have HX:=z7 hx;obtain ⟨hz,⟨h1,h2⟩ | ⟨r,h1,h2⟩⟩:=y8Q b
 ·have ho:opened b=none:=by unfold opened;rw [if_pos (.inr h1)]
  rw [h2] at H;have HOO:=z7 ho;clear hx hz h1 h2 ho HX;go_enter Tryz.func215,Tryz.ntmps215;go_wp2_with (refine H.out.mono ?_;rintro e w' ⟨rfl,rfl⟩);go_ret3
  exact z5u HOO.out (Below.refl _ _)
 ·rw [h2] at H;by_cases hs:nul b= []
  ·have ho:opened b=none:=by unfold opened;rw [if_pos (.inl hs)]
   rw [hs] at H;have HOO:=z7 ho;clear hx hz h1 h2 ho HX hs;go_enter Tryz.func215,Tryz.ntmps215;go_wp2_with (refine H.out.mono ?_;rintro e w' ⟨rfl,rfl⟩);go_ret3
   exact z5u HOO.out (Below.refl _ _)
  ·have hne:nul b≠b:=fun e=>by
    have:=congrArg List.length h1;rw [e] at this;simp at this
   have ho:opened b=z3M (nul b) false:=by unfold opened;rw [if_neg (by simp [hs,hne])]
   have hlb:b.length=(nul b).length+1+r.length:=by
    have:=congrArg List.length h1;rw [List.length_append,List.length_cons] at this;omega
   have hpos:0<(nul b).length:=List.length_pos_iff.2 hs;obtain ⟨s,hS⟩:∃s,s=nul b:=⟨_,rfl⟩;rw [←hS] at H hz hlb hpos ho;have hN:∀x,opened b=some x→oN b=((s.length+1:Nat):Int):=fun x hx=>by rw [(z6T hx).2.1,hS]
   have htk:b.take s.length=s:=by rw [h1,←hS,List.take_left' rfl]
   obtain ⟨m,hm⟩:∃m,m=s.length:=⟨_,rfl⟩;rw [←hm] at H;have HM:=z7 hm;have hm1:(0:Int)<m:=by omega
   have hm2:¬((m:Int)≤0):=by omega
   have hm3:(m:Int)≤c:=by omega
   have hml:m≤1100000:=by omega
   obtain ⟨ad,rfl⟩:∃ad,ao=some ad:=by
    rcases hx.2 with ⟨he,hz⟩ | ⟨ad2,c2,he,_⟩
    ·have:b.length=0:=hz;omega
    ·simp only [Value.slice.injEq] at he;exact ⟨ad2,he.1⟩
   have hbl:Hid (∀k,(Value.slice (some ad) m c).ownBlock=some k→k<w.heap.size):=z7 fun k hk=>by
    obtain ⟨b0,o0,c0,he,_,hb0⟩:=RdB.at (k:=0) hx (by omega);simp only [Value.slice.injEq,Option.some.injEq] at he;obtain ⟨rfl,_⟩:=he;have:k=b0:=by simpa [Value.ownBlock] using hk.symm
    omega
   have hr0:=z7 (by have:=hx.upto rfl m c m (by rw [hm,htk]);rwa [hm,htk,←hm] at this);have HZ:=z7 hz;have HO:=z7 ho;have HN:=z7 hN;clear hx h1 h2 ho HX hs hne hlb hpos hS hN htk hm hz;go_enter Tryz.func215,Tryz.ntmps215;go_wp2_with (refine H.out.mono ?_;clear H;rintro e w ⟨rfl,rfl⟩);go_loopw [6,7,8] (fun ov lv rv wr=>y6n s w ov lv rv wr) (fun _ _ rv _=>match rv with | .slice _ n _=>n | _=>0)
   case atStart=>exact ⟨[],s,false,none,some ad,0,0,m,c,rfl,rfl,rfl,by omega,hc,by omega,HM,z7 rfl,HZ,z7 ⟨World.ownsRow_nil _ _ _ _,Below.refl _ _,Nat.le_refl _⟩,hr0,hbl,z7 (by simp)⟩
   case round=>
    obtain ⟨O,t,lg,aO,ar,nO,cO,nt,ct,rfl,rfl,rfl,hntc,hct,hsum,hnt,hnO,hzt,hO,ht,hbt,hop⟩:=hrel;clear hr0 hbl HZ;cases t with
    | nil=>
     have h0:nt=0:=hnt.out;subst h0;cases lg with
     | true=>
      have ho:opened b=none:=by rw [HO.out,hop.out,y1u];rfl
      have HOO:=z7 ho;have HB:=z7 hO.out.2.1;clear ho;go_wp2;go_ret3
      exact z5u HOO.out HB.out
     | false=>
      have ho:opened b=some O:=by rw [HO.out,hop.out,y1u];simp
      have HOO:=z7 ho;have HNN:=z7 (show ((m:Int)+1)=oN b by rw [HN.out O ho,HM.out];rfl);have HR:=z7 hO.out;clear ho;go_wp2;go_ret3
      exact y3R HOO.out HR.out.1 hnO.out HNN.out HR.out.2.1
    | cons ch t=>
     have hch:ch≠0:=hzt.out ch (by simp);have hk0:0<ch.toNat:=by
      rcases Nat.eq_zero_or_pos ch.toNat with h | h
      ·exact absurd (UInt8.toNat.inj h) hch
      ·exact h
     have hk1:=ch.toNat_lt;obtain ⟨bb,off,c9,he,hcell,hbw⟩:=RdB.at (k:=0) (l:=ch::t) (by have:=ht.out;rw [hnt.out] at this;exact this) (by simp);simp only [Value.slice.injEq] at he;obtain ⟨rfl, -⟩:=he;have hcell0:wr.cell? ⟨bb,off,none⟩=some (.int .u8 (ch.toNat:Nat)):=by simpa using hcell
     obtain ⟨k,hk⟩:∃k,k=ch.toNat:=⟨_,rfl⟩;rw [←hk] at hk0 hk1 hcell0;have HK:=z7 hk;have hnt1:0<nt:=by rw [hnt.out];simp
     have i1:(0:Int)<nt:=by omega
     clear hcell hk hch;by_cases hbig:nt<k
     ·have ho:opened b=none:=by
       rw [HO.out,hop.out,y8F ch t lg (by
        have h1:=HK.out;have h2:=hnt.out;simp at h2;omega)]
       rfl
      have HOO:=z7 ho;have HB:=z7 hO.out.2.1;have i2:(nt:Int)<k:=by omega
      clear ho;go_wp2;go_ret3
      exact z5u HOO.out HB.out
     ·have i2:¬((nt:Int)<k):=by omega
      have i3:(1:Int)≤k:=by omega
      have i4:(k:Int)≤ct:=by omega
      have i5:(k:Int)≤nt:=by omega
      have hP0:=z7 (show RdB wr (.slice (if ct=1 then some ⟨bb,off,none⟩ else some ⟨bb,off+1,none⟩) (k - 1) (ct - 1)) (((ch::t).take k).drop 1) by
       exact ht.out.mid hnt.out hntc k (by omega) (ct - 1))
      have hT0:=z7 (show RdB wr (.slice (if ct=k then some ⟨bb,off,none⟩ else some ⟨bb,off+k,none⟩) (nt - k) (ct - k)) ((ch::t).drop k) by
       exact ht.out.rest hnt.out hntc k (ct - k) (nt - k) (by have:=hnt.out;simp at this ⊢;omega))
      obtain ⟨P,hP⟩:∃P,P=t.take (k - 1):=⟨_,rfl⟩;obtain ⟨T,hT⟩:∃T,T=t.drop (k - 1):=⟨_,rfl⟩;have hPe:((ch::t).take k).drop 1=P:=by
       obtain ⟨j,rfl⟩:∃j,k=j+1:=⟨k - 1,by omega⟩;rw [hP];simp
      have hTe:(ch::t).drop k=T:=by
       obtain ⟨j,rfl⟩:∃j,k=j+1:=⟨k - 1,by omega⟩;rw [hT];simp
      rw [hPe] at hP0;rw [hTe] at hT0;have hPl:Hid (P.length=k - 1):=z7 (by rw [hP];have:=hnt.out;simp at this ⊢;omega);have hTl:Hid (nt - k=T.length):=z7 (by rw [hT];have:=hnt.out;simp at this ⊢;omega);have hzT:Hid (NoZ T):=z7 fun x hx=>hzt.out x (List.mem_cons_of_mem _ (List.mem_of_mem_drop (by rw [hT] at hx;exact hx)));have hop2:Hid (z3M s false=(z3M T (ch==255)).map fun r=>O++(P++((if ch≠255∧T≠ [] then [0] else [])++r))):=z7 (by
       rw [hop.out,y5v ch t lg (by have:=HK.out;have:=hnt.out;simp at this;omega),←HK.out,←hP,←hT];simp only [Option.map_map];rfl)
      have hbk:Hid (∀j,(Value.slice (if ct=k then some ⟨bb,off,none⟩ else some ⟨bb,off+k,none⟩) (nt - k) (ct - k)).ownBlock=some j→j<w.heap.size):=z7 fun j hj=>by
       have h1:=z2Y ⟨bb,off,none⟩ ct k (nt - k) (ct - k);rw [h1] at hj;exact hbt.out j hj
      have hl1:(O.length+P.length:Nat)≤1100000:=by rw [hPl.out,←hnO.out];omega
      have HL1:=z7 hl1;clear hP hT hPe hTe hl1 ht hop hzt;have hOw:Hid (z7C w w.heap.size 5 (.slice aO nO cO) O wr):=hO;have hn1':Hid ((O++P).length+(nt - k)≤1100000):=z7 (by rw [List.length_append];have:=HL1.out;have:=hPl.out;have:=hnO.out;omega);go_upto_region 13 with (at_builtin;refine wpList_copy_own rfl _ _ 46 rfl w w.heap.size 5 Tryz.underlying46 (by kernel_rfl) _ O rfl (by exact hOw.out) _ P rfl (by exact hP0.out) (by have:=HL1.out;omega) ?_;intro a1 co1 w1 hown1 hb1;obtain ⟨n1,hn1⟩:∃n1,n1=(O++P).length:=⟨_,rfl⟩;rw [←hn1] at hown1 ⊢;have N1:=z7 hn1;have HO1:=z7 hown1;have hT1:=z7 (RdB.keep hT0.out (w':=w1) fun j hj=>hb1.block j (hbk.out j hj));clear hn1 hown1 hb1)
      by_cases h255:k=255
      ·subst h255;have hc2:ch=255:=UInt8.toNat.inj HK.out.symm;have hop3:Hid (z3M s false=(z3M T true).map fun r=>(O++P)++r):=z7 (by
        rw [hop2.out,hc2];simp)
       have HREL:Hid (y6n s w (.slice a1 n1 co1) (.bool true) (.slice (if ct=255 then some ⟨bb,off,none⟩ else some ⟨bb,off+255,none⟩) (nt - 255) (ct - 255)) w1):=z7
        ⟨O++P,T,true,a1,(if ct=255 then some ⟨bb,off,none⟩ else some ⟨bb,off+255,none⟩),n1,co1,nt - 255,ct - 255,rfl,rfl,rfl,by omega,by omega,by have:=hn1'.out;have:=N1.out;omega,hTl,N1,hzT,HO1,hT1,hbk,hop3⟩
       clear hop2 hc2;go_wp2_with fail;all_goals (first
        | (refine ⟨⟨_,_,_,_,_,_,?_,rfl,rfl,rfl,rfl,rfl,rfl⟩,by omega⟩;simpa [*] using HREL.out)
        | (refine ⟨_,_,_,_,_,_,?_,rfl,rfl,rfl,rfl,rfl,rfl⟩;simpa [*] using HREL.out))
      ·have hc2:ch≠255:=fun e=>h255 (by rw [HK.out,e];rfl);have hcf:(ch==255)=false:=by simpa using hc2
       have j1:¬((k:Int)=255):=by omega
       have j2:((k:Int)==255)=false:=by simpa using j1
       by_cases hTn:nt=k
       ·have hTe:T= []:=List.eq_nil_of_length_eq_zero (by have:=hTl.out;omega);have hop3:Hid (z3M s false=(z3M T false).map fun r=>(O++P)++r):=z7 (by
         rw [hop2.out,hcf,hTe];simp)
        have HREL:Hid (y6n s w (.slice a1 n1 co1) (.bool false) (.slice (if ct=k then some ⟨bb,off,none⟩ else some ⟨bb,off+k,none⟩) (nt - k) (ct - k)) w1):=z7
         ⟨O++P,T,false,a1,(if ct=k then some ⟨bb,off,none⟩ else some ⟨bb,off+k,none⟩),n1,co1,nt - k,ct - k,rfl,rfl,rfl,by omega,by omega,by have:=hn1'.out;have:=N1.out;omega,hTl,N1,hzT,HO1,hT1,hbk,hop3⟩
        have j3:¬(0<nt - k):=by omega
        have j4:¬((0:Int)<((nt - k:Nat):Int)):=by omega
        have j5:nt≤k:=by omega
        clear hop2 hc2 hcf hTe hTn;go_wp2_with fail;all_goals (first
         | (refine ⟨⟨_,_,_,_,_,_,?_,rfl,rfl,rfl,rfl,rfl,rfl⟩,by omega⟩;simpa [*] using HREL.out)
         | (refine ⟨_,_,_,_,_,_,?_,rfl,rfl,rfl,rfl,rfl,rfl⟩;simpa [*] using HREL.out))
       ·have hTe:T≠ []:=fun e=>hTn (by have:=hTl.out;rw [e] at this;simp at this;omega);have hop3:Hid (z3M s false=(z3M T false).map fun r=>(O++P++ [0])++r):=z7 (by
         rw [hop2.out,hcf,if_pos ⟨hc2,hTe⟩];simp)
        have j3:0<nt - k:=by omega
        have j4:(0:Int)<((nt - k:Nat):Int):=by omega
        have j5:k<nt:=by omega
        have j6:ct≠k:=by omega
        have hkk:Hid ((O++P++ [0]).length+(nt - k)≤1100000):=z7 (by
         have h1:=HL1.out;have h2:=hPl.out;have h3:=hnO.out;simp only [List.length_append,List.length_cons,List.length_nil];omega)
        clear hop2 hc2 hcf hTe hTn;have hrd2:=z7 (z3C w1 #[.int .u8 0] 5 1 1 (by decide) rfl);have HO2:=z7 (HO1.out.to (q5 w1 (.cells #[.int .u8 0] 5)));go_wp2_with (at_builtin;refine wpList_copy_own rfl _ _ 46 rfl w w.heap.size 5 Tryz.underlying46 (by kernel_rfl) _ (O++P) rfl (by exact HO2.out) _ [0] rfl (by exact hrd2.out) (by have:=HL1.out;simp;omega) ?_;intro a2 co2 w2 hown2 hb2;obtain ⟨n2,hn2⟩:∃n2,n2=(O++P++ [0]).length:=⟨_,rfl⟩;rw [←hn2] at hown2 ⊢;have N2:=z7 hn2;have HO3:=z7 hown2;have hT2:=z7 (RdB.keep hT1.out (w':=w2) fun j hj=>(hb2.block j (hbk.out j hj)).trans (Below.heap_alloc w1 _ j (by have:=hbk.out j hj;have:=HO1.out.2.2;omega)));clear hn2 hown2 hb2);all_goals
         have HREL:Hid (y6n s w (.slice a2 n2 co2) (.bool false) (.slice (if ct=k then some ⟨bb,off,none⟩ else some ⟨bb,off+k,none⟩) (nt - k) (ct - k)) w2):=z7
          ⟨O++P++ [0],T,false,a2,(if ct=k then some ⟨bb,off,none⟩ else some ⟨bb,off+k,none⟩),n2,co2,nt - k,ct - k,rfl,rfl,rfl,by omega,by omega,by have:=hkk.out;have:=N2.out;omega,hTl,N2,hzT,HO3,hT2,hbk,hop3⟩
        all_goals (first
         | (refine ⟨⟨_,_,_,_,_,_,?_,rfl,rfl,rfl,rfl,rfl,rfl⟩,by omega⟩;simpa [*] using HREL.out)
         | (refine ⟨_,_,_,_,_,_,?_,rfl,rfl,rfl,rfl,rfl,rfl⟩;simpa [*] using HREL.out))
end
section
open Go.RowKit Go.Shelf
attribute [local go_sem] Oper.semAt_some
theorem y3C(ao:Option Addr)(n c zB:Nat)(w:World):
  Calls Tryz.prog 274 #[.slice ao n c, .slice (some ⟨zB,0,none⟩) 1 1, .int .i64 0] w fun e w'=>e= .returned (.func (.func 310) #[] #[.pointer (some ⟨w.heap.size+1,0,none⟩), .pointer (some ⟨w.heap.size,0,none⟩), .pointer (some ⟨w.heap.size+2,0,none⟩)])∧
   w'=((w.alloc (.cells #[.slice ao n c] 46)).alloc (.cells #[.slice (some ⟨zB,0,none⟩) 1 1] 46)).alloc (.cells #[.int .i64 0] 3):=by
 go_enter Tryz.func274,Tryz.ntmps274;go_wp2;go_ret;exact ⟨by simp,rfl⟩
theorem y4q(ao:Option Addr)(n c zB:Nat)(w:World):
  Calls Tryz.prog 225 #[.slice ao n c, .slice (some ⟨zB,0,none⟩) 1 1] w fun e w'=>e= .returned (.func (.func 310) #[] #[.pointer (some ⟨w.heap.size+1,0,none⟩), .pointer (some ⟨w.heap.size,0,none⟩), .pointer (some ⟨w.heap.size+2,0,none⟩)])∧
   w'=((w.alloc (.cells #[.slice ao n c] 46)).alloc (.cells #[.slice (some ⟨zB,0,none⟩) 1 1] 46)).alloc (.cells #[.int .i64 0] 3):=by
 go_enter Tryz.func225,Tryz.ntmps225;go_wp2_with (refine (y3C ao n c zB w).mono ?_;rintro e w' ⟨rfl,rfl⟩);go_ret;exact ⟨rfl,rfl⟩
theorem RdB.keep0{w w':World}{x:Value}{l:List UInt8}(h:RdB w x l)(hk:0<l.length→∀b,x.ownBlock=some b→w'.heap[b]? =w.heap[b]?):RdB w' x l:=by
 by_cases h0:0<l.length
 ·exact h.keep (hk h0)
 ·have:l= []:=List.eq_nil_of_length_eq_zero (by omega);subst this;obtain ⟨h1,h2⟩:=h;exact ⟨h1,h2.imp id fun ⟨ad,c,e,_⟩=>⟨ad,c,e,fun j u hu=>by simp [z0b] at hu⟩⟩
def q1V(b:List UInt8)(B oB sB:Nat)(pre:List (Value×List UInt8))(x:Value×List UInt8)(W:World):Prop:=
 RdB W x.1 x.2∧(∃ao,x.1= .slice ao x.2.length x.2.length)∧(0<x.2.length→∀k,x.1.ownBlock=some k→k<B∧k≠oB∧k≠sB)∧∃r,pre.map Prod.snd++x.2::r=z1v b
def q2I(B oB:Nat)(W W':World):Prop:=W.heap.size≤W'.heap.size∧∀k,k<B→k≠oB→W'.heap[k]? =W.heap[k]?
def q3A(sB:Nat)(X X':World):Prop:=∃v,X'=X.setCell ⟨sB,0,none⟩ v
def y4D(sB:Nat)(w:World):Nat:=match w.cell? ⟨sB,0,none⟩ with | some (.slice _ n _)=>n | _=>0
theorem q1h(n:Nat)(hn1:1≤n)(b:List UInt8)(ao:Option Addr)(c B oB sB pB qB zB:Nat)(w:World)
  (hs:w.heap[sB]? =some (.cells #[.slice ao b.length c] 46)) (hp:w.heap[pB]? =some (.cells #[.slice (some ⟨zB,0,none⟩) 1 1] 46)) (hq:w.heap[qB]? =some (.cells #[.int .i64 0] 3)) (hz:w.cell? ⟨zB,0,none⟩=some (.int .u8 0))
  (hx:RdB w (.slice ao b.length c) b) (hle:b.length≤c) (hc:c≤9223372036854775807) (hob:0<b.length→∀k,(Value.slice ao b.length c).ownBlock=some k→k<B∧k≠oB∧k≠sB)
  (lB:sB<B∧pB<B∧qB<B∧zB<B) (hB:B≤w.heap.size) (nO:sB≠oB∧pB≠oB∧qB≠oB∧zB≠oB) (nS:pB≠sB∧qB≠sB∧zB≠sB):
  q2r Fence.wide n Tryz.prog 310 #[.pointer (some ⟨pB,0,none⟩), .pointer (some ⟨sB,0,none⟩), .pointer (some ⟨qB,0,none⟩)] (fun x:Value×List UInt8=> #[x.1]) (q1V b B oB sB) (q2I B oB) (q3A sB) (fun xs=>xs.map Prod.snd=z1v b) w:=by
 intro l J W hW hl hJ hY h0;refine callsIn_of_wp Tryz.func310 rfl trivial ?_ rfl;simp only [Tryz.ntmps310,List.size_toArray,List.length_cons,List.length_nil,Nat.reduceAdd,Nat.reduceSub,Array.replicate_succ,Array.replicate_zero,List.push_toArray,List.append_toArray,List.nil_append,List.cons_append];have hp1:=(hW.block pB (by omega) (by simp)).trans hp;obtain ⟨p1,_,_⟩:=z0t hp1
 gi_wp2
 gi_loopw [7] (fun i wr=>∃(pre:List (Value×List UInt8)) (rest:List UInt8) (a':Option Addr) (n' c':Nat),Hid (n'=rest.length)∧Hid (pre.map Prod.snd++z1v rest=z1v b)∧wr.heap[sB]? =some (.cells #[.slice a' n' c'] 46)∧
   wr.heap[pB]? =some (.cells #[.slice (some ⟨zB,0,none⟩) 1 1] 46)∧wr.heap[qB]? =some (.cells #[.int .i64 0] 3)∧wr.cell? ⟨zB,0,none⟩=some (.int .u8 0)∧Hid (RdB wr (.slice a' n' c') rest)∧n'≤c'∧c'≤9223372036854775807∧Hid (0<n'→∀k,(Value.slice a' n' c').ownBlock=some k→k<B∧k≠oB∧k≠sB)∧Hid (B≤wr.heap.size)∧J pre wr) (fun i wr=>y4D sB wr)
 case atStart=>
  have hb:=fun k (hk:k<B)=>hW.block k (by omega) (by simp);refine ⟨[],b,ao,b.length,c,rfl,by rw [List.map_nil,List.nil_append];rfl,(hb _ lB.1).trans hs,(hb _ lB.2.1).trans hp,(hb _ lB.2.2.1).trans hq,(World.cell?_of_block (w:=w) (a:=⟨zB,0,none⟩) (hb _ lB.2.2.2)).trans hz,hx.chg hW (by simp),hle,hc,hob,Nat.le_trans hB hW.size,h0⟩
 case round=>
  obtain ⟨pre,rest,a',n',c',hn,hsp,us,up,uq,uz,hr,hle',hc',hob',hBr,hJr⟩:=hrel;obtain ⟨s1,s2,s3⟩:=z0t us;obtain ⟨q1,_,_⟩:=z0t uq;obtain ⟨r1,_,_⟩:=z0t up;have H:=z7 (y9r _ rest zB 1 wr (by have:=hr.out;rw [hn.out] at this;exact this) uz);rw [←hn.out] at H;rcases z6B rest with ⟨hzz,hi⟩ | ⟨o,r,hrest,hzo,hi⟩
  ·rw [hi] at H;have hspo:z1v rest= [rest]:=y0j hzz;have hok:q1V b B oB sB pre (.slice a' n' n',rest) wr:=by
    refine ⟨?_,⟨a',by rw [hn.out]⟩,fun h0 j hj=>hob'.out (by rw [hn.out];exact h0) j (by cases a'<;>exact hj), [],?_⟩
    ·obtain ⟨h1,⟨he,hz⟩ | ⟨ad2,c2,he,hcc⟩⟩:=hr.out
     ·simp only [Value.slice.injEq] at he;obtain ⟨rfl,rfl,rfl⟩:=he;exact ⟨h1, .inl ⟨rfl,hz⟩⟩
     ·simp only [Value.slice.injEq] at he;obtain ⟨rfl,h5,rfl⟩:=he;exact ⟨h1, .inr ⟨ad2,n',by rw [h5],hcc⟩⟩
    ·rw [←hspo];exact hsp.out
   have hfin:(pre++ [(Value.slice a' n' n',rest)]).map Prod.snd=z1v b:=by
    rw [List.map_append,←hsp.out,hspo];rfl
   obtain ⟨fn,tmps,assign,body,hy,hR⟩:=hY pre _ wr hJr hok;dsimp only at hy;clear hob hs hp hq hz hx hi hW hJ hY h0
   gi_wp2_with (refine ⟨trivial,?_⟩;refine (callsIn_wide.2 H.out).mono ?_;clear H;rintro e wr ⟨rfl,rfl⟩)
   refine hR.mono ?_;rintro e W3 ⟨rfl,hJ3,hk3⟩
   gi_wp2
   go_end0
   exact ⟨⟨_,rfl⟩,_,hfin,hJ3⟩
  ·have hlen:rest.length=o.length+1+r.length:=by rw [hrest];simp;omega
   rw [hi] at H;have hn3:n'=o.length+1+r.length:=by rw [hn.out,hlen]
   obtain ⟨k,hk⟩:∃k,k=o.length:=⟨_,rfl⟩;rw [←hk] at H hn3;have hr1:=hr.out;obtain ⟨ad,rfl⟩:∃ad,a'=some ad:=by
    rcases hr1.2 with ⟨he,hz⟩ | ⟨ad2,c2,he,_⟩
    ·omega
    ·simp only [Value.slice.injEq] at he;exact ⟨ad2,he.1⟩
   have hspo:z1v rest=o::z1v r:=by
    have:=y0q hzo (0::r) [] (z1v r) (y4Q r);rw [List.append_nil] at this;rw [hrest,this]
   have hok:q1V b B oB sB pre (.slice (some ad) k k,o) wr:=by
    refine ⟨?_,⟨some ad,by rw [hk]⟩,fun _ j hj=>hob'.out (by omega) j hj,z1v r,?_⟩
    ·have:=hr1.upto hn.out o.length k k (by rw [hrest,List.take_left' rfl];exact hk)
     rwa [hrest,List.take_left' rfl] at this
    ·rw [←hspo];exact hsp.out
   have hdr:rest.drop (k+1)=r:=by
    rw [hrest,hk,show o++0::r=(o++ [0])++r by simp,List.drop_left' (by simp)]
   have hr2:=z7 (by have:=hr1.rest hn.out hle' (k+1) (c' - (k+1)) (n' - (k+1)) (by rw [hdr];omega);rwa [hdr] at this);have hsp2:=z7 (show (pre++ [(Value.slice (some ad) k k,o)]).map Prod.snd++z1v r=z1v b by
    rw [List.map_append,List.append_assoc,←hsp.out,hspo];rfl)
   have hJJ:=z7 hJ;obtain ⟨fn,tmps,assign,body,hy,hR⟩:=hY pre _ wr hJr hok;dsimp only at hy;have t1:¬((k:Int)<0):=by omega
   have t2:decide ((k:Int)<0)=false:=by simpa using t1
   have hkn:k<n':=by omega
   have hkc:k≤c':=by omega
   have N3:=z7 hn3;have K:=z7 hk;have HR:=z7 hrest;have t3:True:=trivial;have hlt1:k+1≤n':=by omega
   have hlt2:k+1≤c':=by omega
   clear hob hs hp hq hz hx hi hW hJ hY h0 hle hn hsp hok hr hr1 hlen hn3 hk hrest hspo hdr
   gi_wp2_with (refine ⟨trivial,?_⟩;refine (callsIn_wide.2 H.out).mono ?_;clear H;rintro e wr ⟨rfl,rfl⟩)
   refine hR.mono ?_;rintro e W3 ⟨rfl,hJ3,hk3⟩;have hs3:=(hk3.2 sB lB.1 nO.1).trans us;have hp3:=(hk3.2 pB lB.2.1 nO.2.1).trans up;have hq3:=(hk3.2 qB lB.2.2.1 nO.2.2.1).trans uq;have hz3:=(World.cell?_of_block (w:=wr) (w':=W3) (a:=⟨zB,0,none⟩) (hk3.2 zB lB.2.2.2 nO.2.2.2)).trans uz;obtain ⟨s4,s5,s6⟩:=z0t hs3;obtain ⟨q4,_,_⟩:=z0t hq3;obtain ⟨r4,_,_⟩:=z0t hp3;have s1':=s1;clear s1 s2 s3 q1 r1 us up uq uz;have hn0:0<n':=by have:=N3.out;omega
   have hb3:∀j,ad.block=j→W3.heap[j]? =wr.heap[j]? :=fun j hj=>hk3.2 j (hob'.out hn0 j (by simp [Value.ownBlock,hj])).1 (hob'.out hn0 j (by simp [Value.ownBlock,hj])).2.1;have hr4:=z7 (hr2.out.keep (w':=W3) fun j hj=>by rw [z2Y] at hj;exact hb3 j (by simpa using hj));have hns:=z7 ((hob'.out hn0 ad.block rfl).2.2);have hob2:Hid (0<n' - (k+1)→∀j,(Value.slice (if c'=k+1 then some ad else some ⟨ad.block,ad.off+(k+1),none⟩) (n' - (k+1)) (c' - (k+1))).ownBlock=some j→j<B∧j≠oB∧j≠sB):=z7 fun _ j hj=>by
    rw [z2Y] at hj;exact hob'.out hn0 j hj
   have HS:=z7 hs3;have HP:=z7 hp3;have HQ:=z7 hq3;have HZ:=z7 hz3;have HK3:=z7 hk3.1;clear hr2 hb3 hob' hn0 hs3 hp3 hq3 hz3 hk3
   gi_wp2
   go_roundw
   case rel=>
    refine ⟨_,r,(if c'=k+1 then some ad else some ⟨ad.block,ad.off+(k+1),none⟩),n' - (k+1),c' - (k+1),z7 (by have:=N3.out;omega),hsp2,?_,?_,?_,?_,?_,by omega,by omega,hob2,z7 ?_,hJJ.out _ _ _ hJ3 ⟨_,rfl⟩⟩
    ·have:=j9 HS.out 0 (.slice (if c'=k+1 then some ad else some ⟨ad.block,ad.off+(k+1),none⟩) (n' - (k+1)) (c' - (k+1)));simpa using this
    ·exact (q7 nS.1).trans HP.out
    ·exact (q7 nS.2.1).trans HQ.out
    ·exact (World.cell?_of_block (w:=W3) (a:=⟨zB,0,none⟩) (q7 nS.2.2)).trans HZ.out
    ·exact z7 (hr4.out.keep fun j hj=>q7 (by rw [z2Y] at hj;intro e;exact hns.out ((Option.some.inj hj).trans e)))
    ·have:=hBr.out;have:=HK3.out;simp [World.setCell];omega
   case measure=>
    have e1:y4D sB (W3.setCell ⟨sB,0,none⟩ (.slice (if c'=k+1 then some ad else some ⟨ad.block,ad.off+(k+1),none⟩) (n' - (k+1)) (c' - (k+1))))=n' - (k+1):=by
     unfold y4D;rw [World.cell?_setCell_same' _ _ _ (by rw [s4];rfl)]
    have e2:y4D sB wr=n':=by
     unfold y4D;rw [s1']
    rw [e1,e2];omega
end
end Go.Proofs.YtfcnapnopdomhaaGreatDoor

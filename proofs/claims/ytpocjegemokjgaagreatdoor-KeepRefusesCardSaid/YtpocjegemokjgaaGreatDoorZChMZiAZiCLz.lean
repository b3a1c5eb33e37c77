/-
  The codes of numbers, values and samples as lists of truths: written, read, and read as written. No program.
-/
import Derived.Lib.TrailingZeros
import Derived.Test.YtpocjegemokjgaaGreatDoorZBiDBiEBiFHp
import Derived.Shelf.Small.Bits
import Derived.Shelf.Spec.TrailingZeros
import Derived.Shelf.Bits.Mul64
namespace Go.Proofs.YtpocjegemokjgaaGreatDoor
open Go.Proofs.Tryz
set_option linter.all false
set_option maxRecDepth 100000
set_option maxHeartbeats 12800000
open Go.RowKit
def rdN(w:Nat)(l:List Bool):Option (Nat×List Bool):=if w<=l.length then some (z2N (l.take w),l.drop w)else none
theorem z4Q{v w:Nat}(h:v<2^w)(r:List Bool):rdN w (z2U v w++r)=some (v,r):=by
 unfold rdN;rw[if_pos (by simp[z0X]),List.take_append_of_le_length (by simp[z0X]),List.take_of_length_le (by simp[z0X]),y9a,Nat.mod_eq_of_lt h,List.drop_append_of_le_length (by simp[z0X]),List.drop_of_length_le (by simp[z0X])];rfl
theorem z5N{w n:Nat}{l r:List Bool}(h:rdN w l=some (n,r)):r.length+w=l.length/\n<2^w/\l=z2U n w++r:=by
 unfold rdN at h;split at h
 ·rename_i J;simp only[Option.some.injEq,Prod.mk.injEq]at h;obtain⟨rfl,rfl⟩:=h;have I:(l.take w).length=w:=by simp;omega
  have A:=z5P (l.take w);rw[I]at A;refine⟨by simp;omega,A,?_⟩;have B:=y9u (l.take w);rw[I]at B;rw[B,List.take_append_drop]
 ·cases h
def z4s(v:Int):Nat:=if 0<=v then(2*v).toNat else(-2*v - 1).toNat
def z2s(n:Nat):Int:=if n%2=0 then((n/2:Nat):Int)else -((n/2:Nat):Int) - 1
theorem y4G(v:Int):z2s (z4s v)=v:=by unfold z4s z2s;split<;>split<;>omega
theorem y5y(n:Nat):z4s (z2s n)=n:=by unfold z4s z2s;split<;>split<;>omega
theorem y1R{v:Int}(A: -9223372036854775808<=v)(B:v<=9223372036854775807):z4s v<2^64:=by unfold z4s;split<;>omega
def z3w(k:Nat):Nat:= [0,7,9,12,32,64].getD k 64
def z0H(n:Nat):Nat:=if n<1 then 0 else if n<128 then 1 else if n<512 then 2 else if n<4096 then 3 else if n<4294967296 then 4 else 5
theorem z5q(n:Nat):z0H n<=5:=by unfold z0H;(repeat' split)<;>omega
theorem y4i{n:Nat}(h:n<2^64):n<2^z3w (z0H n):=by unfold z0H;(repeat' split)<;>simp[z3w]<;>omega
def z9Q(k:Nat):List Bool:=if k<5 then List.replicate k true++ [false]else List.replicate 5 true
def z9u(v:Int):List Bool:=z9Q (z0H (z4s v))++z2U (z4s v) (z3w (z0H (z4s v)))
def z4w:List Bool->Option (Nat×List Bool)
 | false::r=>some (0,r)
 | true::false::r=>some (1,r)
 | true::true::false::r=>some (2,r)
 | true::true::true::false::r=>some (3,r)
 | true::true::true::true::false::r=>some (4,r)
 | true::true::true::true::true::r=>some (5,r)
 | _=>none
def z8l(l:List Bool):Option (Int×List Bool):=match z4w l with
 | none=>none
 | some (k,r)=>match rdN (z3w k) r with
  | none=>none
  | some (n,r')=>if z0H n=k then some (z2s n,r')else none
theorem y4v{k:Nat}(h:k<=5)(r:List Bool):z4w (z9Q k++r)=some (k,r):=by
 match k,h with
 | 0,_=>rfl
 | 1,_=>rfl
 | 2,_=>rfl
 | 3,_=>rfl
 | 4,_=>rfl
 | 5,_=>rfl
theorem y5e{v:Int}(A: -9223372036854775808<=v)(B:v<=9223372036854775807)(r:List Bool):z8l (z9u v++r)=some (v,r):=by
 have h:=y1R A B;unfold z8l z9u;rw[List.append_assoc,y4v (z5q _)];simp only;rw[z4Q (y4i h)];simp only[if_true,y4G]
theorem y9g{k:Nat}{l r:List Bool}(h:z4w l=some (k,r)):r.length<l.length/\k<=5/\l=z9Q k++r:=by
 unfold z4w at h;split at h;all_goals first
  | (simp only[Option.some.injEq,Prod.mk.injEq]at h;obtain⟨rfl,rfl⟩:=h;refine⟨by simp;try omega,by omega,rfl⟩)
  | cases h
theorem y0G{v:Int}{l r:List Bool}(h:z8l l=some (v,r)):r.length<l.length/\l=z9u v++r/\ -9223372036854775808<=v/\v<=9223372036854775807:=by
 unfold z8l at h;split at h
 ·cases h
 ·rename_i k r1 O;split at h
  ·cases h
  ·rename_i n r2 R;split at h
   ·rename_i N;simp only[Option.some.injEq,Prod.mk.injEq]at h;obtain⟨rfl,rfl⟩:=h;obtain⟨U,B,I⟩:=y9g O;obtain⟨Y,J,L⟩:=z5N R;have A:n<2^64:=Nat.lt_of_lt_of_le J (Nat.pow_le_pow_right (by decide) (by
     match k,B with
     | 0,_=>decide
     | 1,_=>decide
     | 2,_=>decide
     | 3,_=>decide
     | 4,_=>decide
     | 5,_=>decide))
    refine⟨by omega,?_,?_⟩
    ·unfold z9u;rw[y5y,N,I,L,List.append_assoc]
    ·unfold z2s;split<;>omega
   ·cases h
structure z4Z where
 has:Bool
 prev:Nat
 lead:Nat
 width:Nat
deriving DecidableEq
def zeroV:z4Z:=⟨false,0,0,0⟩
def z1k(s:z4Z):Bool:=if s.has then decide (s.lead<=31/\s.lead+s.width<=64/\(0<s.width\/s.lead=0))else decide (s=zeroV)
def bl(d:Nat):Nat:=if d=0 then 0 else d.log2+1
def lz(d:Nat):Nat:=64 - bl d
def tz(d:Nat):Nat:=Go.Lib.ctz 64 d
theorem q5W(d:Nat):d<2^bl d:=by
 unfold bl;split
 ·omega
 ·exact Nat.lt_log2_self
theorem q4B{d:Nat}(h:d<2^64):bl d<=64:=by
 unfold bl;split
 ·omega
 ·rename_i A;have:=(Nat.log2_lt A).2 h;omega
theorem q1D{d:Nat}(h:d<2^64):d<2^(64 - lz d):=by
 have:=q4B h;rw[show 64 - lz d=bl d by unfold lz;omega];exact q5W d
theorem y8r{d:Nat}(h:d<2^64)(A:d≠0):∃m,d=2^tz d*(2*m+1)/\tz d<64:=by
 unfold tz Go.Lib.ctz;rw[if_neg A];exact Go.Lib.ctzFrom_spec 64 d (by omega) h
theorem q1r{d:Nat}(h:d<2^64)(A:d≠0):lz d+tz d<64:=by
 obtain⟨m,J,N⟩:=y8r h A;have B:=q1D h;have I:2^tz d<=d:=Nat.le_of_dvd (by omega) ⟨2*m+1,J⟩;have L:tz d<64 - lz d:=(Nat.pow_lt_pow_iff_right (by decide)).1 (Nat.lt_of_le_of_lt I B);omega
theorem y7A{d k:Nat}(h:d<2^64)(A:d≠0)(B:k<=tz d):d/2^k*2^k=d:=by
 obtain⟨m,I,_⟩:=y8r h A;refine Nat.div_mul_cancel (Nat.dvd_trans (Nat.pow_dvd_pow 2 B) ⟨2*m+1,I⟩)
def z5b(lead size d:Nat):Bool:=decide (0<size/\lead<=lz d/\64 - lead - size<=tz d)
def z3q(d:Nat):Nat:=min (lz d) 31
def z1S(d:Nat):Nat:=64 - z3q d - tz d
def z4S(s:z4Z)(v:Nat):List Bool×z4Z:=
 if s.has=false then(z2U v 64,⟨true,v,0,0⟩)
 else if v^^^s.prev=0 then([false],{s with prev:=v})
 else if z5b s.lead s.width (v^^^s.prev)then([true,false]++z2U ((v^^^s.prev)/2^(64 - s.lead - s.width)) s.width,{s with prev:=v})
 else([true,true]++z2U (z3q (v^^^s.prev)) 5++z2U (z1S (v^^^s.prev) - 1) 6++z2U ((v^^^s.prev)/2^tz (v^^^s.prev)) (z1S (v^^^s.prev)),⟨true,v,z3q (v^^^s.prev),z1S (v^^^s.prev)⟩)
def z3P(s:z4Z)(l:List Bool):Option (Nat×z4Z×List Bool):=
 if s.has=false then(rdN 64 l).map fun p=>(p.1,⟨true,p.1,0,0⟩,p.2)
 else match l with
  | false::r=>some (s.prev,s,r)
  | true::false::r=>match rdN s.width r with
   | none=>none
   | some (d,r')=>if d=0 then none else some (s.prev^^^(d*2^(64 - s.lead - s.width)),{s with prev:=s.prev^^^(d*2^(64 - s.lead - s.width))},r')
  | true::true::r=>match rdN 5 r with
   | none=>none
   | some (ld,r1)=>match rdN 6 r1 with
    | none=>none
    | some (z,r2)=>if 64<ld+(z+1)then none else match rdN (z+1) r2 with
     | none=>none
     | some (d,r3)=>
      if d=0\/z5b s.lead s.width (d*2^(64 - ld - (z+1)))=true\/ld≠z3q (d*2^(64 - ld - (z+1)))\/z+1≠z1S (d*2^(64 - ld - (z+1)))then none
      else some (s.prev^^^(d*2^(64 - ld - (z+1))),⟨true,s.prev^^^(d*2^(64 - ld - (z+1))),ld,z+1⟩,r3)
  | _=>none
theorem y1d{a b:Nat}(A:a<2^64)(hb:b<2^64):a^^^b<2^64:=Nat.xor_lt_two_pow A hb
theorem y0T{a b:Nat}:b^^^(a^^^b)=a:=by rw[Nat.xor_comm a b,<-Nat.xor_assoc,Nat.xor_self,Nat.zero_xor]
theorem z8t{d:Nat}(h:d<2^64)(A:d≠0):0<z1S d/\z3q d<=31/\z3q d+z1S d<=64/\64 - z3q d - z1S d=tz d:=by
 have B:=q1r h A;unfold z1S z3q;omega
theorem y9D{d:Nat}(h:d<2^64)(A:d≠0):d/2^tz d<2^z1S d:=by
 have I:=q1r h A;have B:=q1D h;rw[Nat.div_lt_iff_lt_mul (Nat.two_pow_pos _),<-Nat.pow_add];refine Nat.lt_of_lt_of_le B (Nat.pow_le_pow_right (by decide) ?_);unfold z1S z3q;omega
theorem y0J{d k:Nat}(h:d<2^64)(A:d≠0)(B:k<=tz d):d/2^k≠0:=fun e=>by
 have:=y7A h A B;rw[e]at this;omega
theorem y3a{s:z4Z}{v:Nat}(I:z1k s=true)(J:v<2^64)(L:s.prev<2^64)(r:List Bool):z3P s ((z4S s v).1++r)=some (v,(z4S s v).2,r):=by
 unfold z3P z4S;by_cases hh:s.has=false
 ·simp only[hh,if_true];rw[z4Q J];rfl
 ·rw[if_neg hh,if_neg hh];have A:=y1d J L;by_cases hd:v^^^s.prev=0
  ·rw[if_pos hd];have e:v=s.prev:=by
    have:= @y0T v s.prev;rw[hd,Nat.xor_zero]at this;exact this.symm
   subst e;rfl
  ·rw[if_neg hd];by_cases hb:z5b s.lead s.width (v^^^s.prev)=true
   ·rw[if_pos hb];have B:=of_decide_eq_true hb;have N:s.lead+s.width<=64:=by
     unfold z1k at I;rw[if_pos (by simpa using hh)]at I;exact(of_decide_eq_true I).2.1
    have O:(v^^^s.prev)/2^(64 - s.lead - s.width)<2^s.width:=by
     rw[Nat.div_lt_iff_lt_mul (Nat.two_pow_pos _),<-Nat.pow_add];exact Nat.lt_of_lt_of_le (q1D A) (Nat.pow_le_pow_right (by decide) (by omega))
    simp only[List.cons_append,List.nil_append];rw[z4Q O];simp only;rw[if_neg (y0J A hd B.2.2),y7A A hd B.2.2,y0T]
   ·rw[if_neg hb];obtain⟨U,Y,z3,R⟩:=z8t A hd;simp only[List.cons_append,List.nil_append,List.append_assoc];rw[z4Q (by omega)];simp only;rw[z4Q (by omega)];simp only;rw[show z1S (v^^^s.prev) - 1+1=z1S (v^^^s.prev) by omega,if_neg (by omega),z4Q (y9D A hd)];simp only;rw[R,y7A A hd (Nat.le_refl _),y0T,if_neg (by simp[y0J A hd (Nat.le_refl _),hb])]
theorem q1Q{s s':z4Z}{v:Nat}{l r:List Bool}(h:z3P s l=some (v,s',r))(O:s.prev<2^64)(B:z1k s=true):r.length<l.length/\v<2^64/\z1k s'=true/\s'.has=true/\s'.prev=v:=by
 unfold z3P at h;split at h
 ·rename_i A;simp only[Option.map_eq_some_iff]at h;obtain⟨⟨n,r1⟩,L,J⟩:=h;simp only[Prod.mk.injEq]at J;obtain⟨rfl,rfl,rfl⟩:=J;obtain⟨U,I,Y⟩:=z5N L;exact⟨by omega,I,by simp[z1k],rfl,rfl⟩
 ·rename_i A;have A:s.has=true:=by simpa using A
  have R:=B;unfold z1k at B;rw[if_pos A]at B;have B:=of_decide_eq_true B;split at h
  ·simp only[Option.some.injEq,Prod.mk.injEq]at h;obtain⟨rfl,rfl,rfl⟩:=h;exact⟨by simp,O,R,A,rfl⟩
  ·split at h
   ·cases h
   ·rename_i d r1 hd;split at h
    ·cases h
    ·simp only[Option.some.injEq,Prod.mk.injEq]at h;obtain⟨rfl,rfl,rfl⟩:=h;obtain⟨U,I,Y⟩:=z5N hd;have N:d*2^(64 - s.lead - s.width)<2^64:=by
      have:d*2^(64 - s.lead - s.width)<2^s.width*2^(64 - s.lead - s.width):=Nat.mul_lt_mul_of_pos_right I (Nat.two_pow_pos _);rw[<-Nat.pow_add]at this;exact Nat.lt_of_lt_of_le this (Nat.pow_le_pow_right (by decide) (by omega))
     refine⟨by simp;omega,y1d O N,?_,A,rfl⟩;unfold z1k;rw[if_pos A];exact decide_eq_true B
  ·split at h
   ·cases h
   ·rename_i ld r1 L;split at h
    ·cases h
    ·rename_i z r2 J;split at h
     ·cases h
     ·rename_i hz;split at h
      ·cases h
      ·rename_i d r3 h3;split at h
       ·cases h
       ·simp only[Option.some.injEq,Prod.mk.injEq]at h;obtain⟨rfl,rfl,rfl⟩:=h;obtain⟨U,I,Y⟩:=z5N L;obtain⟨b1,b2,b3⟩:=z5N J;obtain⟨c1,c2,c3⟩:=z5N h3;have N:d*2^(64 - ld - (z+1))<2^64:=by
         have:d*2^(64 - ld - (z+1))<2^(z+1)*2^(64 - ld - (z+1)):=Nat.mul_lt_mul_of_pos_right c2 (Nat.two_pow_pos _);rw[<-Nat.pow_add]at this;exact Nat.lt_of_lt_of_le this (Nat.pow_le_pow_right (by decide) (by omega))
        refine⟨by simp;omega,y1d O N,?_,rfl,rfl⟩;unfold z1k;simp only[if_true];exact decide_eq_true ⟨by omega,by omega,.inl (by omega)⟩
  ·cases h
def w64(n:Int):Int:=IntKind.i64.wrap n
theorem z2w(n:Int): -9223372036854775808<=w64 n/\w64 n<=9223372036854775807:=by unfold w64;rw[IntKind.wrap_i64];omega
theorem q2f(a b:Int)(A: -9223372036854775808<=a)(B:a<=9223372036854775807):w64 (w64 (a - b)+b)=a:=by unfold w64;rw[IntKind.wrap_i64,IntKind.wrap_i64];omega
theorem y9k(a b:Int)(A: -9223372036854775808<=a)(B:a<=9223372036854775807):w64 (b+w64 (a - b))=a:=by unfold w64;rw[IntKind.wrap_i64,IntKind.wrap_i64];omega
structure z1c where
 t:Int
 v:Nat
deriving DecidableEq
def z1c.Ok(s:z1c):Prop:= -9223372036854775808<=s.t/\s.t<=9223372036854775807/\s.v<18446744073709551616
structure z1M where
 n:Nat
 last:Int
 delta:Int
 val:z4Z
deriving DecidableEq
def z0h:z1M:=⟨0,0,0,zeroV⟩
structure z1M.Ok (e:z1M):Prop where
 zero:e.n=0->e=z0h
 has:0<e.n->e.val.has=true
 val:z1k e.val=true
 prev:e.val.prev<18446744073709551616
 last: -9223372036854775808<=e.last/\e.last<=9223372036854775807
 delta: -9223372036854775808<=e.delta/\e.delta<=9223372036854775807
theorem z4R:z0h.Ok:=⟨fun _=>rfl,fun h=>by simp[z0h]at h,by simp[z0h,z1k,zeroV],by simp[z0h,zeroV],by simp[z0h],by simp[z0h]⟩
def y3X(t:Int):Nat:=(t%18446744073709551616).toNat
theorem y7Y(t:Int):y3X t<2^64:=by unfold y3X;omega
theorem y8P{t:Int}(A: -9223372036854775808<=t)(B:t<=9223372036854775807):w64 ((y3X t:Nat):Int)=t:=by unfold y3X w64;rw[IntKind.wrap_i64];omega
def z3a(e:z1M)(s:z1c):List Bool×z1M:=
 if e.n=0 then(z2U (y3X s.t) 64++(z4S e.val s.v).1,⟨1,s.t,e.delta,(z4S e.val s.v).2⟩)
 else(z9u (w64 (w64 (s.t - e.last) - e.delta))++(z4S e.val s.v).1,⟨e.n+1,s.t,w64 (s.t - e.last),(z4S e.val s.v).2⟩)
def z5W(e:z1M)(l:List Bool):Option (Int×Int×List Bool):=
 if e.n=0 then(rdN 64 l).map fun p=>(w64 (p.1:Int),0,p.2)
 else match z8l l with
  | none=>none
  | some (d,r)=>if e.last<w64 (e.last+w64 (d+e.delta))then some (w64 (e.last+w64 (d+e.delta)),w64 (d+e.delta),r)else none
def z1n(e:z1M)(l:List Bool):Option (z1c×z1M×List Bool):=match z5W e l with
 | none=>none
 | some (t,delta,r)=>match z3P e.val r with
  | none=>none
  | some (v,k,r')=>some (⟨t,v⟩,⟨e.n+1,t,delta,k⟩,r')
theorem y6L{e:z1M}{s:z1c}(B:e.Ok)(A:s.Ok)(I:0<e.n->e.last<s.t)(r:List Bool):z1n e ((z3a e s).1++r)=some (s,(z3a e s).2,r):=by
 unfold z1n z5W z3a;by_cases h0:e.n=0
 ·rw[if_pos h0,if_pos h0];simp only[List.append_assoc];rw[z4Q (y7Y _)];simp only[Option.map_some];rw[y3a B.val A.2.2 B.prev,y8P A.1 A.2.1];simp only[h0];have:=B.zero h0;rw[this];rfl
 ·rw[if_neg h0,if_neg h0];simp only[List.append_assoc];rw[y5e (z2w _).1 (z2w _).2];simp only;rw[q2f _ _ (z2w _).1 (z2w _).2,y9k _ _ A.1 A.2.1,if_pos (I (by omega))];simp only;rw[y3a B.val A.2.2 B.prev]
theorem z1N{e I:z1M}{s:z1c}{l r:List Bool}(U:e.Ok)(h:z1n e l=some (s,I,r)):r.length<l.length/\s.Ok/\I.Ok/\I.n=e.n+1/\I.last=s.t/\(0<e.n->e.last<s.t):=by
 unfold z1n z5W at h;split at h
 ·cases h
 ·rename_i t delta r1 A;split at h
  ·cases h
  ·rename_i v k r2 h2;simp only[Option.some.injEq,Prod.mk.injEq]at h;obtain⟨rfl,rfl,rfl⟩:=h;obtain⟨a1,B,L,N,O⟩:=q1Q h2 U.prev U.val;split at A
   ·rename_i h0;simp only[Option.map_eq_some_iff]at A;obtain⟨⟨n,r3⟩,J,R⟩:=A;simp only[Prod.mk.injEq]at R;obtain⟨rfl,rfl,rfl⟩:=R;obtain⟨Y,b2,b3⟩:=z5N J;exact⟨by omega,⟨(z2w _).1,(z2w _).2,B⟩,⟨fun h=>by simp at h,fun _=>N,L,by simp only;rw[O];exact B,z2w _,by simp⟩,rfl,rfl,fun h=>by omega⟩
   ·rename_i h0;split at A
    ·cases A
    ·rename_i d r3 J;split at A
     ·rename_i ht;simp only[Option.some.injEq,Prod.mk.injEq]at A;obtain⟨rfl,rfl,rfl⟩:=A;have Y:=(y0G J).1;exact⟨by omega,⟨(z2w _).1,(z2w _).2,B⟩,⟨fun h=>by simp at h,fun _=>N,L,by simp only;rw[O];exact B,z2w _,z2w _⟩,rfl,rfl,fun _=>ht⟩
     ·cases A
theorem y8a{x n:Nat}(h:x<2^n):x^^^(2^n - 1)=2^n - (x+1):=by
 apply Nat.eq_of_testBit_eq;intro i;rw[Nat.testBit_xor,Nat.testBit_two_pow_sub_one,Nat.testBit_two_pow_sub_succ h];by_cases hi:i<n
 ·simp[hi]
 ·have:x.testBit i=false:=Nat.testBit_lt_two_pow (Nat.lt_of_lt_of_le h (Nat.pow_le_pow_right (by decide) (by omega)));simp[hi,this]
theorem q4n(v:Int)(J: -9223372036854775808<=v)(L:v<=9223372036854775807)(w:World):
  Calls prog 125 #[.int .i64 v] w fun e w'=>e= .returned (.int .u64 (z4s v:Nat))/\w=w':=by
 have key:bits .xor .u64 (IntKind.u64.wrap (IntKind.u64.wrap v*2)) (IntKind.u64.wrap (v/9223372036854775808))=((z4s v:Nat):Int):=by
  by_cases hv:0<=v
  ·have I:IntKind.u64.wrap (IntKind.u64.wrap v*2)=((z4s v:Nat):Int):=(by rw[IntKind.wrap_u64,IntKind.wrap_u64];unfold z4s;rw[if_pos hv];omega);have B:IntKind.u64.wrap (v/9223372036854775808)=((0:Nat):Int):=(by rw[IntKind.wrap_u64];omega);rw[I,B,u64_xor_nat _ _ (y1R J L) (by decide),Nat.xor_zero]
  ·obtain⟨x,A⟩:∃x:Nat,IntKind.u64.wrap (IntKind.u64.wrap v*2)=(x:Int)/\x<18446744073709551616/\18446744073709551616 - (x+1)=z4s v:=by
    refine⟨(18446744073709551616+2*v).toNat,?_,by omega,?_⟩
    ·rw[IntKind.wrap_u64,IntKind.wrap_u64];omega
    ·unfold z4s;rw[if_neg hv];omega
   have B:IntKind.u64.wrap (v/9223372036854775808)=((18446744073709551615:Nat):Int):=(by rw[IntKind.wrap_u64];omega);rw[A.1,B,u64_xor_nat _ _ A.2.1 (by decide)];have:=y8a (n:=64) (x:=x) A.2.1;rw[show(18446744073709551615:Nat)=2^64 - 1 from rfl,this];rw[show(2:Nat)^64=18446744073709551616 from rfl,A.2.2]
 go_enter func125,ntmps125;go_wp2;go_ret;exact⟨rfl,rfl⟩
theorem q2F(n:Int):Go.RowKit.wrap64 n=IntKind.i64.wrap n:=by unfold Go.RowKit.wrap64;exact(IntKind.wrap_i64 n).symm
theorem y5H(a:Nat)(A:a<9223372036854775808):bits .xor .i64 (a:Int) (-1)= -(a:Int) - 1:=by
 show IntKind.i64.wrap ((BitVec.ofInt 64 (a:Int)^^^BitVec.ofInt 64 (-1)).toNat:Int)=_;rw[BitVec.toNat_xor,ofInt_u64 a (by omega),show(BitVec.ofInt 64 (-1)).toNat=2^64 - 1 from by decide,y8a (n:=64) (show a<2^64 by omega),IntKind.wrap_i64];omega
theorem y3Z(a:Nat)(A:a<9223372036854775808):bits .xor .i64 (a:Int) 0=(a:Int):=by
 show IntKind.i64.wrap ((BitVec.ofInt 64 (a:Int)^^^BitVec.ofInt 64 0).toNat:Int)=_;rw[BitVec.toNat_xor,ofInt_u64 a (by omega),show(BitVec.ofInt 64 0).toNat=0 from by decide,Nat.xor_zero,IntKind.wrap_i64];omega
theorem z5r(n:Nat)(h:n<18446744073709551616)(w:World):
  Calls prog 193 #[.int .u64 n] w fun e w'=>e= .returned (.int .i64 (z2s n))/\w=w':=by
 have I:bits .and .u64 (n:Int) 1=((n%2:Nat):Int):=by
  have:=u64_and_nat n 1 h (by decide);rw[Nat.and_one_is_mod]at this;exact this
 have J:((n:Int)/2)=((n/2:Nat):Int):=by omega
 have B:n/2<9223372036854775808:=by omega
 have key:bits .xor .i64 ((n:Int)/2) (IntKind.i64.wrap (-IntKind.i64.wrap (bits .and .u64 (n:Int) 1)))=z2s n:=by
  rw[I,J];unfold z2s;by_cases h2:n%2=0
  ·rw[if_pos h2,h2,show IntKind.i64.wrap (-IntKind.i64.wrap ((0:Nat):Int))=0 from by rw[IntKind.wrap_i64,IntKind.wrap_i64];rfl];exact y3Z _ B
  ·rw[if_neg h2,show n%2=1 by omega,show IntKind.i64.wrap (-IntKind.i64.wrap ((1:Nat):Int))= -1 from by rw[IntKind.wrap_i64,IntKind.wrap_i64];rfl];exact y5H _ B
 clear I J B;have A:Hid (bits .xor .i64 ((n:Int)/2) (Go.RowKit.wrap64 (-Go.RowKit.wrap64 (bits .and .u64 (n:Int) 1)))=z2s n):=z7 (by rw[q2F,q2F];exact key);clear key;go_enter func193,ntmps193;go_wp2;go_ret;exact⟨congrArg Ending.returned (congrArg (Value.int .i64) A.o),rfl⟩
def z6r:Value:= .agg #[.int .u64 0,.int .i64 1,.int .i64 0,.int .u64 2,.int .i64 2,.int .i64 7,.int .u64 6,.int .i64 3,.int .i64 9,.int .u64 14,.int .i64 4,.int .i64 12,.int .u64 30,.int .i64 5,.int .i64 32,.int .u64 31,.int .i64 5,.int .i64 64]
def z4h:Array Value:= #[.int .u64 0,.int .i64 1,.int .i64 0,.int .u64 2,.int .i64 2,.int .i64 7,.int .u64 6,.int .i64 3,.int .i64 9,.int .u64 14,.int .i64 4,.int .i64 12,.int .u64 30,.int .i64 5,.int .i64 32,.int .u64 31,.int .i64 5,.int .i64 64]
theorem y4E(tmps:Array Value)(w:World)(B:tmps.getD 0 undef= .pointer (some ⟨w.heap.size,0,none⟩)):
  (results Tryz.f155 tmps).run prog (w.alloc (.cells z4h 282))= .ok z6r (w.alloc (.cells z4h 282)):=by
 have I:=j8 w (.cells z4h 282);have A:∀j u,z4h[j]? =some u->(w.alloc (.cells z4h 282)).cell? ⟨w.heap.size,j,none⟩=some u:=fun j u J=>by rw[cell_of_row _ w.heap.size j _ _ (0,0) I];exact J
 simp only[Array.getD_eq_getD_getElem?]at B;simp[results,Tryz.results155,go_sem,B,z6r,A 0 _ rfl,A 1 _ rfl,A 2 _ rfl,A 3 _ rfl,A 4 _ rfl,A 5 _ rfl,A 6 _ rfl,A 7 _ rfl,A 8 _ rfl,A 9 _ rfl,A 10 _ rfl,A 11 _ rfl,A 12 _ rfl,A 13 _ rfl,A 14 _ rfl,A 15 _ rfl,A 16 _ rfl,A 17 _ rfl];simp[z4h]
theorem z6B(w:World):Calls prog 155 #[] w fun e w'=>e= .returned z6r/\Below w.heap.size w w':=by
 go_enter func155,ntmps155;go_wp2;refine bodyPost_ret (v:=z6r) (y4E _ w (by rfl)) rfl ?_;exact⟨rfl,q5 _ _⟩
theorem z7I{fn:Func}{t0 t1:Tmp}(h:fn.results= #[.tmp t0,.cell t1 243])(tmps:Array Value)(w:World)(R:Nat)(A B I:Value)(Y:tmps.getD t1 undef= .pointer (some ⟨R,0,none⟩))(J:w.heap[R]? =some (.cells #[A,B,I] 243 (0,0)))(U:([A,B,I].all Value.oneCell')=true):
  (results fn tmps).run prog w= .ok (.tuple #[tmps.getD t0 undef,.agg #[A,B,I]]) w:=by
 simp only[List.all_cons,List.all_nil,Bool.and_true,Bool.and_eq_true]at U;have L:w.cell? ⟨R,0,none⟩=some A:=by simp[World.cell?,J]
 have N:w.cell? ⟨R,1,none⟩=some B:=by simp[World.cell?,J]
 have O:w.cell? ⟨R,2,none⟩=some I:=by simp[World.cell?,J]
 simp only[Array.getD_eq_getD_getElem?]at Y;simp[results,h,go_sem,L,N,O,Y]
theorem y4S{fn:Func}{U:Tmp}(h:fn.results= #[.cell U 285])(tmps:Array Value)(w:World)(N:Nat)(A B:Value)(R:tmps.getD U undef= .pointer (some ⟨N,0,none⟩))(L:w.heap[N]? =some (.cells #[A,B] 285 (0,0)))(O:([A,B].all Value.oneCell')=true):
  (results fn tmps).run prog w= .ok (.agg #[A,B]) w:=by
 simp only[List.all_cons,List.all_nil,Bool.and_true,Bool.and_eq_true]at O;have I:w.cell? ⟨N,0,none⟩=some A:=by simp[World.cell?,L]
 have J:w.cell? ⟨N,1,none⟩=some B:=by simp[World.cell?,L]
 simp only[Array.getD_eq_getD_getElem?]at R;simp[results,h,go_sem,I,J,R]
theorem z8Y{fn:Func}{t0 t1:Tmp}(h:fn.results= #[.tmp t0,.cell t1 96])(tmps:Array Value)(w:World)(N:Nat)(A B I J:Value)(h1:tmps.getD t1 undef= .pointer (some ⟨N,0,none⟩))(L:w.heap[N]? =some (.cells #[A,B,I,J] 96 (0,0)))(a0:([A,B,I,J].all Value.oneCell')=true):
  (results fn tmps).run prog w= .ok (.tuple #[tmps.getD t0 undef,.agg #[A,B,I,J]]) w:=by
 simp only[List.all_cons,List.all_nil,Bool.and_true,Bool.and_eq_true]at a0;have O:w.cell? ⟨N,0,none⟩=some A:=by simp[World.cell?,L]
 have R:w.cell? ⟨N,1,none⟩=some B:=by simp[World.cell?,L]
 have U:w.cell? ⟨N,2,none⟩=some I:=by simp[World.cell?,L]
 have Y:w.cell? ⟨N,3,none⟩=some J:=by simp[World.cell?,L]
 simp only[Array.getD_eq_getD_getElem?]at h1;simp[results,h,go_sem,O,R,U,Y,h1]
theorem q2L{fn:Func}{t0 t1 t2:Tmp}(h:fn.results= #[.cell t0 49,.cell t1 96,.tmp t2])(tmps:Array Value)(w:World)(r0:Nat)(A B:Value)(h0:tmps.getD t0 undef= .pointer (some ⟨r0,0,none⟩))(a4:w.heap[r0]? =some (.cells #[A,B] 49 (0,0)))(a5:([A,B].all Value.oneCell')=true)(R:Nat)(I J L N:Value)(h1:tmps.getD t1 undef= .pointer (some ⟨R,0,none⟩))(O:w.heap[R]? =some (.cells #[I,J,L,N] 96 (0,0)))(a6:([I,J,L,N].all Value.oneCell')=true):
  (results fn tmps).run prog w= .ok (.tuple #[.agg #[A,B],.agg #[I,J,L,N],tmps.getD t2 undef]) w:=by
 simp only[List.all_cons,List.all_nil,Bool.and_true,Bool.and_eq_true]at a5;have U:w.cell? ⟨r0,0,none⟩=some A:=by simp[World.cell?,a4]
 have Y:w.cell? ⟨r0,1,none⟩=some B:=by simp[World.cell?,a4]
 simp only[Array.getD_eq_getD_getElem?]at h0;simp only[List.all_cons,List.all_nil,Bool.and_true,Bool.and_eq_true]at a6;have a0:w.cell? ⟨R,0,none⟩=some I:=by simp[World.cell?,O]
 have a1:w.cell? ⟨R,1,none⟩=some J:=by simp[World.cell?,O]
 have a2:w.cell? ⟨R,2,none⟩=some L:=by simp[World.cell?,O]
 have a3:w.cell? ⟨R,3,none⟩=some N:=by simp[World.cell?,O]
 simp only[Array.getD_eq_getD_getElem?]at h1;simp[results,h,go_sem,U,Y,h0,a0,a1,a2,a3,h1]
theorem z6o{fn:Func}{U Y t2:Tmp}(h:fn.results= #[.tmp U,.cell Y 285,.tmp t2])(tmps:Array Value)(w:World)(N:Nat)(A B:Value)(R:tmps.getD Y undef= .pointer (some ⟨N,0,none⟩))(L:w.heap[N]? =some (.cells #[A,B] 285 (0,0)))(O:([A,B].all Value.oneCell')=true):
  (results fn tmps).run prog w= .ok (.tuple #[tmps.getD U undef,.agg #[A,B],tmps.getD t2 undef]) w:=by
 simp only[List.all_cons,List.all_nil,Bool.and_true,Bool.and_eq_true]at O;have I:w.cell? ⟨N,0,none⟩=some A:=by simp[World.cell?,L]
 have J:w.cell? ⟨N,1,none⟩=some B:=by simp[World.cell?,L]
 simp only[Array.getD_eq_getD_getElem?]at R;simp[results,h,go_sem,I,J,R]
theorem z2A{fn:Func}{t0 t1 t2 t3:Tmp}(h:fn.results= #[.tmp t0,.tmp t1,.cell t2 96,.tmp t3])(tmps:Array Value)(w:World)(N:Nat)(A B I J:Value)(h2:tmps.getD t2 undef= .pointer (some ⟨N,0,none⟩))(L:w.heap[N]? =some (.cells #[A,B,I,J] 96 (0,0)))(a0:([A,B,I,J].all Value.oneCell')=true):
  (results fn tmps).run prog w= .ok (.tuple #[tmps.getD t0 undef,tmps.getD t1 undef,.agg #[A,B,I,J],tmps.getD t3 undef]) w:=by
 simp only[List.all_cons,List.all_nil,Bool.and_true,Bool.and_eq_true]at a0;have O:w.cell? ⟨N,0,none⟩=some A:=by simp[World.cell?,L]
 have R:w.cell? ⟨N,1,none⟩=some B:=by simp[World.cell?,L]
 have U:w.cell? ⟨N,2,none⟩=some I:=by simp[World.cell?,L]
 have Y:w.cell? ⟨N,3,none⟩=some J:=by simp[World.cell?,L]
 simp only[Array.getD_eq_getD_getElem?]at h2;simp[results,h,go_sem,O,R,U,Y,h2]
theorem y5v{fn:Func}{t0 t1 t2:Tmp}(h:fn.results= #[.cell t0 49,.cell t1 98,.tmp t2])(tmps:Array Value)(w:World)(r0:Nat)(B I:Value)(h0:tmps.getD t0 undef= .pointer (some ⟨r0,0,none⟩))(a9:w.heap[r0]? =some (.cells #[B,I] 49 (0,0)))(aA:([B,I].all Value.oneCell')=true)(r1:Nat)(J L N O R U Y:Value)(h1:tmps.getD t1 undef= .pointer (some ⟨r1,0,none⟩))(A:w.heap[r1]? =some (.cells #[J,L,N,O,R,U,Y] 98 (0,0)))(aB:([J,L,N,O,R,U,Y].all Value.oneCell')=true):
  (results fn tmps).run prog w= .ok (.tuple #[.agg #[B,I],.agg #[J,L,N,O,R,U,Y],tmps.getD t2 undef]) w:=by
 simp only[List.all_cons,List.all_nil,Bool.and_true,Bool.and_eq_true]at aA;have a0:w.cell? ⟨r0,0,none⟩=some B:=by simp[World.cell?,a9]
 have a1:w.cell? ⟨r0,1,none⟩=some I:=by simp[World.cell?,a9]
 simp only[Array.getD_eq_getD_getElem?]at h0;simp only[List.all_cons,List.all_nil,Bool.and_true,Bool.and_eq_true]at aB;have a2:w.cell? ⟨r1,0,none⟩=some J:=by simp[World.cell?,A]
 have a3:w.cell? ⟨r1,1,none⟩=some L:=by simp[World.cell?,A]
 have a4:w.cell? ⟨r1,2,none⟩=some N:=by simp[World.cell?,A]
 have a5:w.cell? ⟨r1,3,none⟩=some O:=by simp[World.cell?,A]
 have a6:w.cell? ⟨r1,4,none⟩=some R:=by simp[World.cell?,A]
 have a7:w.cell? ⟨r1,5,none⟩=some U:=by simp[World.cell?,A]
 have a8:w.cell? ⟨r1,6,none⟩=some Y:=by simp[World.cell?,A]
 simp only[Array.getD_eq_getD_getElem?]at h1;simp[results,h,go_sem,a0,a1,h0,a2,a3,a4,a5,a6,a7,a8,h1]
theorem y1N{fn:Func}{t0 t1 t2 t3:Tmp}(h:fn.results= #[.cell t0 71,.tmp t1,.cell t2 98,.tmp t3])(tmps:Array Value)(w:World)(r0:Nat)(B I:Value)(h0:tmps.getD t0 undef= .pointer (some ⟨r0,0,none⟩))(a9:w.heap[r0]? =some (.cells #[B,I] 71 (0,0)))(aA:([B,I].all Value.oneCell')=true)(r2:Nat)(J L N O R U Y:Value)(h2:tmps.getD t2 undef= .pointer (some ⟨r2,0,none⟩))(A:w.heap[r2]? =some (.cells #[J,L,N,O,R,U,Y] 98 (0,0)))(aB:([J,L,N,O,R,U,Y].all Value.oneCell')=true):
  (results fn tmps).run prog w= .ok (.tuple #[.agg #[B,I],tmps.getD t1 undef,.agg #[J,L,N,O,R,U,Y],tmps.getD t3 undef]) w:=by
 simp only[List.all_cons,List.all_nil,Bool.and_true,Bool.and_eq_true]at aA;have a0:w.cell? ⟨r0,0,none⟩=some B:=by simp[World.cell?,a9]
 have a1:w.cell? ⟨r0,1,none⟩=some I:=by simp[World.cell?,a9]
 simp only[Array.getD_eq_getD_getElem?]at h0;simp only[List.all_cons,List.all_nil,Bool.and_true,Bool.and_eq_true]at aB;have a2:w.cell? ⟨r2,0,none⟩=some J:=by simp[World.cell?,A]
 have a3:w.cell? ⟨r2,1,none⟩=some L:=by simp[World.cell?,A]
 have a4:w.cell? ⟨r2,2,none⟩=some N:=by simp[World.cell?,A]
 have a5:w.cell? ⟨r2,3,none⟩=some O:=by simp[World.cell?,A]
 have a6:w.cell? ⟨r2,4,none⟩=some R:=by simp[World.cell?,A]
 have a7:w.cell? ⟨r2,5,none⟩=some U:=by simp[World.cell?,A]
 have a8:w.cell? ⟨r2,6,none⟩=some Y:=by simp[World.cell?,A]
 simp only[Array.getD_eq_getD_getElem?]at h2;simp[results,h,go_sem,a0,a1,h0,a2,a3,a4,a5,a6,a7,a8,h2]
theorem y4F{fn:Func}{t0 t1 t2:Tmp}(h:fn.results= #[.tmp t0,.cell t1 98,.tmp t2])(tmps:Array Value)(w:World)(U:Nat)(B I J L N O R:Value)(h1:tmps.getD t1 undef= .pointer (some ⟨U,0,none⟩))(A:w.heap[U]? =some (.cells #[B,I,J,L,N,O,R] 98 (0,0)))(a6:([B,I,J,L,N,O,R].all Value.oneCell')=true):
  (results fn tmps).run prog w= .ok (.tuple #[tmps.getD t0 undef,.agg #[B,I,J,L,N,O,R],tmps.getD t2 undef]) w:=by
 simp only[List.all_cons,List.all_nil,Bool.and_true,Bool.and_eq_true]at a6;have Y:w.cell? ⟨U,0,none⟩=some B:=by simp[World.cell?,A]
 have a0:w.cell? ⟨U,1,none⟩=some I:=by simp[World.cell?,A]
 have a1:w.cell? ⟨U,2,none⟩=some J:=by simp[World.cell?,A]
 have a2:w.cell? ⟨U,3,none⟩=some L:=by simp[World.cell?,A]
 have a3:w.cell? ⟨U,4,none⟩=some N:=by simp[World.cell?,A]
 have a4:w.cell? ⟨U,5,none⟩=some O:=by simp[World.cell?,A]
 have a5:w.cell? ⟨U,6,none⟩=some R:=by simp[World.cell?,A]
 simp only[Array.getD_eq_getD_getElem?]at h1;simp[results,h,go_sem,Y,a0,a1,a2,a3,a4,a5,h1]
def y2t(n:Nat)(w:World)(e:Ending)(w':World):Prop:=
 Below w.heap.size w w'/\∃x y z,e= .returned (.tuple #[.int .i64 (z0H n:Nat),.agg #[x,y,z]])/\z4h[z0H n*3]? =some x/\z4h[z0H n*3+1]? =some y/\z4h[z0H n*3+2]? =some z
theorem z5p{n k:Nat}{w W:World}(J:z0H n=k)(hb:Below w.heap.size w W){x y z:Value}(A:z4h[k*3]? =some x)(B:z4h[k*3+1]? =some y)(I:z4h[k*3+2]? =some z):
  y2t n w (.returned (.tuple #[.int .i64 k,.agg #[x,y,z]])) (((W.setCell ⟨w.heap.size,0,none⟩ x).setCell ⟨w.heap.size,1,none⟩ y).setCell ⟨w.heap.size,2,none⟩ z).drew:=by
 subst J;exact⟨((((hb.setCell (Nat.le_refl _) _).setCell (Nat.le_refl _) _).setCell (Nat.le_refl _) _).drew),x,y,z,rfl,A,B,I⟩
theorem z3W{W:World}{r:Nat}(A:W.heap[r]? =some (.cells #[.int .u64 0,.int .i64 0,.int .i64 0] 243 (0,0)))(x y z:Value):
  (((W.setCell ⟨r,0,none⟩ x).setCell ⟨r,1,none⟩ y).setCell ⟨r,2,none⟩ z).drew.heap[r]? =some (.cells #[x,y,z] 243 (0,0)):=by
 have:=z0a (z0a (z0a A 0 x) 1 y) 2 z;simpa[World.drew]using this
theorem q1P(n:Nat)(h:n<18446744073709551616)(w:World):
  Calls prog 126 #[.int .u64 n] w (y2t n w):=by
 go_enter func126,ntmps126;go_wp2
 go_step3
 go_wp2_with fail;refine(z6B _).mono ?_;rintro e B ⟨rfl,U⟩;unfold z6r;go_wp2
 go_step3
 go_wp2;have a2:Hid (B.heap[w.heap.size]? =some (.cells #[.int .u64 0,.int .i64 0,.int .i64 0] 243 (0,0))):=z7 ((U.block _ (by simp)).trans (j8 _ _));have a1:Hid (Below w.heap.size w B):=z7 ((q5 _ _).trans (U.mono (q5 w _).size));have a3:w.heap.size<B.heap.size:=(Array.getElem?_eq_some_iff.1 a2.o).1;obtain⟨W,hW⟩:=zN (B.alloc (.cells z4h 282));have hg:=j8 B (.cells z4h 282);rw[<-hW]at hg;have J:Hid (∀j u,z4h[j]? =some u->W.cell? ⟨B.heap.size,j,none⟩=some u):=z7 fun j u hu=>by rw[cell_of_row _ B.heap.size j _ _ (0,0) hg];exact hu
 have Y:Below B.heap.size B W:=by rw[hW];exact q5 _ _
 have L:Hid (W.heap[w.heap.size]? =some (.cells #[.int .u64 0,.int .i64 0,.int .i64 0] 243 (0,0))):=z7 ((Y.block _ a3).trans a2.o);have N:Hid (Below w.heap.size w W):=z7 (a1.o.trans (Y.mono a1.o.size));clear Y U a3;unfold z4h at hW;rw[<-hW];have HW:=z7 hW;clear hW hg;have hz:Hid (W.cell? ⟨w.heap.size,0,none⟩=some (.int .u64 0)/\W.cell? ⟨w.heap.size,1,none⟩=some (.int .i64 0)/\W.cell? ⟨w.heap.size,2,none⟩=some (.int .i64 0)/\W.frozen? ⟨w.heap.size,0,none⟩=false/\W.frozen? ⟨w.heap.size,1,none⟩=false/\W.frozen? ⟨w.heap.size,2,none⟩=false):=z7 (by have:=L.o;refine⟨?_,?_,?_,?_,?_,?_⟩<;>simp[World.cell?,World.frozen?,this]);obtain⟨rv,a0⟩:=zN z6r;unfold z6r at a0;rw[<-a0];clear a0;go_loopw[5] (fun kv wr=>∃k:Nat,kv= .int .i64 k/\k<=z0H n/\wr=W) (fun kv _=>match kv with | .int _ x=>5 - x.toNat|_=>0)
 case atStart=>exact⟨0,rfl,by omega,rfl⟩
 case round=>
  obtain⟨k,rfl,I,rfl⟩:=hrel;have a4:k<6:=by have:=z5q n;omega
  have a5:k=0\/k=1\/k=2\/k=3\/k=4\/k=5:=by omega
  clear a4;obtain rfl|rfl|rfl|rfl|rfl|rfl:=a5
  ·skip
   have y0:wr.cell? ⟨B.heap.size,0,none⟩=some (.int .u64 0):=J.o 0 _ rfl;have y1:wr.cell? ⟨B.heap.size,1,none⟩=some (.int .i64 1):=J.o 1 _ rfl;have y2:wr.cell? ⟨B.heap.size,2,none⟩=some (.int .i64 0):=J.o 2 _ rfl;by_cases hn:n<1
   ·obtain rfl:n=0:=by omega
    have A:z0H 0=0:=rfl;have O:=z7 A;clear A I h;obtain⟨z0,z1,z2,f0,f1,f2⟩:=hz.o;go_wp2;go_region
    all_goals
     go_wp2;refine bodyPost_ret (z7I rfl _ _ w.heap.size _ _ _ rfl (z3W L.o _ _ _) rfl) rfl ?_;exact z5p O.o N.o rfl rfl rfl
   ·have R:((n:Int)==0)=false:=(by simp;omega);have A:1<=z0H n:=(by revert I;unfold z0H;(repeat' split)<;>omega);clear I hn h;go_wp2;exact⟨⟨1,rfl,A,trivial⟩,by show 5 - (1:Int).toNat<5 - ((0:Nat):Int).toNat;decide⟩
  ·skip
   have y0:wr.cell? ⟨B.heap.size,3,none⟩=some (.int .u64 2):=J.o 3 _ rfl;have y1:wr.cell? ⟨B.heap.size,4,none⟩=some (.int .i64 2):=J.o 4 _ rfl;have y2:wr.cell? ⟨B.heap.size,5,none⟩=some (.int .i64 7):=J.o 5 _ rfl;by_cases hn:n<128
   ·have R:(n:Int)/128=0:=(by omega);have A:z0H n=1:=(by revert I;unfold z0H;(repeat' split)<;>omega);have O:=z7 A;clear A I h;obtain⟨z0,z1,z2,f0,f1,f2⟩:=hz.o;go_wp2;go_region
    all_goals
     go_wp2;refine bodyPost_ret (z7I rfl _ _ w.heap.size _ _ _ rfl (z3W L.o _ _ _) rfl) rfl ?_;exact z5p O.o N.o rfl rfl rfl
   ·have R:((n:Int)/128==0)=false:=(by simp;omega);have A:2<=z0H n:=(by revert I;unfold z0H;(repeat' split)<;>omega);clear I hn h;go_wp2;exact⟨⟨2,rfl,A,trivial⟩,by show 5 - (2:Int).toNat<5 - ((1:Nat):Int).toNat;decide⟩
  ·skip
   have y0:wr.cell? ⟨B.heap.size,6,none⟩=some (.int .u64 6):=J.o 6 _ rfl;have y1:wr.cell? ⟨B.heap.size,7,none⟩=some (.int .i64 3):=J.o 7 _ rfl;have y2:wr.cell? ⟨B.heap.size,8,none⟩=some (.int .i64 9):=J.o 8 _ rfl;by_cases hn:n<512
   ·have R:(n:Int)/512=0:=(by omega);have A:z0H n=2:=(by revert I;unfold z0H;(repeat' split)<;>omega);have O:=z7 A;clear A I h;obtain⟨z0,z1,z2,f0,f1,f2⟩:=hz.o;go_wp2;go_region
    all_goals
     go_wp2;refine bodyPost_ret (z7I rfl _ _ w.heap.size _ _ _ rfl (z3W L.o _ _ _) rfl) rfl ?_;exact z5p O.o N.o rfl rfl rfl
   ·have R:((n:Int)/512==0)=false:=(by simp;omega);have A:3<=z0H n:=(by revert I;unfold z0H;(repeat' split)<;>omega);clear I hn h;go_wp2;exact⟨⟨3,rfl,A,trivial⟩,by show 5 - (3:Int).toNat<5 - ((2:Nat):Int).toNat;decide⟩
  ·skip
   have y0:wr.cell? ⟨B.heap.size,9,none⟩=some (.int .u64 14):=J.o 9 _ rfl;have y1:wr.cell? ⟨B.heap.size,10,none⟩=some (.int .i64 4):=J.o 10 _ rfl;have y2:wr.cell? ⟨B.heap.size,11,none⟩=some (.int .i64 12):=J.o 11 _ rfl;by_cases hn:n<4096
   ·have R:(n:Int)/4096=0:=(by omega);have A:z0H n=3:=(by revert I;unfold z0H;(repeat' split)<;>omega);have O:=z7 A;clear A I h;obtain⟨z0,z1,z2,f0,f1,f2⟩:=hz.o;go_wp2;go_region
    all_goals
     go_wp2;refine bodyPost_ret (z7I rfl _ _ w.heap.size _ _ _ rfl (z3W L.o _ _ _) rfl) rfl ?_;exact z5p O.o N.o rfl rfl rfl
   ·have R:((n:Int)/4096==0)=false:=(by simp;omega);have A:4<=z0H n:=(by revert I;unfold z0H;(repeat' split)<;>omega);clear I hn h;go_wp2;exact⟨⟨4,rfl,A,trivial⟩,by show 5 - (4:Int).toNat<5 - ((3:Nat):Int).toNat;decide⟩
  ·skip
   have y0:wr.cell? ⟨B.heap.size,12,none⟩=some (.int .u64 30):=J.o 12 _ rfl;have y1:wr.cell? ⟨B.heap.size,13,none⟩=some (.int .i64 5):=J.o 13 _ rfl;have y2:wr.cell? ⟨B.heap.size,14,none⟩=some (.int .i64 32):=J.o 14 _ rfl;by_cases hn:n<4294967296
   ·have R:(n:Int)/4294967296=0:=(by omega);have A:z0H n=4:=(by revert I;unfold z0H;(repeat' split)<;>omega);have O:=z7 A;clear A I h;obtain⟨z0,z1,z2,f0,f1,f2⟩:=hz.o;go_wp2;go_region
    all_goals
     go_wp2;refine bodyPost_ret (z7I rfl _ _ w.heap.size _ _ _ rfl (z3W L.o _ _ _) rfl) rfl ?_;exact z5p O.o N.o rfl rfl rfl
   ·have R:((n:Int)/4294967296==0)=false:=(by simp;omega);have A:5<=z0H n:=(by revert I;unfold z0H;(repeat' split)<;>omega);clear I hn h;go_wp2;exact⟨⟨5,rfl,A,trivial⟩,by show 5 - (5:Int).toNat<5 - ((4:Nat):Int).toNat;decide⟩
  ·skip
   have y0:wr.cell? ⟨B.heap.size,15,none⟩=some (.int .u64 31):=J.o 15 _ rfl;have y1:wr.cell? ⟨B.heap.size,16,none⟩=some (.int .i64 5):=J.o 16 _ rfl;have y2:wr.cell? ⟨B.heap.size,17,none⟩=some (.int .i64 64):=J.o 17 _ rfl;have A:z0H n=5:=(by have:=z5q n;omega);have O:=z7 A;clear A I h;obtain⟨z0,z1,z2,f0,f1,f2⟩:=hz.o;go_wp2;go_region
   all_goals
    go_wp2;refine bodyPost_ret (z7I rfl _ _ w.heap.size _ _ _ rfl (z3W L.o _ _ _) rfl) rfl ?_;exact z5p O.o N.o rfl rfl rfl
def y1Q(k:Nat):Nat:= [0,2,6,14,30,31].getD k 31
def y5z(k:Nat):Nat:= [1,2,3,4,5,5].getD k 5
theorem z6C{k:Nat}(h:k<=5):z9Q k=z2U (y1Q k) (y5z k)/\y1Q k<18446744073709551616/\y5z k<=64/\z3w k<=64:=by
 match k,h with
 | 0,_=>decide
 | 1,_=>decide
 | 2,_=>decide
 | 3,_=>decide
 | 4,_=>decide
 | 5,_=>decide
theorem q4m{k:Nat}(h:k<=5):z4h[k*3]? =some (.int .u64 (y1Q k:Nat))/\z4h[k*3+1]? =some (.int .i64 (y5z k:Nat))/\z4h[k*3+2]? =some (.int .i64 (z3w k:Nat)):=by
 match k,h with
 | 0,_=>exact⟨rfl,rfl,rfl⟩
 | 1,_=>exact⟨rfl,rfl,rfl⟩
 | 2,_=>exact⟨rfl,rfl,rfl⟩
 | 3,_=>exact⟨rfl,rfl,rfl⟩
 | 4,_=>exact⟨rfl,rfl,rfl⟩
 | 5,_=>exact⟨rfl,rfl,rfl⟩
theorem z4F(n:Nat)(h:n<18446744073709551616)(w:World):
  Calls prog 126 #[.int .u64 n] w fun e w'=>e= .returned (.tuple #[.int .i64 (z0H n:Nat),.agg #[.int .u64 (y1Q (z0H n):Nat),.int .i64 (y5z (z0H n):Nat),.int .i64 (z3w (z0H n):Nat)]])/\Below w.heap.size w w':=by
 refine(q1P n h w).mono ?_;rintro e w' ⟨hb,x,y,z,rfl,A,B,I⟩;obtain⟨J,L,N⟩:=q4m (z5q n);rw[J]at A;rw[L]at B;rw[N]at I;cases A;cases B;cases I;exact⟨rfl,hb⟩
theorem q5i(a:Option Addr)(n c:Nat)(l:List Bool)(b:List UInt8)(v:Int)(w:World)(h:z0r w a n c l b)(hl:l.length<=549755813000)(h1: -9223372036854775808<=v)(h2:v<=9223372036854775807):
  Calls prog 85 #[.agg #[.slice a n c,.int .i64 l.length],.int .i64 v] w (z7S w (l++z9u v)):=by
 obtain⟨N,hN⟩:=zN l.length;rw[<-hN];have hF:=y1R h1 h2;obtain⟨m,hm⟩:=zN (z4s v);have I:=q4n v h1 h2;rw[<-hm]at I hF;have a5:m<18446744073709551616:=hF;obtain⟨k,hk⟩:=zN (z0H m);have B:=z4F m a5;rw[<-hk]at B;have aV:k<=5:=by rw[hk];exact z5q m
 obtain⟨aF,aG,aH,aI⟩:=z6C aV;obtain⟨A,hA⟩:=zN (y1Q k);obtain⟨M,hM⟩:=zN (y5z k);obtain⟨D,hD⟩:=zN (z3w k);obtain⟨R,hR⟩:=zN ((l++z2U A M)++z2U m D);have Y:l++z9u v=R:=by
  unfold z9u;rw[<-hm,<-hk,aF,hR,hA,hM,hD,List.append_assoc]
 rw[Y];rw[<-hA]at B aG;rw[<-hM]at B aH;rw[<-hD]at B aI;have aS:=z7 I;have aR:=z7 B;have H:=z7 h;have HN:=z7 hN;have HR:=z7 hR;have aY:N<=549755813000:=by omega
 clear I B hm hk hA hM hD Y aF hF h hN hl hR;have aT:=z7 (((Loc.start w).new (.cells #[.slice a n c,.int .i64 (N:Nat)] 49)).new' (.cells #[.slice none 0 0,.int .i64 0] 49) (n:=w.heap.size+1) (by simp));go_enter func85,ntmps85;go_wp2_with fail;refine(aS.o _).mono ?_;rintro e w1 ⟨rfl,rfl⟩;go_wp2_with fail;refine(aR.o _).mono ?_;rintro e w2 ⟨rfl,aJ⟩;have O:=z7 (aT.o.call aJ);clear aJ;obtain⟨c0,c1,cf⟩:=z0i (O.o.get 1 rfl);have l0:=O.o.lt 1 rfl;have l1:=O.o.lt 0 rfl;go_wp2_with fail;have hP:=y3C a n c l b A M (w2.alloc (.cells #[.int .u64 A,.int .i64 M,.int .i64 D] 243)) ((H.o.low O.o.low).low (q5 _ _)) (by have:=HN.o;omega) aG aH;rw[<-HN.o]at hP;refine hP.mono ?_;rintro e w4 ⟨a4,n4,c4,b4,rfl,a0,aN,J,aL⟩;have U:=z7 ((O.o.new (.cells #[.int .u64 A,.int .i64 M,.int .i64 D] 243)).call aL);have H4:=z7 (z5l a0 aN J);obtain⟨q4,a3⟩:=zN (l++z2U A M);rw[<-a3]at H4 HR;obtain⟨N4,a2⟩:=zN q4.length;have aX:N4<=549755813888:=by rw[a2,a3,List.length_append,z0X];have:=HN.o;omega
 rw[<-a3,<-a2];have aB:=z7 a2;clear aL a0 aN J a3 a2 hP c0 c1 cf;obtain⟨d0,d1,d2,df⟩:=cells3 (U.o.get 0 rfl);have l4:=U.o.lt 0 rfl;have l5:=U.o.lt 1 rfl;go_wp2_with fail;have hP:=y3C a4 n4 c4 q4 b4 m D (w4.alloc (.cells #[.slice a4 n4 c4,.int .i64 N4] 49)) (H4.o.low (q5 _ _)) (by have:=aB.o;omega) a5 aI;rw[<-aB.o,<-HR.o]at hP;refine hP.mono ?_;rintro e w6 ⟨a6,n6,c6,b6,rfl,a1,aO,L,aM⟩;have a9:=z7 (((U.o.new (.cells #[.slice a4 n4 c4,.int .i64 N4] 49)).call aM).less.less);obtain⟨N6,a8⟩:=zN R.length;rw[<-a8];have aC:=z7 a8;have aE:=z7 a1;have aU:=z7 aO;have a7:=z7 L;clear aM a1 aO L a8 hP d0 d1 d2 df;obtain⟨d0,d1,df⟩:=z0i (a9.o.get 0 rfl);go_wp2_with fail;have aA:=(a9.o.set 0 rfl 0 (.slice a6 n6 c6)).set 0 rfl 1 (.int .i64 N6);refine bodyPost_ret (z6F rfl _ _ (w.heap.size+1) (.slice a6 n6 c6) (.int .i64 N6) rfl (aA.get 0 rfl) rfl rfl) rfl ?_;rw[aC.o];have h9:=U.o.ge 1 rfl;exact q2q aE.o (by show w.heap.size<=(w4.alloc _).heap.size;simp;omega) aU.o a7.o (by rw[<-aC.o];exact aA.low) fun k hk _=>by
  have:w.heap.size+1<k:=by simp at hk;omega
  rw[q7 (by omega),q7 (by omega)]
def z7E(l:List Bool)(i:Nat)(w:World)(e:Ending)(w':World):Prop:=
 Below w.heap.size w w'/\((∃k r,z4w (l.drop i)=some (k,r)/\k<=5/\r=l.drop (l.length - r.length)/\r.length<=l.length/\e= .returned (.tuple #[.int .i64 (k:Nat),.int .i64 ((l.length - r.length:Nat):Int),.int .u16 0]))\/
  (z4w (l.drop i)=none/\e= .returned (.tuple #[.int .i64 0,.int .i64 0,.int .u16 10])))
theorem z8R{l:List Bool}{i:Nat}:z2E l i 1=(if l.getD i false then 1 else 0)/\z2e l i 1=(if i<l.length then 0 else 10):=by
 unfold z2E z2e;by_cases h:i<l.length
 ·have A:i+1<=l.length:=h;simp only[if_pos A,if_pos h];refine⟨?_,trivial⟩;have e:(l.drop i).take 1= [l[i]]:=by rw[List.drop_eq_getElem_cons h];rfl
  rw[e];simp only[List.getD_eq_getElem?_getD,List.getElem?_eq_getElem h,Option.getD_some];cases l[i]<;>decide
 ·have A:¬i+1<=l.length:=h;simp only[if_neg A,if_neg h,z4T (show l.length<=i by omega)];exact⟨rfl,trivial⟩
theorem z8r:∀(k:Nat),k<=5->∀(l:List Bool),(∀j,j<k->l[j]? =some true)->(k=5->z4w l=some (5,l.drop 5))/\(k<5->l[k]? =some false->z4w l=some (k,l.drop (k+1)))/\(k<5->l[k]? =none->z4w l=none):=by
 intro k O l h
 match k,O with
 | 0,_=>
  refine⟨fun h=>by omega,fun _ A=>?_,fun _ A=>?_⟩
  ·match l,A with
   | false::r,_=>rfl
  ·match l,A with
   | [],_=>rfl
 | 1,_=>
  have B:=h 0 (by omega);refine⟨fun h=>by omega,fun _ A=>?_,fun _ A=>?_⟩
  ·match l,B,A with
   | true::false::r,_,_=>rfl
  ·match l,B,A with
   | [true],_,_=>rfl
 | 2,_=>
  have B:=h 0 (by omega);have I:=h 1 (by omega);refine⟨fun h=>by omega,fun _ A=>?_,fun _ A=>?_⟩
  ·match l,B,I,A with
   | true::true::false::r,_,_,_=>rfl
  ·match l,B,I,A with
   | [true,true],_,_,_=>rfl
 | 3,_=>
  have B:=h 0 (by omega);have I:=h 1 (by omega);have J:=h 2 (by omega);refine⟨fun h=>by omega,fun _ A=>?_,fun _ A=>?_⟩
  ·match l,B,I,J,A with
   | true::true::true::false::r,_,_,_,_=>rfl
  ·match l,B,I,J,A with
   | [true,true,true],_,_,_,_=>rfl
 | 4,_=>
  have B:=h 0 (by omega);have I:=h 1 (by omega);have J:=h 2 (by omega);have L:=h 3 (by omega);refine⟨fun h=>by omega,fun _ A=>?_,fun _ A=>?_⟩
  ·match l,B,I,J,L,A with
   | true::true::true::true::false::r,_,_,_,_,_=>rfl
  ·match l,B,I,J,L,A with
   | [true,true,true,true],_,_,_,_,_=>rfl
 | 5,_=>
  have B:=h 0 (by omega);have I:=h 1 (by omega);have J:=h 2 (by omega);have L:=h 3 (by omega);have N:=h 4 (by omega);refine⟨fun _=>?_,fun h=>by omega,fun h=>by omega⟩
  match l,B,I,J,L,N with
  | true::true::true::true::true::r,_,_,_,_,_=>rfl
theorem q1N(a:Option Addr)(n c:Nat)(l:List Bool)(b:List UInt8)(i:Nat)(w:World)(h:z0r w a n c l b)(hl:l.length<=549755813888)(hi:i<=l.length):
  Calls prog 192 #[.agg #[.slice a n c,.int .i64 l.length],.int .i64 i] w (z7E l i w):=by
 obtain⟨N,hN⟩:=zN l.length;rw[<-hN];obtain⟨W1,R⟩:=zN (w.alloc (.cells #[.slice a n c,.int .i64 (N:Nat)] 49));have a2:Below w.heap.size w W1:=by rw[R];exact q5 _ _
 have U:=j8 w (.cells #[.slice a n c,.int .i64 (N:Nat)] 49);rw[<-R]at U;have a6:w.heap.size<W1.heap.size:=(Array.getElem?_eq_some_iff.1 U).1;have a9:Hid (∀w',Below W1.heap.size W1 w'->w'.cell? ⟨w.heap.size,0,none⟩=some (.slice a n c)/\w'.cell? ⟨w.heap.size,1,none⟩=some (.int .i64 (N:Nat))):=z7 fun w' hw=>by
  have h1:=(hw.block w.heap.size a6).trans U;constructor<;>simp[World.cell?,h1]
 have HW:=z7 R;have HN:=z7 hN;have a5:=z7 a2;have HX:=z7 (h.low a2);have aH:N<=549755813888:=by omega
 have aA:i<=N:=by omega
 clear R h hN a2 U hl hi;go_enter func192,ntmps192;go_upto_region 1 with fail
 rw[<-HW.o];go_wp2_with fail;go_loopw[1,10] (fun pv kv wr=>∃p k:Nat,pv= .int .i64 p/\kv= .int .i64 k/\k<=5/\p<=N/\Hid (p=i+k)/\Hid (∀j,j<k->(l.drop i)[j]? =some true)/\Hid (Below W1.heap.size W1 wr)) (fun _ kv _=>match kv with | .int _ x=>5 - x.toNat|_=>0)
 case atStart=>exact⟨i,0,rfl,rfl,by omega,aA,z7 rfl,z7 (fun j hj=>by omega),z7 (Below.refl _ _)⟩
 case round=>
  obtain⟨p,k,rfl,rfl,hk,aI,hp,A,hb⟩:=hrel;obtain⟨y0,y1⟩:=a9.o wr hb.o;have a3:Hid ((l.drop i)[k]? =l[p]?):=z7 (by rw[List.getElem?_drop,hp.o]);have J:Hid (∀w',Below wr.heap.size wr w'->Below w.heap.size w w'):=z7 fun w' L=>a5.o.trans ((hb.o.trans (L.mono hb.o.size)).mono a5.o.size);have aG:Hid (∀m,l.drop i=(l.drop i).take m++(l.drop i).drop m):=z7 fun m=>(List.take_append_drop m _).symm;by_cases hk5:k<5
  ·have d0:(k:Int)<5:=(by omega);have aF:IntKind.i64.wrap ((k:Int)+1)=((k+1:Nat):Int):=z0n (by omega) (by omega);obtain⟨k',Y⟩:=zN (k+1);obtain⟨p',a4⟩:=zN (p+1);have aJ:IntKind.i64.wrap ((p:Int)+1)=(p':Int):=(by rw[z0n (by omega) (by omega)];omega);rw[<-Y]at aF;have O:=y1i a n c l b p 1 wr (HX.o.low hb.o) (by have:=HN.o;omega) (by omega) (by decide);rw[z8R.1,z8R.2,<-HN.o]at O;by_cases hpl:p<N
   ·rw[if_pos hpl]at O;obtain⟨x,hx⟩:=zN (l.getD p false);rw[<-hx]at O;have a0:l[p]? =some x:=(by rw[hx];simp[List.getD_eq_getElem?_getD,show p<l.length by have:=HN.o;omega]);cases x with
    | false=>
     have I:Hid (∀w',Below wr.heap.size wr w'->z7E l i w (.returned (.tuple #[.int .i64 k,.int .i64 (p':Nat),.int .u16 0])) w'):=z7 fun w' L=>by
      have h9:=(z8r k hk (l.drop i) A.o).2.1 hk5 (by rw[a3.o,a0]);have aC:=hp.o;have a8:=HN.o;refine⟨J.o w' L,.inl ⟨k,_,h9,hk,?_,(by simp<;>omega),?_⟩⟩
      ·rw[List.drop_drop];congr 1;simp;try omega
      ·rw[List.length_drop,List.length_drop,show l.length - (l.length - i - (k+1))=p' by omega]
     have HG:=z7 O;clear O hx a0 Y a4;go_wp2_with fail;refine HG.o.mono ?_;rintro e w2 ⟨rfl,B⟩;have HF:=z7 (I.o w2 B);clear B;go_wp2;go_ret3
     exact HF.o
    | true=>
     have aB:Hid (∀j,j<k'->(l.drop i)[j]? =some true):=z7 fun j hj=>by
      by_cases hjk:j<k
      ·exact A.o j hjk
      ·obtain rfl:j=k:=by omega
       rw[a3.o,a0]
     have aE:Hid (p'=i+k'):=z7 (by have:=hp.o;omega);have a1:k'<=5/\p'<=N/\k<k':=(by omega);have HG:=z7 O;clear O hx a0 Y a4;go_wp2_with fail;refine HG.o.mono ?_;rintro e w2 ⟨rfl,B⟩;have a7:=z7 (hb.o.trans (B.mono hb.o.size));clear B;go_wp2;exact⟨⟨p',k',rfl,rfl,a1.1,a1.2.1,aE,aB,a7⟩,by show 5 - (k':Int).toNat<5 - (k:Int).toNat;omega⟩
   ·rw[if_neg hpl,show l.getD p false=false from z4T (by have:=HN.o;omega)]at O;have I:Hid (∀w',Below wr.heap.size wr w'->z7E l i w (.returned (.tuple #[.int .i64 0,.int .i64 0,.int .u16 10])) w'):=z7 fun w' L=>by
     have h9:=(z8r k hk (l.drop i) A.o).2.2 hk5 (by rw[a3.o];exact List.getElem?_eq_none (by have:=HN.o;omega));exact⟨J.o w' L,.inr ⟨h9,rfl⟩⟩
    have HG:=z7 O;clear O Y a4;go_wp2_with fail;refine HG.o.mono ?_;rintro e w2 ⟨rfl,B⟩;have HF:=z7 (I.o w2 B);clear B;go_wp2;go_ret3
    exact HF.o
  ·obtain rfl:k=5:=by omega
   have I:Hid (z7E l i w (.returned (.tuple #[.int .i64 5,.int .i64 p,.int .u16 0])) wr):=z7 (by
    have h9:=(z8r 5 hk (l.drop i) A.o).1 rfl;have aC:=hp.o;have a8:=HN.o;refine⟨J.o wr (Below.refl _ _),.inl ⟨5,_,h9,hk,?_,(by simp<;>omega),?_⟩⟩
    ·rw[List.drop_drop];congr 1;simp;try omega
    ·rw[List.length_drop,List.length_drop,show l.length - (l.length - i - 5)=p by omega];rfl)
   go_wp2;go_ret3
   exact I.o
def q1t:Go.Shelf.Ren:=⟨fun|264=>196|n=>n,fun|53=>46|46=>157|n=>n,fun|n=>n⟩
theorem q6j:Go.Proofs.Lays.n264 prog q1t:={
 mixed:=by kernel_rfl
 f264:=func196.trans (congrArg some (by kernel_rfl))
 t46:=underlying157
 a46:=Tryz.isAgg157
 z46:=Tryz.sizeOf157
 v46:=Tryz.zeroValue157
 t53:=underlying46
 a53:=Tryz.isAgg46
 z53:=Tryz.sizeOf46
 v53:=Tryz.zeroValue46
}
def q3h:Go.Shelf.Ren:=⟨fun|29=>181|n=>n,fun|22=>46|3=>3|4=>4|25=>157|54=>327|0=>0|5=>5|n=>n,fun|1=>0|n=>n⟩
theorem tzL:Go.Proofs.Lays7.n29 prog q3h:={
 mixed:=by kernel_rfl
 f29:=func181.trans (congrArg some (by kernel_rfl))
 t0:=underlying0
 a0:=Tryz.isAgg0
 z0:=Tryz.sizeOf0
 v0:=Tryz.zeroValue0
 i0:=by kernel_rfl
 t3:=underlying3
 a3:=Tryz.isAgg3
 z3:=Tryz.sizeOf3
 v3:=Tryz.zeroValue3
 i3:=by kernel_rfl
 t4:=underlying4
 a4:=Tryz.isAgg4
 z4:=Tryz.sizeOf4
 v4:=Tryz.zeroValue4
 i4:=by kernel_rfl
 t5:=underlying5
 a5:=Tryz.isAgg5
 z5:=Tryz.sizeOf5
 v5:=Tryz.zeroValue5
 i5:=by kernel_rfl
 t22:=underlying46
 a22:=Tryz.isAgg46
 z22:=Tryz.sizeOf46
 v22:=Tryz.zeroValue46
 i22:=by kernel_rfl
 t25:=underlying157
 a25:=Tryz.isAgg157
 z25:=Tryz.sizeOf157
 v25:=Tryz.zeroValue157
 i25:=by kernel_rfl
 t54:=underlying327
 a54:=Tryz.isAgg327
 z54:=Tryz.sizeOf327
 g1:=by kernel_rfl
}
def q3P:Go.Shelf.Ren:=⟨fun|134=>180|129=>153|n=>n,fun|53=>46|3=>3|4=>4|46=>157|5=>5|9=>9|n=>n,fun|n=>n⟩
theorem lzL:Go.Proofs.Lays.n134 prog q3P:={
 mixed:=by kernel_rfl
 f129:=func153.trans (congrArg some (by kernel_rfl))
 f134:=func180.trans (congrArg some (by kernel_rfl))
 t3:=underlying3
 a3:=Tryz.isAgg3
 z3:=Tryz.sizeOf3
 v3:=Tryz.zeroValue3
 t4:=underlying4
 a4:=Tryz.isAgg4
 z4:=Tryz.sizeOf4
 v4:=Tryz.zeroValue4
 t5:=underlying5
 a5:=Tryz.isAgg5
 z5:=Tryz.sizeOf5
 v5:=Tryz.zeroValue5
 t9:=underlying9
 a9:=Tryz.isAgg9
 z9:=Tryz.sizeOf9
 v9:=Tryz.zeroValue9
 t46:=underlying157
 a46:=Tryz.isAgg157
 z46:=Tryz.sizeOf157
 v46:=Tryz.zeroValue157
 t53:=underlying46
 a53:=Tryz.isAgg46
 z53:=Tryz.sizeOf46
 v53:=Tryz.zeroValue46
}
theorem q2c:∀(f x:Nat),x<2^f->Lib.bitLenAux f x=bl x
 | 0,x,h=>by
  obtain rfl:x=0:=by simpa using h
  rfl
 | f+1,x,h=>by
  unfold Lib.bitLenAux;by_cases h0:x=0
  ·rw[if_pos h0,h0];rfl
  ·rw[if_neg h0,q2c f (x/2) (by rw[Nat.pow_succ]at h;omega)];unfold bl;rw[if_neg h0];by_cases h1:x/2=0
   ·rw[if_pos h1];obtain rfl:x=1:=by omega
    rfl
   ·rw[if_neg h1,Nat.log2_def x,if_pos (by omega)];omega
theorem y9R{x:Nat}(h:x<18446744073709551616):Lib.bitLen x=bl x:=q2c 64 x h
def z1u(w:World):Prop:=TabAt 0 Lib.deBruijn64tab w
theorem z1u.low{w w':World}(h:z1u w)(hb:Below w.heap.size w w'):z1u w':=fun j I=>by
 have B:=h j I;have A:0<w.heap.size:=by
  by_cases hx:0<w.heap.size
  ·exact hx
  ·simp[World.cell?,Array.getElem?_eq_none (Nat.le_of_not_lt hx)]at B
 exact(hb.cell (p:=⟨0,j,none⟩) A).trans B
theorem q1x(n:Nat)(h:n<18446744073709551616)(w:World):Calls prog 180 #[.int .u64 n] w fun e w'=>e= .returned (.int .i64 (lz n:Nat))/\w'=w:=by
 have A:=Any.bits_LeadingZeros64 lzL (n:Int) w (by omega) (by omega);rw[Int.toNat_natCast,y9R h]at A;have B:=q4B h;have e:(64 - (bl n:Int))=((lz n:Nat):Int):=by unfold lz;omega
 rw[e]at A;exact A
theorem q4E(n:Nat)(h:n<18446744073709551616)(w:World)(A:z1u w):Calls prog 181 #[.int .u64 n] w fun e w'=>e= .returned (.int .i64 (tz n:Nat))/\w'=w:=
 Any7.bits_TrailingZeros64 tzL n h w fun _=>A
theorem q4J(x y:Nat)(A:x<18446744073709551616)(B:y<18446744073709551616)(w:World):Calls prog 196 #[.int .u64 x,.int .u64 y] w fun e w'=>e= .returned (.tuple #[.int .u64 ((x*y/18446744073709551616:Nat):Int),.int .u64 ((x*y%18446744073709551616:Nat):Int)])/\w'=w:=
 Any.bits_Mul64 q6j x y A B w

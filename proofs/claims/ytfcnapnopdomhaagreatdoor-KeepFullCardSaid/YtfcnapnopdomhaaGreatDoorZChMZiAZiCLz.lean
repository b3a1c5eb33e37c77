/-
  The codes of numbers, values and samples as lists of truths: written, read, and read as written. No program.
-/
import Derived.Lib.TrailingZeros
import Derived.Test.YtfcnapnopdomhaaGreatDoorZBiFHp
import Derived.Shelf.Small.Bits
import Derived.Shelf.Spec.TrailingZeros
import Derived.Shelf.Bits.Mul64
namespace Go.Proofs.YtfcnapnopdomhaaGreatDoor
set_option linter.unusedSimpArgs false
set_option linter.unusedVariables false
set_option maxRecDepth 100000
set_option maxHeartbeats 12800000
open Go.RowKit
def rdN(w:Nat)(l:List Bool):Option (Nat×List Bool):=if w≤l.length then some (z2C (l.take w),l.drop w) else none
theorem z4q{v w:Nat}(h:v<2^w)(r:List Bool):rdN w (z2L v w++r)=some (v,r):=by
 unfold rdN;rw [if_pos (by simp [z0P]),List.take_append_of_le_length (by simp [z0P]),List.take_of_length_le (by simp [z0P]),y7I,Nat.mod_eq_of_lt h,List.drop_append_of_le_length (by simp [z0P]),List.drop_of_length_le (by simp [z0P])];rfl
theorem z5w{w n:Nat}{l r:List Bool}(h:rdN w l=some (n,r)):r.length+w=l.length∧n<2^w∧l=z2L n w++r:=by
 unfold rdN at h;split at h
 ·rename_i hw;simp only [Option.some.injEq,Prod.mk.injEq] at h;obtain ⟨rfl,rfl⟩:=h;have hl:(l.take w).length=w:=by simp;omega
  have h1:=z5m (l.take w);rw [hl] at h1;refine ⟨by simp;omega,h1,?_⟩;have h2:=y7l (l.take w);rw [hl] at h2;rw [h2,List.take_append_drop]
 ·cases h
def z3X(v:Int):Nat:=if 0≤v then (2*v).toNat else (-2*v - 1).toNat
def z2i(n:Nat):Int:=if n%2=0 then ((n/2:Nat):Int) else -((n/2:Nat):Int) - 1
theorem y4j(v:Int):z2i (z3X v)=v:=by unfold z3X z2i;split<;>split<;>omega
theorem y3f(n:Nat):z3X (z2i n)=n:=by unfold z3X z2i;split<;>split<;>omega
theorem y0b{v:Int}(h1: -9223372036854775808≤v)(h2:v≤9223372036854775807):z3X v<2^64:=by unfold z3X;split<;>omega
def z3l(k:Nat):Nat:= [0,7,9,12,32,64].getD k 64
def z0A(n:Nat):Nat:=if n<1 then 0 else if n<128 then 1 else if n<512 then 2 else if n<4096 then 3 else if n<4294967296 then 4 else 5
theorem z4P(n:Nat):z0A n≤5:=by unfold z0A;(repeat' split)<;>omega
theorem y4p{n:Nat}(h:n<2^64):n<2^z3l (z0A n):=by unfold z0A;(repeat' split)<;>simp [z3l]<;>omega
def z9f(k:Nat):List Bool:=if k<5 then List.replicate k true++ [false] else List.replicate 5 true
def z8M(v:Int):List Bool:=z9f (z0A (z3X v))++z2L (z3X v) (z3l (z0A (z3X v)))
def z4c:List Bool→Option (Nat×List Bool)
 | false::r=>some (0,r)
 | true::false::r=>some (1,r)
 | true::true::false::r=>some (2,r)
 | true::true::true::false::r=>some (3,r)
 | true::true::true::true::false::r=>some (4,r)
 | true::true::true::true::true::r=>some (5,r)
 | _=>none
def z7L(l:List Bool):Option (Int×List Bool):=match z4c l with
 | none=>none
 | some (k,r)=>match rdN (z3l k) r with
  | none=>none
  | some (n,r')=>if z0A n=k then some (z2i n,r') else none
theorem y4F{k:Nat}(h:k≤5)(r:List Bool):z4c (z9f k++r)=some (k,r):=by
 match k,h with
 | 0,_=>rfl
 | 1,_=>rfl
 | 2,_=>rfl
 | 3,_=>rfl
 | 4,_=>rfl
 | 5,_=>rfl
theorem y3n{v:Int}(h1: -9223372036854775808≤v)(h2:v≤9223372036854775807)(r:List Bool):z7L (z8M v++r)=some (v,r):=by
 have h:=y0b h1 h2;unfold z7L z8M;rw [List.append_assoc,y4F (z4P _)];simp only;rw [z4q (y4p h)];simp only [if_true,y4j]
theorem y7w{k:Nat}{l r:List Bool}(h:z4c l=some (k,r)):r.length<l.length∧k≤5∧l=z9f k++r:=by
 unfold z4c at h;split at h;all_goals first
  | (simp only [Option.some.injEq,Prod.mk.injEq] at h;obtain ⟨rfl,rfl⟩:=h;refine ⟨by simp;try omega,by omega,rfl⟩)
  | cases h
theorem y0L{v:Int}{l r:List Bool}(h:z7L l=some (v,r)):r.length<l.length∧l=z8M v++r∧ -9223372036854775808≤v∧v≤9223372036854775807:=by
 unfold z7L at h;split at h
 ·cases h
 ·rename_i k r1 hk;split at h
  ·cases h
  ·rename_i n r2 hn;split at h
   ·rename_i hf;simp only [Option.some.injEq,Prod.mk.injEq] at h;obtain ⟨rfl,rfl⟩:=h;obtain ⟨a1,a2,a3⟩:=y7w hk;obtain ⟨b1,b2,b3⟩:=z5w hn;have hn64:n<2^64:=Nat.lt_of_lt_of_le b2 (Nat.pow_le_pow_right (by decide) (by
     match k,a2 with
     | 0,_=>decide
     | 1,_=>decide
     | 2,_=>decide
     | 3,_=>decide
     | 4,_=>decide
     | 5,_=>decide))
    refine ⟨by omega,?_,?_⟩
    ·unfold z8M;rw [y3f,hf,a3,b3,List.append_assoc]
    ·unfold z2i;split<;>omega
   ·cases h
structure z4B where
 has:Bool
 prev:Nat
 lead:Nat
 width:Nat
deriving DecidableEq
def zeroV:z4B:=⟨false,0,0,0⟩
def z1c(s:z4B):Bool:=if s.has then decide (s.lead≤31∧s.lead+s.width≤64∧(0<s.width∨s.lead=0)) else decide (s=zeroV)
def bl(d:Nat):Nat:=if d=0 then 0 else d.log2+1
def lz(d:Nat):Nat:=64 - bl d
def tz(d:Nat):Nat:=Go.Lib.ctz 64 d
theorem q3E(d:Nat):d<2^bl d:=by
 unfold bl;split
 ·omega
 ·exact Nat.lt_log2_self
theorem q2n{d:Nat}(h:d<2^64):bl d≤64:=by
 unfold bl;split
 ·omega
 ·rename_i h0;have:=(Nat.log2_lt h0).2 h;omega
theorem y9e{d:Nat}(h:d<2^64):d<2^(64 - lz d):=by
 have:=q2n h;rw [show 64 - lz d=bl d by unfold lz;omega];exact q3E d
theorem y6t{d:Nat}(h:d<2^64)(h0:d≠0):∃m,d=2^tz d*(2*m+1)∧tz d<64:=by
 unfold tz Go.Lib.ctz;rw [if_neg h0];exact Go.Lib.ctzFrom_spec 64 d (by omega) h
theorem q0N{d:Nat}(h:d<2^64)(h0:d≠0):lz d+tz d<64:=by
 obtain ⟨m,hm,hk⟩:=y6t h h0;have h1:=y9e h;have h2:2^tz d≤d:=Nat.le_of_dvd (by omega) ⟨2*m+1,hm⟩;have h3:tz d<64 - lz d:=(Nat.pow_lt_pow_iff_right (by decide)).1 (Nat.lt_of_le_of_lt h2 h1);omega
theorem y5H{d k:Nat}(h:d<2^64)(h0:d≠0)(hk:k≤tz d):d/2^k*2^k=d:=by
 obtain ⟨m,hm,_⟩:=y6t h h0;refine Nat.div_mul_cancel (Nat.dvd_trans (Nat.pow_dvd_pow 2 hk) ⟨2*m+1,hm⟩)
def z4x(lead size d:Nat):Bool:=decide (0<size∧lead≤lz d∧64 - lead - size≤tz d)
def z2Z(d:Nat):Nat:=min (lz d) 31
def z1E(d:Nat):Nat:=64 - z2Z d - tz d
def z4r(s:z4B)(v:Nat):List Bool×z4B:=
 if s.has=false then (z2L v 64,⟨true,v,0,0⟩)
 else if v^^^s.prev=0 then ([false],{s with prev:=v})
 else if z4x s.lead s.width (v^^^s.prev) then ([true,false]++z2L ((v^^^s.prev)/2^(64 - s.lead - s.width)) s.width,{s with prev:=v})
 else ([true,true]++z2L (z2Z (v^^^s.prev)) 5++z2L (z1E (v^^^s.prev) - 1) 6++z2L ((v^^^s.prev)/2^tz (v^^^s.prev)) (z1E (v^^^s.prev)),⟨true,v,z2Z (v^^^s.prev),z1E (v^^^s.prev)⟩)
def z3z(s:z4B)(l:List Bool):Option (Nat×z4B×List Bool):=
 if s.has=false then (rdN 64 l).map fun p=>(p.1,⟨true,p.1,0,0⟩,p.2)
 else match l with
  | false::r=>some (s.prev,s,r)
  | true::false::r=>match rdN s.width r with
   | none=>none
   | some (d,r')=>if d=0 then none else some (s.prev^^^(d*2^(64 - s.lead - s.width)),{s with prev:=s.prev^^^(d*2^(64 - s.lead - s.width))},r')
  | true::true::r=>match rdN 5 r with
   | none=>none
   | some (ld,r1)=>match rdN 6 r1 with
    | none=>none
    | some (z,r2)=>if 64<ld+(z+1) then none else match rdN (z+1) r2 with
     | none=>none
     | some (d,r3)=>
      if d=0∨z4x s.lead s.width (d*2^(64 - ld - (z+1)))=true∨ld≠z2Z (d*2^(64 - ld - (z+1)))∨z+1≠z1E (d*2^(64 - ld - (z+1))) then none
      else some (s.prev^^^(d*2^(64 - ld - (z+1))),⟨true,s.prev^^^(d*2^(64 - ld - (z+1))),ld,z+1⟩,r3)
  | _=>none
theorem y0g{a b:Nat}(ha:a<2^64)(hb:b<2^64):a^^^b<2^64:=Nat.xor_lt_two_pow ha hb
theorem z9T{a b:Nat}:b^^^(a^^^b)=a:=by rw [Nat.xor_comm a b,←Nat.xor_assoc,Nat.xor_self,Nat.zero_xor]
theorem z7Y{d:Nat}(h:d<2^64)(h0:d≠0):0<z1E d∧z2Z d≤31∧z2Z d+z1E d≤64∧64 - z2Z d - z1E d=tz d:=by
 have h1:=q0N h h0;unfold z1E z2Z;omega
theorem y7i{d:Nat}(h:d<2^64)(h0:d≠0):d/2^tz d<2^z1E d:=by
 have h1:=q0N h h0;have h2:=y9e h;rw [Nat.div_lt_iff_lt_mul (Nat.two_pow_pos _),←Nat.pow_add];refine Nat.lt_of_lt_of_le h2 (Nat.pow_le_pow_right (by decide) ?_);unfold z1E z2Z;omega
theorem y0h{d k:Nat}(h:d<2^64)(h0:d≠0)(hk:k≤tz d):d/2^k≠0:=fun e=>by
 have:=y5H h h0 hk;rw [e] at this;omega
theorem y1w{s:z4B}{v:Nat}(hs:z1c s=true)(hv:v<2^64)(hp:s.prev<2^64)(r:List Bool):z3z s ((z4r s v).1++r)=some (v,(z4r s v).2,r):=by
 unfold z3z z4r;by_cases hh:s.has=false
 ·simp only [hh,if_true];rw [z4q hv];rfl
 ·rw [if_neg hh,if_neg hh];have hd64:=y0g hv hp;by_cases hd:v^^^s.prev=0
  ·rw [if_pos hd];have e:v=s.prev:=by
    have:= @z9T v s.prev;rw [hd,Nat.xor_zero] at this;exact this.symm
   subst e;rfl
  ·rw [if_neg hd];by_cases hb:z4x s.lead s.width (v^^^s.prev)=true
   ·rw [if_pos hb];have hb':=of_decide_eq_true hb;have hs2:s.lead+s.width≤64:=by
     unfold z1c at hs;rw [if_pos (by simpa using hh)] at hs;exact (of_decide_eq_true hs).2.1
    have hw:(v^^^s.prev)/2^(64 - s.lead - s.width)<2^s.width:=by
     rw [Nat.div_lt_iff_lt_mul (Nat.two_pow_pos _),←Nat.pow_add];exact Nat.lt_of_lt_of_le (y9e hd64) (Nat.pow_le_pow_right (by decide) (by omega))
    simp only [List.cons_append,List.nil_append];rw [z4q hw];simp only;rw [if_neg (y0h hd64 hd hb'.2.2),y5H hd64 hd hb'.2.2,z9T]
   ·rw [if_neg hb];obtain ⟨z1,z2,z3,z4⟩:=z7Y hd64 hd;simp only [List.cons_append,List.nil_append,List.append_assoc];rw [z4q (by omega)];simp only;rw [z4q (by omega)];simp only;rw [show z1E (v^^^s.prev) - 1+1=z1E (v^^^s.prev) by omega,if_neg (by omega),z4q (y7i hd64 hd)];simp only;rw [z4,y5H hd64 hd (Nat.le_refl _),z9T,if_neg (by simp [y0h hd64 hd (Nat.le_refl _),hb])]
theorem q0s{s s':z4B}{v:Nat}{l r:List Bool}(h:z3z s l=some (v,s',r))(hp:s.prev<2^64)(hs:z1c s=true):r.length<l.length∧v<2^64∧z1c s'=true∧s'.has=true∧s'.prev=v:=by
 unfold z3z at h;split at h
 ·rename_i hh;simp only [Option.map_eq_some_iff] at h;obtain ⟨⟨n,r1⟩,h1,h2⟩:=h;simp only [Prod.mk.injEq] at h2;obtain ⟨rfl,rfl,rfl⟩:=h2;obtain ⟨a1,a2,a3⟩:=z5w h1;exact ⟨by omega,a2,by simp [z1c],rfl,rfl⟩
 ·rename_i hh;have hh:s.has=true:=by simpa using hh
  have hs0:=hs;unfold z1c at hs;rw [if_pos hh] at hs;have hs:=of_decide_eq_true hs;split at h
  ·simp only [Option.some.injEq,Prod.mk.injEq] at h;obtain ⟨rfl,rfl,rfl⟩:=h;exact ⟨by simp,hp,hs0,hh,rfl⟩
  ·split at h
   ·cases h
   ·rename_i d r1 hd;split at h
    ·cases h
    ·simp only [Option.some.injEq,Prod.mk.injEq] at h;obtain ⟨rfl,rfl,rfl⟩:=h;obtain ⟨a1,a2,a3⟩:=z5w hd;have h9:d*2^(64 - s.lead - s.width)<2^64:=by
      have:d*2^(64 - s.lead - s.width)<2^s.width*2^(64 - s.lead - s.width):=Nat.mul_lt_mul_of_pos_right a2 (Nat.two_pow_pos _);rw [←Nat.pow_add] at this;exact Nat.lt_of_lt_of_le this (Nat.pow_le_pow_right (by decide) (by omega))
     refine ⟨by simp;omega,y0g hp h9,?_,hh,rfl⟩;unfold z1c;rw [if_pos hh];exact decide_eq_true hs
  ·split at h
   ·cases h
   ·rename_i ld r1 h1;split at h
    ·cases h
    ·rename_i z r2 h2;split at h
     ·cases h
     ·rename_i hz;split at h
      ·cases h
      ·rename_i d r3 h3;split at h
       ·cases h
       ·simp only [Option.some.injEq,Prod.mk.injEq] at h;obtain ⟨rfl,rfl,rfl⟩:=h;obtain ⟨a1,a2,a3⟩:=z5w h1;obtain ⟨b1,b2,b3⟩:=z5w h2;obtain ⟨c1,c2,c3⟩:=z5w h3;have h9:d*2^(64 - ld - (z+1))<2^64:=by
         have:d*2^(64 - ld - (z+1))<2^(z+1)*2^(64 - ld - (z+1)):=Nat.mul_lt_mul_of_pos_right c2 (Nat.two_pow_pos _);rw [←Nat.pow_add] at this;exact Nat.lt_of_lt_of_le this (Nat.pow_le_pow_right (by decide) (by omega))
        refine ⟨by simp;omega,y0g hp h9,?_,rfl,rfl⟩;unfold z1c;simp only [if_true];exact decide_eq_true ⟨by omega,by omega, .inl (by omega)⟩
  ·cases h
def w64(n:Int):Int:=IntKind.i64.wrap n
theorem z2k(n:Int): -9223372036854775808≤w64 n∧w64 n≤9223372036854775807:=by unfold w64;rw [IntKind.wrap_i64];omega
theorem y8A(a b:Int)(h1: -9223372036854775808≤a)(h2:a≤9223372036854775807):w64 (w64 (a - b)+b)=a:=by unfold w64;rw [IntKind.wrap_i64,IntKind.wrap_i64];omega
theorem y8n(a b:Int)(h1: -9223372036854775808≤a)(h2:a≤9223372036854775807):w64 (b+w64 (a - b))=a:=by unfold w64;rw [IntKind.wrap_i64,IntKind.wrap_i64];omega
structure z1K where
 t:Int
 v:Nat
deriving DecidableEq
def z1K.Ok(s:z1K):Prop:= -9223372036854775808≤s.t∧s.t≤9223372036854775807∧s.v<18446744073709551616
structure z1A where
 n:Nat
 last:Int
 delta:Int
 val:z4B
deriving DecidableEq
def z0e:z1A:=⟨0,0,0,zeroV⟩
structure z1A.Ok (e:z1A):Prop where
 zero:e.n=0→e=z0e
 has:0<e.n→e.val.has=true
 val:z1c e.val=true
 prev:e.val.prev<18446744073709551616
 last: -9223372036854775808≤e.last∧e.last≤9223372036854775807
 delta: -9223372036854775808≤e.delta∧e.delta≤9223372036854775807
theorem z4p:z0e.Ok:=⟨fun _=>rfl,fun h=>by simp [z0e] at h,by simp [z0e,z1c,zeroV],by simp [z0e,zeroV],by simp [z0e],by simp [z0e]⟩
def y2D(t:Int):Nat:=(t%18446744073709551616).toNat
theorem y6I(t:Int):y2D t<2^64:=by unfold y2D;omega
theorem y8c{t:Int}(h1: -9223372036854775808≤t)(h2:t≤9223372036854775807):w64 ((y2D t:Nat):Int)=t:=by unfold y2D w64;rw [IntKind.wrap_i64];omega
def z2O(e:z1A)(s:z1K):List Bool×z1A:=
 if e.n=0 then (z2L (y2D s.t) 64++(z4r e.val s.v).1,⟨1,s.t,e.delta,(z4r e.val s.v).2⟩)
 else (z8M (w64 (w64 (s.t - e.last) - e.delta))++(z4r e.val s.v).1,⟨e.n+1,s.t,w64 (s.t - e.last),(z4r e.val s.v).2⟩)
def z5s(e:z1A)(l:List Bool):Option (Int×Int×List Bool):=
 if e.n=0 then (rdN 64 l).map fun p=>(w64 (p.1:Int),0,p.2)
 else match z7L l with
  | none=>none
  | some (d,r)=>if e.last<w64 (e.last+w64 (d+e.delta)) then some (w64 (e.last+w64 (d+e.delta)),w64 (d+e.delta),r) else none
def z1e(e:z1A)(l:List Bool):Option (z1K×z1A×List Bool):=match z5s e l with
 | none=>none
 | some (t,delta,r)=>match z3z e.val r with
  | none=>none
  | some (v,k,r')=>some (⟨t,v⟩,⟨e.n+1,t,delta,k⟩,r')
theorem y5t{e:z1A}{s:z1K}(he:e.Ok)(hs:s.Ok)(ht:0<e.n→e.last<s.t)(r:List Bool):z1e e ((z2O e s).1++r)=some (s,(z2O e s).2,r):=by
 unfold z1e z5s z2O;by_cases h0:e.n=0
 ·rw [if_pos h0,if_pos h0];simp only [List.append_assoc];rw [z4q (y6I _)];simp only [Option.map_some];rw [y1w he.val hs.2.2 he.prev,y8c hs.1 hs.2.1];simp only [h0];have:=he.zero h0;rw [this];rfl
 ·rw [if_neg h0,if_neg h0];simp only [List.append_assoc];rw [y3n (z2k _).1 (z2k _).2];simp only;rw [y8A _ _ (z2k _).1 (z2k _).2,y8n _ _ hs.1 hs.2.1,if_pos (ht (by omega))];simp only;rw [y1w he.val hs.2.2 he.prev]
theorem z1B{e e':z1A}{s:z1K}{l r:List Bool}(he:e.Ok)(h:z1e e l=some (s,e',r)):r.length<l.length∧s.Ok∧e'.Ok∧e'.n=e.n+1∧e'.last=s.t∧(0<e.n→e.last<s.t):=by
 unfold z1e z5s at h;split at h
 ·cases h
 ·rename_i t delta r1 h1;split at h
  ·cases h
  ·rename_i v k r2 h2;simp only [Option.some.injEq,Prod.mk.injEq] at h;obtain ⟨rfl,rfl,rfl⟩:=h;obtain ⟨a1,a2,a3,a4,a5⟩:=q0s h2 he.prev he.val;split at h1
   ·rename_i h0;simp only [Option.map_eq_some_iff] at h1;obtain ⟨⟨n,r3⟩,h3,h4⟩:=h1;simp only [Prod.mk.injEq] at h4;obtain ⟨rfl,rfl,rfl⟩:=h4;obtain ⟨b1,b2,b3⟩:=z5w h3;exact ⟨by omega,⟨(z2k _).1,(z2k _).2,a2⟩,⟨fun h=>by simp at h,fun _=>a4,a3,by simp only;rw [a5];exact a2,z2k _,by simp⟩,rfl,rfl,fun h=>by omega⟩
   ·rename_i h0;split at h1
    ·cases h1
    ·rename_i d r3 h3;split at h1
     ·rename_i ht;simp only [Option.some.injEq,Prod.mk.injEq] at h1;obtain ⟨rfl,rfl,rfl⟩:=h1;have b1:=(y0L h3).1;exact ⟨by omega,⟨(z2k _).1,(z2k _).2,a2⟩,⟨fun h=>by simp at h,fun _=>a4,a3,by simp only;rw [a5];exact a2,z2k _,z2k _⟩,rfl,rfl,fun _=>ht⟩
     ·cases h1
theorem y6s{x n:Nat}(h:x<2^n):x^^^(2^n - 1)=2^n - (x+1):=by
 apply Nat.eq_of_testBit_eq;intro i;rw [Nat.testBit_xor,Nat.testBit_two_pow_sub_one,Nat.testBit_two_pow_sub_succ h];by_cases hi:i<n
 ·simp [hi]
 ·have:x.testBit i=false:=Nat.testBit_lt_two_pow (Nat.lt_of_lt_of_le h (Nat.pow_le_pow_right (by decide) (by omega)));simp [hi,this]
theorem q1U(v:Int)(h1: -9223372036854775808≤v)(h2:v≤9223372036854775807)(w:World):
  Calls Tryz.prog 211 #[.int .i64 v] w fun e w'=>e= .returned (.int .u64 (z3X v:Nat))∧w=w':=by
 have key:bits .xor .u64 (IntKind.u64.wrap (IntKind.u64.wrap v*2)) (IntKind.u64.wrap (v/9223372036854775808))=((z3X v:Nat):Int):=by
  by_cases hv:0≤v
  ·have e1:IntKind.u64.wrap (IntKind.u64.wrap v*2)=((z3X v:Nat):Int):=by rw [IntKind.wrap_u64,IntKind.wrap_u64];unfold z3X;rw [if_pos hv];omega
   have e2:IntKind.u64.wrap (v/9223372036854775808)=((0:Nat):Int):=by rw [IntKind.wrap_u64];omega
   rw [e1,e2,u64_xor_nat _ _ (y0b h1 h2) (by decide),Nat.xor_zero]
  ·obtain ⟨x,hx⟩:∃x:Nat,IntKind.u64.wrap (IntKind.u64.wrap v*2)=(x:Int)∧x<18446744073709551616∧18446744073709551616 - (x+1)=z3X v:=by
    refine ⟨(18446744073709551616+2*v).toNat,?_,by omega,?_⟩
    ·rw [IntKind.wrap_u64,IntKind.wrap_u64];omega
    ·unfold z3X;rw [if_neg hv];omega
   have e2:IntKind.u64.wrap (v/9223372036854775808)=((18446744073709551615:Nat):Int):=by rw [IntKind.wrap_u64];omega
   rw [hx.1,e2,u64_xor_nat _ _ hx.2.1 (by decide)];have:=y6s (n:=64) (x:=x) hx.2.1;rw [show (18446744073709551615:Nat)=2^64 - 1 from rfl,this];rw [show (2:Nat)^64=18446744073709551616 from rfl,hx.2.2]
 go_enter Tryz.func211,Tryz.ntmps211;go_wp2;go_ret;exact ⟨rfl,rfl⟩
theorem y9m(n:Int):Go.RowKit.wrap64 n=IntKind.i64.wrap n:=by unfold Go.RowKit.wrap64;exact (IntKind.wrap_i64 n).symm
theorem y4G(a:Nat)(ha:a<9223372036854775808):bits .xor .i64 (a:Int) (-1)= -(a:Int) - 1:=by
 show IntKind.i64.wrap ((BitVec.ofInt 64 (a:Int)^^^BitVec.ofInt 64 (-1)).toNat:Int)=_;rw [BitVec.toNat_xor,ofInt_u64 a (by omega),show (BitVec.ofInt 64 (-1)).toNat=2^64 - 1 from by decide,y6s (n:=64) (show a<2^64 by omega),IntKind.wrap_i64];omega
theorem y2O(a:Nat)(ha:a<9223372036854775808):bits .xor .i64 (a:Int) 0=(a:Int):=by
 show IntKind.i64.wrap ((BitVec.ofInt 64 (a:Int)^^^BitVec.ofInt 64 0).toNat:Int)=_;rw [BitVec.toNat_xor,ofInt_u64 a (by omega),show (BitVec.ofInt 64 0).toNat=0 from by decide,Nat.xor_zero,IntKind.wrap_i64];omega
theorem z4R(n:Nat)(h:n<18446744073709551616)(w:World):
  Calls Tryz.prog 314 #[.int .u64 (n:Nat)] w fun e w'=>e= .returned (.int .i64 (z2i n))∧w=w':=by
 have e0:bits .and .u64 (n:Int) 1=((n%2:Nat):Int):=by
  have:=u64_and_nat n 1 h (by decide);rw [Nat.and_one_is_mod] at this;exact this
 have e1:((n:Int)/2)=((n/2:Nat):Int):=by omega
 have hh:n/2<9223372036854775808:=by omega
 have key:bits .xor .i64 ((n:Int)/2) (IntKind.i64.wrap (-IntKind.i64.wrap (bits .and .u64 (n:Int) 1)))=z2i n:=by
  rw [e0,e1];unfold z2i;by_cases h2:n%2=0
  ·rw [if_pos h2,h2,show IntKind.i64.wrap (-IntKind.i64.wrap ((0:Nat):Int))=0 from by rw [IntKind.wrap_i64,IntKind.wrap_i64];rfl];exact y2O _ hh
  ·rw [if_neg h2,show n%2=1 by omega,show IntKind.i64.wrap (-IntKind.i64.wrap ((1:Nat):Int))= -1 from by rw [IntKind.wrap_i64,IntKind.wrap_i64];rfl];exact y4G _ hh
 clear e0 e1 hh;have HKEY:Hid (bits .xor .i64 ((n:Int)/2) (Go.RowKit.wrap64 (-Go.RowKit.wrap64 (bits .and .u64 (n:Int) 1)))=z2i n):=z7 (by rw [y9m,y9m];exact key);clear key;go_enter Tryz.func314,Tryz.ntmps314;go_wp2;go_ret;exact ⟨congrArg Ending.returned (congrArg (Value.int .i64) HKEY.out),rfl⟩
def z5U:Value:= .agg #[.int .u64 0, .int .i64 1, .int .i64 0, .int .u64 2, .int .i64 2, .int .i64 7, .int .u64 6, .int .i64 3, .int .i64 9, .int .u64 14, .int .i64 4, .int .i64 12, .int .u64 30, .int .i64 5, .int .i64 32, .int .u64 31, .int .i64 5, .int .i64 64]
def z3N:Array Value:= #[.int .u64 0, .int .i64 1, .int .i64 0, .int .u64 2, .int .i64 2, .int .i64 7, .int .u64 6, .int .i64 3, .int .i64 9, .int .u64 14, .int .i64 4, .int .i64 12, .int .u64 30, .int .i64 5, .int .i64 32, .int .u64 31, .int .i64 5, .int .i64 64]
theorem y4H(tmps:Array Value)(w:World)(h0:tmps.getD 0 undef= .pointer (some ⟨w.heap.size,0,none⟩)):
  (results Tryz.f260 tmps).run Tryz.prog (w.alloc (.cells z3N 405))= .ok z5U (w.alloc (.cells z3N 405)):=by
 have hg:=j8 w (.cells z3N 405);have hc:∀j u,z3N[j]? =some u→(w.alloc (.cells z3N 405)).cell? ⟨w.heap.size,j,none⟩=some u:=fun j u hu=>by rw [cell_of_row _ w.heap.size j _ _ (0,0) hg];exact hu
 simp only [Array.getD_eq_getD_getElem?] at h0;simp [results,Tryz.results260,go_sem,h0,z5U,hc 0 _ rfl,hc 1 _ rfl,hc 2 _ rfl,hc 3 _ rfl,hc 4 _ rfl,hc 5 _ rfl,hc 6 _ rfl,hc 7 _ rfl,hc 8 _ rfl,hc 9 _ rfl,hc 10 _ rfl,hc 11 _ rfl,hc 12 _ rfl,hc 13 _ rfl,hc 14 _ rfl,hc 15 _ rfl,hc 16 _ rfl,hc 17 _ rfl];simp [z3N]
theorem z6d(w:World):Calls Tryz.prog 260 #[] w fun e w'=>e= .returned z5U∧Below w.heap.size w w':=by
 go_enter Tryz.func260,Tryz.ntmps260;go_wp2;refine bodyPost_ret (v:=z5U) (y4H _ w (by rfl)) rfl ?_;exact ⟨rfl,q5 _ _⟩
def z7k(l:List Bool)(i:Nat)(w:World)(e:Ending)(w':World):Prop:=
 Below w.heap.size w w'∧((∃k r,z4c (l.drop i)=some (k,r)∧k≤5∧r=l.drop (l.length - r.length)∧r.length≤l.length∧e= .returned (.tuple #[.int .i64 (k:Nat), .int .i64 ((l.length - r.length:Nat):Int), .int .u16 0]))∨
  (z4c (l.drop i)=none∧e= .returned (.tuple #[.int .i64 0, .int .i64 0, .int .u16 10])))
theorem z8J{l:List Bool}{i:Nat}:z2r l i 1=(if l.getD i false then 1 else 0)∧z1S l i 1=(if i<l.length then 0 else 10):=by
 unfold z2r z1S;by_cases h:i<l.length
 ·have h1:i+1≤l.length:=h;simp only [if_pos h1,if_pos h];refine ⟨?_,trivial⟩;have e:(l.drop i).take 1= [l[i]]:=by rw [List.drop_eq_getElem_cons h];rfl
  rw [e];simp only [List.getD_eq_getElem?_getD,List.getElem?_eq_getElem h,Option.getD_some];cases l[i]<;>decide
 ·have h1:¬i+1≤l.length:=h;simp only [if_neg h1,if_neg h,z5f (show l.length≤i by omega)];exact ⟨rfl,trivial⟩
theorem z8b:∀(k:Nat),k≤5→∀(l:List Bool),(∀j,j<k→l[j]? =some true)→(k=5→z4c l=some (5,l.drop 5))∧(k<5→l[k]? =some false→z4c l=some (k,l.drop (k+1)))∧(k<5→l[k]? =none→z4c l=none):=by
 intro k hk l h
 match k,hk with
 | 0,_=>
  refine ⟨fun h=>by omega,fun _ h0=>?_,fun _ h0=>?_⟩
  ·match l,h0 with
   | false::r,_=>rfl
  ·match l,h0 with
   | [],_=>rfl
 | 1,_=>
  have h1:=h 0 (by omega);refine ⟨fun h=>by omega,fun _ h0=>?_,fun _ h0=>?_⟩
  ·match l,h1,h0 with
   | true::false::r,_,_=>rfl
  ·match l,h1,h0 with
   | [true],_,_=>rfl
 | 2,_=>
  have h1:=h 0 (by omega);have h2:=h 1 (by omega);refine ⟨fun h=>by omega,fun _ h0=>?_,fun _ h0=>?_⟩
  ·match l,h1,h2,h0 with
   | true::true::false::r,_,_,_=>rfl
  ·match l,h1,h2,h0 with
   | [true,true],_,_,_=>rfl
 | 3,_=>
  have h1:=h 0 (by omega);have h2:=h 1 (by omega);have h3:=h 2 (by omega);refine ⟨fun h=>by omega,fun _ h0=>?_,fun _ h0=>?_⟩
  ·match l,h1,h2,h3,h0 with
   | true::true::true::false::r,_,_,_,_=>rfl
  ·match l,h1,h2,h3,h0 with
   | [true,true,true],_,_,_,_=>rfl
 | 4,_=>
  have h1:=h 0 (by omega);have h2:=h 1 (by omega);have h3:=h 2 (by omega);have h4:=h 3 (by omega);refine ⟨fun h=>by omega,fun _ h0=>?_,fun _ h0=>?_⟩
  ·match l,h1,h2,h3,h4,h0 with
   | true::true::true::true::false::r,_,_,_,_,_=>rfl
  ·match l,h1,h2,h3,h4,h0 with
   | [true,true,true,true],_,_,_,_,_=>rfl
 | 5,_=>
  have h1:=h 0 (by omega);have h2:=h 1 (by omega);have h3:=h 2 (by omega);have h4:=h 3 (by omega);have h5:=h 4 (by omega);refine ⟨fun _=>?_,fun h=>by omega,fun h=>by omega⟩
  match l,h1,h2,h3,h4,h5 with
  | true::true::true::true::true::r,_,_,_,_,_=>rfl
theorem y9H(a:Option Addr)(n c:Nat)(l:List Bool)(b:List UInt8)(i:Nat)(w:World)(h:z0o w a n c l b)(hl:l.length≤549755813888)(hi:i≤l.length):
  Calls Tryz.prog 313 #[.agg #[.slice a n c, .int .i64 l.length], .int .i64 (i:Nat)] w (z7k l i w):=by
 obtain ⟨N,hN⟩:∃N,N=l.length:=⟨_,rfl⟩;rw [←hN];obtain ⟨W1,hW1⟩:∃W1,W1=w.alloc (.cells #[.slice a n c, .int .i64 (N:Nat)] 48):=⟨_,rfl⟩;have hb1:Below w.heap.size w W1:=by rw [hW1];exact q5 _ _
 have hg1:=j8 w (.cells #[.slice a n c, .int .i64 (N:Nat)] 48);rw [←hW1] at hg1;have hlt1:w.heap.size<W1.heap.size:=(Array.getElem?_eq_some_iff.1 hg1).1;have hcl:Hid (∀w',Below W1.heap.size W1 w'→w'.cell? ⟨w.heap.size,0,none⟩=some (.slice a n c)∧w'.cell? ⟨w.heap.size,1,none⟩=some (.int .i64 (N:Nat))):=z7 fun w' hw=>by
  have h1:=(hw.block w.heap.size hlt1).trans hg1;constructor<;>simp [World.cell?,h1]
 have HW:=z7 hW1;have HN:=z7 hN;have HB1:=z7 hb1;have HX:=z7 (h.low hb1);have hNl:N≤549755813888:=by omega
 have hiN:i≤N:=by omega
 clear hW1 h hN hb1 hg1 hl hi;go_enter Tryz.func313,Tryz.ntmps313;go_upto_region 1 with fail
 rw [←HW.out];go_wp2_with fail;go_loopw [1,10] (fun pv kv wr=>∃p k:Nat,pv= .int .i64 (p:Nat)∧kv= .int .i64 (k:Nat)∧k≤5∧p≤N∧Hid (p=i+k)∧Hid (∀j,j<k→(l.drop i)[j]? =some true)∧Hid (Below W1.heap.size W1 wr)) (fun _ kv _=>match kv with | .int _ x=>5 - x.toNat | _=>0)
 case atStart=>exact ⟨i,0,rfl,rfl,by omega,hiN,z7 rfl,z7 (fun j hj=>by omega),z7 (Below.refl _ _)⟩
 case round=>
  obtain ⟨p,k,rfl,rfl,hk,hpN,hp,hones,hb⟩:=hrel;obtain ⟨y0,y1⟩:=hcl.out wr hb.out;have hdr:Hid ((l.drop i)[k]? =l[p]?):=z7 (by rw [List.getElem?_drop,hp.out]);have hend:Hid (∀w',Below wr.heap.size wr w'→Below w.heap.size w w'):=z7 fun w' hw'=>HB1.out.trans ((hb.out.trans (hw'.mono hb.out.size)).mono HB1.out.size);have hlen:Hid (∀m,l.drop i=(l.drop i).take m++(l.drop i).drop m):=z7 fun m=>(List.take_append_drop m _).symm;by_cases hk5:k<5
  ·have d0:(k:Int)<5:=by omega
   have hwk:IntKind.i64.wrap ((k:Int)+1)=((k+1:Nat):Int):=z0n (by omega) (by omega);obtain ⟨k',hk'⟩:∃k',k'=k+1:=⟨_,rfl⟩;obtain ⟨p',hp'⟩:∃p',p'=p+1:=⟨_,rfl⟩;have hwp:IntKind.i64.wrap ((p:Int)+1)=(p':Int):=by rw [z0n (by omega) (by omega)];omega
   rw [←hk'] at hwk;have hg:=y0B a n c l b p 1 wr (HX.out.low hb.out) (by have:=HN.out;omega) (by omega) (by decide);rw [z8J.1,z8J.2,←HN.out] at hg;by_cases hpl:p<N
   ·rw [if_pos hpl] at hg;obtain ⟨x,hx⟩:∃x,x=l.getD p false:=⟨_,rfl⟩;rw [←hx] at hg;have hxl:l[p]? =some x:=by rw [hx];simp [List.getD_eq_getElem?_getD,show p<l.length by have:=HN.out;omega]
    cases x with
    | false=>
     have hfin:Hid (∀w',Below wr.heap.size wr w'→z7k l i w (.returned (.tuple #[.int .i64 (k:Nat), .int .i64 (p':Nat), .int .u16 0])) w'):=z7 fun w' hw'=>by
      have h9:=(z8b k hk (l.drop i) hones.out).2.1 hk5 (by rw [hdr.out,hxl]);have hpe:=hp.out;have hNN:=HN.out;refine ⟨hend.out w' hw', .inl ⟨k,_,h9,hk,?_,(by simp<;>omega),?_⟩⟩
      ·rw [List.drop_drop];congr 1;simp;try omega
      ·rw [List.length_drop,List.length_drop,show l.length - (l.length - i - (k+1))=p' by omega]
     have HG:=z7 hg;clear hg hx hxl hk' hp';go_wp2_with fail;refine HG.out.mono ?_;rintro e w2 ⟨rfl,hb2⟩;have HF:=z7 (hfin.out w2 hb2);clear hb2;go_wp2;go_ret3
     exact HF.out
    | true=>
     have hnx:Hid (∀j,j<k'→(l.drop i)[j]? =some true):=z7 fun j hj=>by
      by_cases hjk:j<k
      ·exact hones.out j hjk
      ·obtain rfl:j=k:=by omega
       rw [hdr.out,hxl]
     have hpp:Hid (p'=i+k'):=z7 (by have:=hp.out;omega);have hk'5:k'≤5∧p'≤N∧k<k':=by omega
     have HG:=z7 hg;clear hg hx hxl hk' hp';go_wp2_with fail;refine HG.out.mono ?_;rintro e w2 ⟨rfl,hb2⟩;have HB2:=z7 (hb.out.trans (hb2.mono hb.out.size));clear hb2;go_wp2;exact ⟨⟨p',k',rfl,rfl,hk'5.1,hk'5.2.1,hpp,hnx,HB2⟩,by show 5 - (k':Int).toNat<5 - (k:Int).toNat;omega⟩
   ·rw [if_neg hpl,show l.getD p false=false from z5f (by have:=HN.out;omega)] at hg;have hfin:Hid (∀w',Below wr.heap.size wr w'→z7k l i w (.returned (.tuple #[.int .i64 0, .int .i64 0, .int .u16 10])) w'):=z7 fun w' hw'=>by
     have h9:=(z8b k hk (l.drop i) hones.out).2.2 hk5 (by rw [hdr.out];exact List.getElem?_eq_none (by have:=HN.out;omega));exact ⟨hend.out w' hw', .inr ⟨h9,rfl⟩⟩
    have HG:=z7 hg;clear hg hk' hp';go_wp2_with fail;refine HG.out.mono ?_;rintro e w2 ⟨rfl,hb2⟩;have HF:=z7 (hfin.out w2 hb2);clear hb2;go_wp2;go_ret3
    exact HF.out
  ·obtain rfl:k=5:=by omega
   have hfin:Hid (z7k l i w (.returned (.tuple #[.int .i64 5, .int .i64 (p:Nat), .int .u16 0])) wr):=z7 (by
    have h9:=(z8b 5 hk (l.drop i) hones.out).1 rfl;have hpe:=hp.out;have hNN:=HN.out;refine ⟨hend.out wr (Below.refl _ _), .inl ⟨5,_,h9,hk,?_,(by simp<;>omega),?_⟩⟩
    ·rw [List.drop_drop];congr 1;simp;try omega
    ·rw [List.length_drop,List.length_drop,show l.length - (l.length - i - 5)=p by omega];rfl)
   go_wp2;go_ret3
   exact hfin.out
def q0T:Go.Shelf.Ren:=⟨fun | 264=>305 | n=>n,fun | 53=>45 | 46=>228 | n=>n,fun | n=>n⟩
theorem q3M:Go.Proofs.Lays.n264 Tryz.prog q0T:={
 mixed:=by kernel_rfl
 f264:=Tryz.func305.trans (congrArg some (by kernel_rfl))
 t46:=Tryz.underlying228
 a46:=Tryz.isAgg228
 z46:=Tryz.sizeOf228
 v46:=Tryz.zeroValue228
 t53:=Tryz.underlying45
 a53:=Tryz.isAgg45
 z53:=Tryz.sizeOf45
 v53:=Tryz.zeroValue45
}
def q1T:Go.Shelf.Ren:=⟨fun | 29=>302 | n=>n,fun | 22=>45 | 3=>3 | 4=>4 | 25=>228 | 54=>473 | 0=>0 | 5=>5 | n=>n,fun | 1=>0 | n=>n⟩
theorem tzL:Go.Proofs.Lays7.n29 Tryz.prog q1T:={
 mixed:=by kernel_rfl
 f29:=Tryz.func302.trans (congrArg some (by kernel_rfl))
 t0:=Tryz.underlying0
 a0:=Tryz.isAgg0
 z0:=Tryz.sizeOf0
 v0:=Tryz.zeroValue0
 i0:=by kernel_rfl
 t3:=Tryz.underlying3
 a3:=Tryz.isAgg3
 z3:=Tryz.sizeOf3
 v3:=Tryz.zeroValue3
 i3:=by kernel_rfl
 t4:=Tryz.underlying4
 a4:=Tryz.isAgg4
 z4:=Tryz.sizeOf4
 v4:=Tryz.zeroValue4
 i4:=by kernel_rfl
 t5:=Tryz.underlying5
 a5:=Tryz.isAgg5
 z5:=Tryz.sizeOf5
 v5:=Tryz.zeroValue5
 i5:=by kernel_rfl
 t22:=Tryz.underlying45
 a22:=Tryz.isAgg45
 z22:=Tryz.sizeOf45
 v22:=Tryz.zeroValue45
 i22:=by kernel_rfl
 t25:=Tryz.underlying228
 a25:=Tryz.isAgg228
 z25:=Tryz.sizeOf228
 v25:=Tryz.zeroValue228
 i25:=by kernel_rfl
 t54:=Tryz.underlying473
 a54:=Tryz.isAgg473
 z54:=Tryz.sizeOf473
 g1:=by kernel_rfl
}
def q1K:Go.Shelf.Ren:=⟨fun | 134=>301 | 129=>238 | n=>n,fun | 53=>45 | 3=>3 | 4=>4 | 46=>228 | 5=>5 | 9=>9 | n=>n,fun | n=>n⟩
theorem lzL:Go.Proofs.Lays.n134 Tryz.prog q1K:={
 mixed:=by kernel_rfl
 f129:=Tryz.func238.trans (congrArg some (by kernel_rfl))
 f134:=Tryz.func301.trans (congrArg some (by kernel_rfl))
 t3:=Tryz.underlying3
 a3:=Tryz.isAgg3
 z3:=Tryz.sizeOf3
 v3:=Tryz.zeroValue3
 t4:=Tryz.underlying4
 a4:=Tryz.isAgg4
 z4:=Tryz.sizeOf4
 v4:=Tryz.zeroValue4
 t5:=Tryz.underlying5
 a5:=Tryz.isAgg5
 z5:=Tryz.sizeOf5
 v5:=Tryz.zeroValue5
 t9:=Tryz.underlying9
 a9:=Tryz.isAgg9
 z9:=Tryz.sizeOf9
 v9:=Tryz.zeroValue9
 t46:=Tryz.underlying228
 a46:=Tryz.isAgg228
 z46:=Tryz.sizeOf228
 v46:=Tryz.zeroValue228
 t53:=Tryz.underlying45
 a53:=Tryz.isAgg45
 z53:=Tryz.sizeOf45
 v53:=Tryz.zeroValue45
}
theorem q0R:∀(f x:Nat),x<2^f→Lib.bitLenAux f x=bl x
 | 0,x,h=>by
  obtain rfl:x=0:=by simpa using h
  rfl
 | f+1,x,h=>by
  unfold Lib.bitLenAux;by_cases h0:x=0
  ·rw [if_pos h0,h0];rfl
  ·rw [if_neg h0,q0R f (x/2) (by rw [Nat.pow_succ] at h;omega)];unfold bl;rw [if_neg h0];by_cases h1:x/2=0
   ·rw [if_pos h1];obtain rfl:x=1:=by omega
    rfl
   ·rw [if_neg h1,Nat.log2_def x,if_pos (by omega)];omega
theorem y7c{x:Nat}(h:x<18446744073709551616):Lib.bitLen x=bl x:=q0R 64 x h
def z1m(w:World):Prop:=TabAt 0 Lib.deBruijn64tab w
theorem z1m.low{w w':World}(h:z1m w)(hb:Below w.heap.size w w'):z1m w':=fun j hj=>by
 have h1:=h j hj;have hlt:0<w.heap.size:=by
  by_cases hx:0<w.heap.size
  ·exact hx
  ·simp [World.cell?,Array.getElem?_eq_none (Nat.le_of_not_lt hx)] at h1
 exact (hb.cell (p:=⟨0,j,none⟩) hlt).trans h1
theorem y9o(n:Nat)(h:n<18446744073709551616)(w:World):Calls Tryz.prog 301 #[.int .u64 (n:Nat)] w fun e w'=>e= .returned (.int .i64 (lz n:Nat))∧w'=w:=by
 have h1:=Any.bits_LeadingZeros64 lzL (n:Int) w (by omega) (by omega);rw [Int.toNat_natCast,y7c h] at h1;have h2:=q2n h;have e:(64 - (bl n:Int))=((lz n:Nat):Int):=by unfold lz;omega
 rw [e] at h1;exact h1
theorem q2p(n:Nat)(h:n<18446744073709551616)(w:World)(hT:z1m w):Calls Tryz.prog 302 #[.int .u64 (n:Nat)] w fun e w'=>e= .returned (.int .i64 (tz n:Nat))∧w'=w:=
 Any7.bits_TrailingZeros64 tzL n h w fun _=>hT
theorem q3o(x y:Nat)(hx:x<18446744073709551616)(hy:y<18446744073709551616)(w:World):Calls Tryz.prog 305 #[.int .u64 (x:Nat), .int .u64 (y:Nat)] w fun e w'=>e= .returned (.tuple #[.int .u64 ((x*y/18446744073709551616:Nat):Int), .int .u64 ((x*y%18446744073709551616:Nat):Int)])∧w'=w:=
 Any.bits_Mul64 q3M x y hx hy w
end Go.Proofs.YtfcnapnopdomhaaGreatDoor

/- The plain law of check sums. -/
import Derived.Test.YtabnnclcpkdkeaaGreatDoorRows
namespace Go.Proofs.YtabnnclcpkdkeaaGreatDoor
set_option linter.all false
set_option maxRecDepth 100000
set_option maxHeartbeats 0
def y5L:Nat:=0x82f63b78
def step1(c:Nat):Nat:=c/2^^^(if c%2=1 then y5L else 0)
def z3c:Nat->Nat->Nat
 | 0,c=>c
 | n+1,c=>z3c n (step1 c)
def upd(c:Nat)(b:UInt8):Nat:=z3c 8 (c^^^b.toNat)
def z4g(c:Nat)(l:List UInt8):Nat:=l.foldl upd c
def z3e(l:List UInt8):Nat:=4294967295^^^z4g 4294967295 l
theorem y2d{c:Nat}(h:c<2^32):step1 c<2^32:=by
 unfold step1;refine Nat.xor_lt_two_pow (by omega) ?_;split<;>simp[y5L]
theorem y2J:∀(n:Nat) {c:Nat},c<2^32->z3c n c<2^32
 | 0,_,h=>h
 | n+1,_,h=>y2J n (y2d h)
theorem z8l:∀(n c:Nat),z3c (n+1) c=step1 (z3c n c)
 | 0,_=>rfl
 | n+1,c=>by rw[z3c,z8l n,z3c]
theorem y9u{c:Nat}(b:UInt8)(h:c<2^32):upd c b<2^32:=
 y2J 8 (Nat.xor_lt_two_pow h (by have:=b.toNat_lt;omega))
theorem y3a:∀(l:List UInt8) {c:Nat},c<2^32->z4g c l<2^32
 | [],_,h=>h
 | b::l,_,h=>y3a l (y9u b h)
theorem z8t(l:List UInt8):z3e l<2^32:=Nat.xor_lt_two_pow (by omega) (y3a l (by omega))
theorem z7T(c:Nat)(a b:List UInt8):z4g c (a++b)=z4g (z4g c a) b:=by simp[z4g]
theorem q4G(x y:Nat):(x^^^y)/2=x/2^^^y/2:=by
 apply Nat.eq_of_testBit_eq;intro i;simp[Nat.testBit_div_two]
theorem q6v(x y:Nat):(x^^^y)%2=(x%2+y%2)%2:=by
 have h:((x^^^y).testBit 0)=(x.testBit 0^^y.testBit 0):=Nat.testBit_xor ..;simp only[Nat.testBit_zero]at h;have A:=Nat.mod_two_eq_zero_or_one x;have I:=Nat.mod_two_eq_zero_or_one y;have J:=Nat.mod_two_eq_zero_or_one (x^^^y);rcases A with A|A<;>rcases I with I|I<;>rcases J with J|J<;>simp[A,I,J]at h ⊢
theorem q2a(x y:Nat):step1 (x^^^y)=step1 x^^^step1 y:=by
 unfold step1;rw[q4G,q6v];have A:=Nat.mod_two_eq_zero_or_one x;have I:=Nat.mod_two_eq_zero_or_one y;have e:x/2^^^y5L^^^(y/2^^^y5L)=x/2^^^y/2:=by
  rw[Nat.xor_comm (y/2),Nat.xor_assoc,<-Nat.xor_assoc y5L,Nat.xor_self,Nat.zero_xor]
 rcases A with A|A<;>rcases I with I|I<;>simp only[A,I]<;>simp only[Nat.zero_add,Nat.add_zero,Nat.reduceAdd,Nat.reduceMod,if_true,Nat.xor_zero]<;>simp
 .rw[Nat.xor_assoc]
 .rw[Nat.xor_assoc,Nat.xor_assoc,Nat.xor_comm y5L]
 exact e.symm
theorem y3G:∀(n x y:Nat),z3c n (x^^^y)=z3c n x^^^z3c n y
 | 0,_,_=>rfl
 | n+1,x,y=>by rw[z3c,q2a,y3G n];rfl
theorem q0Z(x:Nat):step1 (2*x)=x:=by
 unfold step1;rw[if_neg (by omega),Nat.xor_zero];omega
theorem y4p:∀(n x:Nat),z3c n (2^n*x)=x
 | 0,x=>by simp[z3c]
 | n+1,x=>by rw[z3c,Nat.pow_succ,Nat.mul_comm (2^n),Nat.mul_assoc,q0Z,y4p n]
theorem q1Y{c:Nat}(b:UInt8):c/256^^^z3c 8 (c%256^^^b.toNat)=upd c b:=by
 unfold upd;have e:c^^^b.toNat=(2^8*(c/256))^^^(c%256^^^b.toNat):=by
  rw[<-Nat.xor_assoc]
  congr 1
  have A:2^8*(c/256)^^^c%256=2^8*(c/256)+c%256:=by
   rw[Nat.two_pow_add_eq_or_of_lt (i:=8) (by omega) (c/256)];apply Nat.eq_of_testBit_eq;intro i;simp only[Nat.testBit_xor,Nat.testBit_or];by_cases I:i<8
   .have:(2^8*(c/256)).testBit i=false:=(by rw[Nat.testBit_two_pow_mul];simp;omega);rw[this];simp
   have:(c%256).testBit i=false:=Nat.testBit_lt_two_pow (Nat.lt_of_lt_of_le (Nat.mod_lt _ (by omega)) (by exact Nat.pow_le_pow_right (n:=2) (by omega) (by omega:8<=i)));rw[this];simp
  omega
 rw[e,y3G 8 (2^8*(c/256)),y4p]
def be4(n:Nat):List UInt8:= [UInt8.ofNat (n/16777216),UInt8.ofNat (n/65536),UInt8.ofNat (n/256),UInt8.ofNat n]
def unB(l:List UInt8):Nat:=l.foldl (fun n c=>n*256+c.toNat) 0
theorem z4W(n:Nat):(be4 n).length=4:=rfl
theorem z5f{n:Nat}(h:n<4294967296):unB (be4 n)=n:=by
 simp only[unB,be4,List.foldl_cons,List.foldl_nil,UInt8.toNat_ofNat'];omega
theorem q4L(a b c d:UInt8):unB [a,b,c,d]=((a.toNat*256+b.toNat)*256+c.toNat)*256+d.toNat:=by simp[unB]
theorem y5Y(a b c d:UInt8):unB [a,b,c,d]<4294967296:=by
 rw[q4L];have:=a.toNat_lt;have:=b.toNat_lt;have:=c.toNat_lt;have:=d.toNat_lt;omega
theorem q2O(l:List UInt8)(c:UInt8):unB (l++ [c])=unB l*256+c.toNat:=by simp[unB]
theorem q3d{l:List UInt8}(h:l.length=4):∃a b c d,l= [a,b,c,d]:=by
 match l,h with
 | [a,b,c,d],_=>exact⟨a,b,c,d,rfl⟩
theorem y2j{l:List UInt8}(h:l.length=4):unB l<4294967296:=by
 obtain⟨a,b,c,d,rfl⟩:=q3d h;exact y5Y a b c d
structure Fr where
 kind:Nat
 epoch:Nat
 series:Nat
 chunk:Nat
 bits:Nat
 cnt:Nat
 count:Nat
 closed:Bool
 sum:Nat
 b:List UInt8
 n:Int
structure Fr.Ok (f:Fr):Prop where
 kind:f.kind<256
 epoch:f.epoch<4294967296
 series:f.series<4294967296
 chunk:f.chunk<4294967296
 bits:f.bits<4294967296
 cnt:f.cnt<4294967296
 count:f.count<4294967296
 sum:f.sum<18446744073709551616
 lo: -9223372036854775808<=f.n
 hi:f.n<=9223372036854775807
def z2C(b:List UInt8)(n:Int):Bool:=
 decide (0<=n)&&(decide ((b.length:Int)=n/8+min (n%8) 1)&&(decide (n%8=0) || decide (((b.getD (b.length - 1) 0).toNat&&&(255>>>(n%8).toNat))=0)))
def z5E(f:Fr):Bool:=decide (f.n=0)&&decide (f.b.length=0)
def z5B(f:Fr):Bool:=z2C f.b f.n&&(decide (0<f.n)&&(decide (f.cnt<f.count)&&decide (f.b.length<=4052)))
def z2l(f:Fr):Bool:=
 if f.kind=1 then z5E f&&(decide (f.series=0)&&(decide (f.chunk=0/\f.bits=0/\f.cnt=0)&&(decide (f.count=0)&&(!f.closed&&decide (f.sum=0)))))
 else if f.kind=4\/f.kind=5 then z5E f&&(decide (f.count=0)&&!f.closed)
 else if f.kind=3 then decide (f.bits=0/\f.cnt=0/\f.sum=0)&&z5B f
 else if f.kind=2 then z5B f
 else false
def y1J(b:Bool):UInt8:=if b then 1 else 0
def z1S(f:Fr):List UInt8:=
 [0x44,0x59,UInt8.ofNat f.kind]++be4 f.epoch++be4 f.series++be4 f.chunk++be4 f.bits++be4 f.cnt++be4 f.count++ [y1J f.closed]++be4 (f.sum/4294967296)++be4 (f.sum%4294967296)++be4 (f.n%4294967296).toNat
def z2J(f:Fr):List UInt8:=z1S f++f.b
def z0L(f:Fr):List UInt8:=z2J f++be4 (z3e (z2J f))
theorem z2w(f:Fr):(z1S f).length=40:=rfl
theorem z6P(f:Fr):(z0L f).length=44+f.b.length:=by
 simp only[z0L,z2J,List.length_append,z2w,z4W];omega
def part(p:List UInt8):List UInt8:=
 if h:254<=p.length then 255::(p.take 254++part (p.drop 254))else UInt8.ofNat (p.length+1)::p
termination_by p.length
decreasing_by simp;omega
theorem z8H{p:List UInt8}(h:254<=p.length):part p=255::(p.take 254++part (p.drop 254)):=by rw[part,dif_pos h]
theorem z7x{p:List UInt8}(h:p.length<254):part p=UInt8.ofNat (p.length+1)::p:=by rw[part,dif_neg (by omega)]
def z1G:List UInt8->List (List UInt8)
 | []=> [[]]
 | c::l=>if c=0 then []::z1G l else(match z1G l with | []=> [[c]]|p::ps=>(c::p)::ps)
theorem z5S:∀l,z1G l≠ []
 | []=>by simp[z1G]
 | c::l=>by
  unfold z1G;split
  .simp
  split<;>simp
def z6p(b:List UInt8):List UInt8:=(z1G b).flatMap part
def z0A(b:List UInt8):List UInt8:=z6p b++ [0]
def NoZ(l:List UInt8):Prop:=∀c∈l,c≠0
theorem y5D(l:List UInt8):z1G (0::l)= []::z1G l:=by simp[z1G]
theorem y2w:∀{o:List UInt8},NoZ o->z1G o= [o]
 | [],_=>rfl
 | c::o,h=>by
  have A:=h c (by simp);have J:=y2w (o:=o) fun x I=>h x (by simp[I]);unfold z1G;rw[if_neg A,J]
theorem y2M:∀{o:List UInt8},NoZ o->∀(r p:List UInt8) (A:List (List UInt8)),z1G r=p::A->z1G (o++r)=(o++p)::A
 | [],_,r,p,A,h=>h
 | c::o,ho,r,p,A,h=>by
  have I:=ho c (by simp);have L:=y2M (o:=o) (fun x J=>ho x (by simp[J])) r p A h;rw[List.cons_append];show(if c=0 then []::z1G (o++r)else _)=_;rw[if_neg I,L];rfl
theorem z8S:∀(b:List UInt8),∀p∈z1G b,NoZ p
 | [],p,h=>by simp[z1G]at h;subst h;intro c J;cases J
 | c::l,p,h=>by
  have I:=z8S l;unfold z1G at h;split at h
  .rcases List.mem_cons.1 h with h|h
   .subst h;intro x A;cases A
   exact I p h
  rename_i J;split at h
  .rename_i e;exact absurd e (z5S l)
  rename_i q L e;rw[e]at I;rcases List.mem_cons.1 h with h|h
  .subst h;intro x A;rcases List.mem_cons.1 A with A|A
   .subst A;exact J
   exact I q (by simp) x A
  exact I p (by simp[h])
def z7X:List (List UInt8)->List UInt8
 | []=> []
 | [p]=>p
 | p::q::ps=>p++0::z7X (q::ps)
theorem y2r{p:List UInt8}{A:List (List UInt8)}(h:A≠ []):z7X (p::A)=p++0::z7X A:=by
 cases A with
 | nil=>exact absurd rfl h
 | cons q A=>rfl
theorem y9m(c:UInt8)(p:List UInt8)(A:List (List UInt8)):z7X ((c::p)::A)=c::z7X (p::A):=by
 cases A<;>rfl
theorem z9j:∀b:List UInt8,z7X (z1G b)=b
 | []=>rfl
 | c::l=>by
  have A:=z9j l;unfold z1G;split
  .rename_i I;rw[y2r (z5S l),A,I];rfl
  split
  .rename_i e;exact absurd e (z5S l)
  rename_i q J e;rw[e]at A;rw[y9m,A]
theorem y9O(p:List UInt8):part p≠ []:=by
 unfold part;split<;>simp
theorem z6q{n:Nat}(h:n<256):(UInt8.ofNat n).toNat=n:=by rw[UInt8.toNat_ofNat'];omega
theorem y7A:∀(n:Nat) {p:List UInt8},p.length<=n->NoZ p->NoZ (part p)
 | n,p,hn,h=>by
  by_cases I:254<=p.length
  .rw[z8H I];cases n with
   | zero=>omega
   | succ n=>
    have J:=y7A n (p:=p.drop 254) (by simp;omega) fun c A=>h c (List.mem_of_mem_drop A);intro c A;rcases List.mem_cons.1 A with A|A
    .subst A;decide
    rcases List.mem_append.1 A with A|A
    .exact h c (List.mem_of_mem_take A)
    exact J c A
  rw[z7x (by omega)];intro c A;rcases List.mem_cons.1 A with A|A
  .subst A;intro e;have:=congrArg UInt8.toNat e;rw[z6q (by omega)]at this;simp at this
  exact h c A
theorem q1g(b:List UInt8):NoZ (z6p b):=by
 intro c A;obtain⟨p,I,A⟩:=List.mem_flatMap.1 A;exact y7A _ (Nat.le_refl _) (z8S b p I) c A
def z3H(s:List UInt8)(long:Bool):Option (List UInt8):=
 match s with
 | []=>if long then none else some []
 | c::l=>
  if h:0<c.toNat/\c.toNat<=l.length+1 then
   (z3H (l.drop (c.toNat - 1)) (c==255)).map fun r=>l.take (c.toNat - 1)++((if c≠255/\l.drop (c.toNat - 1)≠ []then [0]else [])++r)
  else none
termination_by s.length
decreasing_by simp;omega
theorem y0Q(A:Bool):z3H [] A=if A then none else some []:=by rw[z3H]
theorem z9m(c:UInt8)(l:List UInt8)(A:Bool)(h:0<c.toNat/\c.toNat<=l.length+1):
  z3H (c::l) A=(z3H (l.drop (c.toNat - 1)) (c==255)).map fun r=>l.take (c.toNat - 1)++((if c≠255/\l.drop (c.toNat - 1)≠ []then [0]else [])++r):=by rw[z3H,dif_pos h]
theorem q4n(c:UInt8)(l:List UInt8)(A:Bool)(h:¬(0<c.toNat/\c.toNat<=l.length+1)):z3H (c::l) A=none:=by rw[z3H,dif_neg h]
theorem y0p:∀(n:Nat) (p rest:List UInt8) (A:Bool),p.length<=n->z3H (part p++rest) A=(z3H rest false).map fun r=>p++((if rest≠ []then [0]else [])++r)
 | n,p,rest,A,hn=>by
  by_cases L:254<=p.length
  .cases n with
   | zero=>omega
   | succ n=>
    rw[z8H L,List.cons_append,z9m _ _ _ (by simp;omega)];have e:(255:UInt8).toNat - 1=254:=rfl;have hd:(p.take 254++part (p.drop 254)++rest).drop 254=part (p.drop 254)++rest:=by
     rw[List.append_assoc,List.drop_append_of_le_length (by simp;omega),List.drop_of_length_le (by simp;omega),List.nil_append]
    have N:(p.take 254++part (p.drop 254)++rest).take 254=p.take 254:=by
     rw[List.append_assoc,List.take_append_of_le_length (by simp;omega),List.take_of_length_le (by simp;omega)]
    rw[e,hd,N,y0p n (p.drop 254) rest _ (by simp;omega)];simp only[ne_eq,not_true_eq_false,false_and,if_false,List.nil_append,Option.map_map]
    congr 1
    funext r
    simp only[Function.comp];rw[<-List.append_assoc,List.take_append_drop]
  have J:(UInt8.ofNat (p.length+1)).toNat=p.length+1:=z6q (by omega);have I:UInt8.ofNat (p.length+1)≠255:=fun e=>by
   have:=congrArg UInt8.toNat e;rw[J]at this;simp at this;omega
  have hb:(UInt8.ofNat (p.length+1)==255)=false:=(by simpa using I);rw[z7x (by omega),List.cons_append,z9m _ _ _ (by rw[J];simp)];have e:(UInt8.ofNat (p.length+1)).toNat - 1=p.length:=(by omega);rw[e,hb,List.drop_left' rfl,List.take_left' rfl];simp only[ne_eq,I,not_false_eq_true,true_and]
theorem y2D:∀(I:List (List UInt8)) (A:Bool),I≠ []->z3H (I.flatMap part) A=some (z7X I)
 | [],_,h=>absurd rfl h
 | [p],A,_=>by
  have:=y0p p.length p [] A (Nat.le_refl _);simpa[y0Q,z7X]using this
 | p::q::I,A,_=>by
  have L:=y2D (q::I) false (by simp);have J:(q::I).flatMap part≠ []:=by
   rw[List.flatMap_cons];intro e;exact y9O q (List.append_eq_nil_iff.1 e).1
  rw[List.flatMap_cons,y0p p.length p _ A (Nat.le_refl _),L,Option.map_some,if_pos J];rfl
theorem q1K(b:List UInt8):z3H (z6p b) false=some b:=by
 unfold z6p;rw[y2D _ _ (z5S b),z9j]
theorem q5p(b:List UInt8):z6p b≠ []:=by
 unfold z6p;cases e:z1G b with
 | nil=>exact absurd e (z5S b)
 | cons p ps=>
  rw[List.flatMap_cons];intro h;exact y9O p (List.append_eq_nil_iff.1 h).1
theorem z6G:∀(n:Nat) (p:List UInt8),p.length<=n->(part p).length=p.length+1+p.length/254
 | n,p,hn=>by
  by_cases A:254<=p.length
  .cases n with
   | zero=>omega
   | succ n=>
    rw[z8H A,List.length_cons,List.length_append,z6G n (p.drop 254) (by simp;omega)];simp;omega
  rw[z7x (by omega),List.length_cons];omega
theorem z9N:∀A:List (List UInt8),A≠ []->(A.flatMap part).length<=(z7X A).length+1+(z7X A).length/254
 | [],h=>absurd rfl h
 | [p],_=>by simp[z7X,z6G p.length p (Nat.le_refl _)]
 | p::q::A,_=>by
  have I:=z9N (q::A) (by simp);rw[List.flatMap_cons,List.length_append,z6G p.length p (Nat.le_refl _),y2r (by simp),List.length_append,List.length_cons];omega
theorem z4u(b:List UInt8):(z0A b).length<=b.length+b.length/254+2:=by
 have:=z9N _ (z5S b);rw[z9j]at this;unfold z0A z6p;rw[List.length_append,show([0]:List UInt8).length=1 from rfl];omega

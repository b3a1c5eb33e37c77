/-
  Laws on memory, over whatever program: what a slice reads as, and append of it onto a slice of the call's own.
-/
import Derived.Test.YtpocjegemokjgaaGreatDoorRows
import Derived.WalkKit
import Derived.WalkSpells
import Derived.Laws.AppendOwnNone
import Derived.Deep.RegionLaw
import Derived.Deep.RegionHeld3
import Derived.Deep.QuietTactic
import Derived.BigQuiet
import Derived.ProofKit
import Derived.OpenShut
import Derived.Carry
import Derived.ChangeSame
import Derived.Deep.Slices
import Derived.Deep.Fields
theorem Go.RowKit.Hid.o{p:Prop}(h:Go.RowKit.Hid p):p:=h
namespace Go.Proofs.YtpocjegemokjgaaGreatDoor
open Go.Proofs.Tryz
set_option linter.all false
set_option maxRecDepth 100000
set_option maxHeartbeats 12800000
theorem zN{α:Sort _}(a:α):∃x,x=a:=⟨_,rfl⟩
section
open Go.RowKit
theorem z7{p:Prop}(h:p):Hid p:=h
def Rd(w:World)(x:Value)(size m:Nat)(xs:List Value):Prop:=
 xs.length=m*size/\((x= .slice none 0 0/\m=0)\/∃a c,x= .slice (some a) m c/\∀j u,xs[j]? =some u->w.cell? (a.add j)=some u)
theorem Rd.kept{w w':World}{x:Value}{size m:Nat}{J:List Value}(h:Rd w x size m J)(L:∀b,x.ownBlock=some b->b<w.heap.size->w'.heap[b]? =w.heap[b]?):Rd w' x size m J:=by
 refine⟨h.1,?_⟩;rcases h.2 with B|⟨a,c,rfl,B⟩
 ·exact .inl B
 ·refine .inr ⟨a,c,rfl,fun j u N=>?_⟩;have I:=B j u N;have hb:(a.add j).block=a.block:=by unfold Addr.add;split<;>rfl
  have A:=World.block_lt_of_cell? _ _ I;rw[hb]at A;rw[World.cell?_of_block (w:=w) (by rw[hb];exact L _ rfl A)];exact I
theorem Rd.alloc{w:World}{x:Value}{size m:Nat}{A:List Value}(h:Rd w x size m A)(o:Obj):Rd (w.alloc o) x size m A:=
 h.kept fun _ _ hb=>Below.heap_alloc w o _ hb
theorem Rd.below{w w':World}{x:Value}{size m:Nat}{I:List Value}{B:Nat}(h:Rd w x size m I)(hb:Below B w w')(J:∀b,x.ownBlock=some b->b<B):Rd w' x size m I:=
 h.kept fun b A _=>hb.block b (J b A)
theorem z3z(w:World)(cs:Array Value)(e:TypeId)(m size:Nat)(I:0<m)(h:cs.size=m*size):Rd (w.alloc (.cells cs e)) (.slice (some ⟨w.heap.size,0,none⟩) m m) size m cs.toList:=by
 refine⟨by simpa using h,.inr ⟨_,_,rfl,fun j u B=>?_⟩⟩;have A:(⟨w.heap.size,0,none⟩:Addr).add j=⟨w.heap.size,j,none⟩:=by unfold Addr.add;split<;>simp_all
 rw[A,cell_of_row (w.alloc (.cells cs e)) w.heap.size j cs e (0,0) (by show(w.heap.push _)[w.heap.size]? =_;simp)];simpa using B
section
variable {P:Program} {w:World} {a:Act} {o:Oper} {K:Act->World->Prop} {Q:Exit->Act->World->Prop}
theorem z3M(base:Nat)(t U e:TypeId)(i:TypeInfo)(z:Value)(size bytes:Nat)(ht:P.underlying t=some (.slice e))(hi:P.info? e=some i)(hz:i.zero=some z)
  (J:i.size=size) (a1:i.bytes=bytes) (a8:z.cells.size=size) (a6:0<size)
  (v:Value) (n:Nat) (xs:List Value) (A:w.ownsRow base e size v n xs)
  (x:Value) (m:Nat) (news:List Value) (hx:Rd w x size m news) (h1:∀u∈news,u.oneCell'=true)
  (a0:n+m<=maxLen) (B:(n+m)*bytes<=140737488355328) (L:base<=w.heap.size):
  ∃O w',(Builtin.append_ #[t,t] U #[v,x]).run P w= .ok O w'/\w'.ownsRow base e size O (n+m) (xs++news)/\w.grownBy w' v.ownBlock/\
   (O= .slice none 0 0↔v= .slice none 0 0/\m=0)/\(O.ownBlock=v.ownBlock\/O.ownBlock=some w.heap.size):=by
 obtain⟨R,⟨rfl,rfl⟩|⟨ad,c,rfl,hc⟩⟩:=hx
 ·have hn:news= []:=List.eq_nil_of_length_eq_zero (by simpa using R);subst hn;exact⟨v,w,run_append_owned_none w base t U e i size ht hi v n xs A,by simpa using A,⟨rfl,rfl,rfl,Nat.le_refl _,fun _ _ _=>rfl⟩,by simp,.inl rfl⟩
 ·obtain⟨O,w',N,ho,hg,hv⟩:=run_append_own w base t U e i z size bytes ht hi hz J a1 a8 a6 v n xs A ad m c news R hc h1 a0 B L;refine⟨O,w',N,ho,hg,hv,?_⟩;subst J;subst a1;have a3:n+m<=9223372036854775807:=by simp only[maxLen]at a0;omega
  rcases A.2 with⟨rfl,rfl⟩|⟨g,cap,Y,rfl,a9,a5,aB,aA,a4,a7⟩
  ·by_cases hm:m=0
   ·have:=hv.2 ⟨rfl,hm⟩;subst this;exact .inl rfl
   ·have I:=run_append_nil (P:=P) w t U e i z ht hi hz ad m c news R hc (by omega) (by omega) (by have hb:=B;simp only[Nat.zero_add]at hb;omega);rw[I]at N
    injection N with hr1 I
    subst hr1;exact .inr rfl
  ·by_cases hroom:n+m<=cap
   ·have a2:n*i.size+news.length<=Y.size:=(by rw[R,a4,<-Nat.add_mul];exact Nat.mul_le_mul_right _ hroom);have I:=run_append_room (P:=P) w t U e i ht hi g n cap Y a5 ad m c news R hc h1 hroom a2;rw[I]at N
    injection N with hr1 I
    subst hr1;exact .inl rfl
   ·have I:=run_append_grow (P:=P) w t U e i z ht hi hz ⟨g,0,none⟩ n cap xs A.1 (A.cells (g:=g) rfl) ad m c news R hc (by omega) (by omega) (growslice_fits (by omega) B);rw[I]at N
    injection N with hr1 I
    subst hr1;exact .inr rfl
theorem z3F(s x:Operand)(t:TypeId)
  (ho:o.op= .call {callee:= .builtin .append,args:= #[s,x],argTypes:= #[t,t]})
  (base:Nat) (e:TypeId) (i:TypeInfo) (z:Value) (size bytes:Nat) (ht:P.underlying t=some (.slice e)) (hi:P.info? e=some i) (hz:i.zero=some z)
  (I:i.size=size) (O:i.bytes=bytes) (Y:z.cells.size=size) (U:0<size)
  (v:Value) (n:Nat) (xs:List Value) (hs:a.eval s=v) (L:w.ownsRow base e size v n xs)
  (xv:Value) (m:Nat) (news:List Value) (hx:a.eval x=xv) (R:Rd w xv size m news) (h1:∀u∈news,u.oneCell'=true)
  (N:n+m<=maxLen) (A:(n+m)*bytes<=140737488355328) (B:base<=w.heap.size)
  (h:∀J w',w'.ownsRow base e size J (n+m) (xs++news)->w.grownBy w' v.ownBlock->(J= .slice none 0 0↔v= .slice none 0 0/\m=0)->(J.ownBlock=v.ownBlock\/J.ownBlock=some w.heap.size)->K (a.put o.dst J) w'):o.wp P a w K Q:=by
 obtain⟨J,w',hr,h2,h3,h4,h5⟩:=z3M (P:=P) (w:=w) base t o.type e i z size bytes ht hi hz I O Y U v n xs L xv m news R h1 N A B;unfold Oper.wp execOp;simp only[ho,resolve,invoke,builtin,Sem.run_bind,Sem.run_pure,Result.andThen_ok,List.map_toArray,List.map_cons,List.map_nil,hs,hx,hr];exact h J w' h2 h3 h4 h5
theorem z1V{ops:Array Oper}{rest:List Oper}(R:o.guard=none)(s x:Operand)(t:TypeId)
  (ho:o.op= .call {callee:= .builtin .append,args:= #[s,x],argTypes:= #[t,t]})
  (base:Nat) (e:TypeId) (i:TypeInfo) (z:Value) (size bytes:Nat) (ht:P.underlying t=some (.slice e)) (hi:P.info? e=some i) (hz:i.zero=some z)
  (I:i.size=size) (O:i.bytes=bytes) (a0:z.cells.size=size) (Y:0<size)
  (v:Value) (n:Nat) (xs:List Value) (hs:a.eval s=v) (L:w.ownsRow base e size v n xs)
  (xv:Value) (m:Nat) (news:List Value) (hx:a.eval x=xv) (U:Rd w xv size m news) (h1:∀u∈news,u.oneCell'=true)
  (N:n+m<=maxLen) (A:(n+m)*bytes<=140737488355328) (B:base<=w.heap.size)
  (h:∀J w',w'.ownsRow base e size J (n+m) (xs++news)->w.grownBy w' v.ownBlock->(J= .slice none 0 0↔v= .slice none 0 0/\m=0)->(J.ownBlock=v.ownBlock\/J.ownBlock=some w.heap.size)->wpList P ops Q rest (a.put o.dst J) w'):wpList P ops Q (o::rest) a w:=
 wpList_plain R fun _ hK=>z3F s x t ho base e i z size bytes ht hi hz I O a0 Y v n xs hs L xv m news hx U h1 N A B fun J w' h2 h3 h4 h5=>hK _ _ (h J w' h2 h3 h4 h5)
end
theorem z2z{w:World}{base e size n:Nat}{v:Value}{B:List Value}(h:w.ownsRow base e size v n B)(A:v≠ .slice none 0 0):∃g cap,v= .slice (some ⟨g,0,none⟩) n cap/\base<=g:=by
 rcases h.2 with⟨rfl,_⟩|⟨g,cap,_,rfl,hb,_⟩
 ·exact absurd rfl A
 ·exact⟨g,cap,rfl,hb⟩
theorem z0c{w:World}{base A e size n:Nat}{v:Value}{J:List Value}(h:w.ownsRow base e size v n J)(hb:A<=base):w.ownsRow A e size v n J:=by
 refine⟨h.1,?_⟩;rcases h.2 with I|⟨g,cap,B,L,I,N⟩
 ·exact .inl I
 ·exact .inr ⟨g,cap,B,L,Nat.le_trans hb I,N⟩
theorem j7{w w':World}{base e size n:Nat}{v:Value}{I:List Value}(h:w.ownsRow base e size v n I)(N:∀b,v.ownBlock=some b->w'.heap[b]? =w.heap[b]?):w'.ownsRow base e size v n I:=by
 refine⟨h.1,?_⟩;rcases h.2 with B|⟨g,cap,A,rfl,B,J,L⟩
 ·exact .inl B
 ·exact .inr ⟨g,cap,A,rfl,B,(N g rfl).trans J,L⟩
theorem z0e{w:World}{base e size n:Nat}{v:Value}{B:List Value}(h:w.ownsRow base e size v n B):Rd w v size n B:=by
 refine⟨h.1,?_⟩;rcases h.2 with A|⟨g,cap,I,rfl,A⟩
 ·exact .inl A
 ·exact .inr ⟨⟨g,0,none⟩,cap,rfl,h.cells rfl⟩
structure Chg (F F':List Nat) (w w':World):Prop where
 os:w'.os=w.os
 tape:w'.tape=w.tape
 output:w'.output=w.output
 size:w.heap.size<=w'.heap.size
 block:∀k,k<w.heap.size->k∉F->w'.heap[k]? =w.heap[k]?
 fresh:∀k,k∈F'->k∈F\/w.heap.size<=k
theorem Chg.refl(F:List Nat)(w:World):Chg F F w w:=⟨rfl,rfl,rfl,Nat.le_refl _,fun _ _ _=>rfl,fun _ h=> .inl h⟩
theorem Chg.trans{F G H:List Nat}{a b c:World}(h:Chg F G a b)(k:Chg G H b c):Chg F H a c:=by
 refine⟨k.os.trans h.os,k.tape.trans h.tape,k.output.trans h.output,Nat.le_trans h.size k.size,fun i B I=>?_,fun i B=>?_⟩
 ·refine(k.block i (Nat.lt_of_lt_of_le B h.size) fun J=>?_).trans (h.block i B I);rcases h.fresh i J with A|A
  ·exact I A
  ·omega
 ·rcases k.fresh i B with A|A
  ·exact h.fresh i A
  ·exact .inr (Nat.le_trans h.size A)
theorem Chg.of_below{F:List Nat}{w w':World}(h:Below w.heap.size w w'):Chg F F w w':=⟨h.os,h.tape,h.output,h.size,fun k A _=>h.block k A,fun _ h=> .inl h⟩
theorem Chg.below{F I:List Nat}{w w':World}{B:Nat}(h:Chg F I w w')(L:B<=w.heap.size)(J:∀k∈F,B<=k):Below B w w':=
 ⟨h.os,h.tape,h.output,h.size,fun k N=>h.block k (by omega) fun A=>by have:=J k A;omega⟩
theorem Chg.up{F A:List Nat}{w w':World}{B:Nat}(h:Chg F A w w')(N:B<=w.heap.size)(J:∀k∈F,B<=k):∀k∈A,B<=k:=fun k L=>by
 rcases h.fresh k L with I|I
 ·exact J k I
 ·omega
theorem ownsRow_below{w w':World}{base e size n B:Nat}{v:Value}{I:List Value}(h:w.ownsRow base e size v n I)(hb:Below B w w')(J:w.heap.size<=B):w'.ownsRow base e size v n I:=
 j7 h fun b A=>hb.block b (Nat.lt_of_lt_of_le (h.lt b A).2 J)
theorem q7{w:World}{b o k:Nat}{u:Value}(h:k≠b):(w.setCell ⟨b,o,none⟩ u).heap[k]? =w.heap[k]? :=Below.heap_setCell w ⟨b,o,none⟩ u k h
def laid(cur:List Value)(o:Nat)(vs:List Value):List Value:=cur.take o++vs++cur.drop (o+vs.length)
theorem y5w(A:List Value)(o:Nat)(B:List Value)(h:o+B.length<=A.length):(laid A o B).length=A.length:=by
 simp[laid];omega
theorem z0a{w:World}{b:Nat}{A:Array Value}{e:TypeId}{fr:Nat×Nat}(h:w.heap[b]? =some (.cells A e fr))(o:Nat)(u:Value):
  (w.setCell ⟨b,o,none⟩ u).heap[b]? =some (.cells (A.setIfInBounds o u) e fr):=by
 simp[World.setCell,Array.getElem?_modify,h]
theorem z0Q{b:Nat}{e:TypeId}{fr:Nat×Nat}:∀(B:List Value) (o:Nat) (w:World) (A:Array Value),w.heap[b]? =some (.cells A e fr)->o+B.length<=A.size->
  (w.setCells b o B).heap[b]? =some (.cells (laid A.toList o B).toArray e fr)
 | [],o,w,A,h,_=>by simpa[World.setCells,laid]using h
 | v::B,o,w,A,h,hle=>by
  rw[World.setCells,z0Q B (o+1) _ _ (z0a h o v) (by simp at hle ⊢;omega)];have:laid (A.setIfInBounds o v).toList (o+1) B=laid A.toList o (v::B):=by
   have I:o<A.toList.length:=(by simp at hle ⊢;omega);simp only[laid,Array.toList_setIfInBounds,List.length_cons];rw[List.take_succ_eq_append_getElem (by simpa using I),List.take_set_of_le (Nat.le_refl _),List.getElem_set_self,List.drop_set_of_lt (by omega)];rw[show o+1+B.length=o+(B.length+1)from by omega];simp
  rw[this]
theorem z0Z{b k:Nat}(B:k≠b):∀(A:List Value) (o:Nat) (w:World),(w.setCells b o A).heap[k]? =w.heap[k]?
 | [],_,_=>rfl
 | v::A,o,w=>by rw[World.setCells,z0Z B A,q7 B]
theorem z7X(b:Nat):∀(A:List Value) (o:Nat) (w:World),(w.setCells b o A).os=w.os/\(w.setCells b o A).tape=w.tape/\(w.setCells b o A).output=w.output/\(w.setCells b o A).heap.size=w.heap.size
 | [],_,_=>⟨rfl,rfl,rfl,rfl⟩
 | v::A,o,w=>by
  obtain⟨B,I,J,L⟩:=z7X b A (o+1) (w.setCell ⟨b,o,none⟩ v);exact⟨B,I,J,by rw[World.setCells,L];simp[World.setCell]⟩
theorem Chg.setCells{b:Nat}(B:List Value)(o:Nat)(w:World):Chg [b] [b] w (w.setCells b o B):=by
 obtain⟨I,J,L,N⟩:=z7X b B o w;exact⟨I,J,L,Nat.le_of_eq N.symm,fun k _ A=>z0Z (by simpa using A) B o w,fun k A=> .inl A⟩
theorem Chg.cellAt{F B:List Nat}{w w':World}(h:Chg F B w w'){b:Nat}(o:Nat)(hb:b<w.heap.size)(A:b∉F):w'.cell? ⟨b,o,none⟩=w.cell? ⟨b,o,none⟩/\w'.frozen? ⟨b,o,none⟩=w.frozen? ⟨b,o,none⟩:=
 ⟨World.cell?_of_block (w:=w) (a:=⟨b,o,none⟩) (h.block b hb A),World.frozen?_of_block (w:=w) (a:=⟨b,o,none⟩) (h.block b hb A)⟩
def z0b(l:List UInt8):List Value:=l.map fun b=> .int .u8 b.toNat
theorem z4C(l:List UInt8):∀u∈z0b l,u.oneCell'=true:=by
 intro u A;simp only[z0b,List.mem_map]at A;obtain⟨b,_,rfl⟩:=A;rfl
theorem z3m(l r:List UInt8):z0b (l++r)=z0b l++z0b r:=by simp[z0b]
def y7d(b:List UInt8)(i:Nat):Bool:=(b.getD (i/8) 0).toNat.testBit (7 - i%8)
structure z0R (b:List UInt8) (l:List Bool):Prop where
 len:b.length=(l.length+7)/8
 bit:∀i,i<8*b.length->y7d b i=l.getD i false
theorem q3X(b:List UInt8)(j k:Nat)(A:k<8):y7d b (8*j+k)=(b.getD j 0).toNat.testBit (7 - k):=by
 unfold y7d;rw[show(8*j+k)/8=j by omega,show(8*j+k)%8=k by omega]
theorem z0R.nil:z0R [] []:=⟨rfl,fun i h=>by simp at h⟩
theorem z0R.bits{b:List UInt8}{l m:List Bool}(h:z0R b l)(g:z0R b m)(I:l.length=m.length):l=m:=by
 apply List.ext_getElem I;intro i A B;have e:=(h.bit i (by rw[h.len];omega)).symm.trans (g.bit i (by rw[h.len];omega));simpa[List.getD_eq_getElem?_getD,A,B]using e
theorem z1U{α:Type}{b c:List α}{j:Nat}{d:α}(h:j<b.length):(b++c).getD j d=b.getD j d:=by
 simp[List.getD_eq_getElem?_getD,List.getElem?_append_left h]
theorem z1I{α:Type}{b c:List α}{j:Nat}{d:α}(h:b.length<=j):(b++c).getD j d=c.getD (j - b.length) d:=by
 simp[List.getD_eq_getElem?_getD,List.getElem?_append_right h]
theorem z4T{α:Type}{b:List α}{j:Nat}{d:α}(h:b.length<=j):b.getD j d=d:=by
 simp[List.getD_eq_getElem?_getD,List.getElem?_eq_none h]
def z5C(y n:Nat):List Bool:=(List.range n).map fun j=>y.testBit (7 - j)
theorem z1l(y n:Nat):(z5C y n).length=n:=by simp[z5C]
theorem z7l{y n j:Nat}(h:j<n):(z5C y n).getD j false=y.testBit (7 - j):=by simp[z5C,List.getD_eq_getElem?_getD,h]
def z8M(y n:Nat):Prop:=y<256/\∀j,n<=j->j<8->y.testBit (7 - j)=false
theorem z9y{y n j:Nat}(h:z8M y n)(A:j<8):(z5C y n).getD j false=y.testBit (7 - j):=by
 by_cases hn:j<n
 ·exact z7l hn
 ·rw[z4T (by rw[z1l];omega),h.2 j (by omega) A]
theorem y3l{b:List UInt8}{l:List Bool}(A:b.length=(l.length+7)/8)(h:∀j k,j<b.length->k<8->(b.getD j 0).toNat.testBit (7 - k)=l.getD (8*j+k) false):z0R b l:=
 ⟨A,fun i B=>by
  have:=h (i/8) (i%8) (by omega) (by omega);unfold y7d;rw[this]
  congr 1
  omega⟩
theorem z0R.at{b:List UInt8}{l:List Bool}(h:z0R b l){j k:Nat}(B:j<b.length)(A:k<8):(b.getD j 0).toNat.testBit (7 - k)=l.getD (8*j+k) false:=by
 have:=h.bit (8*j+k) (by omega);rw[q3X _ _ _ A]at this;exact this
theorem q3D{b:List UInt8}{l:List Bool}{y n:Nat}(h:z0R b l)(N:l.length%8=0)(L:0<n)(R:n<=8)(I:z8M y n):z0R (b++ [UInt8.ofNat y]) (l++z5C y n):=by
 have O:=h.len;refine y3l (by simp[z1l];omega) fun j k J B=>?_;have A:(UInt8.ofNat y).toNat=y:=by rw[UInt8.toNat_ofNat'];have:=I.1;omega
 by_cases hjb:j<b.length
 ·rw[z1U hjb,z1U (by omega)];exact h.at hjb B
 ·obtain rfl:j=b.length:=by simp at J;omega
  rw[z1I (Nat.le_refl _),z1I (by omega),show 8*b.length+k - l.length=k by omega,z9y I B];simp[A]
theorem q3i{b:List UInt8}{l:List Bool}{y n k z:Nat}(h:z0R b l)(hk:l.length%8=k)(U:0<k)(hn:n<=8)(B:z8M y n)(hb:b.getD (b.length - 1) 0=UInt8.ofNat z)(O:z<256):
  z0R (b.set (b.length - 1) (UInt8.ofNat (z ||| y/2^k))++(if 8 - k<n then [UInt8.ofNat (y*2^(8 - k)%256)]else [])) (l++z5C y n):=by
 have hl:=h.len;have R:0<b.length:=by omega
 have hd:y/2^k<=y:=Nat.div_le_self _ _;have J:z ||| y/2^k<256:=Nat.or_lt_two_pow (n:=8) O (by have:=B.1;omega);refine y3l (by split<;>simp[z1l]<;>omega) fun j i I N=>?_;by_cases hjb:j<b.length
 ·rw[z1U (by simpa using hjb)];by_cases hjl:j=b.length - 1
  ·subst hjl;have e:∀Y:UInt8,(b.set (b.length - 1) Y).getD (b.length - 1) 0=Y:=fun Y=>by simp[List.getD_eq_getElem?_getD,List.getElem?_set,show b.length - 1<b.length by omega]
   rw[e,UInt8.toNat_ofNat',Nat.mod_eq_of_lt J,Nat.testBit_or,<-Nat.shiftRight_eq_div_pow,Nat.testBit_shiftRight];have L:=h.at (j:=b.length - 1) (k:=i) (by omega) N;rw[hb,UInt8.toNat_ofNat',Nat.mod_eq_of_lt O]at L;rw[L];by_cases hik:i<k
   ·rw[z1U (by omega),Nat.testBit_lt_two_pow (Nat.lt_of_lt_of_le B.1 (show 2^8<=2^(k+(7 - i))from Nat.pow_le_pow_right (by decide) (by omega))),Bool.or_false]
   ·rw[z4T (by omega:l.length<=8*(b.length - 1)+i),z1I (by omega),Bool.false_or,show 8*(b.length - 1)+i - l.length=i - k by omega,z9y B (by omega),show k+(7 - i)=7 - (i - k) by omega]
  ·have e:(b.set (b.length - 1) (UInt8.ofNat (z ||| y/2^k))).getD j 0=b.getD j 0:=(by simp[List.getD_eq_getElem?_getD,List.getElem?_set_ne (Ne.symm hjl)]);rw[e,z1U (by omega)];exact h.at hjb N
 ·split at I
  ·rename_i A;rw[if_pos A];simp at I;obtain rfl:j=b.length:=by omega
   rw[z1I (by simp),z1I (by omega)];simp only[List.length_set,Nat.sub_self,List.getD_cons_zero,UInt8.toNat_ofNat',Nat.mod_mod];rw[show(256:Nat)=2^8 from rfl];rw[Nat.testBit_mod_two_pow,<-Nat.shiftLeft_eq,Nat.testBit_shiftLeft,show 8*b.length+i - l.length=i+(8 - k) by omega];rw[decide_eq_true (show 7 - i<8 by omega),Bool.true_and];by_cases hik:i+(8 - k)<8
   ·rw[z9y B hik,decide_eq_true (show 7 - i>=8 - k by omega),Bool.true_and]
    congr 1
    omega
   ·rw[decide_eq_false (show ¬7 - i>=8 - k by omega),Bool.false_and,z4T (by rw[z1l];omega)]
  ·simp at I;omega
theorem q0R{b:List UInt8}{l:List Bool}{y:Nat}(h:z0R b l):z0R b (l++z5C y 0):=by simpa[z5C]using h
def z2U(v w:Nat):List Bool:=(List.range w).map fun j=>v.testBit (w - 1 - j)
theorem z0X(v w:Nat):(z2U v w).length=w:=by simp[z2U]
theorem z8W{v w j:Nat}(h:j<w):(z2U v w).getD j false=v.testBit (w - 1 - j):=by simp[z2U,List.getD_eq_getElem?_getD,h]
theorem y9t(v:Nat):z2U v 0= []:=rfl
theorem z4H{l m:List Bool}(h:l.length=m.length)(g:∀j,j<l.length->l.getD j false=m.getD j false):l=m:=by
 apply List.ext_getElem h;intro j A B;have:=g j A;simpa[List.getD_eq_getElem?_getD,A,B]using this
def z7d(v w n:Nat):Nat:=v/2^(w - n)%256*2^(8 - n)%256
theorem y2q{v w n j:Nat}(I:n<=w)(A:n<=8)(B:j<8):(z7d v w n).testBit (7 - j)=if j<n then v.testBit (w - 1 - j)else false:=by
 unfold z7d;rw[show(256:Nat)=2^8 from rfl,Nat.testBit_mod_two_pow,<-Nat.shiftLeft_eq,Nat.testBit_shiftLeft,Nat.testBit_mod_two_pow,<-Nat.shiftRight_eq_div_pow,Nat.testBit_shiftRight];rw[decide_eq_true (show 7 - j<8 by omega),Bool.true_and];split
 ·rw[decide_eq_true (show 7 - j>=8 - n by omega),decide_eq_true (show 7 - j - (8 - n)<8 by omega),Bool.true_and,Bool.true_and]
  congr 1
  omega
 ·rw[decide_eq_false (show ¬7 - j>=8 - n by omega),Bool.false_and]
theorem y2S{v w n:Nat}(I:n<=w)(B:n<=8):z8M (z7d v w n) n:=by
 refine⟨Nat.mod_lt _ (by decide),fun j J A=>?_⟩;rw[y2q I B A,if_neg (by omega)]
theorem y7j{v w n:Nat}(I:n<=w)(B:n<=8):z2U v w=z5C (z7d v w n) n++z2U v (w - n):=by
 apply z4H (by simp[z0X,z1l];omega);intro j A;rw[z0X]at A;rw[z8W A];by_cases h:j<n
 ·rw[z1U (by rw[z1l];exact h),z7l h,y2q I B (by omega),if_pos h]
 ·rw[z1I (by rw[z1l];omega),z1l,z8W (by omega)]
  congr 1
  omega
def z2N(l:List Bool):Nat:=l.foldl (fun a b=>2*a+b.toNat) 0
theorem y4O{P:List Bool->Prop}(A:P [])(B:∀l b,P l->P (l++ [b]))(l:List Bool):P l:=by
 have:∀m:List Bool,P m.reverse:=fun m=>by
  induction m with
  | nil=>exact A
  | cons b m ih=>rw[List.reverse_cons];exact B _ _ ih
 simpa using this l.reverse
theorem q3l(l:List Bool):∀a,l.foldl (fun a b=>2*a+b.toNat) a=a*2^l.length+z2N l:=by
 unfold z2N
 induction l with
 | nil=>intro a;simp
 | cons b l ih=>
  intro a;rw[List.foldl_cons,ih,List.foldl_cons,ih (2*0+b.toNat),List.length_cons,Nat.pow_succ,Nat.add_mul];have:2*a*2^l.length=a*(2^l.length*2):=by rw[Nat.mul_comm 2 a,Nat.mul_assoc,Nat.mul_comm 2]
  rw[this,show 2*0+b.toNat=b.toNat by omega,Nat.add_assoc]
theorem z7x(l m:List Bool):z2N (l++m)=z2N l*2^m.length+z2N m:=by
 unfold z2N;rw[List.foldl_append,q3l];rfl
theorem z5P(l:List Bool):z2N l<2^l.length:=by
 refine y4O (P:=fun l=>z2N l<2^l.length) (by decide) (fun l b B=>?_) l
 ·rw[z7x,List.length_append];have A:z2N [b]<=1:=by cases b<;>decide
  simp only[List.length_singleton,Nat.pow_one,Nat.pow_succ];omega
theorem y9A(l:List Bool)(b:Bool):z2N (l++ [b])=2*z2N l+b.toNat:=by
 rw[z7x];have A:z2N [b]=b.toNat:=by cases b<;>decide
 simp[A];omega
theorem z9n(l:List Bool):∀(j:Nat),j<l.length->(z2N l).testBit (l.length - 1 - j)=l.getD j false:=by
 refine y4O (P:=fun l=>∀j,j<l.length->(z2N l).testBit (l.length - 1 - j)=l.getD j false) (fun j h=>by simp at h) (fun l b A j h=>?_) l
 ·rw[y9A,List.length_append,List.length_singleton];have hb:b.toNat<2:=by cases b<;>decide
  by_cases hj:j<l.length
  ·rw[z1U hj,<-A j hj,show l.length+1 - 1 - j=l.length - 1 - j+1 by omega,Nat.testBit_succ]
   congr 1
   omega
  ·obtain rfl:j=l.length:=by simp at h;omega
   rw[z1I (Nat.le_refl _),show l.length+1 - 1 - l.length=0 by omega,Nat.testBit_zero];cases b<;>simp<;>omega
theorem y9u(l:List Bool):z2U (z2N l) l.length=l:=by
 apply z4H (z0X _ _);intro j A;rw[z0X]at A;rw[z8W A,z9n l j A]
theorem y9a(v w:Nat):z2N (z2U v w)=v%2^w:=by
 apply Nat.eq_of_testBit_eq;intro k;rw[Nat.testBit_mod_two_pow];by_cases h:k<w
 ·have:=z9n (z2U v w) (w - 1 - k) (by rw[z0X];omega);rw[z0X,show w - 1 - (w - 1 - k)=k by omega,z8W (by omega),show w - 1 - (w - 1 - k)=k by omega]at this;rw[this,decide_eq_true h,Bool.true_and]
 ·have A:=z5P (z2U v w);rw[z0X]at A;rw[decide_eq_false h,Bool.false_and,Nat.testBit_lt_two_pow (Nat.lt_of_lt_of_le A (Nat.pow_le_pow_right (by decide) (by omega)))]
theorem q1F{b:List UInt8}{l:List Bool}(h:z0R b l){i:Nat}(R:i<l.length)(z J:Nat)(L:(b.getD (i/8) 0).toNat=z)(B:(b.getD (i/8+1) 0).toNat=J):
  ∀j,j<8->((z*2^(i%8)%256) ||| (if 0<i%8/\i/8+1<b.length then J/2^(8 - i%8)else 0)).testBit (7 - j)=l.getD (i+j) false:=by
 intro j U;have Y:=h.len;have O:z<256:=by rw[<-L];exact(b.getD (i/8) 0).toNat_lt
 have I:J<256:=by rw[<-B];exact(b.getD (i/8+1) 0).toNat_lt
 rw[Nat.testBit_or,show(256:Nat)=2^8 from rfl,Nat.testBit_mod_two_pow,<-Nat.shiftLeft_eq,Nat.testBit_shiftLeft,decide_eq_true (show 7 - j<8 by omega),Bool.true_and];by_cases hik:i%8+j<8
 ·have A:=h.at (j:=i/8) (k:=i%8+j) (by omega) hik;rw[L]at A;rw[decide_eq_true (show 7 - j>=i%8 by omega),Bool.true_and,show 7 - j - i%8=7 - (i%8+j) by omega,A,show 8*(i/8)+(i%8+j)=i+j by omega];split
  ·rw[<-Nat.shiftRight_eq_div_pow,Nat.testBit_shiftRight,Nat.testBit_lt_two_pow (Nat.lt_of_lt_of_le I (show 2^8<=2^(8 - i%8+(7 - j))from Nat.pow_le_pow_right (by decide) (by omega))),Bool.or_false]
  ·rw[Nat.zero_testBit,Bool.or_false]
 ·rw[decide_eq_false (show ¬7 - j>=i%8 by omega),Bool.false_and,Bool.false_or];split
  ·rename_i N;have A:=h.at (j:=i/8+1) (k:=i%8+j - 8) N.2 (by omega);rw[B]at A;rw[<-Nat.shiftRight_eq_div_pow,Nat.testBit_shiftRight,show 8 - i%8+(7 - j)=7 - (i%8+j - 8) by omega,A]
   congr 1
   omega
  ·rw[Nat.zero_testBit,z4T (by omega)]
theorem y9Q{l:List Bool}{i n y:Nat}(J:y<256)(hb:∀j,j<8->y.testBit (7 - j)=l.getD (i+j) false)(N:n<=8)(L:i+n<=l.length):y/2^(8 - n)=z2N ((l.drop i).take n):=by
 have A:((l.drop i).take n).length=n:=by simp;omega
 apply Nat.eq_of_testBit_eq;intro k;rw[<-Nat.shiftRight_eq_div_pow,Nat.testBit_shiftRight];by_cases h:k<n
 ·have B:=z9n ((l.drop i).take n) (n - 1 - k) (by omega);rw[A,show n - 1 - (n - 1 - k)=k by omega]at B;have I:=hb (n - 1 - k) (by omega);rw[show 7 - (n - 1 - k)=8 - n+k by omega]at I;rw[B,I];simp[List.getD_eq_getElem?_getD,List.getElem?_take,show n - 1 - k<n by omega]
 ·have B:=z5P ((l.drop i).take n);rw[A]at B;rw[Nat.testBit_lt_two_pow (Nat.lt_of_lt_of_le J (show 2^8<=2^(8 - n+k)from Nat.pow_le_pow_right (by decide) (by omega))),Nat.testBit_lt_two_pow (Nat.lt_of_lt_of_le B (Nat.pow_le_pow_right (by decide) (by omega)))]
theorem y8G{l:List Bool}{i n y:Nat}(hb:∀j,j<8->y.testBit (7 - j)=l.getD (i+j) false)(I:n<=8)(B:i+n<=l.length):z5C y n=(l.drop i).take n:=by
 apply z4H (by simp[z1l];omega);intro j A;rw[z1l]at A;rw[z7l A,hb j (by omega)];simp[List.getD_eq_getElem?_getD,List.getElem?_take,A]
end
section
def y5I:Nat:=0x82f63b78
def step1(c:Nat):Nat:=c/2^^^(if c%2=1 then y5I else 0)
def z2K:Nat->Nat->Nat
 | 0,c=>c
 | n+1,c=>z2K n (step1 c)
def upd(c:Nat)(b:UInt8):Nat:=z2K 8 (c^^^b.toNat)
def z3O(c:Nat)(l:List UInt8):Nat:=l.foldl upd c
def z2J(l:List UInt8):Nat:=4294967295^^^z3O 4294967295 l
theorem y0O{c:Nat}(h:c<2^32):step1 c<2^32:=by
 unfold step1;refine Nat.xor_lt_two_pow (by omega) ?_;split<;>simp[y5I]
theorem y1J:∀(n:Nat) {c:Nat},c<2^32->z2K n c<2^32
 | 0,_,h=>h
 | n+1,_,h=>y1J n (y0O h)
theorem z7f:∀(n c:Nat),z2K (n+1) c=step1 (z2K n c)
 | 0,_=>rfl
 | n+1,c=>by rw[z2K,z7f n,z2K]
theorem y6q{c:Nat}(b:UInt8)(h:c<2^32):upd c b<2^32:=
 y1J 8 (Nat.xor_lt_two_pow h (by have:=b.toNat_lt;omega))
theorem y1b:∀(l:List UInt8) {c:Nat},c<2^32->z3O c l<2^32
 | [],_,h=>h
 | b::l,_,h=>y1b l (y6q b h)
theorem z7N(l:List UInt8):z2J l<2^32:=Nat.xor_lt_two_pow (by omega) (y1b l (by omega))
theorem z7y(c:Nat)(a b:List UInt8):z3O c (a++b)=z3O (z3O c a) b:=by simp[z3O]
theorem q1V(x y:Nat):(x^^^y)/2=x/2^^^y/2:=by
 apply Nat.eq_of_testBit_eq;intro i;simp[Nat.testBit_div_two]
theorem q3Q(x y:Nat):(x^^^y)%2=(x%2+y%2)%2:=by
 have h:((x^^^y).testBit 0)=(x.testBit 0^^y.testBit 0):=Nat.testBit_xor ..;simp only[Nat.testBit_zero]at h;have A:=Nat.mod_two_eq_zero_or_one x;have B:=Nat.mod_two_eq_zero_or_one y;have I:=Nat.mod_two_eq_zero_or_one (x^^^y);rcases A with A|A<;>rcases B with B|B<;>rcases I with I|I<;>simp[A,B,I]at h ⊢
theorem y8S(x y:Nat):step1 (x^^^y)=step1 x^^^step1 y:=by
 unfold step1;rw[q1V,q3Q];have A:=Nat.mod_two_eq_zero_or_one x;have B:=Nat.mod_two_eq_zero_or_one y;have e:x/2^^^y5I^^^(y/2^^^y5I)=x/2^^^y/2:=by
  rw[Nat.xor_comm (y/2),Nat.xor_assoc,<-Nat.xor_assoc y5I,Nat.xor_self,Nat.zero_xor]
 rcases A with A|A<;>rcases B with B|B<;>simp only[A,B]<;>simp only[Nat.zero_add,Nat.add_zero,Nat.reduceAdd,Nat.reduceMod,if_true,Nat.xor_zero]<;>simp
 ·rw[Nat.xor_assoc]
 ·rw[Nat.xor_assoc,Nat.xor_assoc,Nat.xor_comm y5I]
 ·exact e.symm
theorem y2C:∀(n x y:Nat),z2K n (x^^^y)=z2K n x^^^z2K n y
 | 0,_,_=>rfl
 | n+1,x,y=>by rw[z2K,y8S,y2C n];rfl
theorem y9h(x:Nat):step1 (2*x)=x:=by
 unfold step1;rw[if_neg (by omega),Nat.xor_zero];omega
theorem y2w:∀(n x:Nat),z2K n (2^n*x)=x
 | 0,x=>by simp[z2K]
 | n+1,x=>by rw[z2K,Nat.pow_succ,Nat.mul_comm (2^n),Nat.mul_assoc,y9h,y2w n]
theorem y9M{c:Nat}(b:UInt8):c/256^^^z2K 8 (c%256^^^b.toNat)=upd c b:=by
 unfold upd;have e:c^^^b.toNat=(2^8*(c/256))^^^(c%256^^^b.toNat):=by
  rw[<-Nat.xor_assoc]
  congr 1
  have h:=Nat.div_add_mod c 256;have A:2^8*(c/256)^^^c%256=2^8*(c/256)+c%256:=by
   rw[Nat.two_pow_add_eq_or_of_lt (i:=8) (by omega) (c/256)];apply Nat.eq_of_testBit_eq;intro i;simp only[Nat.testBit_xor,Nat.testBit_or];by_cases hi:i<8
   ·have:(2^8*(c/256)).testBit i=false:=(by rw[Nat.testBit_two_pow_mul];simp;omega);rw[this];simp
   ·have:(c%256).testBit i=false:=Nat.testBit_lt_two_pow (Nat.lt_of_lt_of_le (Nat.mod_lt _ (by omega)) (by exact Nat.pow_le_pow_right (n:=2) (by omega) (by omega:8<=i)));rw[this];simp
  omega
 rw[e,y2C 8 (2^8*(c/256)),y2w]
def be4(n:Nat):List UInt8:= [UInt8.ofNat (n/16777216),UInt8.ofNat (n/65536),UInt8.ofNat (n/256),UInt8.ofNat n]
def unB(l:List UInt8):Nat:=l.foldl (fun n c=>n*256+c.toNat) 0
theorem z4v(n:Nat):(be4 n).length=4:=rfl
theorem z4J{n:Nat}(h:n<4294967296):unB (be4 n)=n:=by
 simp only[unB,be4,List.foldl_cons,List.foldl_nil,UInt8.toNat_ofNat'];omega
theorem q2z(a b c d:UInt8):unB [a,b,c,d]=((a.toNat*256+b.toNat)*256+c.toNat)*256+d.toNat:=by simp[unB]
theorem y5S(a b c d:UInt8):unB [a,b,c,d]<4294967296:=by
 rw[q2z];have:=a.toNat_lt;have:=b.toNat_lt;have:=c.toNat_lt;have:=d.toNat_lt;omega
theorem q1X(l:List UInt8)(c:UInt8):unB (l++ [c])=unB l*256+c.toNat:=by simp[unB]
theorem q2V{l:List UInt8}(h:l.length=4):∃a b c d,l= [a,b,c,d]:=by
 match l,h with
 | [a,b,c,d],_=>exact⟨a,b,c,d,rfl⟩
theorem y1t{l:List UInt8}(h:l.length=4):unB l<4294967296:=by
 obtain⟨a,b,c,d,rfl⟩:=q2V h;exact y5S a b c d
structure Fr where
 kind:Nat
 epoch:Nat
 series:Nat
 chunk:Nat
 bits:Nat
 cnt:Nat
 count:Nat
 closed:Bool
 sum:Nat
 b:List UInt8
 n:Int
structure Fr.Ok (f:Fr):Prop where
 kind:f.kind<256
 epoch:f.epoch<4294967296
 series:f.series<4294967296
 chunk:f.chunk<4294967296
 bits:f.bits<4294967296
 cnt:f.cnt<4294967296
 count:f.count<4294967296
 sum:f.sum<18446744073709551616
 lo: -9223372036854775808<=f.n
 hi:f.n<=9223372036854775807
def z1Q(b:List UInt8)(n:Int):Bool:=
 decide (0<=n)&&(decide ((b.length:Int)=n/8+min (n%8) 1)&&(decide (n%8=0) || decide (((b.getD (b.length - 1) 0).toNat&&&(255>>>(n%8).toNat))=0)))
def z4r(f:Fr):Bool:=decide (f.n=0)&&decide (f.b.length=0)
def z4t(f:Fr):Bool:=z1Q f.b f.n&&(decide (0<f.n)&&(decide (f.cnt<f.count)&&decide (f.b.length<=4052)))
def z1D(f:Fr):Bool:=
 if f.kind=1 then z4r f&&(decide (f.series=0)&&(decide (f.chunk=0/\f.bits=0/\f.cnt=0)&&(decide (f.count=0)&&(!f.closed&&decide (f.sum=0)))))
 else if f.kind=4\/f.kind=5 then z4r f&&(decide (f.count=0)&&!f.closed)
 else if f.kind=3 then decide (f.bits=0/\f.cnt=0/\f.sum=0)&&z4t f
 else if f.kind=2 then z4t f
 else false
def y1L(b:Bool):UInt8:=if b then 1 else 0
def z1x(f:Fr):List UInt8:=
 [0x44,0x59,UInt8.ofNat f.kind]++be4 f.epoch++be4 f.series++be4 f.chunk++be4 f.bits++be4 f.cnt++be4 f.count++ [y1L f.closed]++be4 (f.sum/4294967296)++be4 (f.sum%4294967296)++be4 (f.n%4294967296).toNat
def z2r(f:Fr):List UInt8:=z1x f++f.b
def z0E(f:Fr):List UInt8:=z2r f++be4 (z2J (z2r f))
theorem z1Z(f:Fr):(z1x f).length=40:=rfl
theorem z4K(f:Fr):(z0E f).length=44+f.b.length:=by
 simp only[z0E,z2r,List.length_append,z1Z,z4v];omega
end
section
open Go.RowKit
theorem z0n{n:Int}(A: -9223372036854775808<=n)(B:n<=9223372036854775807):IntKind.i64.wrap n=n:=by rw[IntKind.wrap_i64];omega
theorem y5G{n j:Nat}(B:n<=8)(A:j<8):(255*2^(8 - n)%256).testBit (7 - j)=decide (j<n):=by
 rw[show(256:Nat)=2^8 from rfl,Nat.testBit_mod_two_pow,<-Nat.shiftLeft_eq,Nat.testBit_shiftLeft,decide_eq_true (show 7 - j<8 by omega),Bool.true_and,show(255:Nat)=2^8 - 1 from rfl,Nat.testBit_two_pow_sub_one];by_cases h:j<n
 ·rw[decide_eq_true h,decide_eq_true (show 7 - j>=8 - n by omega),decide_eq_true (show 7 - j - (8 - n)<8 by omega)];rfl
 ·rw[decide_eq_false h,decide_eq_false (show ¬7 - j>=8 - n by omega)];rfl
theorem q2K{y n:Nat}(J:y<256)(B:n<=8):z8M (y&&&(255*2^(8 - n)%256)) n/\z5C (y&&&(255*2^(8 - n)%256)) n=z5C y n:=by
 refine⟨⟨Nat.lt_of_le_of_lt Nat.and_le_left J,fun j L I=>?_⟩,?_⟩
 ·rw[Nat.testBit_and,y5G B I,decide_eq_false (by omega),Bool.and_false]
 ·apply z4H (by simp[z1l]);intro j A;rw[z1l]at A;rw[z7l A,z7l A,Nat.testBit_and,y5G B (by omega),decide_eq_true A,Bool.and_true]
theorem y1o{b:List UInt8}{n:Int}(h:z1Q b n=true):∃l:List Bool,z0R b l/\n=l.length:=by
 unfold z1Q at h;simp only[Bool.and_eq_true,decide_eq_true_eq,Bool.or_eq_true]at h;obtain⟨L,N,B⟩:=h;obtain⟨m,rfl⟩:∃m:Nat,n=m:=⟨n.toNat,by omega⟩;have A:b.length=(m+7)/8:=by omega
 refine⟨(List.range m).map fun i=>y7d b i,⟨by simpa using A,fun i O=>?_⟩,by simp⟩;by_cases him:i<m
 ·simp[List.getD_eq_getElem?_getD,him]
 ·rw[z4T (by simp;omega)];have J:i/8=b.length - 1:=by omega
  rcases B with B|B
  ·omega
  ·unfold y7d;rw[J];have I:=congrArg (fun z=>Nat.testBit z (7 - i%8)) B;simp only[Nat.testBit_and,Nat.zero_testBit,Nat.testBit_shiftRight]at I;rw[show(255:Nat)=2^8 - 1 from rfl,Nat.testBit_two_pow_sub_one,decide_eq_true (by omega),Bool.and_true]at I;exact I
theorem z2q{b:List UInt8}{l:List Bool}(h:z0R b l):z1Q b l.length=true:=by
 have B:=h.len;unfold z1Q;simp only[Bool.and_eq_true,decide_eq_true_eq,Bool.or_eq_true];refine⟨by omega,by omega,?_⟩;by_cases h8:l.length%8=0
 ·exact .inl (by omega)
 ·refine .inr ?_;apply Nat.eq_of_testBit_eq;intro k;rw[Nat.testBit_and,Nat.zero_testBit,Nat.testBit_shiftRight,show(255:Nat)=2^8 - 1 from rfl,Nat.testBit_two_pow_sub_one];by_cases hk:((l.length:Int)%8).toNat+k<8
  ·have A:=h.at (j:=b.length - 1) (k:=7 - k) (by omega) (by omega);rw[show 7 - (7 - k)=k by omega]at A;rw[A,z4T (by omega),Bool.false_and]
  ·rw[decide_eq_false hk,Bool.and_false]
theorem Chg.alloc{F A:List Nat}{w w':World}(h:Chg F A w w')(o:Obj):Chg F A w (w'.alloc o):=
 ⟨h.os,h.tape,h.output,by have:=h.size;simp;omega,fun k B I=>(Below.heap_alloc w' o k (Nat.lt_of_lt_of_le B h.size)).trans (h.block k B I),h.fresh⟩
structure Item where
 pre:List Value
 x:Value
 post:List Value
 b:List UInt8
def Item.cells(t:Item):List Value:=t.pre++t.x::t.post
def z7V(v:Value)(L:List Item):List Nat:=v.ownBlock.toList++L.flatMap fun t=>t.x.ownBlock.toList
structure z5g (w:World) (e size:Nat) (v:Value) (L:List Item):Prop where
 nodup:(z7V v L).Nodup
 row:w.ownsRow 0 e size v L.length (L.flatMap Item.cells)
 each:∀t∈L,t.cells.length=size/\(∀u∈t.cells,u.oneCell'=true)/\w.ownsRow 0 5 1 t.x t.b.length (z0b t.b)
theorem z5g.nil(w:World)(e size:Nat):z5g w e size (.slice none 0 0) []:=
 ⟨by simp[z7V,Value.ownBlock],by simpa using World.ownsRow_nil w 0 e size,fun _ h=>by cases h⟩
theorem z5g.same{w w':World}{e size:Nat}{v:Value}{L:List Item}(h:z5g w e size v L)(B:∀k∈z7V v L,w'.heap[k]? =w.heap[k]?):z5g w' e size v L:=by
 refine⟨h.nodup,j7 h.row fun b hb=>B b (by simp[z7V,hb]),fun t A=>⟨(h.each t A).1,(h.each t A).2.1,j7 (h.each t A).2.2 fun b hb=>B b ?_⟩⟩;simp only[z7V,List.mem_append,List.mem_flatMap];exact .inr ⟨t,A,by simp[hb]⟩
theorem z5g.lt{w:World}{e size:Nat}{v:Value}{L:List Item}(h:z5g w e size v L):∀k∈z7V v L,k<w.heap.size:=by
 intro k A;simp only[z7V,List.mem_append,List.mem_flatMap,Option.mem_toList]at A;rcases A with A|⟨t,B,A⟩
 ·exact(h.row.lt k A).2
 ·exact((h.each t B).2.2.lt k A).2
theorem flat_get{size:Nat}:∀{L:List Item},(∀t∈L,t.cells.length=size)->∀{i j:Nat} {t:Item},L[i]? =some t->j<size->(L.flatMap Item.cells)[i*size+j]? =t.cells[j]?
 | t0::L,h,0,j,t,hi,hj=>by
  simp only[List.getElem?_cons_zero,Option.some.injEq]at hi;subst hi;rw[List.flatMap_cons,Nat.zero_mul,Nat.zero_add,List.getElem?_append_left (by rw[h t0 (by simp)];exact hj)]
 | t0::L,h,i+1,j,t,hi,hj=>by
  have A:=h t0 (by simp);rw[List.flatMap_cons,List.getElem?_append_right (by rw[A,Nat.add_mul];omega),A,show(i+1)*size+j - size=i*size+j from by rw[Nat.add_mul];omega];exact flat_get (fun t B=>h t (by simp[B])) (by simpa using hi) hj
theorem z5g.get{w:World}{e size:Nat}{v:Value}{L:List Item}(h:z5g w e size v L){i:Nat}{t:Item}(I:L[i]? =some t):
  ∃g cap,v= .slice (some ⟨g,0,none⟩) L.length cap/\(∀j,j<size->w.cell? ⟨g,i*size+j,none⟩=t.cells[j]?)/\(∀o,w.frozen? ⟨g,o,none⟩=false)/\g<w.heap.size:=by
 have A:=(List.getElem?_eq_some_iff.1 I).1;obtain⟨g,cap,rfl,_⟩:=z2z h.row (by
  intro J;rcases h.row.2 with⟨_,B⟩|⟨_,_,_,B,_⟩
  ·omega
  ·rw[J]at B;cases B)
 refine⟨g,cap,rfl,fun j N=>?_,h.row.frozenAt,(h.row.lt g rfl).2⟩;have hb:i*size+j<L.length*size:=by
  have:(i+1)*size<=L.length*size:=Nat.mul_le_mul_right _ A;rw[Nat.add_mul]at this;omega
 rw[h.row.cellAt _ hb];exact flat_get (fun t O=>(h.each t O).1) I N
theorem z5g.head{w:World}{e size:Nat}{v:Value}{L:List Item}(h:z5g w e size v L):∃a c,v= .slice a L.length c:=by
 rcases h.row.2 with⟨rfl,A⟩|⟨g,cap,_,rfl,_⟩
 ·exact⟨none,0,by rw[A]⟩
 ·exact⟨_,_,rfl⟩
theorem y1D{v N:Value}{L:List Item}{t:Item}{B C:Nat}(h:(z7V v L).Nodup)(I:∀k∈z7V v L,k<B)(hx:∀g,t.x.ownBlock=some g->B<=g/\g<C)
  (Y:B<=C) (R:N.ownBlock=v.ownBlock\/N.ownBlock=some C):(z7V N (L++ [t])).Nodup:=by
 simp only[z7V,List.flatMap_append,List.flatMap_cons,List.flatMap_nil,List.append_nil]at h I ⊢;rw[<-List.append_assoc];have O:∀k∈L.flatMap (fun t=>t.x.ownBlock.toList),k<B:=fun k hk=>I k (List.mem_append_right _ hk);have U:=List.nodup_append.1 h;have J:(N.ownBlock.toList++L.flatMap fun t=>t.x.ownBlock.toList).Nodup:=by
  rcases R with e|e
  ·rw[e];exact h
  ·rw[e];simp only[Option.toList_some,List.cons_append,List.nil_append,List.nodup_cons];exact⟨fun hm=>by have:=O _ hm;omega,U.2.1⟩
 refine List.nodup_append.2 ⟨J,by cases t.x.ownBlock<;>simp,fun a A b hb=>?_⟩;have a0:=hx b (by simpa using hb);rcases List.mem_append.1 A with A|A
 ·rcases R with e|e
  ·rw[e]at A;have:=I a (List.mem_append_left _ A);omega
  ·rw[e]at A;simp only[Option.toList_some,List.mem_singleton]at A;omega
 ·have:=O a A;omega
theorem z5g.append{w U w2:World}{e size:Nat}{v v':Value}{L:List Item}{t:Item}(h:z5g w e size v L)(hb:Below w.heap.size w U)(ht:t.cells.length=size)(a8:∀u∈t.cells,u.oneCell'=true)
  (hx:U.ownsRow 0 5 1 t.x t.b.length (z0b t.b)) (a4:∀g,t.x.ownBlock=some g->w.heap.size<=g) (A:U.grownBy w2 v.ownBlock)
  (N:w2.ownsRow 0 e size v' (L.length+1) (L.flatMap Item.cells++t.cells)) (a3:v'.ownBlock=v.ownBlock\/v'.ownBlock=some U.heap.size):
  z5g w2 e size v' (L++ [t])/\Chg (z7V v L) (z7V v' (L++ [t])) w w2:=by
 have J:=h.lt;have a2:=hb.size;have R:∀g,t.x.ownBlock=some g->w.heap.size<=g/\g<U.heap.size:=fun g hg=>⟨a4 g hg,(hx.lt g hg).2⟩;have a7:=y1D (t:=t) h.nodup J R a2 a3;have hk:∀k,k<U.heap.size->some k≠v.ownBlock->w2.heap[k]? =U.heap[k]? :=A.block;have a1:=List.nodup_append.1 h.nodup;refine⟨⟨a7,by simpa using N,fun s O=>?_⟩,⟨A.os.trans hb.os,A.tape.trans hb.tape,A.output.trans hb.output,Nat.le_trans hb.size A.size,fun k a6 a0=>?_,fun k B=>?_⟩⟩
 ·rcases List.mem_append.1 O with O|O
  ·obtain⟨h1,h2,h3⟩:=h.each s O;refine⟨h1,h2,j7 h3 fun b I=>?_⟩;have Y:b∈L.flatMap fun t=>t.x.ownBlock.toList:=List.mem_flatMap.2 ⟨s,O,by simp[I]⟩;have a5:=J b (List.mem_append_right _ Y);rw[hk b (by omega) (fun e=>a1.2.2 b (by simp[<-e]) b Y rfl),hb.block b a5]
  ·simp only[List.mem_singleton]at O;subst O;refine⟨ht,a8,j7 hx fun b I=>hk b (R b I).2 fun e=>?_⟩;have:=J b (by simp[z7V,<-e]);have:=(R b I).1;omega
 ·simp only[z7V,List.mem_append,not_or,Option.mem_toList]at a0;rw[hk k (by omega) (fun e=>a0.1 e.symm),hb.block k a6]
 ·simp only[z7V,List.flatMap_append,List.flatMap_cons,List.flatMap_nil,List.append_nil,List.mem_append,Option.mem_toList]at B ⊢;rcases B with B|B|B
  ·rcases a3 with e|e
   ·exact .inl (.inl (e▸B))
   ·rw[e]at B;cases B;exact .inr a2
  ·exact .inl (.inr B)
  ·exact .inr (a4 k B)
structure y0D (w:World) (size:Nat) (v:Value) (L:List Item):Prop where
 row:Rd w v size L.length (L.flatMap Item.cells)
 each:∀t∈L,t.cells.length=size/\Rd w t.x 1 t.b.length (z0b t.b)
theorem z5g.rd{w:World}{e size:Nat}{v:Value}{L:List Item}(h:z5g w e size v L):y0D w size v L:=
 ⟨z0e h.row,fun t A=>⟨(h.each t A).1,z0e (h.each t A).2.2⟩⟩
theorem y0D.same{w w':World}{size:Nat}{v:Value}{L:List Item}(h:y0D w size v L)(I:∀k,k<w.heap.size->(v.ownBlock=some k\/∃t∈L,t.x.ownBlock=some k)->w'.heap[k]? =w.heap[k]?):y0D w' size v L:=
 ⟨h.row.kept fun b hb A=>I b A (.inl hb),fun t B=>⟨(h.each t B).1,(h.each t B).2.kept fun b hb A=>I b A (.inr ⟨t,B,hb⟩)⟩⟩
end
section
open Go.RowKit Go.ChangeShapes Go.WideShapes Go.ChangeAt Go.Deep
theorem own:ownKnob prog.godebug=none:=by kernel_rfl
theorem laidOut:laidOutB prog=true:=by kernel_rfl
theorem z7Z{H:Type}{enc:TypeId×Value->H}{W R:World}(hb:Below W.heap.size W R):∀(I:List TypeId) (L:List Value) (J:List (DataW H)) (B:List MemPlace),(∀t∈I,prog.readableRec t=true/\t<prog.types.size)->
  DataW.TrodAll enc prog W 0 (fun _=>true) true I L J B->(∀x∈B,x.block<W.heap.size)->∀sp:Nat->Bool,(∀x∈B,sp x.block=true)->DataW.TrodAll enc prog R 0 sp true I L J B
 | [],L,J,B,_,h,_,sp,_=>by
  obtain⟨rfl,rfl,rfl⟩:=trodAll_nil h;exact trodAll_mk0
 | t::I,L,J,B,hr,h,hlt,sp,hsp=>by
  obtain⟨v,O,d,N,p,q,rfl,rfl,rfl,U,Y⟩:=trodAll_cons h;obtain⟨r1,r2⟩:=hr t (by simp);exact trodAll_cons_mk (WideElems.Trod_stays laidOut r1 r2 U (fun x A=>hb.same (hlt x (List.mem_append_left _ A))) (fun x A=>hsp x (List.mem_append_left _ A)))
   (z7Z hb I O N q (fun t ht=>hr t (by simp[ht])) Y (fun x A=>hlt x (List.mem_append_right _ A)) sp (fun x A=>hsp x (List.mem_append_right _ A)))
theorem q0X{H:Type}{enc:TypeId×Value->H}{f:Func}{s:ChangeSpec}{W R:World}{args:Array Value}{I U:List (DataW H)}{before:List MemPlace}
  (J:DataW.Whole enc prog f.params.toList s.vars false W args.toList I U before) (hb:Below W.heap.size W R) (hv:s.vars= []) (hr:f.resultTypes= #[4])
  (O:s.fn H (I++U)={results:= [.lit (.bool true)],args:=I}) (N:(f.params.toList.all fun t=>prog.readableRec t&&decide (t<prog.types.size))=true):
  s.post enc prog f false true false false W args (.bool true) R:=by
 have hp:∀t∈f.params.toList,prog.readableRec t=true/\t<prog.types.size:=fun t ht=>by
  have:=List.all_eq_true.1 N t ht;simpa using this
 have B:∀x∈before,x.block<W.heap.size:=fun x A=>J.lt x A;have L:=J;obtain⟨p,q,hA,Y,rfl,a0,_⟩:=J;rw[hv]at Y;obtain⟨rfl,rfl⟩:=trodVars_none Y;refine⟨I, [],_, [],p, [],L,?_,?_,?_,World.keptBut_mono (fun x A=>⟨A,?_⟩) (hb.frame (·∈p++ [])),fun h=>by cases h⟩
 ·rw[O,hr];exact trodAll_cons_mk (shut_bool underlying4 true) trodAll_mk0
 ·rw[O];exact z7Z hb _ _ _ _ hp hA (fun x A=>B x (List.mem_append_left _ A)) _ (fun x A=>by simpa using B x (List.mem_append_left _ A))
 ·rw[hv,O];rfl
 ·simpa using A
theorem z5M{α:Type}{R:Nat->α->Prop}:∀n,(∀i,i<n->∃y,R i y)->∃l:List α,l.length=n/\∀i (B:i<l.length),R i l[i]
 | 0,_=>⟨[],rfl,fun i B=>by simp at B⟩
 | n+1,key=>by
  obtain⟨b,A,hb⟩:=z5M n fun i B=>key i (by omega);obtain⟨y,I⟩:=key n (by omega);refine⟨b++ [y],by simp[A],fun i B=>?_⟩;by_cases e:i<b.length
  ·rw[List.getElem_append_left e];exact hb i e
  ·have:i=n:=(by simp at B;omega);subst this;rw[List.getElem_append_right (by omega)];simpa[A]using I
theorem wf_u32{n:Int}(h:(Lit.int .u32 n).wf=true):0<=n/\n<=4294967295:=by simpa[Lit.wf,IntKind.min,IntKind.max,IntKind.signed,IntKind.bits]using h
theorem wf_u64{n:Int}(h:(Lit.int .u64 n).wf=true):0<=n/\n<=18446744073709551615:=by simpa[Lit.wf,IntKind.min,IntKind.max,IntKind.signed,IntKind.bits]using h
theorem wf_i64{n:Int}(h:(Lit.int .i64 n).wf=true): -9223372036854775808<=n/\n<=9223372036854775807:=by simpa[Lit.wf,IntKind.min,IntKind.max,IntKind.signed,IntKind.bits]using h
theorem y6R{H:Type}{enc:TypeId×Value->H}{W:World}{fuel:Nat}{cs:List Value}{x:DataW H×List MemPlace}(h:DataW.trod enc prog W 0 (fun _=>true) true fuel 47 cs=some x):
  ∃(v:Value) (b:List UInt8),cs= [v]/\Rd W v 1 b.length (z0b b)/\b.length<=maxLen:=by
 rcases open_slice underlying47 h with⟨rfl,_⟩|⟨a,len,cap,m,n,D,Pl,rfl,_,hl,hm,I,_,hi⟩
 ·exact⟨_, [],rfl,⟨by simp[z0b],.inl ⟨rfl,rfl⟩⟩,by decide⟩
 simp only[if_true]at I;have U:prog.cellsOf 5=1:=by kernel_rfl
 have key:∀i,i<len->∃y:UInt8,W.cell? (a.add i)=some (.int .u8 y.toNat):=by
  intro i a0;obtain⟨O,L,ht⟩:=hi i (by omega);rw[U,Nat.mul_one]at L;obtain⟨_,Y,A⟩:=World.cells?_some L;obtain⟨z,rfl,_,J⟩:=DataW.trod_int underlying5 ht;have R:=A 0 (by omega);have hz:0<=z/\z<=255:=by simpa[Lit.wf,IntKind.min,IntKind.max,IntKind.signed,IntKind.bits]using J
  refine⟨UInt8.ofNat z.toNat,?_⟩;have e:((UInt8.ofNat z.toNat).toNat:Int)=z:=by simp;omega
  rw[e];simpa[Addr.add]using R
 obtain⟨b,B,hb⟩:=z5M len key;subst B;refine⟨_,b,rfl,⟨by simp[z0b],.inr ⟨a,cap,rfl,fun j u N=>?_⟩⟩,by omega⟩;simp only[z0b,List.getElem?_map,Option.map_eq_some_iff]at N;obtain⟨y,hy,rfl⟩:=N;obtain⟨hj,rfl⟩:=List.getElem?_eq_some_iff.1 hy;exact hb j hj
end

/-
  Laws on memory, over whatever program: what a slice reads as, and append of it onto a slice of the call's own.
-/
import Derived.Test.YtfcnapnopdomhaaGreatDoorRows
import Derived.WalkKit
import Derived.WalkSpells
import Derived.Laws.AppendOwnNone
import Derived.Deep.RegionLaw
import Derived.Deep.RegionHeld3
import Derived.Deep.QuietTactic
import Derived.BigQuiet
namespace Go.Proofs.YtfcnapnopdomhaaGreatDoor
set_option linter.unusedSimpArgs false
set_option linter.unusedVariables false
set_option maxRecDepth 100000
set_option maxHeartbeats 12800000
section
open Go.RowKit
theorem z7{p:Prop}(h:p):Hid p:=h
def Rd(w:World)(x:Value)(size m:Nat)(xs:List Value):Prop:=
 xs.length=m*size∧((x= .slice none 0 0∧m=0)∨∃a c,x= .slice (some a) m c∧∀j u,xs[j]? =some u→w.cell? (a.add j)=some u)
theorem Rd.kept{w w':World}{x:Value}{size m:Nat}{xs:List Value}(h:Rd w x size m xs)(hk:∀b,x.ownBlock=some b→b<w.heap.size→w'.heap[b]? =w.heap[b]?):Rd w' x size m xs:=by
 refine ⟨h.1,?_⟩;rcases h.2 with h2 | ⟨a,c,rfl,h2⟩
 ·exact .inl h2
 ·refine .inr ⟨a,c,rfl,fun j u hu=>?_⟩;have h3:=h2 j u hu;have hb:(a.add j).block=a.block:=by unfold Addr.add;split<;>rfl
  have hlt:=World.block_lt_of_cell? _ _ h3;rw [hb] at hlt;rw [World.cell?_of_block (w:=w) (by rw [hb];exact hk _ rfl hlt)];exact h3
theorem Rd.alloc{w:World}{x:Value}{size m:Nat}{xs:List Value}(h:Rd w x size m xs)(o:Obj):Rd (w.alloc o) x size m xs:=
 h.kept fun _ _ hb=>Below.heap_alloc w o _ hb
theorem Rd.below{w w':World}{x:Value}{size m:Nat}{xs:List Value}{B:Nat}(h:Rd w x size m xs)(hb:Below B w w')(hx:∀b,x.ownBlock=some b→b<B):Rd w' x size m xs:=
 h.kept fun b hb' _=>hb.block b (hx b hb')
theorem z3C(w:World)(cs:Array Value)(e:TypeId)(m size:Nat)(hs:0<m)(h:cs.size=m*size):Rd (w.alloc (.cells cs e)) (.slice (some ⟨w.heap.size,0,none⟩) m m) size m cs.toList:=by
 refine ⟨by simpa using h, .inr ⟨_,_,rfl,fun j u hu=>?_⟩⟩;have hadd:(⟨w.heap.size,0,none⟩:Addr).add j=⟨w.heap.size,j,none⟩:=by unfold Addr.add;split<;>simp_all
 rw [hadd,cell_of_row (w.alloc (.cells cs e)) w.heap.size j cs e (0,0) (by show (w.heap.push _)[w.heap.size]? =_;simp)];simpa using hu
section
variable {P:Program} {w:World} {a:Act} {o:Oper} {K:Act→World→Prop} {Q:Exit→Act→World→Prop}
theorem z3t(base:Nat)(t ty e:TypeId)(i:TypeInfo)(z:Value)(size bytes:Nat)(ht:P.underlying t=some (.slice e))(hi:P.info? e=some i)(hz:i.zero=some z)
  (hsize:i.size=size) (hby:i.bytes=bytes) (hzs:z.cells.size=size) (hsz:0<size)
  (v:Value) (n:Nat) (xs:List Value) (hown:w.ownsRow base e size v n xs)
  (x:Value) (m:Nat) (news:List Value) (hx:Rd w x size m news) (h1:∀u∈news,u.oneCell'=true)
  (h63:n+m≤maxLen) (hbytes:(n+m)*bytes≤140737488355328) (hbase:base≤w.heap.size):
  ∃v' w',(Builtin.append_ #[t,t] ty #[v,x]).run P w= .ok v' w'∧w'.ownsRow base e size v' (n+m) (xs++news)∧w.grownBy w' v.ownBlock∧
   (v'= .slice none 0 0↔v= .slice none 0 0∧m=0)∧(v'.ownBlock=v.ownBlock∨v'.ownBlock=some w.heap.size):=by
 obtain ⟨hl,⟨rfl,rfl⟩ | ⟨ad,c,rfl,hc⟩⟩:=hx
 ·have hn:news= []:=List.eq_nil_of_length_eq_zero (by simpa using hl);subst hn;exact ⟨v,w,run_append_owned_none w base t ty e i size ht hi v n xs hown,by simpa using hown,⟨rfl,rfl,rfl,Nat.le_refl _,fun _ _ _=>rfl⟩,by simp, .inl rfl⟩
 ·obtain ⟨v',w',hr,ho,hg,hv⟩:=run_append_own w base t ty e i z size bytes ht hi hz hsize hby hzs hsz v n xs hown ad m c news hl hc h1 h63 hbytes hbase;refine ⟨v',w',hr,ho,hg,hv,?_⟩;subst hsize;subst hby;have hsmall:n+m≤9223372036854775807:=by simp only [maxLen] at h63;omega
  rcases hown.2 with ⟨rfl,rfl⟩ | ⟨g,cap,cur,rfl,hbg,hgg,hnc,hcm,hcs,htake⟩
  ·by_cases hm:m=0
   ·have:=hv.2 ⟨rfl,hm⟩;subst this;exact .inl rfl
   ·have hr2:=run_append_nil (P:=P) w t ty e i z ht hi hz ad m c news hl hc (by omega) (by omega) (by have hb:=hbytes;simp only [Nat.zero_add] at hb;omega);rw [hr2] at hr
    injection hr with hr1 hr2
    subst hr1;exact .inr rfl
  ·by_cases hroom:n+m≤cap
   ·have hfit:n*i.size+news.length≤cur.size:=by rw [hl,hcs,←Nat.add_mul];exact Nat.mul_le_mul_right _ hroom
    have hr2:=run_append_room (P:=P) w t ty e i ht hi g n cap cur hgg ad m c news hl hc h1 hroom hfit;rw [hr2] at hr
    injection hr with hr1 hr2
    subst hr1;exact .inl rfl
   ·have hr2:=run_append_grow (P:=P) w t ty e i z ht hi hz ⟨g,0,none⟩ n cap xs hown.1 (hown.cells (g:=g) rfl) ad m c news hl hc (by omega) (by omega) (growslice_fits (by omega) hbytes);rw [hr2] at hr
    injection hr with hr1 hr2
    subst hr1;exact .inr rfl
theorem z3o(s x:Operand)(t:TypeId)
  (ho:o.op= .call {callee:= .builtin .append,args:= #[s,x],argTypes:= #[t,t]})
  (base:Nat) (e:TypeId) (i:TypeInfo) (z:Value) (size bytes:Nat) (ht:P.underlying t=some (.slice e)) (hi:P.info? e=some i) (hz:i.zero=some z)
  (hsize:i.size=size) (hby:i.bytes=bytes) (hzs:z.cells.size=size) (hsz:0<size)
  (v:Value) (n:Nat) (xs:List Value) (hs:a.eval s=v) (hown:w.ownsRow base e size v n xs)
  (xv:Value) (m:Nat) (news:List Value) (hx:a.eval x=xv) (hrd:Rd w xv size m news) (h1:∀u∈news,u.oneCell'=true)
  (h63:n+m≤maxLen) (hbytes:(n+m)*bytes≤140737488355328) (hbase:base≤w.heap.size)
  (h:∀v' w',w'.ownsRow base e size v' (n+m) (xs++news)→w.grownBy w' v.ownBlock→(v'= .slice none 0 0↔v= .slice none 0 0∧m=0)→(v'.ownBlock=v.ownBlock∨v'.ownBlock=some w.heap.size)→K (a.put o.dst v') w'):o.wp P a w K Q:=by
 obtain ⟨v',w',hr,h2,h3,h4,h5⟩:=z3t (P:=P) (w:=w) base t o.type e i z size bytes ht hi hz hsize hby hzs hsz v n xs hown xv m news hrd h1 h63 hbytes hbase;unfold Oper.wp execOp;simp only [ho,resolve,invoke,builtin,Sem.run_bind,Sem.run_pure,Result.andThen_ok,List.map_toArray,List.map_cons,List.map_nil,hs,hx,hr];exact h v' w' h2 h3 h4 h5
theorem z1J{ops:Array Oper}{rest:List Oper}(hgd:o.guard=none)(s x:Operand)(t:TypeId)
  (ho:o.op= .call {callee:= .builtin .append,args:= #[s,x],argTypes:= #[t,t]})
  (base:Nat) (e:TypeId) (i:TypeInfo) (z:Value) (size bytes:Nat) (ht:P.underlying t=some (.slice e)) (hi:P.info? e=some i) (hz:i.zero=some z)
  (hsize:i.size=size) (hby:i.bytes=bytes) (hzs:z.cells.size=size) (hsz:0<size)
  (v:Value) (n:Nat) (xs:List Value) (hs:a.eval s=v) (hown:w.ownsRow base e size v n xs)
  (xv:Value) (m:Nat) (news:List Value) (hx:a.eval x=xv) (hrd:Rd w xv size m news) (h1:∀u∈news,u.oneCell'=true)
  (h63:n+m≤maxLen) (hbytes:(n+m)*bytes≤140737488355328) (hbase:base≤w.heap.size)
  (h:∀v' w',w'.ownsRow base e size v' (n+m) (xs++news)→w.grownBy w' v.ownBlock→(v'= .slice none 0 0↔v= .slice none 0 0∧m=0)→(v'.ownBlock=v.ownBlock∨v'.ownBlock=some w.heap.size)→wpList P ops Q rest (a.put o.dst v') w'):wpList P ops Q (o::rest) a w:=
 wpList_plain hgd fun _ hK=>z3o s x t ho base e i z size bytes ht hi hz hsize hby hzs hsz v n xs hs hown xv m news hx hrd h1 h63 hbytes hbase fun v' w' h2 h3 h4 h5=>hK _ _ (h v' w' h2 h3 h4 h5)
end
theorem z4N{w:World}{base e size n:Nat}{v:Value}{xs:List Value}(h:w.ownsRow base e size v n xs)(hn:v≠ .slice none 0 0):∃g cap,v= .slice (some ⟨g,0,none⟩) n cap∧base≤g:=by
 rcases h.2 with ⟨rfl,_⟩ | ⟨g,cap,_,rfl,hb,_⟩
 ·exact absurd rfl hn
 ·exact ⟨g,cap,rfl,hb⟩
theorem z0i{w:World}{base base' e size n:Nat}{v:Value}{xs:List Value}(h:w.ownsRow base e size v n xs)(hb:base'≤base):w.ownsRow base' e size v n xs:=by
 refine ⟨h.1,?_⟩;rcases h.2 with h2 | ⟨g,cap,cur,h1,h2,h3⟩
 ·exact .inl h2
 ·exact .inr ⟨g,cap,cur,h1,Nat.le_trans hb h2,h3⟩
theorem j7{w w':World}{base e size n:Nat}{v:Value}{xs:List Value}(h:w.ownsRow base e size v n xs)(hk:∀b,v.ownBlock=some b→w'.heap[b]? =w.heap[b]?):w'.ownsRow base e size v n xs:=by
 refine ⟨h.1,?_⟩;rcases h.2 with h2 | ⟨g,cap,cur,rfl,h2,h3,h4⟩
 ·exact .inl h2
 ·exact .inr ⟨g,cap,cur,rfl,h2,(hk g rfl).trans h3,h4⟩
theorem z0d{w:World}{base e size n:Nat}{v:Value}{xs:List Value}(h:w.ownsRow base e size v n xs):Rd w v size n xs:=by
 refine ⟨h.1,?_⟩;rcases h.2 with h2 | ⟨g,cap,cur,rfl,h2⟩
 ·exact .inl h2
 ·exact .inr ⟨⟨g,0,none⟩,cap,rfl,h.cells rfl⟩
structure Chg (F F':List Nat) (w w':World):Prop where
 os:w'.os=w.os
 tape:w'.tape=w.tape
 output:w'.output=w.output
 size:w.heap.size≤w'.heap.size
 block:∀k,k<w.heap.size→k∉F→w'.heap[k]? =w.heap[k]?
 fresh:∀k,k∈F'→k∈F∨w.heap.size≤k
theorem Chg.refl(F:List Nat)(w:World):Chg F F w w:=⟨rfl,rfl,rfl,Nat.le_refl _,fun _ _ _=>rfl,fun _ h=> .inl h⟩
theorem Chg.trans{F G H:List Nat}{a b c:World}(h:Chg F G a b)(k:Chg G H b c):Chg F H a c:=by
 refine ⟨k.os.trans h.os,k.tape.trans h.tape,k.output.trans h.output,Nat.le_trans h.size k.size,fun i hi hn=>?_,fun i hi=>?_⟩
 ·refine (k.block i (Nat.lt_of_lt_of_le hi h.size) fun hg=>?_).trans (h.block i hi hn);rcases h.fresh i hg with h1 | h1
  ·exact hn h1
  ·omega
 ·rcases k.fresh i hi with h1 | h1
  ·exact h.fresh i h1
  ·exact .inr (Nat.le_trans h.size h1)
theorem Chg.of_below{F:List Nat}{w w':World}(h:Below w.heap.size w w'):Chg F F w w':=⟨h.os,h.tape,h.output,h.size,fun k hk _=>h.block k hk,fun _ h=> .inl h⟩
theorem Chg.below{F F':List Nat}{w w':World}{B:Nat}(h:Chg F F' w w')(hB:B≤w.heap.size)(hF:∀k∈F,B≤k):Below B w w':=
 ⟨h.os,h.tape,h.output,h.size,fun k hk=>h.block k (by omega) fun hk'=>by have:=hF k hk';omega⟩
theorem Chg.up{F F':List Nat}{w w':World}{B:Nat}(h:Chg F F' w w')(hB:B≤w.heap.size)(hF:∀k∈F,B≤k):∀k∈F',B≤k:=fun k hk=>by
 rcases h.fresh k hk with h1 | h1
 ·exact hF k h1
 ·omega
theorem ownsRow_below{w w':World}{base e size n B:Nat}{v:Value}{xs:List Value}(h:w.ownsRow base e size v n xs)(hb:Below B w w')(hB:w.heap.size≤B):w'.ownsRow base e size v n xs:=
 j7 h fun b hb'=>hb.block b (Nat.lt_of_lt_of_le (h.lt b hb').2 hB)
theorem q7{w:World}{b o k:Nat}{u:Value}(h:k≠b):(w.setCell ⟨b,o,none⟩ u).heap[k]? =w.heap[k]? :=Below.heap_setCell w ⟨b,o,none⟩ u k h
def laid(cur:List Value)(o:Nat)(vs:List Value):List Value:=cur.take o++vs++cur.drop (o+vs.length)
theorem y4e(cur:List Value)(o:Nat)(vs:List Value)(h:o+vs.length≤cur.length):(laid cur o vs).length=cur.length:=by
 simp [laid];omega
theorem j9{w:World}{b:Nat}{cur:Array Value}{e:TypeId}{fr:Nat×Nat}(h:w.heap[b]? =some (.cells cur e fr))(o:Nat)(u:Value):
  (w.setCell ⟨b,o,none⟩ u).heap[b]? =some (.cells (cur.setIfInBounds o u) e fr):=by
 simp [World.setCell,Array.getElem?_modify,h]
theorem z0I{b:Nat}{e:TypeId}{fr:Nat×Nat}:∀(vs:List Value) (o:Nat) (w:World) (cur:Array Value),w.heap[b]? =some (.cells cur e fr)→o+vs.length≤cur.size→
  (w.setCells b o vs).heap[b]? =some (.cells (laid cur.toList o vs).toArray e fr)
 | [],o,w,cur,h,_=>by simpa [World.setCells,laid] using h
 | v::vs,o,w,cur,h,hle=>by
  rw [World.setCells,z0I vs (o+1) _ _ (j9 h o v) (by simp at hle ⊢;omega)];have:laid (cur.setIfInBounds o v).toList (o+1) vs=laid cur.toList o (v::vs):=by
   have ho:o<cur.toList.length:=by simp at hle ⊢;omega
   simp only [laid,Array.toList_setIfInBounds,List.length_cons];rw [List.take_succ_eq_append_getElem (by simpa using ho),List.take_set_of_le (Nat.le_refl _),List.getElem_set_self,List.drop_set_of_lt (by omega)];rw [show o+1+vs.length=o+(vs.length+1) from by omega];simp
  rw [this]
theorem z0T{b k:Nat}(hk:k≠b):∀(vs:List Value) (o:Nat) (w:World),(w.setCells b o vs).heap[k]? =w.heap[k]?
 | [],_,_=>rfl
 | v::vs,o,w=>by rw [World.setCells,z0T hk vs,q7 hk]
theorem z7x(b:Nat):∀(vs:List Value) (o:Nat) (w:World),(w.setCells b o vs).os=w.os∧(w.setCells b o vs).tape=w.tape∧(w.setCells b o vs).output=w.output∧(w.setCells b o vs).heap.size=w.heap.size
 | [],_,_=>⟨rfl,rfl,rfl,rfl⟩
 | v::vs,o,w=>by
  obtain ⟨h1,h2,h3,h4⟩:=z7x b vs (o+1) (w.setCell ⟨b,o,none⟩ v);exact ⟨h1,h2,h3,by rw [World.setCells,h4];simp [World.setCell]⟩
theorem Chg.setCells{b:Nat}(vs:List Value)(o:Nat)(w:World):Chg [b] [b] w (w.setCells b o vs):=by
 obtain ⟨h1,h2,h3,h4⟩:=z7x b vs o w;exact ⟨h1,h2,h3,Nat.le_of_eq h4.symm,fun k _ hk=>z0T (by simpa using hk) vs o w,fun k hk=> .inl hk⟩
theorem Chg.cellAt{F F':List Nat}{w w':World}(h:Chg F F' w w'){b:Nat}(o:Nat)(hb:b<w.heap.size)(hn:b∉F):w'.cell? ⟨b,o,none⟩=w.cell? ⟨b,o,none⟩∧w'.frozen? ⟨b,o,none⟩=w.frozen? ⟨b,o,none⟩:=
 ⟨World.cell?_of_block (w:=w) (a:=⟨b,o,none⟩) (h.block b hb hn),World.frozen?_of_block (w:=w) (a:=⟨b,o,none⟩) (h.block b hb hn)⟩
def z0b(l:List UInt8):List Value:=l.map fun b=> .int .u8 b.toNat
theorem z3Y(l:List UInt8):∀u∈z0b l,u.oneCell'=true:=by
 intro u hu;simp only [z0b,List.mem_map] at hu;obtain ⟨b,_,rfl⟩:=hu;rfl
theorem z2X(l r:List UInt8):z0b (l++r)=z0b l++z0b r:=by simp [z0b]
def q0S(b:List UInt8)(i:Nat):Bool:=(b.getD (i/8) 0).toNat.testBit (7 - i%8)
structure z0U (b:List UInt8) (l:List Bool):Prop where
 len:b.length=(l.length+7)/8
 bit:∀i,i<8*b.length→q0S b i=l.getD i false
theorem q2c(b:List UInt8)(j k:Nat)(hk:k<8):q0S b (8*j+k)=(b.getD j 0).toNat.testBit (7 - k):=by
 unfold q0S;rw [show (8*j+k)/8=j by omega,show (8*j+k)%8=k by omega]
theorem z0U.nil:z0U [] []:=⟨rfl,fun i h=>by simp at h⟩
theorem z0U.bits{b:List UInt8}{l m:List Bool}(h:z0U b l)(g:z0U b m)(hl:l.length=m.length):l=m:=by
 apply List.ext_getElem hl;intro i h1 h2;have e:=(h.bit i (by rw [h.len];omega)).symm.trans (g.bit i (by rw [h.len];omega));simpa [List.getD_eq_getElem?_getD,h1,h2] using e
theorem z1G{α:Type}{b c:List α}{j:Nat}{d:α}(h:j<b.length):(b++c).getD j d=b.getD j d:=by
 simp [List.getD_eq_getElem?_getD,List.getElem?_append_left h]
theorem z1x{α:Type}{b c:List α}{j:Nat}{d:α}(h:b.length≤j):(b++c).getD j d=c.getD (j - b.length) d:=by
 simp [List.getD_eq_getElem?_getD,List.getElem?_append_right h]
theorem z5f{α:Type}{b:List α}{j:Nat}{d:α}(h:b.length≤j):b.getD j d=d:=by
 simp [List.getD_eq_getElem?_getD,List.getElem?_eq_none h]
def z5h(y n:Nat):List Bool:=(List.range n).map fun j=>y.testBit (7 - j)
theorem z0Y(y n:Nat):(z5h y n).length=n:=by simp [z5h]
theorem z6R{y n j:Nat}(h:j<n):(z5h y n).getD j false=y.testBit (7 - j):=by simp [z5h,List.getD_eq_getElem?_getD,h]
def z8K(y n:Nat):Prop:=y<256∧∀j,n≤j→j<8→y.testBit (7 - j)=false
theorem z9a{y n j:Nat}(h:z8K y n)(hj:j<8):(z5h y n).getD j false=y.testBit (7 - j):=by
 by_cases hn:j<n
 ·exact z6R hn
 ·rw [z5f (by rw [z0Y];omega),h.2 j (by omega) hj]
theorem y2g{b:List UInt8}{l:List Bool}(hlen:b.length=(l.length+7)/8)(h:∀j k,j<b.length→k<8→(b.getD j 0).toNat.testBit (7 - k)=l.getD (8*j+k) false):z0U b l:=
 ⟨hlen,fun i hi=>by
  have:=h (i/8) (i%8) (by omega) (by omega);unfold q0S;rw [this]
  congr 1
  omega⟩
theorem z0U.at{b:List UInt8}{l:List Bool}(h:z0U b l){j k:Nat}(hj:j<b.length)(hk:k<8):(b.getD j 0).toNat.testBit (7 - k)=l.getD (8*j+k) false:=by
 have:=h.bit (8*j+k) (by omega);rw [q2c _ _ _ hk] at this;exact this
theorem q2b{b:List UInt8}{l:List Bool}{y n:Nat}(h:z0U b l)(h8:l.length%8=0)(h0:0<n)(hn:n≤8)(hy:z8K y n):z0U (b++ [UInt8.ofNat y]) (l++z5h y n):=by
 have hl:=h.len;refine y2g (by simp [z0Y];omega) fun j k hj hk=>?_;have hyn:(UInt8.ofNat y).toNat=y:=by rw [UInt8.toNat_ofNat'];have:=hy.1;omega
 by_cases hjb:j<b.length
 ·rw [z1G hjb,z1G (by omega)];exact h.at hjb hk
 ·obtain rfl:j=b.length:=by simp at hj;omega
  rw [z1x (Nat.le_refl _),z1x (by omega),show 8*b.length+k - l.length=k by omega,z9a hy hk];simp [hyn]
theorem q1b{b:List UInt8}{l:List Bool}{y n k z:Nat}(h:z0U b l)(hk:l.length%8=k)(hk0:0<k)(hn:n≤8)(hy:z8K y n)(hb:b.getD (b.length - 1) 0=UInt8.ofNat z)(hz:z<256):
  z0U (b.set (b.length - 1) (UInt8.ofNat (z ||| y/2^k))++(if 8 - k<n then [UInt8.ofNat (y*2^(8 - k)%256)] else [])) (l++z5h y n):=by
 have hl:=h.len;have hb0:0<b.length:=by omega
 have hd:y/2^k≤y:=Nat.div_le_self _ _;have hor:z ||| y/2^k<256:=Nat.or_lt_two_pow (n:=8) hz (by have:=hy.1;omega);refine y2g (by split<;>simp [z0Y]<;>omega) fun j i hj hi=>?_;by_cases hjb:j<b.length
 ·rw [z1G (by simpa using hjb)];by_cases hjl:j=b.length - 1
  ·subst hjl;have e:∀Y:UInt8,(b.set (b.length - 1) Y).getD (b.length - 1) 0=Y:=fun Y=>by simp [List.getD_eq_getElem?_getD,List.getElem?_set,show b.length - 1<b.length by omega]
   rw [e,UInt8.toNat_ofNat',Nat.mod_eq_of_lt hor,Nat.testBit_or,←Nat.shiftRight_eq_div_pow,Nat.testBit_shiftRight];have h1:=h.at (j:=b.length - 1) (k:=i) (by omega) hi;rw [hb,UInt8.toNat_ofNat',Nat.mod_eq_of_lt hz] at h1;rw [h1];by_cases hik:i<k
   ·rw [z1G (by omega),Nat.testBit_lt_two_pow (Nat.lt_of_lt_of_le hy.1 (show 2^8≤2^(k+(7 - i)) from Nat.pow_le_pow_right (by decide) (by omega))),Bool.or_false]
   ·rw [z5f (by omega:l.length≤8*(b.length - 1)+i),z1x (by omega),Bool.false_or,show 8*(b.length - 1)+i - l.length=i - k by omega,z9a hy (by omega),show k+(7 - i)=7 - (i - k) by omega]
  ·have e:(b.set (b.length - 1) (UInt8.ofNat (z ||| y/2^k))).getD j 0=b.getD j 0:=by simp [List.getD_eq_getElem?_getD,List.getElem?_set_ne (Ne.symm hjl)]
   rw [e,z1G (by omega)];exact h.at hjb hi
 ·split at hj
  ·rename_i hover;rw [if_pos hover];simp at hj;obtain rfl:j=b.length:=by omega
   rw [z1x (by simp),z1x (by omega)];simp only [List.length_set,Nat.sub_self,List.getD_cons_zero,UInt8.toNat_ofNat',Nat.mod_mod];rw [show (256:Nat)=2^8 from rfl];rw [Nat.testBit_mod_two_pow,←Nat.shiftLeft_eq,Nat.testBit_shiftLeft,show 8*b.length+i - l.length=i+(8 - k) by omega];rw [decide_eq_true (show 7 - i<8 by omega),Bool.true_and];by_cases hik:i+(8 - k)<8
   ·rw [z9a hy hik,decide_eq_true (show 7 - i≥8 - k by omega),Bool.true_and]
    congr 1
    omega
   ·rw [decide_eq_false (show ¬7 - i≥8 - k by omega),Bool.false_and,z5f (by rw [z0Y];omega)]
  ·simp at hj;omega
theorem q0o{b:List UInt8}{l:List Bool}{y:Nat}(h:z0U b l):z0U b (l++z5h y 0):=by simpa [z5h] using h
def z2L(v w:Nat):List Bool:=(List.range w).map fun j=>v.testBit (w - 1 - j)
theorem z0P(v w:Nat):(z2L v w).length=w:=by simp [z2L]
theorem z8j{v w j:Nat}(h:j<w):(z2L v w).getD j false=v.testBit (w - 1 - j):=by simp [z2L,List.getD_eq_getElem?_getD,h]
theorem y7R(v:Nat):z2L v 0= []:=rfl
theorem z4f{l m:List Bool}(h:l.length=m.length)(g:∀j,j<l.length→l.getD j false=m.getD j false):l=m:=by
 apply List.ext_getElem h;intro j h1 h2;have:=g j h1;simpa [List.getD_eq_getElem?_getD,h1,h2] using this
def z6y(v w n:Nat):Nat:=v/2^(w - n)%256*2^(8 - n)%256
theorem y1Y{v w n j:Nat}(hn:n≤w)(h8:n≤8)(hj:j<8):(z6y v w n).testBit (7 - j)=if j<n then v.testBit (w - 1 - j) else false:=by
 unfold z6y;rw [show (256:Nat)=2^8 from rfl,Nat.testBit_mod_two_pow,←Nat.shiftLeft_eq,Nat.testBit_shiftLeft,Nat.testBit_mod_two_pow,←Nat.shiftRight_eq_div_pow,Nat.testBit_shiftRight];rw [decide_eq_true (show 7 - j<8 by omega),Bool.true_and];split
 ·rw [decide_eq_true (show 7 - j≥8 - n by omega),decide_eq_true (show 7 - j - (8 - n)<8 by omega),Bool.true_and,Bool.true_and]
  congr 1
  omega
 ·rw [decide_eq_false (show ¬7 - j≥8 - n by omega),Bool.false_and]
theorem y1q{v w n:Nat}(hn:n≤w)(h8:n≤8):z8K (z6y v w n) n:=by
 refine ⟨Nat.mod_lt _ (by decide),fun j h1 h2=>?_⟩;rw [y1Y hn h8 h2,if_neg (by omega)]
theorem y4U{v w n:Nat}(hn:n≤w)(h8:n≤8):z2L v w=z5h (z6y v w n) n++z2L v (w - n):=by
 apply z4f (by simp [z0P,z0Y];omega);intro j hj;rw [z0P] at hj;rw [z8j hj];by_cases h:j<n
 ·rw [z1G (by rw [z0Y];exact h),z6R h,y1Y hn h8 (by omega),if_pos h]
 ·rw [z1x (by rw [z0Y];omega),z0Y,z8j (by omega)]
  congr 1
  omega
def z2C(l:List Bool):Nat:=l.foldl (fun a b=>2*a+b.toNat) 0
theorem y3i{P:List Bool→Prop}(h0:P [])(hs:∀l b,P l→P (l++ [b]))(l:List Bool):P l:=by
 have:∀m:List Bool,P m.reverse:=fun m=>by
  induction m with
  | nil=>exact h0
  | cons b m ih=>rw [List.reverse_cons];exact hs _ _ ih
 simpa using this l.reverse
theorem q2i(l:List Bool):∀a,l.foldl (fun a b=>2*a+b.toNat) a=a*2^l.length+z2C l:=by
 unfold z2C
 induction l with
 | nil=>intro a;simp
 | cons b l ih=>
  intro a;rw [List.foldl_cons,ih,List.foldl_cons,ih (2*0+b.toNat),List.length_cons,Nat.pow_succ,Nat.add_mul];have:2*a*2^l.length=a*(2^l.length*2):=by rw [Nat.mul_comm 2 a,Nat.mul_assoc,Nat.mul_comm 2]
  rw [this,show 2*0+b.toNat=b.toNat by omega,Nat.add_assoc]
theorem z6I(l m:List Bool):z2C (l++m)=z2C l*2^m.length+z2C m:=by
 unfold z2C;rw [List.foldl_append,q2i];rfl
theorem z5m(l:List Bool):z2C l<2^l.length:=by
 refine y3i (P:=fun l=>z2C l<2^l.length) (by decide) (fun l b ih=>?_) l
 ·rw [z6I,List.length_append];have h1:z2C [b]≤1:=by cases b<;>decide
  simp only [List.length_singleton,Nat.pow_one,Nat.pow_succ];omega
theorem y6X(l:List Bool)(b:Bool):z2C (l++ [b])=2*z2C l+b.toNat:=by
 rw [z6I];have h1:z2C [b]=b.toNat:=by cases b<;>decide
 simp [h1];omega
theorem z8f(l:List Bool):∀(j:Nat),j<l.length→(z2C l).testBit (l.length - 1 - j)=l.getD j false:=by
 refine y3i (P:=fun l=>∀j,j<l.length→(z2C l).testBit (l.length - 1 - j)=l.getD j false) (fun j h=>by simp at h) (fun l b ih j h=>?_) l
 ·rw [y6X,List.length_append,List.length_singleton];have hb:b.toNat<2:=by cases b<;>decide
  by_cases hj:j<l.length
  ·rw [z1G hj,←ih j hj,show l.length+1 - 1 - j=l.length - 1 - j+1 by omega,Nat.testBit_succ]
   congr 1
   omega
  ·obtain rfl:j=l.length:=by simp at h;omega
   rw [z1x (Nat.le_refl _),show l.length+1 - 1 - l.length=0 by omega,Nat.testBit_zero];cases b<;>simp<;>omega
theorem y7l(l:List Bool):z2L (z2C l) l.length=l:=by
 apply z4f (z0P _ _);intro j hj;rw [z0P] at hj;rw [z8j hj,z8f l j hj]
theorem y7I(v w:Nat):z2C (z2L v w)=v%2^w:=by
 apply Nat.eq_of_testBit_eq;intro k;rw [Nat.testBit_mod_two_pow];by_cases h:k<w
 ·have:=z8f (z2L v w) (w - 1 - k) (by rw [z0P];omega);rw [z0P,show w - 1 - (w - 1 - k)=k by omega,z8j (by omega),show w - 1 - (w - 1 - k)=k by omega] at this;rw [this,decide_eq_true h,Bool.true_and]
 ·have h1:=z5m (z2L v w);rw [z0P] at h1;rw [decide_eq_false h,Bool.false_and,Nat.testBit_lt_two_pow (Nat.lt_of_lt_of_le h1 (Nat.pow_le_pow_right (by decide) (by omega)))]
theorem y9I{b:List UInt8}{l:List Bool}(h:z0U b l){i:Nat}(hi:i<l.length)(z z':Nat)(hz:(b.getD (i/8) 0).toNat=z)(hz':(b.getD (i/8+1) 0).toNat=z'):
  ∀j,j<8→((z*2^(i%8)%256) ||| (if 0<i%8∧i/8+1<b.length then z'/2^(8 - i%8) else 0)).testBit (7 - j)=l.getD (i+j) false:=by
 intro j hj;have hl:=h.len;have hz8:z<256:=by rw [←hz];exact (b.getD (i/8) 0).toNat_lt
 have hz8':z'<256:=by rw [←hz'];exact (b.getD (i/8+1) 0).toNat_lt
 rw [Nat.testBit_or,show (256:Nat)=2^8 from rfl,Nat.testBit_mod_two_pow,←Nat.shiftLeft_eq,Nat.testBit_shiftLeft,decide_eq_true (show 7 - j<8 by omega),Bool.true_and];by_cases hik:i%8+j<8
 ·have h1:=h.at (j:=i/8) (k:=i%8+j) (by omega) hik;rw [hz] at h1;rw [decide_eq_true (show 7 - j≥i%8 by omega),Bool.true_and,show 7 - j - i%8=7 - (i%8+j) by omega,h1,show 8*(i/8)+(i%8+j)=i+j by omega];split
  ·rw [←Nat.shiftRight_eq_div_pow,Nat.testBit_shiftRight,Nat.testBit_lt_two_pow (Nat.lt_of_lt_of_le hz8' (show 2^8≤2^(8 - i%8+(7 - j)) from Nat.pow_le_pow_right (by decide) (by omega))),Bool.or_false]
  ·rw [Nat.zero_testBit,Bool.or_false]
 ·rw [decide_eq_false (show ¬7 - j≥i%8 by omega),Bool.false_and,Bool.false_or];split
  ·rename_i hc;have h1:=h.at (j:=i/8+1) (k:=i%8+j - 8) hc.2 (by omega);rw [hz'] at h1;rw [←Nat.shiftRight_eq_div_pow,Nat.testBit_shiftRight,show 8 - i%8+(7 - j)=7 - (i%8+j - 8) by omega,h1]
   congr 1
   omega
  ·rw [Nat.zero_testBit,z5f (by omega)]
theorem y7a{l:List Bool}{i n y:Nat}(hy:y<256)(hb:∀j,j<8→y.testBit (7 - j)=l.getD (i+j) false)(hn:n≤8)(hi:i+n≤l.length):y/2^(8 - n)=z2C ((l.drop i).take n):=by
 have hlen:((l.drop i).take n).length=n:=by simp;omega
 apply Nat.eq_of_testBit_eq;intro k;rw [←Nat.shiftRight_eq_div_pow,Nat.testBit_shiftRight];by_cases h:k<n
 ·have h1:=z8f ((l.drop i).take n) (n - 1 - k) (by omega);rw [hlen,show n - 1 - (n - 1 - k)=k by omega] at h1;have h2:=hb (n - 1 - k) (by omega);rw [show 7 - (n - 1 - k)=8 - n+k by omega] at h2;rw [h1,h2];simp [List.getD_eq_getElem?_getD,List.getElem?_take,show n - 1 - k<n by omega]
 ·have h1:=z5m ((l.drop i).take n);rw [hlen] at h1;rw [Nat.testBit_lt_two_pow (Nat.lt_of_lt_of_le hy (show 2^8≤2^(8 - n+k) from Nat.pow_le_pow_right (by decide) (by omega))),Nat.testBit_lt_two_pow (Nat.lt_of_lt_of_le h1 (Nat.pow_le_pow_right (by decide) (by omega)))]
theorem y7n{l:List Bool}{i n y:Nat}(hb:∀j,j<8→y.testBit (7 - j)=l.getD (i+j) false)(hn:n≤8)(hi:i+n≤l.length):z5h y n=(l.drop i).take n:=by
 apply z4f (by simp [z0Y];omega);intro j hj;rw [z0Y] at hj;rw [z6R hj,hb j (by omega)];simp [List.getD_eq_getElem?_getD,List.getElem?_take,hj]
end
section
def y3D:Nat:=0x82f63b78
def step1(c:Nat):Nat:=c/2^^^(if c%2=1 then y3D else 0)
def z2B:Nat→Nat→Nat
 | 0,c=>c
 | n+1,c=>z2B n (step1 c)
def upd(c:Nat)(b:UInt8):Nat:=z2B 8 (c^^^b.toNat)
def z3x(c:Nat)(l:List UInt8):Nat:=l.foldl upd c
def z2A(l:List UInt8):Nat:=4294967295^^^z3x 4294967295 l
theorem y0R{c:Nat}(h:c<2^32):step1 c<2^32:=by
 unfold step1;refine Nat.xor_lt_two_pow (by omega) ?_;split<;>simp [y3D]
theorem y0u:∀(n:Nat) {c:Nat},c<2^32→z2B n c<2^32
 | 0,_,h=>h
 | n+1,_,h=>y0u n (y0R h)
theorem z6A:∀(n c:Nat),z2B (n+1) c=step1 (z2B n c)
 | 0,_=>rfl
 | n+1,c=>by rw [z2B,z6A n,z2B]
theorem y6a{c:Nat}(b:UInt8)(h:c<2^32):upd c b<2^32:=
 y0u 8 (Nat.xor_lt_two_pow h (by have:=b.toNat_lt;omega))
theorem y0E:∀(l:List UInt8) {c:Nat},c<2^32→z3x c l<2^32
 | [],_,h=>h
 | b::l,_,h=>y0E l (y6a b h)
theorem z7b(l:List UInt8):z2A l<2^32:=Nat.xor_lt_two_pow (by omega) (y0E l (by omega))
theorem z6H(c:Nat)(a b:List UInt8):z3x c (a++b)=z3x (z3x c a) b:=by simp [z3x]
theorem q0A(x y:Nat):(x^^^y)/2=x/2^^^y/2:=by
 apply Nat.eq_of_testBit_eq;intro i;simp [Nat.testBit_div_two]
theorem q1j(x y:Nat):(x^^^y)%2=(x%2+y%2)%2:=by
 have h:((x^^^y).testBit 0)=(x.testBit 0^^y.testBit 0):=Nat.testBit_xor ..;simp only [Nat.testBit_zero] at h;have hx:=Nat.mod_two_eq_zero_or_one x;have hy:=Nat.mod_two_eq_zero_or_one y;have hz:=Nat.mod_two_eq_zero_or_one (x^^^y);rcases hx with hx | hx<;>rcases hy with hy | hy<;>rcases hz with hz | hz<;>simp [hx,hy,hz] at h ⊢
theorem y7U(x y:Nat):step1 (x^^^y)=step1 x^^^step1 y:=by
 unfold step1;rw [q0A,q1j];have hx:=Nat.mod_two_eq_zero_or_one x;have hy:=Nat.mod_two_eq_zero_or_one y;have e:x/2^^^y3D^^^(y/2^^^y3D)=x/2^^^y/2:=by
  rw [Nat.xor_comm (y/2),Nat.xor_assoc,←Nat.xor_assoc y3D,Nat.xor_self,Nat.zero_xor]
 rcases hx with hx | hx<;>rcases hy with hy | hy<;>simp only [hx,hy]<;>simp only [Nat.zero_add,Nat.add_zero,Nat.reduceAdd,Nat.reduceMod,if_true,Nat.xor_zero]<;>simp
 ·rw [Nat.xor_assoc]
 ·rw [Nat.xor_assoc,Nat.xor_assoc,Nat.xor_comm y3D]
 ·exact e.symm
theorem y2k:∀(n x y:Nat),z2B n (x^^^y)=z2B n x^^^z2B n y
 | 0,_,_=>rfl
 | n+1,x,y=>by rw [z2B,y7U,y2k n];rfl
theorem y8p(x:Nat):step1 (2*x)=x:=by
 unfold step1;rw [if_neg (by omega),Nat.xor_zero];omega
theorem y1W:∀(n x:Nat),z2B n (2^n*x)=x
 | 0,x=>by simp [z2B]
 | n+1,x=>by rw [z2B,Nat.pow_succ,Nat.mul_comm (2^n),Nat.mul_assoc,y8p,y1W n]
theorem y7K{c:Nat}(b:UInt8):c/256^^^z2B 8 (c%256^^^b.toNat)=upd c b:=by
 unfold upd;have e:c^^^b.toNat=(2^8*(c/256))^^^(c%256^^^b.toNat):=by
  rw [←Nat.xor_assoc]
  congr 1
  have h:=Nat.div_add_mod c 256;have h2:2^8*(c/256)^^^c%256=2^8*(c/256)+c%256:=by
   rw [Nat.two_pow_add_eq_or_of_lt (i:=8) (by omega) (c/256)];apply Nat.eq_of_testBit_eq;intro i;simp only [Nat.testBit_xor,Nat.testBit_or];by_cases hi:i<8
   ·have:(2^8*(c/256)).testBit i=false:=by rw [Nat.testBit_two_pow_mul];simp;omega
    rw [this];simp
   ·have:(c%256).testBit i=false:=Nat.testBit_lt_two_pow (Nat.lt_of_lt_of_le (Nat.mod_lt _ (by omega)) (by exact Nat.pow_le_pow_right (n:=2) (by omega) (by omega:8≤i)));rw [this];simp
  omega
 rw [e,y2k 8 (2^8*(c/256)),y1W]
def be4(n:Nat):List UInt8:= [UInt8.ofNat (n/16777216),UInt8.ofNat (n/65536),UInt8.ofNat (n/256),UInt8.ofNat n]
def unB(l:List UInt8):Nat:=l.foldl (fun n c=>n*256+c.toNat) 0
theorem z4b(n:Nat):(be4 n).length=4:=rfl
theorem z4k{n:Nat}(h:n<4294967296):unB (be4 n)=n:=by
 simp only [unB,be4,List.foldl_cons,List.foldl_nil,UInt8.toNat_ofNat'];omega
theorem y9V(a b c d:UInt8):unB [a,b,c,d]=((a.toNat*256+b.toNat)*256+c.toNat)*256+d.toNat:=by simp [unB]
theorem y2X(a b c d:UInt8):unB [a,b,c,d]<4294967296:=by
 rw [y9V];have:=a.toNat_lt;have:=b.toNat_lt;have:=c.toNat_lt;have:=d.toNat_lt;omega
theorem y8y(l:List UInt8)(c:UInt8):unB (l++ [c])=unB l*256+c.toNat:=by simp [unB]
theorem y8K{l:List UInt8}(h:l.length=4):∃a b c d,l= [a,b,c,d]:=by
 match l,h with
 | [a,b,c,d],_=>exact ⟨a,b,c,d,rfl⟩
theorem y0J{l:List UInt8}(h:l.length=4):unB l<4294967296:=by
 obtain ⟨a,b,c,d,rfl⟩:=y8K h;exact y2X a b c d
structure Fr where
 kind:Nat
 epoch:Nat
 series:Nat
 chunk:Nat
 bits:Nat
 cnt:Nat
 count:Nat
 closed:Bool
 sum:Nat
 b:List UInt8
 n:Int
structure Fr.Ok (f:Fr):Prop where
 kind:f.kind<256
 epoch:f.epoch<4294967296
 series:f.series<4294967296
 chunk:f.chunk<4294967296
 bits:f.bits<4294967296
 cnt:f.cnt<4294967296
 count:f.count<4294967296
 sum:f.sum<18446744073709551616
 lo: -9223372036854775808≤f.n
 hi:f.n≤9223372036854775807
def z1T(b:List UInt8)(n:Int):Bool:=
 decide (0≤n)&&(decide ((b.length:Int)=n/8+min (n%8) 1)&&(decide (n%8=0) || decide (((b.getD (b.length - 1) 0).toNat&&&(255>>>(n%8).toNat))=0)))
def z4H(f:Fr):Bool:=decide (f.n=0)&&decide (f.b.length=0)
def z4G(f:Fr):Bool:=z1T f.b f.n&&(decide (0<f.n)&&(decide (f.cnt<f.count)&&decide (f.b.length≤4052)))
def z1D(f:Fr):Bool:=
 if f.kind=1 then z4H f&&(decide (f.series=0)&&(decide (f.chunk=0∧f.bits=0∧f.cnt=0)&&(decide (f.count=0)&&(!f.closed&&decide (f.sum=0)))))
 else if f.kind=4∨f.kind=5 then z4H f&&(decide (f.count=0)&&!f.closed)
 else if f.kind=3 then decide (f.bits=0∧f.cnt=0∧f.sum=0)&&z4G f
 else if f.kind=2 then z4G f
 else false
def y0w(b:Bool):UInt8:=if b then 1 else 0
def z1q(f:Fr):List UInt8:=
 [0x44,0x59,UInt8.ofNat f.kind]++be4 f.epoch++be4 f.series++be4 f.chunk++be4 f.bits++be4 f.cnt++be4 f.count++ [y0w f.closed]++be4 (f.sum/4294967296)++be4 (f.sum%4294967296)++be4 (f.n%4294967296).toNat
def z2g(f:Fr):List UInt8:=z1q f++f.b
def z0w(f:Fr):List UInt8:=z2g f++be4 (z2A (z2g f))
theorem z1L(f:Fr):(z1q f).length=40:=rfl
theorem z5C(f:Fr):(z0w f).length=44+f.b.length:=by
 simp only [z0w,z2g,List.length_append,z1L,z4b];omega
end
section
open Go.RowKit
theorem z0n{n:Int}(h1: -9223372036854775808≤n)(h2:n≤9223372036854775807):IntKind.i64.wrap n=n:=by rw [IntKind.wrap_i64];omega
theorem y4i{n j:Nat}(hn:n≤8)(hj:j<8):(255*2^(8 - n)%256).testBit (7 - j)=decide (j<n):=by
 rw [show (256:Nat)=2^8 from rfl,Nat.testBit_mod_two_pow,←Nat.shiftLeft_eq,Nat.testBit_shiftLeft,decide_eq_true (show 7 - j<8 by omega),Bool.true_and,show (255:Nat)=2^8 - 1 from rfl,Nat.testBit_two_pow_sub_one];by_cases h:j<n
 ·rw [decide_eq_true h,decide_eq_true (show 7 - j≥8 - n by omega),decide_eq_true (show 7 - j - (8 - n)<8 by omega)];rfl
 ·rw [decide_eq_false h,decide_eq_false (show ¬7 - j≥8 - n by omega)];rfl
theorem y8L{y n:Nat}(hy:y<256)(hn:n≤8):z8K (y&&&(255*2^(8 - n)%256)) n∧z5h (y&&&(255*2^(8 - n)%256)) n=z5h y n:=by
 refine ⟨⟨Nat.lt_of_le_of_lt Nat.and_le_left hy,fun j h1 h2=>?_⟩,?_⟩
 ·rw [Nat.testBit_and,y4i hn h2,decide_eq_false (by omega),Bool.and_false]
 ·apply z4f (by simp [z0Y]);intro j hj;rw [z0Y] at hj;rw [z6R hj,z6R hj,Nat.testBit_and,y4i hn (by omega),decide_eq_true hj,Bool.and_true]
theorem z2s{b:List UInt8}{l:List Bool}(h:z0U b l):z1T b l.length=true:=by
 have hl:=h.len;unfold z1T;simp only [Bool.and_eq_true,decide_eq_true_eq,Bool.or_eq_true];refine ⟨by omega,by omega,?_⟩;by_cases h8:l.length%8=0
 ·exact .inl (by omega)
 ·refine .inr ?_;apply Nat.eq_of_testBit_eq;intro k;rw [Nat.testBit_and,Nat.zero_testBit,Nat.testBit_shiftRight,show (255:Nat)=2^8 - 1 from rfl,Nat.testBit_two_pow_sub_one];by_cases hk:((l.length:Int)%8).toNat+k<8
  ·have h1:=h.at (j:=b.length - 1) (k:=7 - k) (by omega) (by omega);rw [show 7 - (7 - k)=k by omega] at h1;rw [h1,z5f (by omega),Bool.false_and]
  ·rw [decide_eq_false hk,Bool.and_false]
end
end Go.Proofs.YtfcnapnopdomhaaGreatDoor

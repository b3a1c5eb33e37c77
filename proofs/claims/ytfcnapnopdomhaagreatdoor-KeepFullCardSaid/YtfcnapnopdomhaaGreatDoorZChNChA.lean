/-
  A chunk's bits, read sample by sample: what stands behind makes no difference; what is written is read; fronts. No program.
-/
import Derived.Test.YtfcnapnopdomhaaGreatDoorZHqSeANoCNoD
namespace Go.Proofs.YtfcnapnopdomhaaGreatDoor
set_option linter.unusedSimpArgs false
set_option linter.unusedVariables false
set_option maxRecDepth 100000
set_option maxHeartbeats 12800000
open Go.RowKit
theorem z7f{w n:Nat}{l r:List Bool}(h:rdN w l=some (n,r)):∃x,l=x++r∧∀m,rdN w (x++m)=some (n,m):=by
 obtain ⟨h1,h2,h3⟩:=z5w h;exact ⟨_,h3,fun m=>z4q h2 m⟩
theorem y8U{v:Int}{l r:List Bool}(h:z7L l=some (v,r)):∃x,l=x++r∧∀m,z7L (x++m)=some (v,m):=by
 obtain ⟨h1,h2,h3,h4⟩:=y0L h;exact ⟨_,h2,fun m=>y3n h3 h4 m⟩
theorem y9E{s s':z4B}{v:Nat}{l r:List Bool}(h:z3z s l=some (v,s',r)):∃x,l=x++r∧∀m,z3z s (x++m)=some (v,s',m):=by
 unfold z3z at h;split at h
 ·rename_i hh;simp only [Option.map_eq_some_iff] at h;obtain ⟨⟨n,r1⟩,h1,h2⟩:=h;simp only [Prod.mk.injEq] at h2;obtain ⟨rfl,rfl,rfl⟩:=h2;obtain ⟨x,hx,hm⟩:=z7f h1;refine ⟨x,hx,fun m=>?_⟩;unfold z3z;rw [if_pos hh,hm];rfl
 ·rename_i hh;split at h
  ·simp only [Option.some.injEq,Prod.mk.injEq] at h;obtain ⟨rfl,rfl,rfl⟩:=h;refine ⟨[false],rfl,fun m=>?_⟩;unfold z3z;rw [if_neg hh];rfl
  ·split at h
   ·cases h
   ·rename_i d r1 hd;obtain ⟨x,hx,hm⟩:=z7f hd;split at h
    ·cases h
    ·rename_i hd0;simp only [Option.some.injEq,Prod.mk.injEq] at h;obtain ⟨rfl,rfl,rfl⟩:=h;refine ⟨true::false::x,by rw [hx];rfl,fun m=>?_⟩;unfold z3z;rw [if_neg hh];simp only [List.cons_append];rw [hm];simp only;rw [if_neg hd0]
  ·split at h
   ·cases h
   ·rename_i ld r1 h1;obtain ⟨x,hx,hm⟩:=z7f h1;split at h
    ·cases h
    ·rename_i z r2 h2;obtain ⟨y,hy,hn⟩:=z7f h2;split at h
     ·cases h
     ·rename_i hz;split at h
      ·cases h
      ·rename_i d r3 h3;obtain ⟨q,hq,ho⟩:=z7f h3;split at h
       ·cases h
       ·rename_i hc;simp only [Option.some.injEq,Prod.mk.injEq] at h;obtain ⟨rfl,rfl,rfl⟩:=h;refine ⟨true::true::(x++(y++q)),by rw [hx,hy,hq];simp,fun m=>?_⟩;unfold z3z;rw [if_neg hh];simp only [List.cons_append,List.append_assoc];rw [hm];simp only;rw [hn];simp only;rw [if_neg hz,ho];simp only;rw [if_neg hc]
  ·cases h
theorem z7N{e e':z1A}{s:z1K}{l r:List Bool}(h:z1e e l=some (s,e',r)):∃x,l=x++r∧∀m,z1e e (x++m)=some (s,e',m):=by
 unfold z1e z5s at h;split at h
 ·cases h
 ·rename_i t delta r1 h1;split at h
  ·cases h
  ·rename_i v k r2 h2;simp only [Option.some.injEq,Prod.mk.injEq] at h;obtain ⟨rfl,rfl,rfl⟩:=h;obtain ⟨y,hy,hn⟩:=y9E h2;split at h1
   ·rename_i h0;simp only [Option.map_eq_some_iff] at h1;obtain ⟨⟨n,r3⟩,h3,h4⟩:=h1;simp only [Prod.mk.injEq] at h4;obtain ⟨rfl,rfl,rfl⟩:=h4;obtain ⟨x,hx,hm⟩:=z7f h3;refine ⟨x++y,by rw [hx,hy,List.append_assoc],fun m=>?_⟩;unfold z1e z5s;rw [if_pos h0,List.append_assoc,hm];simp only [Option.map_some];rw [hn]
   ·rename_i h0;split at h1
    ·cases h1
    ·rename_i d r3 h3;obtain ⟨x,hx,hm⟩:=y8U h3;split at h1
     ·rename_i ht;simp only [Option.some.injEq,Prod.mk.injEq] at h1;obtain ⟨rfl,rfl,rfl⟩:=h1;refine ⟨x++y,by rw [hx,hy,List.append_assoc],fun m=>?_⟩;unfold z1e z5s;rw [if_neg h0,List.append_assoc,hm];simp only;rw [if_pos ht];simp only;rw [hn]
     ·cases h1
theorem y5g{e e':z1A}{s:z1K}{l r:List Bool}(h:z1e e l=some (s,e',r))(m:List Bool):z1e e (l++m)=some (s,e',r++m):=by
 obtain ⟨x,hx,hm⟩:=z7N h;rw [hx,List.append_assoc];exact hm _
structure z0V where
 s:z1K
 e:z1A
 at_:Nat
def z0l(e:z1A)(st:List z0V):z1A:=(st.getLast?.map z0V.e).getD e
def z5F(k:Nat)(st:List z0V):Nat:=(st.getLast?.map z0V.at_).getD k
def z2R:Nat→z1A→Nat→List Bool→Option (List z0V)
 | _,_,_, []=>some []
 | 0,_,_,_::_=>none
 | f+1,e,k,b::l=>match z1e e (b::l) with
  | none=>none
  | some (s,e',r)=>(z2R f e' (k+((b::l).length - r.length)) r).map (⟨s,e',k+((b::l).length - r.length)⟩::·)
def z5c(l:List Bool):Option (List z0V):=z2R l.length z0e 0 l
theorem z3S(f:Nat)(e:z1A)(k:Nat):z2R f e k []=some []:=by cases f<;>rfl
theorem z7M(e:z1A)(x:z0V)(st:List z0V):z0l e (x::st)=z0l x.e st:=by
 unfold z0l;cases st with
 | nil=>rfl
 | cons y st=>rw [List.getLast?_cons_cons];rw [List.getLast?_eq_some_getLast (by simp)];rfl
theorem z9U(k:Nat)(x:z0V)(st:List z0V):z5F k (x::st)=z5F x.at_ st:=by
 unfold z5F;cases st with
 | nil=>rfl
 | cons y st=>rw [List.getLast?_cons_cons];rw [List.getLast?_eq_some_getLast (by simp)];rfl
theorem z4T:∀{f:Nat} {e:z1A} {k:Nat} {l:List Bool} {st:List z0V},e.Ok→z2R f e k l=some st→∀g,l.length≤g→z2R g e k l=some st
 | f,e,k, [],st,he,h,g,hg=>by rw [z3S] at h ⊢;exact h
 | 0,e,k,b::l,st,he,h,g,hg=>by simp [z2R] at h
 | f+1,e,k,b::l,st,he,h,0,hg=>by simp at hg
 | f+1,e,k,b::l,st,he,h,g+1,hg=>by
  unfold z2R at h ⊢;split at h
  ·cases h
  ·rename_i s e' r hr;have h1:=z1B he hr;simp only [hr,Option.map_eq_some_iff] at h ⊢;obtain ⟨st',h2,rfl⟩:=h;exact ⟨st',z4T h1.2.2.1 h2 g (by have:=h1.1;simp at hg this;omega),rfl⟩
theorem y3V:∀{f:Nat} {e:z1A} {k:Nat} {l m:List Bool} {st:List z0V},e.Ok→z2R f e k l=some st→∀g,l.length+m.length≤g→z2R g e k (l++m)=(z2R g (z0l e st) (k+l.length) m).map (st++·)
 | f,e,k, [],m,st,he,h,g,hg=>by
  rw [z3S] at h;cases h;simp [z0l]
 | 0,e,k,b::l,m,st,he,h,g,hg=>by simp [z2R] at h
 | f+1,e,k,b::l,m,st,he,h,0,hg=>by simp at hg
 | f+1,e,k,b::l,m,st,he,h,g+1,hg=>by
  unfold z2R at h;split at h
  ·cases h
  ·rename_i s e' r hr;have h1:=z1B he hr;simp only [Option.map_eq_some_iff] at h;obtain ⟨st',h2,rfl⟩:=h;have hrl:=h1.1;have h3:=y3V (m:=m) h1.2.2.1 h2 g (by simp at hg hrl;omega);rw [List.cons_append];have h4:=y5g hr m;rw [List.cons_append] at h4
   conv=>lhs;unfold z2R
   rw [h4];simp only;have e1:(b::(l++m)).length - (r++m).length=(b::l).length - r.length:=by simp;omega
   have e2:k+((b::l).length - r.length)+r.length=k+(b::l).length:=by omega
   rw [e1,h3,z7M,e2];have h5:∀e k,e.Ok→z2R (g+1) e k m=z2R g e k m:=fun e k he=>by
    cases hx:z2R g e k m with
    | some x=>exact z4T he hx _ (by simp at hg;omega)
    | none=>
     cases hy:z2R (g+1) e k m with
     | none=>rfl
     | some y=>have:=z4T he hy g (by simp at hg;omega);rw [hx] at this;cases this
   have hok:(z0l e' st').Ok:=by
    have key:∀{f:Nat} {e:z1A} {k:Nat} {l:List Bool} {st:List z0V},e.Ok→z2R f e k l=some st→(z0l e st).Ok:=by
     intro f
     induction f with
     | zero=>intro e k l st he h;cases l with
      | nil=>rw [z3S] at h;cases h;exact he
      | cons b l=>simp [z2R] at h
     | succ f ih=>intro e k l st he h;cases l with
      | nil=>rw [z3S] at h;cases h;exact he
      | cons b l=>
       unfold z2R at h;split at h
       ·cases h
       ·rename_i s e' r hr;simp only [Option.map_eq_some_iff] at h;obtain ⟨st',h2,rfl⟩:=h;rw [z7M];exact ih (z1B he hr).2.2.1 h2
    exact key h1.2.2.1 h2
   rw [h5 _ _ hok,Option.map_map];rfl
theorem z7o:∀{f:Nat} {e:z1A} {k:Nat} {l:List Bool} {st:List z0V},e.Ok→z2R f e k l=some st→
  (z0l e st).Ok∧(z0l e st).n=e.n+st.length∧z5F k st=k+l.length∧(∀x∈st,x.s.Ok∧x.e.Ok∧k<x.at_∧x.at_≤k+l.length∧e.n<x.e.n∧x.e.last=x.s.t∧(0<e.n→e.last<x.s.t))∧st.Pairwise fun x y=>x.at_<y.at_∧x.s.t<y.s.t
 | f,e,k, [],st,he,h=>by
  rw [z3S] at h;cases h;exact ⟨he,rfl,rfl,(fun x hx=>by cases hx),List.Pairwise.nil⟩
 | 0,e,k,b::l,st,he,h=>by simp [z2R] at h
 | f+1,e,k,b::l,st,he,h=>by
  unfold z2R at h;split at h
  ·cases h
  ·rename_i s e' r hr;obtain ⟨c1,c2,c3,c4,c5,c6⟩:=z1B he hr;simp only [Option.map_eq_some_iff] at h;obtain ⟨st',h2,rfl⟩:=h;obtain ⟨d1,d2,d3,d4,d5⟩:=z7o c3 h2;rw [z7M,z9U];refine ⟨d1,by rw [d2,c4,List.length_cons];omega,by rw [d3];omega,fun x hx=>?_,?_⟩
   ·rcases List.mem_cons.1 hx with rfl | hx
    ·exact ⟨c2,c3,by show k<k+_;omega,by show k+_≤_;omega,by show e.n<e'.n;omega,c5,c6⟩
    ·obtain ⟨g1,g2,g3,g4,g5,g6,g7⟩:=d4 x hx;exact ⟨g1,g2,by omega,by omega,by omega,g6,fun h0=>by have:=c6 h0;have:=g7 (by omega);rw [c5] at this;omega⟩
   ·refine List.Pairwise.cons (fun y hy=>?_) d5;obtain ⟨g1,g2,g3,g4,g5,g6,g7⟩:=d4 y hy;exact ⟨g3,by have:=g7 (by omega);rw [c5] at this;exact this⟩
theorem y0P:∀{f:Nat} {e:z1A} {k:Nat} {l:List Bool} {st:List z0V},e.Ok→z2R f e k l=some st→∀n,n≤st.length→z2R f e k (l.take (z5F k (st.take n) - k))=some (st.take n)
 | f,e,k, [],st,he,h,n,hn=>by
  rw [z3S] at h;cases h;simp [z3S]
 | 0,e,k,b::l,st,he,h,n,hn=>by simp [z2R] at h
 | f+1,e,k,b::l,st,he,h,0,hn=>by rw [List.take_zero];show z2R (f+1) e k ((b::l).take (k - k))=_;rw [Nat.sub_self];rfl
 | f+1,e,k,b::l,st,he,h,n+1,hn=>by
  have hs:=z7o he h;unfold z2R at h;split at h
  ·cases h
  ·rename_i s e' r hr;obtain ⟨c1,c2,c3,c4,c5,c6⟩:=z1B he hr;simp only [Option.map_eq_some_iff] at h;obtain ⟨st',h2,rfl⟩:=h;have h3:=y0P c3 h2 n (by simpa using hn);rw [List.take_succ_cons,z9U];simp only;obtain ⟨p,hp⟩:∃p,p=(b::l).length - r.length:=⟨_,rfl⟩;rw [←hp] at h3 h2 ⊢;obtain ⟨q,hq⟩:∃q,q=z5F (k+p) (st'.take n) - (k+p):=⟨_,rfl⟩;rw [←hq] at h3;have hge:k+p≤z5F (k+p) (st'.take n):=by
    have h5:=z7o c3 h3;rw [h5.2.2.1];omega
   have e1:z5F (k+p) (st'.take n) - k=p+q:=by omega
   rw [e1];obtain ⟨x,hx,hm⟩:=z7N hr;have hpx:p=x.length:=by rw [hp,hx];simp
   have htk:(b::l).take (p+q)=x++r.take q:=by rw [hx,List.take_append,List.take_of_length_le (by omega),show p+q - x.length=q by omega]
   rw [htk];have h6:=hm (r.take q);cases hxr:x++r.take q with
   | nil=>
    have:x= []:=(List.append_eq_nil_iff.1 hxr).1;rw [this] at hpx;have:=c1;simp at hpx this hp;omega
   | cons c l'=>
    rw [hxr] at h6;unfold z2R;rw [h6];have h7:(c::l').length - (r.take q).length=p:=by rw [←hxr];simp;omega
    simp only [h7];rw [h3];rfl
def z3f(st:List z0V):List z1K:=st.map z0V.s
def z1i(st:List z0V):List Nat:=st.map z0V.at_
theorem z3n{l:List Bool}{st:List z0V}(h:z5c l=some st):(z0l z0e st).Ok∧(z0l z0e st).n=st.length∧z5F 0 st=l.length∧(∀x∈st,x.s.Ok∧x.e.Ok∧0<x.at_∧x.at_≤l.length∧x.e.last=x.s.t)∧st.Pairwise fun x y=>x.at_<y.at_∧x.s.t<y.s.t:=by
 obtain ⟨h1,h2,h3,h4,h5⟩:=z7o z4p h;exact ⟨h1,by rw [h2];simp [z0e],by rw [h3];omega,fun x hx=>by obtain ⟨a1,a2,a3,a4,a5,a6,a7⟩:=h4 x hx;exact ⟨a1,a2,a3,by omega,a6⟩,h5⟩
theorem y9t{l m:List Bool}{st:List z0V}(h:z5c l=some st):z5c (l++m)=(z2R m.length (z0l z0e st) l.length m).map (st++·):=by
 have h1:=y3V (m:=m) z4p h (l.length+m.length) (Nat.le_refl _);have hok:=(z3n h).1;unfold z5c;rw [List.length_append,h1,Nat.zero_add]
 congr 1
 cases hx:z2R (l.length+m.length) (z0l z0e st) l.length m with
 | some x=>exact (z4T hok hx _ (Nat.le_refl _)).symm
 | none=>
  cases hy:z2R m.length (z0l z0e st) l.length m with
  | none=>rfl
  | some y=>have:=z4T hok hy (l.length+m.length) (by omega);rw [hx] at this;cases this
theorem q0V{l:List Bool}{st:List z0V}{s:z1K}(h:z5c l=some st)(hs:s.Ok)(ht:0<st.length→(z0l z0e st).last<s.t):
  z5c (l++(z2O (z0l z0e st) s).1)=some (st++ [⟨s,(z2O (z0l z0e st) s).2,l.length+(z2O (z0l z0e st) s).1.length⟩]):=by
 obtain ⟨h1,h2,h3,h4,h5⟩:=z3n h;have hb:=y5t h1 hs (by rw [h2];exact ht) [];rw [List.append_nil] at hb;have hsp:=z1B h1 hb;rw [y9t h];cases hw:(z2O (z0l z0e st) s).1 with
 | nil=>rw [hw] at hsp;simp at hsp
 | cons b w=>
  rw [hw] at hb;simp only [List.length_cons];unfold z2R;rw [hb];simp [z3S]
theorem y5M{l:List Bool}{st:List z0V}(h:z5c l=some st){n:Nat}(hn:n≤st.length):z5c (l.take (z5F 0 (st.take n)))=some (st.take n):=by
 have h1:=y0P z4p h n hn;rw [Nat.sub_zero] at h1;exact z4T z4p h1 _ (by simp)
theorem y2K{has:Bool}{prev lead width:Nat}(hs:z1c ⟨has,prev,lead,width⟩=true):lead<256∧width<256:=by
 cases has with
 | false=>
  have:z1c ⟨false,prev,lead,width⟩=decide (prev=0∧lead=0∧width=0):=by unfold z1c zeroV;simp
  rw [this] at hs;have:=of_decide_eq_true hs;omega
 | true=>
  unfold z1c at hs;simp only [if_true] at hs;have:=of_decide_eq_true hs;omega
theorem y8X(en:Nat)(el ed:Int)(has:Bool)(prev lead width:Nat)(he:z1A.Ok ⟨en,el,ed,⟨has,prev,lead,width⟩⟩)(w:World):
  Calls Tryz.prog 208 #[.agg #[.int .i64 (en:Nat), .int .i64 el, .int .i64 ed, .bool has, .int .u64 (prev:Nat), .int .u8 (lead:Nat), .int .u8 (width:Nat)]] w fun e w'=>e= .returned (.bool true)∧Below w.heap.size w w':=by
 have HL:=z7 ((Loc.start w).new (.cells #[.int .i64 (en:Nat), .int .i64 el, .int .i64 ed, .bool has, .int .u64 (prev:Nat), .int .u8 (lead:Nat), .int .u8 (width:Nat)] 139));by_cases h0:en=0
 ·have hz:=he.zero h0;simp only [z0e,zeroV,z1A.mk.injEq,z4B.mk.injEq] at hz;obtain ⟨rfl,rfl,rfl,rfl,rfl,rfl,rfl⟩:=hz;clear he h0;go_enter Tryz.func208,Tryz.ntmps208;go_wp2;go_ret;exact ⟨rfl,HL.out.low⟩
 ·have hh:=he.has (by show 0<en;omega);simp only at hh;subst hh;have hv:=he.val;have hsm:=y2K hv;have HS:=z7 (y3u true prev lead width hsm.1 hsm.2);rw [hv] at HS;have d0:((en:Int)==0)=false:=by simp;omega
  have d1:decide ((en:Int)<0)=false:=decide_eq_false (by omega);clear he hv hsm h0;go_enter Tryz.func208,Tryz.ntmps208;go_wp2_with fail;refine (HS.out _).mono ?_;rintro e w2 ⟨rfl,hb2⟩;have HL2:=z7 (HL.out.call hb2);clear hb2;go_wp2;go_ret;exact ⟨rfl,HL2.out.low⟩
theorem y2V(a:Option Addr)(n c:Nat)(l:List Bool)(b:List UInt8)(en:Nat)(el ed:Int)(has:Bool)(prev lead width:Nat)(he:z1A.Ok ⟨en,el,ed,⟨has,prev,lead,width⟩⟩)(w:World)(h:z0o w a n c l b)(hl:l.length≤549755813888):
  Calls Tryz.prog 150 #[.agg #[.slice a n c, .int .i64 l.length], .agg #[.int .i64 (en:Nat), .int .i64 el, .int .i64 ed, .bool has, .int .u64 (prev:Nat), .int .u8 (lead:Nat), .int .u8 (width:Nat)]] w fun e w'=>e= .returned (.int .u16 0)∧Below w.heap.size w w':=by
 obtain ⟨N,hN⟩:∃N,N=l.length:=⟨_,rfl⟩;rw [←hN];have HSB:=z7 (z2s h.bits);have HLEN:=z7 h.len;have hnl:n≤70368744177665:=by have:=h.bits.len;have:=h.len;omega
 have hNl:N≤549755813888:=by omega
 have HS:=z7 (y8X en el ed has prev lead width he);have H:=z7 h;have HN:=z7 hN;clear h hN he hl;have HL0:=z7 (((Loc.start w).new (.cells #[.slice a n c, .int .i64 (N:Nat)] 48)).new' (.cells #[.int .i64 (en:Nat), .int .i64 el, .int .i64 ed, .bool has, .int .u64 (prev:Nat), .int .u8 (lead:Nat), .int .u8 (width:Nat)] 139) (n:=w.heap.size+1) (by simp));go_enter Tryz.func150,Tryz.ntmps150;go_wp2_with fail;have hsn:=z2x a c b N _ (by have:=(H.out.low HL0.out.low).rd;rw [HLEN.out] at this;exact this) (by have:=HLEN.out;omega) (by omega) (by omega);rw [←HLEN.out,HN.out,HSB.out,←HN.out] at hsn;refine hsn.mono ?_;rintro e w2 ⟨rfl,hb2⟩;have HL2:=z7 (HL0.out.call hb2);clear hb2 hsn;obtain ⟨c0,c1,c2,c3,c4,c5,c6,cf⟩:=z2G (HL2.out.get 0 rfl);go_wp2_with fail;refine (HS.out _).mono ?_;rintro e w3 ⟨rfl,hb3⟩;have HL3:=z7 (HL2.out.call hb3);clear hb3;go_wp2;go_ret;exact ⟨rfl,HL3.out.low⟩
def y0p(W:World)(l:List Bool)(x:z1A)(e:Ending)(w':World):Prop:=
 ∃a n c b,e= .returned (.tuple #[.agg #[.slice a n c, .int .i64 l.length], .agg #[.int .i64 (x.n:Nat), .int .i64 x.last, .int .i64 x.delta, .bool x.val.has, .int .u64 (x.val.prev:Nat), .int .u8 (x.val.lead:Nat), .int .u8 (x.val.width:Nat)], .int .u16 0])∧w'.ownsRow W.heap.size 5 1 (.slice a n c) n (z0b b)∧n=b.length∧z0U b l∧Below W.heap.size W w'
theorem y3x(v:Int):(z8M v).length≤69:=by
 unfold z8M;rw [List.length_append,z0P];have h1:(z9f (z0A (z3X v))).length≤5:=by unfold z9f;split<;>simp;omega
 have h2:=(z6f (z4P (z3X v))).2.2.2;omega
theorem z4S{n m:Int}(h:IntKind.i64.wrap n=m):Go.RowKit.wrap64 n=m:=by rw [y9m,h]
theorem q3q(a:Option Addr)(n c:Nat)(l:List Bool)(b:List UInt8)(en:Nat)(el ed:Int)(has:Bool)(prev lead width:Nat)(t:Int)(v:Nat)(he:z1A.Ok ⟨en,el,ed,⟨has,prev,lead,width⟩⟩)(hs:z1K.Ok ⟨t,v⟩)(ht:0<en→el<t)(hen:en≤1099511627776)(w:World)(h:z0o w a n c l b)(hl:l.length≤549755812000)(hT:z1m w):
  Calls Tryz.prog 82 #[.agg #[.slice a n c, .int .i64 l.length], .agg #[.int .i64 (en:Nat), .int .i64 el, .int .i64 ed, .bool has, .int .u64 (prev:Nat), .int .u8 (lead:Nat), .int .u8 (width:Nat)], .agg #[.int .i64 t, .int .u64 (v:Nat)]] w (y0p w (l++(z2O ⟨en,el,ed,⟨has,prev,lead,width⟩⟩ ⟨t,v⟩).1) (z2O ⟨en,el,ed,⟨has,prev,lead,width⟩⟩ ⟨t,v⟩).2):=by
 obtain ⟨N,hN⟩:∃N,N=l.length:=⟨_,rfl⟩;have HWR:=z7 (fun w' (hb:z0o w' a n c l b)=>y2V a n c l b en el ed has prev lead width he w' hb (by omega));rw [←hN] at HWR ⊢;have hNl:N≤549755812000:=by omega
 have HX:=z7 (fun (a':Option Addr) n' c' l' b' w' (h':z0o w' a' n' c' l' b') (hl':l'.length≤549755813000) (hT':z1m w')=>q2G a' n' c' l' b' has prev lead width v he.val he.prev hs.2.2 w' h' hl' hT');obtain ⟨X,hX⟩:∃X,X=z4r ⟨has,prev,lead,width⟩ v:=⟨_,rfl⟩;rw [←hX] at HX;obtain ⟨Xl,⟨xh,xp,xl,xw⟩⟩:=X;unfold z9W at HX;simp only at HX;have HL0:=z7 ((((((Loc.start w).new (.cells #[.slice a n c, .int .i64 (N:Nat)] 48)).new' (.cells #[.int .i64 (en:Nat), .int .i64 el, .int .i64 ed, .bool has, .int .u64 (prev:Nat), .int .u8 (lead:Nat), .int .u8 (width:Nat)] 139) (n:=w.heap.size+1) (by simp)).new' (.cells #[.int .i64 t, .int .u64 (v:Nat)] 113) (n:=w.heap.size+1+1) (by simp)).new' (.cells #[.slice none 0 0, .int .i64 0] 48) (n:=w.heap.size+1+1+1) (by simp)).new' (.cells #[.int .i64 0, .int .i64 0, .int .i64 0, .bool false, .int .u64 0, .int .u8 0, .int .u8 0] 139) (n:=w.heap.size+1+1+1+1) (by simp));have H:=z7 h;have HN:=z7 hN;have HT:=z7 (fun w' (hb:Below w.heap.size w w')=>hT.low hb);have hwn:IntKind.i64.wrap ((en:Int)+1)=((en+1:Nat):Int):=z0n (by omega) (by omega);have hu:IntKind.u64.wrap t=(y2D t:Int):=by rw [IntKind.wrap_u64];unfold y2D;omega
 by_cases h0:en=0
 ·have hz:=he.zero h0;simp only [z0e,zeroV,z1A.mk.injEq,z4B.mk.injEq] at hz;obtain ⟨rfl,rfl,rfl,rfl,rfl,rfl,rfl⟩:=hz;have hwn1:IntKind.i64.wrap 1=1:=by rw [IntKind.wrap_i64];rfl
  obtain ⟨U,hU⟩:∃U,U=y2D t:=⟨_,rfl⟩;have hU64:U<18446744073709551616:=by rw [hU];exact y6I t
  rw [←hU] at hu;have HCW:Hid (z2O z0e ⟨t,v⟩=(z2L U 64++Xl,⟨1,t,0,⟨xh,xp,xl,xw⟩⟩)):=z7 (by
   have h9:z2O z0e ⟨t,v⟩=(z2L (y2D t) 64++(z4r ⟨false,0,0,0⟩ v).1,⟨1,t,0,(z4r ⟨false,0,0,0⟩ v).2⟩):=rfl;rw [h9,←hX,←hU])
  have hgoal:z2O ⟨0,0,0,⟨false,0,0,0⟩⟩ ⟨t,v⟩=(z2L U 64++Xl,⟨1,t,0,⟨xh,xp,xl,xw⟩⟩):=HCW.out;rw [hgoal];simp only;obtain ⟨R,hRe⟩:∃R,R=l++(z2L U 64++Xl):=⟨_,rfl⟩;rw [←hRe];have HRE:=z7 hRe;clear hRe hgoal HCW he hs ht h0 h hN hl hT hX hU hen;go_enter Tryz.func82,Tryz.ntmps82;go_wp2_with fail;refine (HWR.out _ (H.out.low HL0.out.low)).mono ?_;rintro e w2 ⟨rfl,hb2⟩;have HL2:=z7 (HL0.out.call hb2);clear hb2;obtain ⟨c0,c1,cf⟩:=z0g (HL2.out.get 4 rfl);obtain ⟨e0,e1,e2,e3,e4,e5,e6,ef⟩:=z2G (HL2.out.get 3 rfl);obtain ⟨s0,s1,sf⟩:=z0g (HL2.out.get 2 rfl);go_wp2_with fail;have hP:=y2B a n c l b U 64 w2 (H.out.low HL2.out.low) (by have:=HN.out;omega) hU64 (by decide);rw [←HN.out] at hP;refine hP.mono ?_;rintro e w3 ⟨a3,n3,c3,b3,rfl,hrow3,hn3,hbits3,hb3⟩;obtain ⟨l3,hl3⟩:∃x,x=l++z2L U 64:=⟨_,rfl⟩;have hl3n:l3.length≤549755812100:=by rw [hl3,List.length_append,z0P];have:=HN.out;omega
  have HRE3:Hid (R=l3++Xl):=z7 (by rw [HRE.out,hl3,List.append_assoc]);rw [←hl3] at hbits3 ⊢;obtain ⟨N3,hN3⟩:∃x,x=l3.length:=⟨_,rfl⟩;rw [←hN3];have HN3:=z7 hN3;have HL3:=z7 (HL2.out.call hb3);have hsz2:w.heap.size+1+1+1+1<w2.heap.size:=HL2.out.lt 0 rfl;have HROW:=z7 (z0x (b:=w.heap.size+1) (j:=1) (u:= .int .i64 t) (z0x (b:=w.heap.size+1) (j:=0) (u:=(.int .i64 1)) (z0x (b:=w.heap.size) (j:=1) (u:= .int .i64 (N3:Nat)) (z0x (b:=w.heap.size) (j:=0) (u:= .slice a3 n3 c3) hrow3 (by omega)) (by omega)) (by omega)) (by omega));have HLN:=z7 hn3;have HBT:=z7 hbits3;clear hrow3 hn3 hbits3 hb3 hl3 hN3 hP c0 c1 cf e0 e1 e2 e3 e4 e5 e6 ef s0 s1 sf;obtain ⟨c0,c1,cf⟩:=z0g (HL3.out.get 4 rfl);obtain ⟨e0,e1,e2,e3,e4,e5,e6,ef⟩:=z2G (HL3.out.get 3 rfl);obtain ⟨s0,s1,sf⟩:=z0g (HL3.out.get 2 rfl);go_upto_region 13 with fail
  obtain ⟨W4,hW4,hL4⟩:=(show Loc w [(w.heap.size+1+1+1+1, .cells #[.int .i64 0, .int .i64 0, .int .i64 0, .bool false, .int .u64 0, .int .u8 0, .int .u8 0] 139 (0,0)),(w.heap.size+1+1+1, .cells #[.slice none 0 0, .int .i64 0] 48 (0,0)),(w.heap.size+1+1, .cells #[.int .i64 t, .int .u64 (v:Nat)] 113 (0,0)),(w.heap.size+1, .cells #[(.int .i64 1), .int .i64 t, .int .i64 0, .bool false, .int .u64 0, .int .u8 0, .int .u8 0] 139 (0,0)),(w.heap.size, .cells #[.slice a3 n3 c3, .int .i64 (N3:Nat)] 48 (0,0))] _ from (((HL3.out.set2 4 rfl (.slice a3 n3 c3) (.int .i64 (N3:Nat))).set 3 rfl 0 (.int .i64 1)).set 3 rfl 1 (.int .i64 t))).named;rw [←hW4] at HROW ⊢;have HL4:=z7 hL4;clear hL4 hW4 c0 c1 cf e0 e1 e2 e3 e4 e5 e6 ef s0 s1 sf;obtain ⟨c0,c1,cf⟩:=z0g (HL4.out.get 4 rfl);obtain ⟨e0,e1,e2,e3,e4,e5,e6,ef⟩:=z2G (HL4.out.get 3 rfl);obtain ⟨s0,s1,sf⟩:=z0g (HL4.out.get 2 rfl);go_wp2_with fail;have hX:=HX.out a3 n3 c3 l3 b3 W4 (z4O HROW.out HLN.out HBT.out) (by omega) (HT.out _ HL4.out.low);rw [←HN3.out,←HRE3.out] at hX;refine hX.mono ?_;rintro e w5 ⟨a5,n5,c5,b5,rfl,hrow5,hn5,hbits5,hb5⟩;obtain ⟨N5,hN5⟩:∃x,x=R.length:=⟨_,rfl⟩;rw [←hN5];have HL5:=z7 (HL4.out.call hb5);have hsz4:w.heap.size+1+1+1+1<W4.heap.size:=HL4.out.lt 0 rfl;have HROW5:=z7 hrow5;have HLN5:=z7 hn5;have HBT5:=z7 hbits5;have HN5:=z7 hN5;clear hrow5 hn5 hbits5 hb5 hN5 hX c0 c1 cf e0 e1 e2 e3 e4 e5 e6 ef s0 s1 sf;obtain ⟨c0,c1,cf⟩:=z0g (HL5.out.get 4 rfl);obtain ⟨e0,e1,e2,e3,e4,e5,e6,ef⟩:=z2G (HL5.out.get 3 rfl)
  obtain ⟨r0,r1,rf⟩:=z0g (HL5.out.get 1 rfl);obtain ⟨x0,x1,x2,x3,x4,x5,x6,xf⟩:=z2G (HL5.out.get 0 rfl);go_wp2_with fail;go_region
  go_wp2;have HLF:=((((HL5.out.set2 4 rfl (.slice a5 n5 c5) (.int .i64 (N5:Nat))).set7_3_4 3 rfl (.bool xh) (.int .u64 (xp:Nat)) (.int .u8 (xl:Nat)) (.int .u8 (xw:Nat))).set2 1 rfl (.slice a5 n5 c5) (.int .i64 (N5:Nat))).set7 0 rfl (.int .i64 1) (.int .i64 t) (.int .i64 0) (.bool xh) (.int .u64 (xp:Nat)) (.int .u8 (xl:Nat)) (.int .u8 (xw:Nat))).drew;refine bodyPost_ret (y4w rfl _ _ (w.heap.size+1+1+1) _ _ rfl (HLF.get 1 rfl) rfl (w.heap.size+1+1+1+1) _ _ _ _ _ _ _ rfl (HLF.get 0 rfl) rfl) rfl ?_;refine ⟨a5,n5,c5,b5,by rw [←HN5.out];rfl,?_,HLN5.out,HBT5.out,HLF.low⟩;have g0:=HROW5.out;have g1:=z5S (b:=w.heap.size+1) (x0:= .bool xh) (x1:= .int .u64 (xp:Nat)) (x2:= .int .u8 (xl:Nat)) (x3:= .int .u8 (xw:Nat)) (z4L (b:=w.heap.size) (x0:= .slice a5 n5 c5) (x1:= .int .i64 (N5:Nat)) g0 (by omega)) (by omega);have g2:=z4K (b:=w.heap.size+1+1+1+1) (x0:= .int .i64 1) (x1:= .int .i64 t) (x2:= .int .i64 0) (x3:= .bool xh) (x4:= .int .u64 (xp:Nat)) (x5:= .int .u8 (xl:Nat)) (x6:= .int .u8 (xw:Nat)) (z4L (b:=w.heap.size+1+1+1) (x0:= .slice a5 n5 c5) (x1:= .int .i64 (N5:Nat)) g1 (by omega)) (by omega);exact z0i (z3R g2) (by omega:w.heap.size≤W4.heap.size)
 ·have d0:((en:Int)==0)=false:=by simp;omega
  have d1:decide ((0:Int)<en)=true:=decide_eq_true (by omega);have n1:decide (0<en)=true:=decide_eq_true (by omega);have d2:decide (t≤el)=false:=decide_eq_false (by have:=ht (by omega);omega);obtain ⟨D,hD⟩:∃D,D=w64 (t - el):=⟨_,rfl⟩;obtain ⟨Z,hZ⟩:∃Z,Z=w64 (D - ed):=⟨_,rfl⟩;have hZr: -9223372036854775808≤Z∧Z≤9223372036854775807:=by rw [hZ];exact z2k _
  have hw1:IntKind.i64.wrap (t - el)=D:=hD.symm;have hw2:IntKind.i64.wrap (D - ed)=Z:=hZ.symm;have hw3:=z4S hw1;have hw4:=z4S hw2;obtain ⟨M,hM⟩:∃M,M=en+1:=⟨_,rfl⟩;rw [←hM] at hwn;have HCW:Hid (z2O ⟨en,el,ed,⟨has,prev,lead,width⟩⟩ ⟨t,v⟩=(z8M Z++Xl,⟨M,t,D,⟨xh,xp,xl,xw⟩⟩)):=z7 (by unfold z2O;simp only;rw [if_neg h0,←hX,←hD,←hZ,←hM]);rw [HCW.out];simp only;obtain ⟨R,hRe⟩:∃R,R=l++(z8M Z++Xl):=⟨_,rfl⟩;rw [←hRe];have HRE:=z7 hRe;clear hRe hM HCW he hs ht h0 h hN hl hT hX hD hZ hen;go_enter Tryz.func82,Tryz.ntmps82;go_wp2_with fail;refine (HWR.out _ (H.out.low HL0.out.low)).mono ?_;rintro e w2 ⟨rfl,hb2⟩;have HL2:=z7 (HL0.out.call hb2);clear hb2;obtain ⟨c0,c1,cf⟩:=z0g (HL2.out.get 4 rfl);obtain ⟨e0,e1,e2,e3,e4,e5,e6,ef⟩:=z2G (HL2.out.get 3 rfl);obtain ⟨s0,s1,sf⟩:=z0g (HL2.out.get 2 rfl);go_wp2_with fail;have hP:=q3d a n c l b Z w2 (H.out.low HL2.out.low) (by have:=HN.out;omega) hZr.1 hZr.2;rw [←HN.out] at hP;refine hP.mono ?_;rintro e w3 ⟨a3,n3,c3,b3,rfl,hrow3,hn3,hbits3,hb3⟩;obtain ⟨l3,hl3⟩:∃x,x=l++z8M Z:=⟨_,rfl⟩;have hl3n:l3.length≤549755812100:=by rw [hl3,List.length_append];have:=y3x Z;have:=HN.out;omega
  have HRE3:Hid (R=l3++Xl):=z7 (by rw [HRE.out,hl3,List.append_assoc]);rw [←hl3] at hbits3 ⊢;obtain ⟨N3,hN3⟩:∃x,x=l3.length:=⟨_,rfl⟩;rw [←hN3];have HN3:=z7 hN3;have HL3:=z7 (HL2.out.call hb3);have hsz2:w.heap.size+1+1+1+1<w2.heap.size:=HL2.out.lt 0 rfl;have HROW:=z7 (z0x (b:=w.heap.size+1) (j:=1) (u:= .int .i64 t) (z0x (b:=w.heap.size+1) (j:=0) (u:=(.int .i64 (M:Nat))) (z0x (b:=w.heap.size+1) (j:=2) (u:= .int .i64 D) (z0x (b:=w.heap.size) (j:=1) (u:= .int .i64 (N3:Nat)) (z0x (b:=w.heap.size) (j:=0) (u:= .slice a3 n3 c3) hrow3 (by omega)) (by omega)) (by omega)) (by omega)) (by omega));have HLN:=z7 hn3;have HBT:=z7 hbits3;clear hrow3 hn3 hbits3 hb3 hl3 hN3 hP c0 c1 cf e0 e1 e2 e3 e4 e5 e6 ef s0 s1 sf;obtain ⟨c0,c1,cf⟩:=z0g (HL3.out.get 4 rfl);obtain ⟨e0,e1,e2,e3,e4,e5,e6,ef⟩:=z2G (HL3.out.get 3 rfl);obtain ⟨s0,s1,sf⟩:=z0g (HL3.out.get 2 rfl);go_upto_region 13 with fail
  obtain ⟨W4,hW4,hL4⟩:=(show Loc w [(w.heap.size+1+1+1+1, .cells #[.int .i64 0, .int .i64 0, .int .i64 0, .bool false, .int .u64 0, .int .u8 0, .int .u8 0] 139 (0,0)),(w.heap.size+1+1+1, .cells #[.slice none 0 0, .int .i64 0] 48 (0,0)),(w.heap.size+1+1, .cells #[.int .i64 t, .int .u64 (v:Nat)] 113 (0,0)),(w.heap.size+1, .cells #[(.int .i64 (M:Nat)), .int .i64 t, .int .i64 D, .bool has, .int .u64 (prev:Nat), .int .u8 (lead:Nat), .int .u8 (width:Nat)] 139 (0,0)),(w.heap.size, .cells #[.slice a3 n3 c3, .int .i64 (N3:Nat)] 48 (0,0))] _ from ((((HL3.out.set2 4 rfl (.slice a3 n3 c3) (.int .i64 (N3:Nat))).set 3 rfl 2 (.int .i64 D)).set 3 rfl 0 (.int .i64 (M:Nat))).set 3 rfl 1 (.int .i64 t))).named;rw [←hW4] at HROW ⊢;have HL4:=z7 hL4;clear hL4 hW4 c0 c1 cf e0 e1 e2 e3 e4 e5 e6 ef s0 s1 sf;obtain ⟨c0,c1,cf⟩:=z0g (HL4.out.get 4 rfl);obtain ⟨e0,e1,e2,e3,e4,e5,e6,ef⟩:=z2G (HL4.out.get 3 rfl);obtain ⟨s0,s1,sf⟩:=z0g (HL4.out.get 2 rfl);go_wp2_with fail;have hX:=HX.out a3 n3 c3 l3 b3 W4 (z4O HROW.out HLN.out HBT.out) (by omega) (HT.out _ HL4.out.low);rw [←HN3.out,←HRE3.out] at hX;refine hX.mono ?_;rintro e w5 ⟨a5,n5,c5,b5,rfl,hrow5,hn5,hbits5,hb5⟩;obtain ⟨N5,hN5⟩:∃x,x=R.length:=⟨_,rfl⟩;rw [←hN5];have HL5:=z7 (HL4.out.call hb5);have hsz4:w.heap.size+1+1+1+1<W4.heap.size:=HL4.out.lt 0 rfl;have HROW5:=z7 hrow5;have HLN5:=z7 hn5;have HBT5:=z7 hbits5;have HN5:=z7 hN5;clear hrow5 hn5 hbits5 hb5 hN5 hX c0 c1 cf e0 e1 e2 e3 e4 e5 e6 ef s0 s1 sf;obtain ⟨c0,c1,cf⟩:=z0g (HL5.out.get 4 rfl)
  obtain ⟨e0,e1,e2,e3,e4,e5,e6,ef⟩:=z2G (HL5.out.get 3 rfl);obtain ⟨r0,r1,rf⟩:=z0g (HL5.out.get 1 rfl);obtain ⟨x0,x1,x2,x3,x4,x5,x6,xf⟩:=z2G (HL5.out.get 0 rfl);go_wp2_with fail;go_region
  go_wp2;have HLF:=((((HL5.out.set2 4 rfl (.slice a5 n5 c5) (.int .i64 (N5:Nat))).set7_3_4 3 rfl (.bool xh) (.int .u64 (xp:Nat)) (.int .u8 (xl:Nat)) (.int .u8 (xw:Nat))).set2 1 rfl (.slice a5 n5 c5) (.int .i64 (N5:Nat))).set7 0 rfl (.int .i64 (M:Nat)) (.int .i64 t) (.int .i64 D) (.bool xh) (.int .u64 (xp:Nat)) (.int .u8 (xl:Nat)) (.int .u8 (xw:Nat))).drew;refine bodyPost_ret (y4w rfl _ _ (w.heap.size+1+1+1) _ _ rfl (HLF.get 1 rfl) rfl (w.heap.size+1+1+1+1) _ _ _ _ _ _ _ rfl (HLF.get 0 rfl) rfl) rfl ?_;refine ⟨a5,n5,c5,b5,by rw [←HN5.out];rfl,?_,HLN5.out,HBT5.out,HLF.low⟩;have g0:=HROW5.out;have g1:=z5S (b:=w.heap.size+1) (x0:= .bool xh) (x1:= .int .u64 (xp:Nat)) (x2:= .int .u8 (xl:Nat)) (x3:= .int .u8 (xw:Nat)) (z4L (b:=w.heap.size) (x0:= .slice a5 n5 c5) (x1:= .int .i64 (N5:Nat)) g0 (by omega)) (by omega);have g2:=z4K (b:=w.heap.size+1+1+1+1) (x0:= .int .i64 (M:Nat)) (x1:= .int .i64 t) (x2:= .int .i64 D) (x3:= .bool xh) (x4:= .int .u64 (xp:Nat)) (x5:= .int .u8 (xl:Nat)) (x6:= .int .u8 (xw:Nat)) (z4L (b:=w.heap.size+1+1+1) (x0:= .slice a5 n5 c5) (x1:= .int .i64 (N5:Nat)) g1 (by omega)) (by omega);exact z0i (z3R g2) (by omega:w.heap.size≤W4.heap.size)
end Go.Proofs.YtfcnapnopdomhaaGreatDoor

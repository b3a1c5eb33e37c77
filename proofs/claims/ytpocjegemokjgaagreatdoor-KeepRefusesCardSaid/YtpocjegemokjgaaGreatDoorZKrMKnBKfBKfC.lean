/-
  Plain: the chunks of a book, taken one behind the other by a keep, make its book be that one; what Lay puts is what the samples are.
-/
import Derived.Test.YtpocjegemokjgaaGreatDoorZLyA
import Derived.Test.YtpocjegemokjgaaGreatDoorZSkASkBRcEKrA
import Derived.Deep.DeepCutAuto
import Derived.Lib.LaidTab
import Derived.Stop.LaidErr
import Derived.MakeChecks
namespace Go.Proofs.YtpocjegemokjgaaGreatDoor
open Go.Proofs.Tryz
set_option linter.all false
set_option maxRecDepth 100000
set_option maxHeartbeats 12800000
section
open Go.RowKit Go.Maps
def z2u(s:z0U)(n:Nat):z0U:=⟨s.done.take n,if n<=s.done.length then z1J else s.cur⟩
def z3o(s:z0U):Nat:=s.done.length+if 0<s.cur.st.length then 1 else 0
theorem z9K(s:z0U):s.done.length<=z3o s/\z3o s<=s.done.length+1:=by
 unfold z3o;split<;>omega
theorem z8j(id:Nat):∀(l:List (z0N×Bool)) (k:Nat),(∀x∈l,0<x.1.st.length)->(z0A id k l).length=l.length/\∀(n:Nat) (x:z0N×Bool),l[n]? =some x->(z0A id k l)[n]? =some (z5x id (k+n) x)
 | [],k,h=>⟨rfl,fun n x A=>by simp at A⟩
 | y::l,k,h=>by
  have B:=h y List.mem_cons_self;obtain⟨I,J⟩:=z8j id l (k+1) (fun x A=>h x (List.mem_cons_of_mem _ A));unfold z0A;rw[if_pos B];refine⟨by rw[List.length_cons,List.length_cons,I],fun n x A=>?_⟩;cases n with
  | zero=>
   simp only[List.getElem?_cons_zero,Option.some.injEq]at A ⊢;rw[A,Nat.add_zero]
  | succ n=>
   rw[List.getElem?_cons_succ]at A ⊢;rw[J n x A,show k+1+n=k+(n+1) by omega]
theorem z9T{s:z0U}(hs:s.Ok)(id:Nat):(z7R id s).length=z3o s/\∀n,n<z3o s->∃p cl,s.parts[n]? =some (p,cl)/\0<p.st.length/\(z7R id s)[n]? =some (z5x id n (p,cl)):=by
 have N:∀x∈s.done.map (fun x=>(x,true)),0<x.1.st.length:=fun x A=>by
  obtain⟨y,hy,rfl⟩:=List.mem_map.1 A;exact(hs.done y hy).2
 by_cases h0:0<s.cur.st.length
 ·have R:∀x∈s.parts,0<x.1.st.length:=fun x A=>by
   rcases List.mem_append.1 A with h|h
   ·exact N x h
   ·rw[List.mem_singleton.1 h];exact h0
  obtain⟨J,L⟩:=z8j id s.parts 0 R;have O:z3o s=s.done.length+1:=by unfold z3o;rw[if_pos h0]
  refine⟨by unfold z7R;rw[J,s.parts_len,O],fun n Y=>?_⟩;have B:n<s.parts.length:=by rw[s.parts_len];omega
  have A:=List.getElem?_eq_getElem B;have I:=L n _ A;rw[Nat.zero_add]at I;exact⟨_,_,A,R _ (List.getElem_mem B),I⟩
 ·obtain⟨J,L⟩:=z8j id (s.done.map fun x=>(x,true)) 0 N;have O:z3o s=s.done.length:=by unfold z3o;rw[if_neg h0];rfl
  have U:z7R id s=z0A id 0 (s.done.map fun x=>(x,true)):=by
   unfold z7R z0U.parts;rw[z4m];have:z0A id (0+(s.done.map fun x=>(x,true)).length) [(s.cur,false)]= []:=by
    unfold z0A;rw[if_neg h0];rfl
   rw[this,List.append_nil]
  refine⟨by rw[U,J,List.length_map,O],fun n Y=>?_⟩;have B:n<(s.done.map fun x=>(x,true)).length:=by rw[List.length_map];omega
  have A:=List.getElem?_eq_getElem B;have I:=L n _ A;rw[Nat.zero_add]at I;refine⟨_,_,?_,N _ (List.getElem_mem B),by rw[U];exact I⟩;unfold z0U.parts;rw[List.getElem?_append_left B];exact A
theorem y1c(s:z0U):z2u s 0=z6d:=by
 unfold z2u;rw[if_pos (Nat.zero_le _),List.take_zero]
theorem y6Q{p:z0N}(h:p.Ok)(I:¬0<p.st.length):p=z1J:=by
 obtain⟨l,B⟩:=p;have hb:=y2A h.rd;simp only at I hb;have A:B.length=0:=by omega
 rw[A]at hb;have J:l= []:=List.eq_nil_of_length_eq_zero (by omega);have L:B= []:=List.eq_nil_of_length_eq_zero A;rw[J,L]
theorem y8Z{s:z0U}(A:s.Ok):z2u s (z3o s)=s:=by
 unfold z2u z3o;by_cases h0:0<s.cur.st.length
 ·rw[if_pos h0,if_neg (by omega),List.take_of_length_le (by omega)]
 ·rw[if_neg h0,Nat.add_zero,if_pos (Nat.le_refl _),List.take_length,<-y6Q A.cur h0]
theorem y5T{s:z0U}(N:s.Ok){n:Nat}(L:n<z3o s):z2u s n=⟨s.done.take n,z1J⟩/\(s.done.take n).length=n/\z4y (z2u s n) s:=by
 have B:n<=s.done.length:=by have:=(z9K s).2;omega
 have e:z2u s n=⟨s.done.take n,z1J⟩:=by unfold z2u;rw[if_pos B]
 have A:(s.done.take n).length=n:=by rw[List.length_take];omega
 refine⟨e,A,?_⟩;rw[e];obtain⟨p,cl,I,J, -⟩:=(z9T N 0).2 n L;refine⟨by show(s.done.take n).length<=_;omega,by show s.done.take n=s.done.take (s.done.take n).length;rw[A],p,cl,by show s.parts[(s.done.take n).length]? =_;rw[A];exact I,Nat.zero_le _,by unfold z1j toP;simp,fun _=>J⟩
def z3s(id n:Nat)(p:z0N)(cl:Bool)(b:List UInt8):Fr:=⟨2,0,id,n,0,0,p.st.length,cl,0,b,(p.l.length:Nat)⟩
theorem q4f{B:z0j}{s:z0U}(hs:s.Ok)(hr:y2X s){id n:Nat}{p:z0N}{cl:Bool}(hn:n<z3o s)(hk:z0g B id=z2u s n)(hp:s.parts[n]? =some (p,cl))(h0:0<p.st.length)(R:z3A B id=0)(U:24<=B.size)(b:List UInt8)(hb:z0R b p.l):
  z3d B 0 (z3s id n p cl b) p.l=(0,0,0)/\takeB B (z3s id n p cl b) p.l=B.set id (z2u s (n+1))/\(z3y (z3s id n p cl b) p.l).length<=470:=by
 obtain⟨he,hl,hF⟩:=y5T hs hn;have aE:n<=s.done.length:=by have:=(z9K s).2;omega
 have J:z2v (z2u s n)=(n,0,0):=by rw[he];unfold z2v;rw[hl];rfl
 obtain⟨A, -⟩:=y2K hs id n p cl hp h0;have a2:=z6v hs hp;obtain⟨-,hz|⟨st,L⟩⟩:=y8Y hs hr hF id (p.l.length:Nat)
 ·rw[J]at hz;have h9:=congrArg FrL.count A;have h8:(z6P s id (n,0,0) (p.l.length:Nat)).count=p.st.length:=h9;omega
 rw[J]at L;obtain⟨r,a8⟩:=zN (z6P s id (n,0,0) (p.l.length:Nat));rw[<-a8]at L A;have e1:r.series=id:=congrArg FrL.series A;have e2:r.p=(n,0,0):=congrArg FrL.p A;have e3:r.count=p.st.length:=congrArg FrL.count A;have e4:r.closed=cl:=congrArg FrL.closed A;have e5:r.bits=p.l:=congrArg FrL.bits A;have e6:r.sum=0:=congrArg FrL.sum A;have I:(z2u s n).cur.l= []:=by rw[he]
 have aA:(z2u s n).cur.st= []:=by rw[he]
 have a4:st=p.st:=by
  have h9:=L.rd;rw[I,e5,List.nil_append,a2.rd]at h9;exact(Option.some.inj h9).symm
 have O:z1a B (z2u s n) (z3s id n p cl b) r.bits=(0,⟨(z2u s n).cur.l++r.bits,st⟩):=y2o (z3s id n p cl b) L R U e1.symm e2.symm e3.symm;rw[I,e5,a4,List.nil_append]at O;have hx:=hF.ok hs;have hj:z4x B (z3s id n p cl b)=0:=by
  unfold z4x;have a3:(z3s id n p cl b).series=id:=rfl;rw[a3,hk,if_pos ⟨by show 2≠3;decide,by rw[J];rfl⟩,y3d hx,if_neg];show ¬(z3r 0 (z2u s n).cur.l≠0);rw[I];simp[z3r]
 have a9:z4a B (z3s id n p cl b) p.l=0:=by
  unfold z4a;show(z1a B (z0g B id) _ _).1=0;rw[hk,O]
 have a6:0<p.l.length:=by have:=L.bits0;rw[e5]at this;exact this
 have aC:p.l.length<=3504:=a2.bits;have aB:=hb.len;have a1:(z3s id n p cl b).cnt<(z3s id n p cl b).count/\0<p.l.length/\(z3s id n p cl b).b.length<=500:=⟨h0,a6,by show b.length<=500;omega⟩;refine⟨?_,?_,?_⟩
 ·unfold z3d;rw[if_neg (by show ¬(2<1\/3<2);omega),if_neg (by show ¬(0<0);omega),hj,if_neg (by decide),if_neg (by decide),if_neg]
  ·rfl
  ·rintro(g|g)
   ·exact g a1
   ·exact g a9
 ·unfold takeB;show B.set id (z5f (z0g B id) (z1a B (z0g B id) _ _).2 cl)=_;rw[hk,O]
  congr 1
  show z5f (z2u s n) p cl=_;obtain⟨N,Y,a0⟩:=y5j s _ _ _ hp;rw[he];cases cl with
  | true=>
   have hD:=Y rfl;have a5:s.done[n]? =some p:=(by rw[List.getElem?_append_left hD]at N;exact N);show(⟨s.done.take n++ [p],z1J⟩:z0U)=_;unfold z2u;rw[if_pos (by omega),List.take_add_one,a5];rfl
  | false=>
   have hD:=a0 rfl;subst hD;rw[List.getElem?_append_right (Nat.le_refl _),Nat.sub_self]at N;have a7:p=s.cur:=(Option.some.inj N).symm;show(⟨s.done.take s.done.length,p⟩:z0U)=_;unfold z2u;rw[if_neg (by omega),List.take_length,List.take_of_length_le (by omega),a7]
 ·rw[z9V];show 24+b.length<=470;omega
structure z6V (ab kb:z0j) (ids:List Nat) (i n:Nat):Prop where
 old:∀(j id:Nat),j<i->ids[j]? =some id->z0g kb id=z0g ab id
 at_:∀id,ids[i]? =some id->z0g kb id=z2u (z0g ab id) n
 rest:∀(j id:Nat),i<j->ids[j]? =some id->z0g kb id=z6d
 most:kb.most=64
 size:kb.size=24
 keys:∀p∈kb.all,∃j id:Nat,p.1=(id:Int)/\ids[j]? =some id/\(j<i\/j=i/\0<n)
 all:∀(j id:Nat),ids[j]? =some id->(j<i\/j=i/\0<n)->∃p∈kb.all,p.1=(id:Int)
theorem z6V.start(A:z0j)(ids:List Nat):z6V A ⟨64,24, []⟩ ids 0 0:=
 ⟨fun j id h=>by omega,fun id _=>by rw[y1c];rfl,fun j id _ _=>rfl,rfl,rfl,(fun p B=>by cases B),fun j id _ h=>by omega⟩
theorem y6C{ids:List Nat}(hd:ids.Pairwise (·≠·)){i j a b:Nat}(I:ids[i]? =some a)(J:ids[j]? =some b)(h:i≠j):a≠b:=by
 obtain⟨A,rfl⟩:=List.getElem?_eq_some_iff.1 I;obtain⟨B,rfl⟩:=List.getElem?_eq_some_iff.1 J;rcases Nat.lt_or_gt_of_ne h with g|g
 ·exact List.pairwise_iff_getElem.1 hd i j A B g
 ·exact(List.pairwise_iff_getElem.1 hd j i B A g).symm
theorem z6V.step{L I:z0j}{ids:List Nat}{i n id:Nat}(h:z6V L I ids i n)(hd:ids.Pairwise (·≠·))(B:ids[i]? =some id):z6V L (I.set id (z2u (z0g L id) (n+1))) ids i (n+1):=by
 refine⟨fun j x N A=>?_,fun x A=>?_,fun j x N A=>?_,h.most,h.size,fun p J=>?_,fun j x A R=>?_⟩
 ·rw[z3Y,if_neg (y6C hd A B (by omega))];exact h.old j x N A
 ·rw[B]at A;cases A;rw[z3Y,if_pos rfl]
 ·rw[z3Y,if_neg (y6C hd A B (by omega))];exact h.rest j x N A
 ·unfold z0j.set at J;rcases(z2I z4p (id:Int) _ p I.all).1 J with rfl|⟨O, -⟩
  ·exact⟨i,id,rfl,B,.inr ⟨rfl,by omega⟩⟩
  ·obtain⟨j,x,e,A,R⟩:=h.keys p O;exact⟨j,x,e,A,by omega⟩
 ·by_cases hji:j=i
  ·subst hji;rw[B]at A;cases A;exact⟨_,(z2I z4p (id:Int) _ _ I.all).2 (.inl rfl),rfl⟩
  ·obtain⟨p,J,e⟩:=h.all j x A (by omega);exact⟨p,(z2I z4p (id:Int) _ p I.all).2 (.inr ⟨J,by rw[e];have:=y6C hd A B hji;omega⟩),e⟩
theorem z6V.next{B J:z0j}{ids:List Nat}{i n:Nat}(h:z6V B J ids i n)(L:∀id,(z0g B id).Ok){id:Nat}(I:ids[i]? =some id)(R:n=z3o (z0g B id))(Y:0<n):z6V B J ids (i+1) 0:=by
 refine⟨fun j x O A=>?_,fun x A=>?_,fun j x O A=>?_,h.most,h.size,fun p U=>?_,fun j x A N=>?_⟩
 ·by_cases hji:j=i
  ·subst hji;rw[I]at A;cases A;rw[h.at_ id I,R,y8Z (L id)]
  ·exact h.old j x (by omega) A
 ·rw[y1c];exact h.rest (i+1) x (by omega) A
 ·exact h.rest j x (by omega) A
 ·obtain⟨j,x,e,A,N⟩:=h.keys p U;exact⟨j,x,e,A,by omega⟩
 ·exact h.all j x A (by omega)
theorem z8s:∀(l m:List Int),l.Pairwise (·≠·)->(∀x∈l,x∈m)->l.length<=m.length
 | [],m,_,_=>Nat.zero_le _
 | x::l,m,h,hs=>by
  obtain⟨I,J⟩:=List.pairwise_cons.1 h;have A:=hs x List.mem_cons_self;have L:=z8s l (m.erase x) J fun y B=>(List.mem_erase_of_ne (I y B).symm).2 (hs y (List.mem_cons_of_mem _ B));rw[List.length_erase_of_mem A]at L;have N:=List.length_pos_of_mem A;rw[List.length_cons];omega
theorem z6V.fin{L B:z0j}{ids:List Nat}(h:z6V L B ids ids.length 0)(hd:ids.Pairwise (·≠·))(R:B.all.Pairwise fun p q=>p.1≠q.1):(∀id∈ids,z0g B id=z0g L id)/\B.all.length=ids.length:=by
 refine⟨fun id hid=>?_,?_⟩
 ·obtain⟨j,A,rfl⟩:=List.getElem_of_mem hid;exact h.old j _ A (List.getElem?_eq_getElem A)
 ·have N:(B.all.map Prod.fst).length<=(ids.map Int.ofNat).length:=z8s _ _ (List.pairwise_map.2 R) fun x J=>by
   obtain⟨p,I,rfl⟩:=List.mem_map.1 J;obtain⟨j,id,e,A, -⟩:=h.keys p I;rw[e];exact List.mem_map.2 ⟨id,List.mem_of_getElem? A,rfl⟩
  have O:(ids.map Int.ofNat).length<=(B.all.map Prod.fst).length:=z8s _ _ (List.pairwise_map.2 (hd.imp fun {a b} g e=>g (Int.ofNat.inj e))) fun x J=>by
   obtain⟨id,hid,rfl⟩:=List.mem_map.1 J;obtain⟨j,A,rfl⟩:=List.getElem_of_mem hid;obtain⟨p,I,e⟩:=h.all j _ (List.getElem?_eq_getElem A) (.inl A);exact List.mem_map.2 ⟨p,I,e⟩
  rw[List.length_map,List.length_map]at N O;omega
theorem z9o(s:z0U)(p:z0N)(cl:Bool):z2f (z5f s p cl)=(s.done.flatMap fun x=>z2l x.st)++z2l p.st:=by
 have key:∀(d:List z0N) (c:z0N),z2f ⟨d,c⟩=(d.flatMap fun x=>z2l x.st)++z2l c.st:=fun d c=>by
  unfold z2f z0U.parts;rw[List.flatMap_append,List.flatMap_map];simp
 cases cl with
 | false=>exact key s.done p
 | true=>
  show z2f ⟨s.done++ [p],z1J⟩=_;rw[key,List.flatMap_append];simp[z2l]
theorem y6k(s:z0U)(x:z1c)(cl:Bool):z2f (z5f s (z2T s.cur x) cl)=z2f s++ [x]:=by
 have e:s=z5f s s.cur false:=rfl;rw[z9o]
 conv=>rhs;rw[e,z9o]
 rw[List.append_assoc]
 congr 1
 unfold z2l z2T;simp
theorem y1k{id:Nat}{x:z1c}:∀(A:List (Nat×List z1c)),(A.Pairwise fun p q=>p.1≠q.1)->∀p∈z4A id x A,(p∈A/\p.1≠id)\/(p.1=id/\((∃l,(id,l)∈A/\p.2=l++ [x])\/((∀q∈A,q.1≠id)/\p.2= [x])))
 | [],_,p,B=>by
  unfold z4A at B;rw[List.mem_singleton.1 B];exact .inr ⟨rfl,.inr ⟨fun q J=>(by cases J),rfl⟩⟩
 | (i,l)::A,hd,p,B=>by
  obtain⟨R,U⟩:=List.pairwise_cons.1 hd;unfold z4A at B;split at B
  ·rename_i N;subst N;rcases List.mem_cons.1 B with rfl|B
   ·exact .inr ⟨rfl,.inl ⟨l,List.mem_cons_self,rfl⟩⟩
   ·exact .inl ⟨List.mem_cons_of_mem _ B,fun e=>R p B e.symm⟩
  ·rename_i N;rcases List.mem_cons.1 B with rfl|B
   ·exact .inl ⟨List.mem_cons_self,N⟩
   ·rcases y1k A U p B with⟨L,I⟩|⟨L,⟨Y,I,O⟩|⟨I,O⟩⟩
    ·exact .inl ⟨List.mem_cons_of_mem _ L,I⟩
    ·exact .inr ⟨L,.inl ⟨Y,List.mem_cons_of_mem _ I,O⟩⟩
    ·refine .inr ⟨L,.inr ⟨fun q J=>?_,O⟩⟩;rcases List.mem_cons.1 J with rfl|J
     ·exact N
     ·exact I q J
theorem y1F{id:Nat}{x:z1c}:∀(A:List (Nat×List z1c)),(∃q∈z4A id x A,q.1=id)/\(∀p∈A,∃q∈z4A id x A,q.1=p.1)/\(z4A id x A).length<=A.length+1
 | []=>⟨⟨_,List.mem_singleton.2 rfl,rfl⟩,(fun p B=>by cases B),Nat.le_refl _⟩
 | (i,l)::A=>by
  obtain⟨⟨q,N,e⟩,J,R⟩:=y1F (id:=id) (x:=x) A;unfold z4A;split
  ·rename_i L;refine⟨⟨_,List.mem_cons_self,L⟩,fun p B=>?_,by simp⟩;rcases List.mem_cons.1 B with rfl|B
   ·exact⟨_,List.mem_cons_self,rfl⟩
   ·exact⟨p,List.mem_cons_of_mem _ B,rfl⟩
  ·refine⟨⟨q,List.mem_cons_of_mem _ N,e⟩,fun p B=>?_,by simp only[List.length_cons];omega⟩;rcases List.mem_cons.1 B with rfl|B
   ·exact⟨_,List.mem_cons_self,rfl⟩
   ·obtain⟨r,O,I⟩:=J p B;exact⟨r,List.mem_cons_of_mem _ O,I⟩
theorem y8g{id:Nat}{x:z1c}:∀(A:List (Nat×List z1c)),(A.Pairwise fun p q=>p.1≠q.1)->(z4A id x A).Pairwise fun p q=>p.1≠q.1
 | [],_=>by unfold z4A;exact List.pairwise_singleton _ _
 | (i,l)::A,hd=>by
  obtain⟨I,B⟩:=List.pairwise_cons.1 hd;unfold z4A;split
  ·exact List.pairwise_cons.2 ⟨I,B⟩
  ·rename_i J;refine List.pairwise_cons.2 ⟨fun q L=>?_,y8g A B⟩;rcases y1k A B q L with⟨g, -⟩|⟨g, -⟩
   ·exact I q g
   ·rw[g];exact J
structure y4V (b:z0j) (A:List (Nat×List z1c)):Prop where
 nd:A.Pairwise fun p q=>p.1≠q.1
 eq:∀p∈A,z2f (z0g b p.1)=p.2/\p.2≠ []
 outs:∀id,(∀p∈A,p.1≠id)->z0g b id=z6d
theorem y4V.step{r:z0j×List (Nat×List z1c)}(h:y4V r.1 r.2)(o:LOp):y4V (z1i r o).1 (z1i r o).2:=by
 unfold z1i;split
 ·exact h
 ·obtain⟨id,hid⟩:=zN (o.s%64);obtain⟨x,hx⟩:∃x:z1c,x=⟨o.t,o.v⟩:=⟨_,rfl⟩;rw[<-hid,<-hx];show y4V (z8u r.1 id x) (z4A id x r.2);obtain⟨h1,h2,h3⟩:=y1F (id:=id) (x:=x) r.2;have A:∀i,z0g (z8u r.1 id x) i=if i=id then z5f (z0g r.1 id) (z2T (z0g r.1 id).cur x) (decide ((z0g r.1 id).cur.st.length+1=r.1.size))else z0g r.1 i:=fun i=>by unfold z8u;rw[z3Y]
  refine⟨y8g r.2 h.nd,fun p O=>?_,fun i Y=>?_⟩
  ·rcases y1k r.2 h.nd p O with⟨J,B⟩|⟨J,g⟩
   ·rw[A,if_neg B];exact h.eq p J
   ·rw[A,if_pos J,y6k];rcases g with⟨l,B,L⟩|⟨B,L⟩
    ·have U:=(h.eq _ B).1;simp only at U;rw[U,L];exact⟨rfl,by simp⟩
    ·rw[h.outs id B,L];exact⟨rfl,by simp⟩
  ·obtain⟨q,hq,e⟩:=h1;have N:i≠id:=fun I=>Y q hq (e.trans I.symm);rw[A,if_neg N];refine h.outs i fun p O=>?_;obtain⟨q2,R,I⟩:=h2 p O;rw[<-I];exact Y q2 R
theorem y8t:∀(L:List LOp) (r:z0j×List (Nat×List z1c)),y4V r.1 r.2->y4V (L.foldl z1i r).1 (L.foldl z1i r).2/\(L.foldl z1i r).2.length<=r.2.length+L.length
 | [],r,h=>⟨h,Nat.le_refl _⟩
 | o::L,r,h=>by
  rw[List.foldl_cons];obtain⟨A,B⟩:=y8t L (z1i r o) (h.step o);refine⟨A,?_⟩;have I:(z1i r o).2.length<=r.2.length+1:=by
   unfold z1i;split
   ·omega
   ·exact(y1F r.2).2.2
  rw[List.length_cons];omega
theorem q1E(size:Int)(L:List LOp):y4V (y1z size L).1 (y1z size L).2/\(y1z size L).2.length<=L.length:=by
 have h:y4V (⟨64,z3E size, []⟩:z0j) ([]:List (Nat×List z1c)):=⟨List.Pairwise.nil,(fun p I=>by cases I),fun id _=>rfl⟩;obtain⟨B,A⟩:=y8t L (⟨64,z3E size, []⟩, []) h;exact⟨B,by simp only[List.length_nil,Nat.zero_add]at A;exact A⟩
theorem y2c{s:z0U}(h:z2f s≠ []):0<z3o s:=by
 rcases Nat.eq_zero_or_pos (z3o s)with A|A
 ·exfalso
  apply h;unfold z3o at A;have B:s.done= []:=List.eq_nil_of_length_eq_zero (by omega);have J:¬0<s.cur.st.length:=fun g=>by rw[if_pos g]at A;omega
  have I:s.cur.st= []:=List.eq_nil_of_length_eq_zero (by omega);unfold z2f z0U.parts;rw[B,List.map_nil,List.nil_append,List.flatMap_cons,List.flatMap_nil,List.append_nil];show z2l s.cur.st= [];rw[I];rfl
 ·exact A
theorem q3m{s:FsS}(hd:s.files.Pairwise fun p q=>p.1≠q.1)(L:s.has z1R=true)(J:s.left=none)(n:List UInt8)(hn:n.length<=470)(hu:s.used+480<=s.room):
  (wrS s n).1=0/\(wrS s n).2.used<=s.used+480/\(wrS s n).2.room=s.room/\(wrS s n).2.left=none/\(wrS s n).2.has z1R=true:=by
 have I:s.go=true:=by unfold FsS.go;rw[J];rfl
 have Y:s.went=s:=by unfold FsS.went;rw[J]
 have B:(z2c n).length≠0:=by unfold z2c;simp
 have a0:=z5U n;have R:z2g s z1R n=z1f s z1R (z2c n):=by unfold z2g;rw[if_neg (by omega)]
 have U:¬s.room - s.used<(z2c n).length:=by omega
 have N:z1f s z1R (z2c n)=(0,{s with waits:=s.waits++ [(z1R,z2c n)]}):=by unfold z1f;rw[if_neg (by rw[L];simp),if_neg B,if_neg U,I,Y];rfl
 have O:wrS s n=z2k {s with waits:=s.waits++ [(z1R,z2c n)]} z1R:=by unfold wrS;rw[R,N];exact if_neg (show ¬((0:Int)≠0) by decide)
 have A:=y2F (s:={s with waits:=s.waits++ [(z1R,z2c n)]}) (k:=z1R) hd L J;rw[O];refine⟨A.1,?_,A.2.2.1,A.2.2.2.1,A.2.2.2.2⟩;rw[A.2.1];show total s.files+total (s.waits++ [(z1R,z2c n)])<=total s.files+total s.waits+480;rw[z5h,z1q];show _+(_+((z2c n).length+0))<=_;omega
theorem q4x:knF.Ok:=⟨by decide,by decide,by decide,by decide,by decide,by decide,by decide,by decide,by decide,by decide⟩
theorem y8k:z0R knF.b knL:=by
 have B:knF.b.length=16:=rfl;have A:knL.length=128:=by unfold knL;simp
 refine⟨by rw[B,A],fun i L=>?_⟩;have I:knF.b=List.replicate 16 0:=rfl;have J:knL=List.replicate 128 false:=rfl;unfold y7d;rw[I,J,List.getD_eq_getElem?_getD,List.getD_eq_getElem?_getD,List.getElem?_replicate,List.getElem?_replicate];split<;>split<;>simp
theorem q3M:y6Y (2:Nat) 9000 (4:Nat) 500 10 9000:=⟨by omega,by omega,by omega,by omega,by omega,by omega⟩
theorem q3N(w:World):(Instr.makeSlice 47 (.int .i64 16) (.int .i64 16)).run prog w= .ok (.slice (some ⟨w.heap.size,0,none⟩) 16 16) (w.alloc (.cells #[.int .u8 0,.int .u8 0,.int .u8 0,.int .u8 0,.int .u8 0,.int .u8 0,.int .u8 0,.int .u8 0,.int .u8 0,.int .u8 0,.int .u8 0,.int .u8 0,.int .u8 0,.int .u8 0,.int .u8 0,.int .u8 0] 5)):=by kernel_rfl
theorem q5Y:tkS ⟨2,4, []⟩ 0 (z2F (z6U 9000) z1R).2.1 knF knL=knK:=by unfold knK knS;rfl
theorem q4a:(z0g ⟨2,4, []⟩ knF.series).done.length<1000000000:=by
 have h:z0g ⟨2,4, []⟩ knF.series=z6d:=rfl;rw[h];exact(by decide:0<1000000000)
theorem q6d:knF.n=((knL.length:Nat):Int):=by
 have h:knL.length=128:=by unfold knL;simp
 rw[h];rfl
theorem y2M{B:Nat}{w:World}{a:Option Addr}{m c:Nat}{N:List (Value×List UInt8)}{U:List UInt8}(h:z0I B w (.slice a m c) N)(L:N.map Prod.snd= [U])(hm:m=N.length):∃g y yn O,a=some ⟨g,0,none⟩/\m=1/\g<w.heap.size/\w.cell? ⟨g,0,none⟩=some (.slice y yn O)/\RdB w (.slice y yn O) U:=by
 match N,L with
 | [x],L=>
  simp only[List.map_cons,List.map_nil,List.cons.injEq,and_true]at L;subst hm;rcases h.row.2 with⟨-,e⟩|⟨g,cap,a0,e, -,hc, -, -, -,ht⟩
  ·simp at e
  ·simp only[Value.slice.injEq]at e;have A:=h.ent x List.mem_cons_self;obtain⟨y,O,hy⟩:=z2n A;refine⟨g,y,x.2.length,O,e.1,rfl,(Array.getElem?_eq_some_iff.1 hc).1,?_,?_⟩
   ·rw[<-hy];rcases(z0e h.row).2 with⟨-,J⟩|⟨ad,cp,J,e3⟩
    ·simp at J
    ·simp only[Value.slice.injEq]at J;have Y:=e3 0 x.1 rfl;have R:ad=⟨g,0,none⟩:=(by have:=J.1;rw[e.1]at this;exact(Option.some.inj this).symm);rw[R]at Y;have I:(⟨g,0,none⟩:Addr).add 0=⟨g,0,none⟩:=by unfold Addr.add;split<;>simp_all
     rwa [I]at Y
   ·rw[<-hy,<-L];exact z0e A
theorem y1A.db{w:World}{J A L:Nat}{b:z0j}{ep:Nat}{s:FsS}{U:Nat->Prop}(h:y1A w J A L b ep s U):z1u w:=by
 obtain⟨O,R,N,B,E,S,F,I, -⟩:=h;exact I.db
structure KnS (W:World) (n:Nat) (D:Nat->Bool) (v:Nat->Value) (w':World):Prop where
 low:Below W.heap.size W w'
 smp:D 30=true->∃a c,v 30= .slice a n c
theorem KnS.read{W w':World}{n:Nat}{D:Nat->Bool}{v:Nat->Value}(h:KnS W n D v w')(k:Nat)(A:k≠30):KnS W n (mark D k) v w':=⟨h.low,by rw[q9 A];exact h.smp⟩
theorem q2d(w:World)(bW:z1u w):Calls prog 4 #[] w fun e w'=>e= .returned (.bool true)/\Below w.heap.size w w':=by
 have aO:=z7 (fun w'=>q0t 9000 (by omega) (by omega) w');have bI:=z7 bW;clear bW;go_enter func4,ntmps4;go_wp2_with fail;refine(aO.o w).mono ?_;rintro e w1 ⟨sb,F,rfl,hF,a0,b8⟩;have dF:=bI.o.lt;have bM:=z7 (y8y sb (z6U 9000) F 2 4 9000 500 10 9000 q3M y7Z.1 y7Z.2 w1 hF (y5f (by omega) (by omega)) (bI.o.low b8) (fun hm=>by have:=a0 _ hm;omega));have HF:=z7 hF;have aN:=z7 a0;have aY:=z7 b8;clear hF a0 b8;go_wp2_with fail;refine bM.o.mono ?_;rintro e w2 ⟨kb,rb,bb,tb,mb,B,E,S,F2,rfl,hK,hC,A,d7,d3,d8,d1⟩;have bY:Below w.heap.size w w2:=aY.o.trans (hC.below aY.o.size aN.o);have hU:∀x,KU rb S F2 x->w.heap.size<=x:=fun x hx=>by
  have aG:=aY.o.size;rcases hx with h|h|h
  ·omega
  ·have:=A x h;omega
  ·rcases hC.fresh x h with e|e
   ·exact aN.o x e
   ·omega
 have HK:=z7 hK;have bH:=z7 bY;have HU:=z7 hU;have aW:=z7 (y0x kb rb bb tb w2 hK.k);clear hK bY hU hC A d7 d3 d8 d1 bM;have cA:=q3N;have b7:Below w2.heap.size w2 (w2.alloc (.cells #[.int .u8 0,.int .u8 0,.int .u8 0,.int .u8 0,.int .u8 0,.int .u8 0,.int .u8 0,.int .u8 0,.int .u8 0,.int .u8 0,.int .u8 0,.int .u8 0,.int .u8 0,.int .u8 0,.int .u8 0,.int .u8 0] 5)):=q5 _ _;have cE:RdB (w2.alloc (.cells #[.int .u8 0,.int .u8 0,.int .u8 0,.int .u8 0,.int .u8 0,.int .u8 0,.int .u8 0,.int .u8 0,.int .u8 0,.int .u8 0,.int .u8 0,.int .u8 0,.int .u8 0,.int .u8 0,.int .u8 0,.int .u8 0] 5)) (.slice (some ⟨w2.heap.size,0,none⟩) 16 16) knF.b:=z3z _ _ _ 16 1 (by decide) rfl;have bJ:=z7 (z7e knF (some ⟨w2.heap.size,0,none⟩) 16 _ q4x (by decide) cE q1K);obtain⟨dE,aT⟩:=zN (#[.int .u8 0,.int .u8 0,.int .u8 0,.int .u8 0,.int .u8 0,.int .u8 0,.int .u8 0,.int .u8 0,.int .u8 0,.int .u8 0,.int .u8 0,.int .u8 0,.int .u8 0,.int .u8 0,.int .u8 0,.int .u8 0]:Array Value);rw[<-aT]at bJ b7 cA;have U:=z7 b7;clear b7 cE aT;go_wp2_with (refine aW.o.mono ?_;rintro e w' ⟨rfl,a8⟩;cases a8.symm);refine bJ.o.mono ?_;rintro e w3 ⟨a3,m3,c3,rfl,⟨aF,J⟩,aE⟩;have L:=z1O J;have b0:=(HK.o.low U.o).low aE;have bF:RdB w3 (.slice a3 m3 c3) (z0E knF):=by have h9:=z0e J;unfold RdB;rw[<-aF];exact h9
 have R:=y3k q4x q1K;have c7:knL.length<=1000000:=by unfold knL;simp
 have b3:=y0A kb rb bb tb mb sb B 0 E S F2 ⟨2,4, []⟩ _ a3 m3 c3 (z0E knF) knF knL aF L.1 L.2 R.1 R.2 (by decide) q6d y8k c7 (by omega) q4a w3 b0 bF;rw[q5Y,q6l]at b3;have a6:=b3;obtain⟨bs,b9⟩:=zN (z6N (z5u (takeB ⟨2,4, []⟩ knF knL) 4 1 5));obtain⟨b1,O⟩:=zN (takeB ⟨2,4, []⟩ knF knL);obtain⟨s1,aG⟩:=zN ((wrS knS (z3y knF knL)).2);have c6:tkS b1 1 s1 knF knL=(0, [bs],b1,1,s1):=by
  rw[b9,O,aG];exact q5M
 rw[<-b9,<-O,<-aG]at a6;have bO:=z7 a6;have dC:=z7 b0;have cZ:=z7 bF;have cU:=z7 aF;have cX:=z7 J;have aU:Below w.heap.size w w3:=bH.o.trans ((U.o.trans (aE.mono U.o.size)).mono bH.o.size);have Y:=z7 aU;have dB:w2.heap.size<=w3.heap.size:=Nat.le_trans U.o.size aE.size;have a9:∀j,(Value.slice a3 m3 c3).ownBlock=some j->w2.heap.size<=j:=fun j hj=>by have h1:=(J.lt j hj).1;have h2:=U.o.size;omega
 have aD:=z7 a9;have aJ:=z7 O;have cT:=z7 c6;have aL:=z7 L;have aM:=z7 R;clear b3 a6 b0 bF aF J aU aE a9 cA b9 O aG c6 L R;go_wp2_with fail;refine bO.o.mono ?_;rintro e w4 ⟨U4,a1,b2,bX,⟨bE, -⟩|⟨-,a4,m4,c4,x4,rfl,c8,bU,b5,bT⟩⟩
 ·exact absurd rfl bE
 simp only at a1 b5;obtain⟨cI,dA,d9,B4,E4,S4,F4,a1,rfl⟩:=a1;have cG:RdB w4 (.slice a3 m3 c3) (z0E knF):=Rd.kept cZ.o fun j hj d2=>b2.block j d2 fun hu=>by have h1:=aD.o j hj;have h2:=HK.o.lt hu;omega
 have a7:(z0g b1 5).done.length<=1:=by rw[aJ.o];exact q3G
 have b4:=y0A kb cI bb dA d9 sb B4 1 E4 S4 F4 b1 s1 a3 m3 c3 (z0E knF) knF knL cU.o aL.o.1 aL.o.2 aM.o.1 aM.o.2 (by decide) q6d y8k c7 (by omega) (by show(z0g b1 5).done.length<_;omega) w4 a1 cG;rw[cT.o]at b4;have bR:=z7 b4;have aS:∀x,KU cI S4 F4 x->w.heap.size<=x:=fun x hx=>by
  rcases bX x hx with h|h
  ·exact HU.o x h
  ·have:=Y.o.size;omega
 have aV:Below w.heap.size w w4:=Y.o.trans (b2.below Y.o.size HU.o);have aH:=z7 aV;have bS:=z7 aS;have aB:=z7 bU;have cD:=z7 b5;have bL:=z7 bT;have cV:=z7 c8;have aZ:=z7 a7;clear a1 b2 bX c8 bU b5 bT cG b4 aS aV a7 bO;go_wp2_with fail;refine bR.o.mono ?_;rintro e w5 ⟨U5,a2,aC,d0,⟨bE, -⟩|⟨-,a5,m5,c5,x5,rfl,c9,bV,b6,cW⟩⟩
 ·exact absurd rfl bE
 simp only at a2 b6;obtain⟨bG,cJ,cH,B5,E5,S5,F5,a2,rfl⟩:=a2;have aR:z0I w3.heap.size w5 (.slice a4 m4 c4) x4:=⟨j7 aB.o.row fun j hj=>aC.block j (aB.o.row.lt j hj).2 fun hu=>bL.o j (.inl hj) hu,fun x hx=>j7 (aB.o.ent x hx) fun j hj=>aC.block j ((aB.o.ent x hx).lt j hj).2 fun hu=>bL.o j (.inr ⟨x,hx,hj⟩) hu⟩;obtain⟨g4,y4,cO,cM,rfl,rfl,bA,bZ,cB⟩:=y2M aR cD.o cV.o;obtain⟨g5,y5,cR,cN,rfl,rfl,bB,bD,cC⟩:=y2M bV b6 c9;have aX:Below w.heap.size w w5:=aH.o.trans (aC.below aH.o.size bS.o);have aI:=z7 aX;have aA:=z7 a2;have HC:=z7 (fun w' (hb:Below w5.heap.size w5 w')=>(⟨Nat.lt_of_lt_of_le bA hb.size,(hb.cell (p:=⟨g4,0,none⟩) bA).trans bZ,Nat.lt_of_lt_of_le bB hb.size,(hb.cell (p:=⟨g5,0,none⟩) bB).trans bD,cB.low hb,cC.low hb⟩:g4<w'.heap.size/\w'.cell? ⟨g4,0,none⟩=some (.slice y4 cO cM)/\g5<w'.heap.size/\w'.cell? ⟨g5,0,none⟩=some (.slice y5 cR cN)/\RdB w' (.slice y4 cO cM) bs/\RdB w' (.slice y5 cR cN) bs));have cF:(z2f (z0g b1 5)).length=1:=by rw[aJ.o];exact q4R
 have bN:=z7 (fun w' (hk:KIn w' kb bG bb cJ cH sb B5 E5 S5 F5 b1 1 s1)=>y0X bb cH B5 E5 b1 S5 5 (by omega) (by have:=aZ.o;omega) w' hk.bk hk.db);have cY:=z7 cF;clear a2 aC d0 c9 bV b6 cW aR bA bZ cB bB bD cC aX cF bR aO;go_wp2_with fail;refine q6 43 91 (fun D v w'=>KnS w5 1 D v w') ⟨(Below.refl _ _).drew,fun e=>by cases e⟩ ?_;simp only[z0v];iterate 29 (refine q8.rl (e:=?_) (fun D v w h=>h.read _ (by decide)) (fun D v w' N A=>?_) ?_;rotate_left;(obtain⟨l4,d4,l5,d5,r4,r5⟩:=HC.o w' A.low;have v1:=z6M bs _ _ r4;have v2:=z6M bs _ _ r5;clear r4 r5;clear A N;go_simp;try with_reducible rfl);go_simp)
 refine q8.ca (.pointer (some ⟨bb,0,none⟩)) (fun D v w' N A=>?_) ?_
 ·have HZ:=z7 A;have I:=z7 (y0x kb bG bb cJ w' (aA.o.low A.low).k);clear A N;go_simp;go_at_call 13;refine I.o.mono ?_;rintro e cL ⟨rfl,a8⟩;cases a8.symm;exact⟨rfl,HZ.o.read 29 (by decide)⟩
 go_simp;refine q8.re (fun D v w' N A=>?_) ?_
 ·have HZ:=z7 A;have I:=z7 (bN.o w' (aA.o.low A.low));clear A N;go_simp;go_at_call 14;refine I.o.mono ?_;rintro e cL ⟨a,n,c,rfl, -,hn,hb⟩;have d6:n=1:=by rw[hn,cY.o]
  subst d6;exact⟨HZ.o.low.trans (hb.mono HZ.o.low.size),fun _=>⟨a,c,z0p _ _ _⟩⟩
 go_simp;refine q8.rl (.int .i64 1) (fun D v w h=>h.read _ (by decide)) (fun D v w' N A=>?_) ?_
 ·obtain⟨a,c,hv⟩:=A.smp (N.pre 30 (by kernel_rfl));clear A N;go_simp
 go_simp;iterate 4 (refine q8.rl (e:=?_) (fun D v w h=>h.read _ (by decide)) (fun D v w' N A=>?_) ?_;rotate_left;(clear A N;go_simp;try with_reducible rfl);go_simp)
 iterate 3 (refine q8.rl (e:=?_) (fun D v w h=>h.read _ (by decide)) (fun D v w' N A=>?_) ?_;rotate_left;(have bC:=(aA.o.low A.low).k;obtain⟨k0,k1,k2,kf⟩:=bC.cells;have lk:=bC.lt;clear bC;clear A N;go_simp;try with_reducible rfl);go_simp)
 refine q8.ca (.int .u32 (1:Nat)) (fun D v w' N A=>?_) ?_
 ·have HZ:=z7 A;have I:=z7 (q0B bG bb 1 w' (aA.o.low A.low).r);clear A N;go_simp;go_at_call 16;refine I.o.mono ?_;rintro e cL ⟨rfl,a8⟩;cases a8.symm;exact⟨rfl,HZ.o.read 39 (by decide)⟩
 go_simp;iterate 3 (refine q8.rl (e:=?_) (fun D v w h=>h.read _ (by decide)) (fun D v w' N A=>?_) ?_;rotate_left;(clear A N;go_simp;try with_reducible rfl);go_simp)
 refine q8.fin (fun v w6 A=>?_);have cS:=z7 (aI.o.trans (A.low.mono aI.o.size));clear A;go_wp2;go_ret;exact⟨rfl,cS.o⟩
theorem q4c:(prog.underlying 30).map z7t=some true:=by kernel_rfl
theorem q2S:(prog.info? 30).map (·.size)=some 6:=by kernel_rfl
theorem y5W{id:Nat}(hid:id<64)(x:z1c):∀(A:List (Nat×List z1c)),(∀p∈A,p.1<64)->∀p∈z4A id x A,p.1<64
 | [],h,p,B=>by
  unfold z4A at B;rw[List.mem_singleton.1 B];exact hid
 | (i,l)::A,h,p,B=>by
  have I:=h _ List.mem_cons_self;unfold z4A at B;split at B
  ·rcases List.mem_cons.1 B with rfl|B
   ·exact I
   ·exact h p (List.mem_cons_of_mem _ B)
  ·rcases List.mem_cons.1 B with rfl|B
   ·exact I
   ·exact y5W hid x A (fun q J=>h q (List.mem_cons_of_mem _ J)) p B
theorem y8A:∀(L:List LOp) (r:z0j×List (Nat×List z1c)),(∀p∈r.2,p.1<64)->∀p∈(L.foldl z1i r).2,p.1<64
 | [],r,h=>h
 | o::L,r,h=>by
  rw[List.foldl_cons];refine y8A L (z1i r o) ?_;unfold z1i;split
  ·exact h
  ·exact y5W (by omega) _ r.2 h
def q4Y(W2 wr:World)(kb kbb sb:Nat)(disk:Nat)(ab:z0j):Prop:=
 Below W2.heap.size W2 wr/\∃kbk s U,y1A wr kb kbb sb kbk 0 s U/\(∀x,U x->W2.heap.size<=x)/\q4N ab kbk/\s.room=disk/\s.left=none/\s.has z1R=true
theorem y3o{w:World}{A J B:Nat}{E:List (Int×z0C)}{b:z0j}{S:Nat->Prop}(h:z0q w A J E b B S):b.all.Pairwise fun p q=>p.1≠q.1:=by
 have I:=(h.map.mok z5a).1.1;rw[h.all,List.pairwise_map];exact I
theorem y7N{w:World}{I:Nat}{s:FsS}{F:List Nat}(h:z1v w I s F):s.files.Pairwise fun p q=>p.1≠q.1:=by
 obtain⟨N,O,J,E,L,A, -⟩:=h;have B:=(A.map.mok z4o).1.1;rw[A.files,List.pairwise_map];exact B
theorem q4Y.low{L wr w':World}{R I Y A:Nat}{N:z0j}(h:q4Y L wr R I Y A N)(hb:Below wr.heap.size wr w'):q4Y L w' R I Y A N:=by
 obtain⟨O,J,s,U,⟨rb,tb,mb,B,E,S,F,hK,e⟩,h2⟩:=h;exact⟨O.trans (hb.mono O.size),J,s,U,⟨rb,tb,mb,B,E,S,F,hK.low hb,e⟩,h2⟩
theorem y3D(room:Int):z2F (z6U room) z1R=(0,⟨room, [(z1R, [])], [],none,false⟩, []):=by
 have I:z1h []=([],0):=by decide+kernel
 have B:z3v (z2m (z6U room) z1R) z1R=(0,⟨room, [(z1R, [])], [],none,false⟩):=rfl;unfold z2F;rw[if_neg (by decide),B];rw[if_neg (show ¬((0:Int)≠0) by decide)];have A:z6j (⟨room, [(z1R, [])], [],none,false⟩:FsS) z1R= []:=rfl;simp only;unfold z5v;rw[A,I];rfl
structure z3D (B N:Nat) (w:World) (g:Nat) (xs:List FrC) (k:Nat):Prop where
 blk:∃cur,w.heap[g]? =some (.cells cur 51 (0,0))/\∀(j:Nat) (x:FrC),k<=j->xs[j]? =some x->∀(t:Nat) (v:Value),x.cells[t]? =some v->cur[j*11+t]? =some v
 rng:B<=g/\g<N
 row:∀x∈xs,w.ownsRow B 5 1 (.slice x.a x.b.length x.c) x.b.length (z0b x.b)
 far:∀x∈xs,∀b,(Value.slice x.a x.b.length x.c).ownBlock=some b->b<N/\b≠g
theorem z3D.start{w:World}{B g n c:Nat}{N:List FrC}(h:z2S w B (some ⟨g,0,none⟩) n c N):z3D B w.heap.size w g N 0:=by
 have L:=h.row.lt g rfl;refine⟨?_,L,fun x J=>(h.each x J).row,fun x J b hb=>⟨((h.each x J).row.lt b hb).2,fun e=>?_⟩⟩
 ·rcases h.row.2 with⟨I,e2⟩|⟨g',cap,A,I,e2,O, -⟩
  ·simp at I
  ·rw[Value.slice.injEq]at I;have R:=Option.some.inj I.1;simp only[Addr.mk.injEq,and_true]at R;subst R;refine⟨A,O,fun j x _ hj t v Y=>?_⟩;have ht:t<11:=by
    have h9:=(List.getElem?_eq_some_iff.1 Y).1;have:=x.cells_len;omega
   have U:=z9l h.row (by rw[z6I FrC.cells 11 FrC.cells_len N j x hj t ht];exact Y);rw[cell_of_row w g (j*11+t) A _ (0,0) O]at U;exact U
 ·exact z7v (h.each x J).row h.row (by decide) hb (by rw[e];rfl)
theorem z3D.keep{B N:Nat}{w w':World}{g k:Nat}{L:List FrC}(h:z3D B N w g L k)(J:∀b,B<=b->b<N->w'.heap[b]? =w.heap[b]?):z3D B N w' g L k:=by
 obtain⟨A,O,R⟩:=h.blk;exact⟨⟨A,(J g h.rng.1 h.rng.2).trans O,R⟩,h.rng,fun x I=>j7 (h.row x I) fun b hb=>J b ((h.row x I).lt b hb).1 (h.far x I b hb).1,h.far⟩
theorem z3D.set{B N:Nat}{w:World}{g k:Nat}{R:List FrC}(h:z3D B N w g R k){x:FrC}(hx:R[k]? =some x)(u:Value):
  z3D B N (w.setCell ⟨g,k*11,none⟩ u) g R (k+1)/\(w.setCell ⟨g,k*11,none⟩ u).cell? ⟨g,k*11,none⟩=some u/\∀(t:Nat) (v:Value),0<t->x.cells[t]? =some v->(w.setCell ⟨g,k*11,none⟩ u).cell? ⟨g,k*11+t,none⟩=some v:=by
 obtain⟨J,h1,Y⟩:=h.blk;have L:=z0a h1 (k*11) u;have U:=Y k x (Nat.le_refl _) hx;have O:k*11<J.size:=by
  obtain⟨v,A⟩:∃v,x.cells[0]? =some v:=⟨_,List.getElem?_eq_getElem (by rw[x.cells_len];omega)⟩;have:=(Array.getElem?_eq_some_iff.1 (U 0 v A)).1;omega
 refine⟨⟨⟨_,L,fun j y hj I t v A=>?_⟩,h.rng,fun y I=>j7 (h.row y I) fun b hb=>q7 (h.far y I b hb).2,h.far⟩,?_,fun t v ht A=>?_⟩
 ·rw[Array.getElem?_setIfInBounds_ne (by omega)];exact Y j y (by omega) I t v A
 ·rw[cell_of_row _ g (k*11) _ _ (0,0) L,Array.getElem?_setIfInBounds_self_of_lt O]
 ·rw[cell_of_row _ g (k*11+t) _ _ (0,0) L,Array.getElem?_setIfInBounds_ne (by omega)];exact U t v A
theorem z3D.now{B N:Nat}{w:World}{g k:Nat}{I:List FrC}(h:z3D B N w g I k){x:FrC}(R:I[k]? =some x):g<w.heap.size/\(∀j,w.frozen? ⟨g,j,none⟩=false)/\∀(t:Nat) (v:Value),x.cells[t]? =some v->w.cell? ⟨g,k*11+t,none⟩=some v:=by
 obtain⟨J,A,L⟩:=h.blk;exact⟨(Array.getElem?_eq_some_iff.1 A).1,z0y A,fun t v O=>by rw[cell_of_row _ g (k*11+t) _ _ (0,0) A];exact L k x (Nat.le_refl _) R t v O⟩
theorem y8E:(prog.underlying 71).map z7t=some true:=by kernel_rfl
theorem y6a:(prog.info? 71).map (·.size)=some 2:=by kernel_rfl
theorem y2h{o:Oper}{w:World}{ρ:Operand->Value}(x y:Operand)(J:TypeId)(A:o.op= .binOp .neq 71 x y J)(p q:Int)(B:ρ x= .agg #[.int .i64 p,.int .u64 q])(I:ρ y= .agg #[.int .i64 p,.int .u64 q]):
  (execOp ρ o).run prog w= .ok (.value (.bool false)) w:=by
 unfold execOp;simp only[A,B,I];simp[go_sem]
theorem q0x(A:List z1c)(i:Nat)(s:z1c)(h:A[i]? =some s):∀(j:Nat) (v:Value),(#[.int .i64 s.t,.int .u64 (s.v:Nat)]:Array Value)[j]? =some v->(z0T A)[i*2+j]? =some v:=fun j v I=>by
 have B:j<2:=(Array.getElem?_eq_some_iff.1 I).1;unfold z0T;rw[z6I (fun s:z1c=> [.int .i64 s.t,.int .u64 (s.v:Nat)]) 2 (fun _=>rfl) A i s h j B];rw[<-I]
 match j,B with
 | 0,_=>rfl
 | 1,_=>rfl
theorem q3F(a b:Option Addr)(n c d B1 B2:Nat)(L:List z1c)(hn:n=L.length)(a2:n<=1000000000)(w:World)(h1:w.ownsRow B1 71 2 (.slice a n c) n (z0T L))(h2:w.ownsRow B2 71 2 (.slice b n d) n (z0T L)):
  Calls prog 12 #[.slice a n c,.slice b n d] w fun e w'=>e= .returned (.bool true)/\Below w.heap.size w w':=by
 have H1:=z7 h1;have H2:=z7 h2;have HN:=z7 hn;clear h1 h2 hn;have d0:((n:Int) !=(n:Int))=false:=by simp
 go_enter func12,ntmps12;go_wp2;go_loopw[5] (fun iv wr=>∃i:Nat,iv= .int .i64 i/\i<=n/\Hid (Below w.heap.size w wr)) (fun iv _=>match iv with | .int _ y=>n - y.toNat|_=>0)
 case atStart=>exact⟨0,rfl,Nat.zero_le _,z7 (Below.refl _ _)⟩
 case round=>
  obtain⟨i,rfl,hi,A⟩:=hrel;by_cases him:i<n
  ·have a3:IntKind.i64.wrap ((i:Int)+1)=((i+1:Nat):Int):=z0n (by omega) (by omega);have d1:decide ((i:Int)<(n:Int))=true:=decide_eq_true (by omega);have a1:(0:Int)<=i/\(i:Int)<n:=(by omega);obtain⟨⟨p,q⟩,Y⟩:∃s,L[i]? =some s:=⟨_,List.getElem?_eq_getElem (by have:=HN.o;omega)⟩;obtain⟨g,cap,J, -⟩:=z2z H1.o (fun e=>by simp only[Value.slice.injEq]at e;omega);simp only[Value.slice.injEq,true_and]at J;obtain⟨rfl, -⟩:=J;obtain⟨k,a0,N, -⟩:=z2z H2.o (fun e=>by simp only[Value.slice.injEq]at e;omega);simp only[Value.slice.injEq,true_and]at N;obtain⟨rfl, -⟩:=N;have R:=z7 (fun w' (hb:Below wr.heap.size wr w') (j:Nat) (v:Value) (J:(#[.int .i64 p,.int .u64 q]:Array Value)[j]? =some v)=>z9l (ownsRow_below H1.o (A.o.trans (hb.mono A.o.size)) (Nat.le_refl _)) (q0x L i ⟨p,q⟩ Y j v J));have U:=z7 (fun w' (hb:Below wr.heap.size wr w') (j:Nat) (v:Value) (J:(#[.int .i64 p,.int .u64 q]:Array Value)[j]? =some v)=>z9l (ownsRow_below H2.o (A.o.trans (hb.mono A.o.size)) (Nat.le_refl _)) (q0x L i ⟨p,q⟩ Y j v J));clear Y;go_wp2_with fail;refine q6 9 26 (fun D v w'=>Below wr.heap.size wr w') (Below.refl _ _).drew ?_;simp only[z0v];iterate 3 (refine q8.rd (e:=?_) (fun D v w' I B=>?_) ?_;rotate_left;(clear B I;go_simp;try with_reducible rfl);go_simp)
   refine q8.rl (.agg #[.int .i64 p,.int .u64 q]) (fun D v w h=>h) (fun D v w' I B=>z1o _ _ rfl g (i*2) rfl _ (R.o w' B) y8E y6a) ?_;go_simp;iterate 3 (refine q8.rd (e:=?_) (fun D v w' I B=>?_) ?_;rotate_left;(clear B I;go_simp;try with_reducible rfl);go_simp)
   refine q8.rl (.agg #[.int .i64 p,.int .u64 q]) (fun D v w h=>h) (fun D v w' I B=>z1o _ _ rfl k (i*2) rfl _ (U.o w' B) y8E y6a) ?_;go_simp;refine q8.rl (.bool false) (fun D v w h=>h) (fun D v w' I B=>y2h _ _ _ rfl p (q:Nat) rfl rfl) ?_;go_simp;refine q8.fin (fun v w5 B=>?_);have O:=z7 (A.o.trans (B.mono A.o.size));clear B;go_wp2;exact⟨⟨i+1,rfl,by omega,O⟩,by show n - ((i+1:Nat):Int).toNat<n - (i:Int).toNat;omega⟩
  ·have d1:decide ((i:Int)<(n:Int))=false:=decide_eq_false (by omega);go_wp2;go_ret;exact⟨rfl,A.o⟩
def y1q(W2 wr:World)(V:Nat->Prop)(kb kbb sb:Nat)(ab:z0j)(ids:List Nat)(i n:Nat):Prop:=
 Below W2.heap.size W2 wr/\∃kbk s U,y1A wr kb kbb sb kbk 0 s U/\(∀x,U x->V x)/\z6V ab kbk ids i n/\s.room=1048576/\s.left=none/\s.has z1R=true/\s.used<=480*(42*i+n)
theorem y1A.low{w w':World}{I A J:Nat}{b:z0j}{ep:Nat}{s:FsS}{U:Nat->Prop}(h:y1A w I A J b ep s U)(hb:Below w.heap.size w w'):y1A w' I A J b ep s U:=by
 obtain⟨O,R,N,B,E,S,F,L,e⟩:=h;exact⟨O,R,N,B,E,S,F,L.low hb,e⟩
theorem y1A.lt{w:World}{L A N:Nat}{b:z0j}{ep:Nat}{s:FsS}{U:Nat->Prop}(h:y1A w L A N b ep s U){x:Nat}(J:U x):x<w.heap.size:=by
 obtain⟨R,Y,O,B,E,S,F,I,rfl⟩:=h;exact I.lt J
theorem y1q.low{I wr w':World}{V:Nat->Prop}{N A O:Nat}{J:z0j}{ids:List Nat}{i n:Nat}(h:y1q I wr V N A O J ids i n)(hb:Below wr.heap.size wr w'):y1q I w' V N A O J ids i n:=by
 obtain⟨L,B,s,U,Y,R⟩:=h;exact⟨L.trans (hb.mono L.size),B,s,U,Y.low hb,R⟩
theorem y1q.inner{B wr J:World}{Y A sb:Nat}{L:z0j}{ids:List Nat}{i n:Nat}(h:y1q B wr (fun x=>B.heap.size<=x) Y A sb L ids i n)(hb:Below wr.heap.size wr J):y1q B J (fun x=>B.heap.size<=x/\(x<wr.heap.size\/J.heap.size<=x)) Y A sb L ids i n:=by
 obtain⟨N,I,s,U,O,hU,h2⟩:=h;exact⟨N.trans (hb.mono N.size),I,s,U,O.low hb,fun x R=>⟨hU x R,.inl (O.lt R)⟩,h2⟩
theorem KIn.other{w w':World}{L N bb O mb sb B:Nat}{E:List (Int×z0C)}{S:Nat->Prop}{F:List Nat}{b:z0j}{ep:Nat}{s:FsS}(h:KIn w L N bb O mb sb B E S F b ep s){g:Nat}{R:Array Value}(I:z0t (fun x=>x=g) w w')(hg:w.heap[g]? =some (.cells R 51 (0,0)))(hu:¬KU N S F g)(hd:g≠0):KIn w' L N bb O mb sb B E S F b ep s:=by
 have U:L≠g:=fun e=>by
  have A:=h.k;unfold z2B at A;rw[e,hg]at A;simp at A
 have Y:O≠g:=fun e=>by
  have A:=h.t;unfold z3H at A;rw[e,hg]at A;simp at A
 exact⟨(I.block L h.k.lt U).trans h.k,(I.block N h.r.lt (fun e=>hu (.inl e.symm))).trans h.r,h.bk.only I (fun k J e=>hu (.inr (.inl (e▸J)))),(I.block O h.t.lt Y).trans h.t,h.fs.same (fun k J=>I.block k (h.fs.lt k J) (fun e=>hu (.inr (.inr (e▸J))))) I.size,h.ok,h.db.only I (fun e=>hd e.symm),h.kr,h.tr,h.kF,h.rF,h.tF,h.kS,h.rS,h.tS,h.sF,h.dr,h.dS,h.dF⟩
def y9U(W2 wr:World)(kb kbb sb:Nat)(kF:z0j):Prop:=
 Below W2.heap.size W2 wr/\∃ep s U,y1A wr kb kbb sb kF ep s U/\(∀x,U x->W2.heap.size<=x)/\ep<4294967296/\s.left=none/\s.has z1R=true
theorem y9U.low{B wr w':World}{L A N:Nat}{J:z0j}(h:y9U B wr L A N J)(hb:Below wr.heap.size wr w'):y9U B w' L A N J:=by
 obtain⟨I,ep,s,U,R,O⟩:=h;exact⟨I.trans (hb.mono I.size),ep,s,U,R.low hb,O⟩
structure SmS (W:World) (m n:Nat) (L:List z1c) (D:Nat->Bool) (v:Nat->Value) (w':World):Prop where
 low:Below W.heap.size W w'
 smp:D m=true->∃a c,v m= .slice a n c/\w'.ownsRow W.heap.size 71 2 (.slice a n c) n (z0T L)
theorem SmS.read{W w':World}{m n:Nat}{L:List z1c}{D:Nat->Bool}{v:Nat->Value}(h:SmS W m n L D v w')(k:Nat)(A:k≠m):SmS W m n L (mark D k) v w':=⟨h.low,by rw[q9 A];exact h.smp⟩
theorem SmS.after{W w' A:World}{m n:Nat}{L:List z1c}{D:Nat->Bool}{v:Nat->Value}(h:SmS W m n L D v w')(k:Nat)(B:k≠m)(hb:Below w'.heap.size w' A):SmS W m n L (mark D k) v A:=
 ⟨h.low.trans (hb.mono h.low.size),by
  rw[q9 B];intro I;obtain⟨a,c,e,J⟩:=h.smp I;exact⟨a,c,e,ownsRow_below J hb (Nat.le_refl _)⟩⟩
end
section
open Go.RowKit Go.ChangeShapes Go.WideShapes Go.ChangeAt Go.Deep
theorem y8T{H:Type}{enc:TypeId×Value->H}{W:World}{fuel:Nat}{cs:List Value}{x:DataW H×List MemPlace}(h:DataW.trod enc prog W 0 (fun _=>true) true fuel 22 cs=some x):
  ∃(a:Option Addr) (n c:Nat) (L:List LOp),cs= [.slice a n c]/\y1I W a n L/\(∀o∈L,o.Ok)/\n<=maxLen:=by
 rcases open_slice underlying22 h with⟨rfl,_⟩|⟨a,len,cap,m,n,D,Pl,rfl,_,hl,hm,a4,_,hi⟩
 ·exact⟨none,0,0, [],rfl,⟨rfl,fun k o hk=>by simp at hk⟩,(fun o ho=>by cases ho),by decide⟩
 simp only[if_true]at a4;have hC:prog.cellsOf 73=17:=by kernel_rfl
 have kU:prog.cellsOf 5=1:=by kernel_rfl
 have kS:prog.cellsOf 40=1:=by kernel_rfl
 have kX:prog.cellsOf 71=2:=by kernel_rfl
 have kF:prog.cellsOf 51=11:=by kernel_rfl
 have kI:prog.cellsOf 3=1:=by kernel_rfl
 have U:prog.cellsOf 2=1:=by kernel_rfl
 have a7:prog.cellsOf 46=1:=by kernel_rfl
 have key:∀i,i<len->∃o:LOp,o.Ok/\(∃u,W.cell? (a.add (i*17))=some u)/\W.cell? (a.add (i*17+1))=some (.int .u32 o.s)/\W.cell? (a.add (i*17+2))=some (.int .i64 o.t)/\W.cell? (a.add (i*17+3))=some (.int .u64 (o.v:Nat)):=by
  intro i aA;obtain⟨a0,hc,ht⟩:=hi i (by omega);rw[hC]at hc;obtain⟨_,a2,A⟩:=World.cells?_some hc;obtain⟨ys,n',_,_,_,a5,hf⟩:=DataW.trod_struct underlying73 ht
  match a0,a2 with
  | [x0,x1,x2,x3,x4,x5,x6,x7,x8,x9,x10,x11,x12,x13,x14,x15,x16],_=>
   match ys,a5 with
   | [y0,y1,y2,y3,y4,y5],_=>
    obtain⟨N,e1,_,w1⟩:=DataW.trod_int underlying40 (by simpa[kU,kS]using hf 1 _ rfl:DataW.trod enc prog W 0 (fun _=>true) true n' 40 [x1]=some y1);obtain⟨zs,n5,_,_,_,a6,hg⟩:=DataW.trod_struct underlying71 (by simpa[kU,kS,kX]using hf 2 _ rfl:DataW.trod enc prog W 0 (fun _=>true) true n' 71 [x2,x3]=some y2)
    match zs,a6 with
    | [z0,z1],_=>
     obtain⟨n2,e2,_,w2⟩:=DataW.trod_int underlying2 (by simpa[U]using hg 0 _ rfl:DataW.trod enc prog W 0 (fun _=>true) true n5 2 [x2]=some z0);obtain⟨O,e3,_,w3⟩:=DataW.trod_int underlying46 (by simpa[U,a7]using hg 1 _ rfl:DataW.trod enc prog W 0 (fun _=>true) true n5 46 [x3]=some z1);simp only[List.cons.injEq,and_true]at e1 e2 e3;have a8:=wf_u32 w1;have a9:=wf_u64 w3;have B:=wf_i64 w2;have c0:=A 0 (by omega);rw[Go.Deep.add_add,Nat.add_zero]at c0;have c1:=A 1 (by omega);have c2:=A 2 (by omega);have c3:=A 3 (by omega);rw[Go.Deep.add_add]at c1 c2 c3;refine⟨⟨N.toNat,n2,O.toNat⟩,⟨by show N.toNat<_;omega,B.1,B.2,by show O.toNat<_;omega⟩,⟨x0,c0⟩,?_,?_,?_⟩
     ·rw[c1,e1];show some (Value.int .u32 N)=some (.int .u32 ((N.toNat:Nat):Int));rw[show((N.toNat:Nat):Int)=N by omega]
     ·rw[c2,e2];rfl
     ·rw[c3,e3];show some (Value.int .u64 O)=some (.int .u64 ((O.toNat:Nat):Int));rw[show((O.toNat:Nat):Int)=O by omega]
 obtain⟨L,a1,hL⟩:=z5M len key;subst a1;refine⟨some a,L.length,cap,L,rfl,⟨rfl,fun k o hk=>?_⟩,fun o ho=>?_,by omega⟩
 ·obtain⟨a3,rfl⟩:=List.getElem?_eq_some_iff.1 hk;obtain⟨-, -,g1,g2,g3⟩:=hL k a3;obtain⟨-,⟨u,g0⟩, -⟩:=hL 0 (by omega);obtain⟨b,J,Y⟩:=a;have I:Y=none:=by
   have h9:=World.cell?_spot g0;unfold Addr.add at h9;simpa using h9
  subst I;have R:∀j,(⟨b,J,none⟩:Addr).add j=⟨b,J+j,none⟩:=fun j=>by unfold Addr.add;split<;>simp_all
  rw[R]at g1 g2 g3;refine⟨b,J,rfl,World.block_lt_of_cell? _ _ g1,?_,?_,?_⟩
  ·rw[Nat.add_assoc];exact g1
  ·rw[Nat.add_assoc];exact g2
  ·rw[Nat.add_assoc];exact g3
 ·obtain⟨i,hi,rfl⟩:=List.getElem_of_mem ho;exact(hL i hi).1
theorem y7n{W:World}(h:laidMetH prog Rows.keepRefusesRow.laid W):z1u W:=by
 rw[MakeChecks.laidMetH_plain _ _ _ (by kernel_rfl)]at h;have e:(Rows.laid_math_bits_deBruijn64tab:DataW Unit)=Lib.tabData .u8 (Lib.deBruijn64tab.map fun n=>((n:Nat):Int)):=by kernel_rfl
 have A:laidMet prog ((("math/bits.deBruijn64tab",Rows.laid_math_bits_deBruijn64tab):String×DataW Unit):: [("unicode/utf8.acceptRanges",Rows.laid_unicode_utf8_acceptRanges),("unicode/utf8.first",Rows.laid_unicode_utf8_first)]) W:=h;rw[e]at A;have B:prog.globalNamed "math/bits.deBruijn64tab" =some 0:=by kernel_rfl
 have L:=Lib.tabIs_of_head (t:=327) (e:=5) (n:=64) B (by kernel_rfl) underlying327 underlying5 (by kernel_rfl) (by kernel_rfl) A;intro j I;have J:=L.cell B j (by rw[List.length_map];exact I);rw[J];rw[List.getD_eq_getElem?_getD,List.getD_eq_getElem?_getD,List.getElem?_map,List.getElem?_eq_getElem I];rfl
def q5j(W:World)(v:Value)(L:List LOp):Prop:=∃a n c,v= .slice a n c/\y1I W a n L/\(∀o∈L,o.Ok)/\n<=maxLen
theorem y6t{H:Type}{enc:TypeId×Value->H}{W:World}{fuel:Nat}{cs:List Value}{x:DataW H×List MemPlace}(h:DataW.trod enc prog W 0 (fun _=>true) true fuel 22 cs=some x):
  ∃(v:Value) (L:List LOp),cs= [v]/\q5j W v L:=by
 obtain⟨a,n,c,L,e,A,B,I⟩:=y8T h;exact⟨_,L,e,a,n,c,rfl,A,B,I⟩
end

/-
  The walk of a file system's Read.
-/
import Derived.Test.YtpocjegemokjgaaGreatDoorZFsAFsBFsDFsE
import Derived.Lib.AppendZeros
import Derived.Deep.DeepCutAuto
import Derived.Deep.CutBlock
import Derived.Deep.OwnRows
namespace Go.Proofs.YtpocjegemokjgaaGreatDoor
open Go.Proofs.Tryz
set_option linter.all false
set_option maxRecDepth 100000
set_option maxHeartbeats 12800000
open Go.RowKit Go.Maps
theorem y5x(k:Bs)(L:List (Bs×Bs))(p:Bs×Bs):pieces k (L++ [p])=pieces k L++(if p.1=k then p.2 else []):=by
 unfold pieces;rw[List.filter_append,List.flatMap_append]
 congr 1
 by_cases e:p.1=k<;>simp[e]
theorem y1Z(k:Bs)(L R:List (Bs×Bs)):pieces k (L++R)=pieces k L++pieces k R:=by simp[pieces]
theorem q3c{L:List (Bs×Ent)}{i:Nat}(h:i<L.length):(L.take (i+1)).map ct=(L.take i).map ct++ [ct L[i]]:=by
 rw[List.take_add_one,List.getElem?_eq_getElem h,List.map_append];rfl
def z2i(s:FsS)(k:Bs)(w:World)(e:Ending)(w':World):Prop:=
 if s.has k then ∃a n c,e= .returned (.tuple #[.slice a n c,.int .u16 0])/\z5V w w' a n c (s.get k)
 else e= .returned (.tuple #[.slice none 0 0,.int .u16 80])/\w=w'
theorem z4M(sb:Nat)(s:FsS)(F:List Nat)(k:Bs)(hk:k.length<=maxLen)(w:World)(h:z1v w sb s F)(ok:s.Ok):
  Calls prog 45 #[.pointer (some ⟨sb,0,none⟩),.string ⟨k.toArray⟩] w (z2i s k w):=by
 have H:=z7 h;have OK:=z7 ok;clear h ok;cases hh:s.has k with
 | false=>
  have e:∀e' w',(e'= .returned (.tuple #[.slice none 0 0,.int .u16 80])/\w=w')->z2i s k w e' w':=fun e' w' h=>by unfold z2i;rw[hh,if_neg (by simp)];exact h
  have HE:=z7 e;clear e;go_enter func45,ntmps45;go_wp2_with (refine(z2x sb s _ k hk _ H.o).mono ?_;rintro e w' ⟨rfl,rfl⟩;rw[hh]);go_ret2;exact HE.o _ _ ⟨rfl,rfl⟩
 | true=>
  have e:∀e' w',(∃a n c,e'= .returned (.tuple #[.slice a n c,.int .u16 0])/\z5V w w' a n c (s.get k))->z2i s k w e' w':=fun e' w' h=>by unfold z2i;rw[hh,if_pos rfl];exact h
  have HE:=z7 e;have H':=H.o;obtain⟨mb,wv,lp,E,L,h,rfl⟩:=H';obtain⟨c0,c1,c2,c3,c4,fz⟩:=z2H h.blk;have aV:=(Array.getElem?_eq_some_iff.1 h.blk).1;obtain⟨wa,wc,rfl⟩:=(z0e h.row).head;have hm:=z7 h.map;have aI:=z7 c2;have aT:Hid (L.length<=1048576):=z7 (by have:=OK.o.waits_le;rw[h.waits,List.length_map]at this;exact this);obtain⟨I,Y⟩:∃I,z0P k E=some I:=by
   have N:s.has k=(z0P k E).isSome:=(by unfold FsS.has;rw[y1O h,Option.isSome_map]);rw[hh]at N;exact Option.isSome_iff_exists.1 N.symm
  have a3:Hid (s.get k=I.b++pieces k (L.map ct)):=z7 (by unfold FsS.get;rw[y1O h,Y,h.waits];rfl);have a5:z4P w _ I:=h.ent (k,I) (List.mem_append_left _ (z1z Y));have R:=z7 a5;have aC:Hid ((I.b++pieces k (L.map ct)).length<=1048576):=z7 (by
   rw[<-a3.o];have N:=z6y s k;have h2:=OK.o.used_le;omega)
  have aR:Hid (I.n<=1048576):=z7 (by have:=aC.o;rw[List.length_append]at this;have:=a5.n;omega);have HG:=z7 Y;have H2:=z7 h;clear h c0 c2 c3 c4 fz e Y a5;obtain⟨eb,ea,I,ec⟩:=I;dsimp only[Ent.v]at*;go_enter func45,ntmps45;go_wp2_with (first|(refine(z2x sb s _ k hk _ H.o).mono ?_;rintro e w' ⟨rfl,rfl⟩;rw[hh])|(at_lookup;refine z6O z4o rfl _ _ 74 rfl 47 underlying74 (z8C _) rfl rfl hm.o k rfl hk (some ⟨eb,ea,I,ec⟩) HG.o (.slice ea I ec) rfl ?_));refine(y4s ea I ec eb w R.o.rd R.o.n (by have:=aR.o;omega)).mono ?_;rintro e w1 ⟨a1,c1,rfl,hf⟩;have HF:=z7 hf;have a4:=z7 hf.2.2;have aH:=hf.2.2.size;have aN:w1.cell? ⟨sb,2,none⟩=some (.slice wa L.length wc):=(hf.2.2.cell (p:=⟨sb,2,none⟩) aV).trans aI.o;clear hf;go_wp2;go_loopw[6,8,25] (fun ov pv iv wr=>∃(O:Bs) (i nO cO:Nat) (aO:Option Addr),ov= .slice aO nO cO/\iv= .int .i64 i/\i<=L.length/\Hid (nO=O.length)/\Hid (O=eb++pieces k ((L.take i).map ct))/\Hid (z5e w w.heap.size (.slice aO nO cO) O wr)) (fun _ _ iv _=>match iv with | .int _ j=>L.length - j.toNat|_=>0)
  case atStart=>
   refine⟨eb,0,I,c1,a1,rfl,rfl,Nat.zero_le _,z7 R.o.n,z7 (by simp[pieces]),z7 ⟨?_,a4.o,aH⟩⟩;have N:=HF.o.1;have h2:I=eb.length:=R.o.n;rw[h2]at N ⊢;exact N
  case round=>
   obtain⟨O,i,nO,cO,aO,rfl,rfl,hi,a9,U,hO⟩:=hrel;clear aN a4 HF aH;have a7:=hO.o.2.1;by_cases hil:i<L.length
   ·have i0:(i:Int)<L.length:=(by omega);obtain⟨g,pk,pb,pa,pn,pc,rfl,aA,aX,a2,hg,aY⟩:=(H2.o.low a7).at hil;have aF:z4P w (z1t sb mb (.slice (some ⟨g,0,none⟩) L.length wc) lp) (⟨pb,pa,pn,pc⟩:Ent):=by
     have:=H2.o.ent L[i] (List.mem_append_right _ (List.getElem_mem hil));rw[aA]at this;exact this
    have A:Hid (pieces k ((L.take (i+1)).map ct)=pieces k ((L.take i).map ct)++(if pk=k then pb else [])):=z7 (by
     rw[q3c hil,y5x,aA];rfl)
    have aE:Hid ((eb++pieces k ((L.take (i+1)).map ct)).length<=1048576):=z7 (by
     have N:=aC.o;have h2:pieces k (L.map ct)=pieces k ((L.take (i+1)).map ct)++pieces k ((L.drop (i+1)).map ct):=by
      rw[<-y1Z,<-List.map_append,List.take_append_drop]
     rw[h2]at N;simp only[List.length_append]at N ⊢;omega)
    have aD:IntKind.i64.wrap ((i:Int)+1)=(i:Int)+1:=wrap64 (by omega) (by have:=aT.o;omega);have aL:=z7 aF;clear aA aF;by_cases hpk:pk=k
    ·subst hpk;have J:Hid (eb++pieces pk ((L.take (i+1)).map ct)=O++pb):=z7 (by rw[A.o,if_pos rfl,U.o,List.append_assoc]);have aS:Hid (O.length+pb.length<=1048576):=z7 (by have:=aE.o;rw[J.o,List.length_append]at this;exact this);have aU:=z7 ((aL.o.rd.low a7).low (q5 wr (.cells #[.string ⟨pk.toArray⟩,.slice pa pn pc] 113)));have a6:=z7 (hO.o.to (q5 wr (.cells #[.string ⟨pk.toArray⟩,.slice pa pn pc] 113)));have aG:Hid (RdB (wr.alloc (.cells #[.string ⟨pk.toArray⟩,.slice pa pn pc] 113)) (.slice pa pn pc) pb):=aU;clear A;go_wp2_with (at_builtin;refine wpList_copy_own rfl _ _ 47 rfl w w.heap.size 5 underlying47 (by kernel_rfl) _ O rfl (by exact a6.o) _ pb rfl (by exact aG.o) (by have:=aS.o;omega) ?_;intro a1 aM w1 B aB;obtain⟨n1,a8⟩:=zN ((O++pb).length);rw[<-a8]at B ⊢;have N1:=z7 a8;have aJ:=z7 B;have a4:=z7 aB;skip;clear a8 B aB);refine⟨⟨O++pb,i+1,n1,aM,a1,rfl,rfl,hil,N1,z7 J.o.symm,aJ⟩,?_⟩;show L.length - ((i:Int)+1).toNat<L.length - ((i:Nat):Int).toNat;omega
    ·have J:Hid (eb++pieces k ((L.take (i+1)).map ct)=O):=z7 (by rw[A.o,if_neg hpk,List.append_nil,U.o]);have a6:=z7 (hO.o.to (q5 wr (.cells #[.string ⟨pk.toArray⟩,.slice pa pn pc] 113)));have aZ:(pk==k)=false:=(by simpa using hpk);clear A;go_wp2;refine⟨⟨O,i+1,nO,cO,aO,rfl,rfl,hil,a9,z7 J.o.symm,a6⟩,?_⟩;show L.length - ((i:Int)+1).toNat<L.length - ((i:Nat):Int).toNat;omega
   ·obtain rfl:i=L.length:=by omega
    have a0:Hid (O=s.get k):=z7 (by rw[U.o,a3.o,List.take_length]);clear U;go_wp2;go_ret2;refine HE.o _ _ ⟨aO,nO,cO,rfl,?_,?_,a7⟩
    ·have N:=hO.o.1;rw[<-a9.o,a0.o]at N;exact N
    ·rw[<-a0.o];exact a9.o
theorem y0Y(A k:Bs)(x:Value)(L:x.oneCell'=true)(a:Option Addr)(n c:Nat)(R:x= .slice a n c)(B:Nat)(w:World)(N:w.cell? ⟨B,0,none⟩=some (.string ⟨k.toArray⟩))(J:B<w.heap.size):
  Calls prog 131 #[.agg #[.string ⟨A.toArray⟩,x],.pointer (some ⟨B,0,none⟩)] w fun e w'=>e= .returned (.bool (decide (A=k)))/\Below w.heap.size w w':=by
 subst R;have O:(w.alloc (.cells #[.string ⟨A.toArray⟩,.slice a n c] 113)).cell? ⟨B,0,none⟩=some (.string ⟨k.toArray⟩):=((q5 w _).cell (p:=⟨B,0,none⟩) J).trans N;clear N L;by_cases e:A=k
 ·have I:decide (A=k)=true:=decide_eq_true e;rw[I];subst e;go_enter func131,ntmps131;go_wp2;go_ret;exact⟨rfl,q5 w _⟩
 ·have I:decide (A=k)=false:=decide_eq_false e;have U:(A==k)=false:=by simpa using e
  rw[I];clear I;go_enter func131,ntmps131;go_wp2;go_ret;exact⟨rfl,q5 w _⟩
theorem y6P{w:World}{g n c:Nat}{L:List (Bs×Ent)}(h:w.ownsRow 0 113 2 (.slice (some ⟨g,0,none⟩) n c) n (z1E L))(hn:n=L.length){i:Nat}(I:i<n):
  ∃O pb J R N,L[i]? =some (O,⟨pb,J,R,N⟩)/\w.cell? ⟨g,i*2,none⟩=some (.string ⟨O.toArray⟩)/\w.cell? ⟨g,i*2+1,none⟩=some (.slice J R N)/\g<w.heap.size/\∀j,w.frozen? ⟨g,j,none⟩=false:=by
 subst hn;obtain⟨U,Y⟩:=y3g I;have A:=h.cellAt (i*2) (by omega);have B:=h.cellAt (i*2+1) (by omega);rw[Nat.mul_comm,U]at A;rw[Nat.mul_comm,Y]at B;refine⟨L[i].1,L[i].2.b,L[i].2.a,L[i].2.n,L[i].2.c,List.getElem?_eq_getElem I,by rw[Nat.mul_comm];exact A,by rw[Nat.mul_comm];exact B,(h.lt g rfl).2,fun j=>h.frozenAt j⟩
theorem y3P(a:Option Addr)(n c:Nat)(k:Bs)(N:Nat)(L:List (Bs×Ent))(w:World)(h:w.ownsRow 0 113 2 (.slice a n c) n (z1E L))(hn:n=L.length)(hl:n<=1048576)
  (hc:w.cell? ⟨N,0,none⟩=some (.string ⟨k.toArray⟩)) (a6:N<w.heap.size):
  Calls prog 161 #[.slice a n c,.func (.func 131) #[] #[.pointer (some ⟨N,0,none⟩)]] w fun e w'=>(∃r:Int,e= .returned (.int .i64 r)/\((r= -1/\∀p∈L,p.1≠k)\/∃i:Nat,r=i/\i<n/\(∀p∈L.take i,p.1≠k)/\∃p,L[i]? =some p/\p.1=k))/\Below w.heap.size w w':=by
 have H:=z7 h;have HN:=z7 hn;have HC:=z7 hc;clear h hn hc;go_enter func161,ntmps161;go_wp2;go_loopw[5,8] (fun jv iv wr=>∃i:Nat,iv= .int .i64 i/\i<=n/\Hid (∀p∈L.take i,p.1≠k)/\Hid (Below w.heap.size w wr)) (fun _ iv _=>match iv with | .int _ j=>n - j.toNat|_=>0)
 case atStart=>exact⟨0,rfl,Nat.zero_le _,z7 (by intro p J;cases J),z7 (Below.refl _ _)⟩
 case round=>
  obtain⟨i,rfl,hi,I,hb⟩:=hrel;by_cases hin:i<n
  ·have i0:(i:Int)<n:=(by omega);have A:wr.ownsRow 0 113 2 (.slice a n c) n (z1E L):=ownsRow_below H.o hb.o (Nat.le_refl _);obtain⟨g,rfl⟩:∃g,a=some ⟨g,0,none⟩:=by
    rcases A.2 with⟨B,h2⟩|⟨g,cap,a7,B,_⟩
    ·omega
    ·simp only[Value.slice.injEq]at B;exact⟨g,B.1⟩
   obtain⟨pk,pb,pa,pn,pc,J,a1,a2,hg,a5⟩:=y6P A HN.o hin;have a4:Hid (wr.cell? ⟨N,0,none⟩=some (.string ⟨k.toArray⟩)):=z7 ((hb.o.cell (p:=⟨N,0,none⟩) a6).trans HC.o);have HP:=z7 J;clear A J;go_wp2_with fail;refine(y0Y pk k _ rfl pa pn pc rfl N wr a4.o (by have:=hb.o.size;omega)).mono ?_;rintro e w1 ⟨rfl,Y⟩;have O:=z7 (hb.o.trans (Y.mono hb.o.size));have a8:IntKind.i64.wrap ((i:Int)+1)=(i:Int)+1:=wrap64 (by omega) (by omega);clear Y a1 a2 a5;by_cases e:pk=k
   ·have R:decide (pk=k)=true:=decide_eq_true e;rw[R];have a0:Hid (∃p,L[i]? =some p/\p.1=k):=z7 ⟨_,HP.o,e⟩;clear R e;go_wp2;go_ret;exact⟨⟨i,rfl,.inr ⟨i,rfl,hin,I.o,a0.o⟩⟩,O.o⟩
   ·have R:decide (pk=k)=false:=decide_eq_false e;rw[R];have a3:Hid (∀p∈L.take (i+1),p.1≠k):=z7 fun p J=>by
     rw[List.take_add_one,HP.o]at J;rcases List.mem_append.1 J with B|B
     ·exact I.o p B
     ·simp only[Option.toList_some,List.mem_singleton]at B;subst B;exact e
    clear R e;go_wp2;refine⟨⟨i+1,rfl,hin,a3,O⟩,?_⟩;show n - ((i:Int)+1).toNat<n - ((i:Nat):Int).toNat;omega
  ·obtain rfl:i=n:=by omega
   have U:Hid (∀p∈L,p.1≠k):=z7 (by have:=I.o;rw[HN.o,List.take_length]at this;exact this);go_wp2;go_ret;exact⟨⟨-1,rfl,.inl ⟨rfl,U.o⟩⟩,hb.o⟩
theorem y9H(w:World):(zeroValue 113).run prog w= .ok (.agg #[.string ⟨#[]⟩,.slice none 0 0]) w:=by kernel_rfl
theorem y1Y{P:Program}(w:World)(t e ty:TypeId)(z:Value)(ht:P.underlying t=some (.slice e))(hv:∀w,(zeroValue e).run P w= .ok z w)(R:∀u∈z.cells.toList,u.oneCell'=true)(hz:0<z.cells.size)(b o m c:Nat)(A:Array Value)(J:w.heap[b]? =some (.cells A e (0,0)))
  (hm:0<m) (a0:o+m*z.cells.size<=A.size):
  (Builtin.clear_ #[t] ty #[.slice (some ⟨b,o,none⟩) m c]).run P w= .ok (.tuple #[]) (w.setCells b o (Builtin.zeroCells z.cells m).toList):=by
 have Y:(Builtin.zeroCells z.cells m).toList.length=m*z.cells.size:=by simp[Builtin.zeroCells]
 have B:∀u∈(Builtin.zeroCells z.cells m).toList,u.oneCell'=true:=by
  intro u N;simp only[Builtin.zeroCells,Array.toList_map,List.mem_map]at N;obtain⟨i,_,rfl⟩:=N;have U:i%z.cells.size<z.cells.size:=Nat.mod_lt _ hz;rw[getElem!_pos z.cells _ U];exact R _ (by simp)
 have I:=run_storeCells_cells (P:=P) b o (Builtin.zeroCells z.cells m).toList 0 w (fun j L=>by simp[World.cell?,J];rw[Y]at L;omega) (fun j L=>by simp[World.frozen?,J]) B;simp only[Nat.add_zero]at I;obtain⟨O,rfl⟩:∃O,m=O+1:=⟨m - 1,by omega⟩;simp[Builtin.clear_,run_underlying ht,hv,I]
theorem y1X{w:World}{base e size g n c:Nat}{xs:List Value}(h:w.ownsRow base e size (.slice (some ⟨g,0,none⟩) n c) n xs)(i:Nat)(hi:i<=n)(O:List Value)(hv:i*size+O.length<=n*size):
  (w.setCells g (i*size) O).ownsRow base e size (.slice (some ⟨g,0,none⟩) i c) i (xs.take (i*size)):=by
 rcases h.2 with⟨N,_⟩|⟨g',a1,A,N,hb,hg,a0,U,B,I⟩
 ·simp at N
 ·simp only[Value.slice.injEq,Option.some.injEq,Addr.mk.injEq,and_true,true_and]at N;obtain⟨rfl,rfl⟩:=N;have J:i*size<=n*size:=Nat.mul_le_mul_right _ hi;have a2:n*size<=c*size:=Nat.mul_le_mul_right _ a0;have L:=z0Q O (i*size) w A hg (by rw[B];omega);refine⟨by rw[List.length_take,h.1];omega,.inr ⟨g,c,_,rfl,hb,L,by omega,U,by rw[List.size_toArray,y5w _ _ _ (by simp[B];omega)];simpa using B,?_⟩⟩;have R:i*size<=A.toList.length:=by rw[Array.length_toList,B];omega
  have Y:(A.toList.take (i*size)).length=i*size:=List.length_take_of_le R;rw[<-I];show List.take (i*size) (laid A.toList (i*size) O)=_;unfold laid;rw[List.append_assoc,List.take_append_of_le_length (by rw[Y];exact Nat.le_refl _),List.take_take,List.take_take,Nat.min_self,Nat.min_eq_left J]
theorem q0a(L:List (Bs×Ent))(i:Nat)(A:i<L.length)(p:Bs×Ent):z1E (L.set i p)=((z1E L).set (i*2) (.string ⟨p.1.toArray⟩)).set (i*2+1) p.2.v:=by
 induction L generalizing i with
 | nil=>simp at A
 | cons q L ih=>
  have e:∀(r:Bs×Ent) (M:List (Bs×Ent)),z1E (r::M)= .string ⟨r.1.toArray⟩::r.2.v::z1E M:=fun r M=>by simp[z1E]
  cases i with
  | zero=>simp[e]
  | succ i=>
   rw[List.set_cons_succ,e,e,ih i (by simpa using A),show(i+1)*2=i*2+1+1 by omega];simp
theorem y7m(L:List (Bs×Ent))(i:Nat):(z1E L).take (i*2)=z1E (L.take i):=by
 induction L generalizing i with
 | nil=>simp[z1E]
 | cons q L ih=>
  have e:∀(r:Bs×Ent) (M:List (Bs×Ent)),z1E (r::M)= .string ⟨r.1.toArray⟩::r.2.v::z1E M:=fun r M=>by simp[z1E]
  cases i with
  | zero=>simp[z1E]
  | succ i=>rw[e,show(i+1)*2=i*2+1+1 by omega,List.take_succ_cons,List.take_succ_cons,ih,List.take_succ_cons,e]
def z5D(k:Bs)(L:List (Bs×Ent)):List (Bs×Ent):=L.filter fun p=>decide (p.1≠k)
theorem y2z{k:Bs}{L:List (Bs×Ent)}(h:∀p∈L,p.1≠k):z5D k L=L:=List.filter_eq_self.2 fun p A=>by simpa using h p A
theorem z8i(k:Bs)(L:List (Bs×Ent))(p:Bs×Ent):z5D k (L++ [p])=z5D k L++(if p.1=k then []else [p]):=by
 unfold z5D;rw[List.filter_append]
 congr 1
 by_cases e:p.1=k<;>simp[e]
def q5C(k:Bs)(L:List (Bs×Ent))(g n c:Nat)(nb:Nat)(w:World)(iv jv:Value)(wr:World):Prop:=
 ∃(i j:Nat) (A:List (Bs×Ent)),iv= .int .i64 i/\jv= .int .i64 j/\i<j/\j<=n/\Hid (wr.ownsRow 0 113 2 (.slice (some ⟨g,0,none⟩) n c) n (z1E A))/\Hid (A.length=n)/\Hid (A.drop j=L.drop j)/\Hid (A.take i=z5D k (L.take j))/\
  Hid (w.grownBy wr (some g))
theorem y2l(a:Option Addr)(n c:Nat)(k:Bs)(nb:Nat)(L:List (Bs×Ent))(w:World)(h:w.ownsRow 0 113 2 (.slice a n c) n (z1E L))(hn:n=L.length)(hl:n<=1048576)
  (hc:w.cell? ⟨nb,0,none⟩=some (.string ⟨k.toArray⟩)) (aM:nb<w.heap.size) (aY:(Value.slice a n c).ownBlock≠some nb):
  Calls prog 130 #[.slice a n c,.func (.func 131) #[] #[.pointer (some ⟨nb,0,none⟩)]] w fun e w'=>
   ∃m,e= .returned (.slice a m c)/\m=(z5D k L).length/\w'.ownsRow 0 113 2 (.slice a m c) m (z1E (z5D k L))/\w.grownBy w' (Value.slice a n c).ownBlock:=by
 have H:=z7 h;have HN:=z7 hn;have HC:=z7 hc;have aW:=z7 aY;have bG:=z1O h;clear h hn hc aY;go_enter func130,ntmps130;go_wp2_with fail;refine(y3P a n c k nb L w H.o HN.o hl HC.o aM).mono ?_;rintro e w1 ⟨⟨r,rfl,hr⟩,aH⟩;have H1:=z7 (ownsRow_below H.o aH (Nat.le_refl _));have aG:=z7 aH;clear aH;rcases hr with⟨rfl,aB⟩|⟨i,rfl,b8,aF,p,hp,I⟩
 ·have hk:=z7 (y2z aB);clear aB;go_wp2;go_ret;refine⟨n,rfl,by rw[hk.o];exact HN.o,by rw[hk.o];exact H1.o,z6i ⟨rfl,rfl,rfl,Nat.le_refl _,fun _ _ _=>rfl⟩ aG.o⟩
 ·obtain⟨g,rfl⟩:∃g,a=some ⟨g,0,none⟩:=by
   rcases H1.o.2 with⟨Y,h2⟩|⟨g,cap,N,Y,_⟩
   ·omega
   ·simp only[Value.slice.injEq]at Y;exact⟨g,Y.1⟩
  have i0:((i:Int)== -1)=false:=by simp
  have aU:=z7 (z6i (⟨rfl,rfl,rfl,Nat.le_refl _,fun _ _ _=>rfl⟩:w.grownBy w (some g)) aG.o);have aZ:Hid (L.take i=z5D k (L.take (i+1))):=z7 (by
   rw[List.take_add_one,hp,Option.toList_some,z8i,if_pos I,List.append_nil,y2z aF])
  have bE:IntKind.i64.wrap ((i:Int)+1)=(i:Int)+1:=wrap64 (by omega) (by omega);clear aF hp I;go_wp2;go_loopw[5,6,7] (fun iv jv pv wr=>q5C k L g n c nb w iv jv wr) (fun _ jv _ _=>match jv with | .int _ j=>n - j.toNat|_=>0)
  case atStart=>exact⟨i,i+1,L,rfl,by simp,by omega,b8,H1,z7 HN.o.symm,z7 rfl,aZ,aU⟩
  case round=>
   clear aG aU aZ H1;obtain⟨i,j,A,rfl,rfl,b7,bJ,O,U,a0,a3,B⟩:=hrel;by_cases hj:j<n
   ·have j0:(j:Int)<n:=(by omega);obtain⟨R,pb,pa,pn,pc,hp,a1,a2,hg,a7⟩:=y6P O.o U.o.symm hj;have aT:wr.cell? ⟨nb,0,none⟩=some (.string ⟨k.toArray⟩):=by
     have:=B.o.block nb aM fun e=>aW.o e.symm;exact(World.cell?_of_block (w:=w) (a:=⟨nb,0,none⟩) this).trans HC.o
    have HP:=z7 hp;have bA:=B.o.size;have a8:=z7 (q5 wr (.cells #[.string ⟨R.toArray⟩,.slice pa pn pc] 113));have aC:Hid ((wr.alloc (.cells #[.string ⟨R.toArray⟩,.slice pa pn pc] 113)).cell? ⟨nb,0,none⟩=some (.string ⟨k.toArray⟩)):=z7 ((a8.o.cell (p:=⟨nb,0,none⟩) (Nat.lt_of_lt_of_le aM bA)).trans aT);have bB:Hid (L[j]? =some (R,⟨pb,pa,pn,pc⟩)):=z7 (by
     have Y:=congrArg (fun X=>X[0]?) a0.o;simp only[List.getElem?_drop,Nat.add_zero]at Y;rw[<-Y];exact hp)
    clear hp aT;go_wp2_with fail;refine(y0Y R k _ rfl pa pn pc rfl nb _ aC.o (by simp;omega)).mono ?_;rintro e w3 ⟨rfl,a9⟩;have J:=z7 (ownsRow_below (ownsRow_below O.o a8.o (Nat.le_refl _)) a9 (Nat.le_refl _));have aV:=z7 (z6i B.o (a8.o.trans (a9.mono (by simp))));have aE:(wr.alloc (.cells #[.string ⟨R.toArray⟩,.slice pa pn pc] 113)).heap[wr.heap.size]? =some (.cells #[.string ⟨R.toArray⟩,.slice pa pn pc] 113):=j8 _ _;have aL:w3.heap[wr.heap.size]? =some (.cells #[.string ⟨R.toArray⟩,.slice pa pn pc] 113):=(a9.block _ (by simp)).trans aE;have b1:w3.cell? ⟨wr.heap.size,0,none⟩=some (.string ⟨R.toArray⟩):=(by simp[World.cell?,aL]);have b2:w3.cell? ⟨wr.heap.size,1,none⟩=some (.slice pa pn pc):=(by simp[World.cell?,aL]);have bL:IntKind.i64.wrap ((j:Int)+1)=(j:Int)+1:=wrap64 (by omega) (by omega);have bM:IntKind.i64.wrap ((i:Int)+1)=(i:Int)+1:=wrap64 (by omega) (by omega);have aA:Hid (L.take (j+1)=L.take j++ [(R,⟨pb,pa,pn,pc⟩)]):=z7 (by rw[List.take_add_one,bB.o];rfl);clear O B a8 aC a9 aE aL bE a1 a2 a7 hg;by_cases I:R=k
    ·have e2:decide (R=k)=true:=decide_eq_true I;rw[e2];have aJ:Hid (A.drop (j+1)=L.drop (j+1)):=z7 (by rw[<-List.drop_drop,<-List.drop_drop,a0.o]);have aN:Hid (A.take i=z5D k (L.take (j+1))):=z7 (by rw[aA.o,z8i,if_pos I,List.append_nil];exact a3.o);clear e2 I b1 b2 aA a3 a0;go_wp2;refine⟨⟨i,j+1,A,rfl,by simp,by omega,hj,J,U,aJ,aN,aV⟩,?_⟩;show n - ((j:Int)+1).toNat<n - ((j:Nat):Int).toNat;omega
    ·have e2:decide (R=k)=false:=decide_eq_false I;rw[e2];obtain⟨_,_,_,_,_,_,a1,a2,hg,a7⟩:=y6P J.o U.o.symm (show i<n by omega);have f1:=a7 (i*2);have f2:=a7 (i*2+1);have i1:(i:Int)<n:=(by omega);obtain⟨A',a4⟩:=zN (A.set i (R,⟨pb,pa,pn,pc⟩));have aJ:Hid (A'.drop (j+1)=L.drop (j+1)):=z7 (by rw[a4,List.drop_set_of_lt (by omega),<-List.drop_drop,<-List.drop_drop,a0.o]);have aN:Hid (A'.take (i+1)=z5D k (L.take (j+1))):=z7 (by
      rw[aA.o,z8i,if_neg I,<-a3.o,a4,List.take_add_one,List.getElem?_set_self (by rw[U.o];omega),List.take_set_of_le (Nat.le_refl _)];rfl)
     have aO:Hid (A'.length=n):=z7 (by rw[a4,List.length_set];exact U.o);have aD:Hid ((((w3.setCell ⟨g,i*2,none⟩ (.string ⟨R.toArray⟩)).setCell ⟨g,i*2+1,none⟩ (.slice pa pn pc))).ownsRow 0 113 2 (.slice (some ⟨g,0,none⟩) n c) n (z1E A')):=z7 (by
      have Y:=(J.o.stored (i*2) (.string ⟨R.toArray⟩)).1;have h2:=(Y.stored (i*2+1) (.slice pa pn pc)).1;rw[a4,q0a A i (by rw[U.o];omega)];exact h2)
     have b6:Hid (w.grownBy ((w3.setCell ⟨g,i*2,none⟩ (.string ⟨R.toArray⟩)).setCell ⟨g,i*2+1,none⟩ (.slice pa pn pc)) (some g)):=z7 (by
      have Y:=J.o.stored (i*2) (.string ⟨R.toArray⟩);have h2:=Y.1.stored (i*2+1) (.slice pa pn pc);exact(aV.o.trans Y.2).trans h2.2)
     clear e2 I aA a3 a0 a4 a7;go_wp2;refine⟨⟨i+1,j+1,A',by simp,by simp,by omega,hj,aD,aO,aJ,aN,b6⟩,?_⟩;show n - ((j:Int)+1).toNat<n - ((j:Nat):Int).toNat;omega
   ·obtain rfl:j=n:=by omega
    have aX:Hid (A.take i=z5D k L):=z7 (by rw[a3.o,HN.o,List.take_length]);have aS:∃N:Array Value,wr.heap[g]? =some (.cells N 113 (0,0))/\j*2<=N.size:=by
     rcases O.o.2 with⟨h',_⟩|⟨g',bF,N,h',hb,hg,b9,bI,b4,bC⟩
     ·simp at h'
     ·simp only[Value.slice.injEq,Option.some.injEq,Addr.mk.injEq,and_true,true_and]at h';obtain⟨rfl,rfl⟩:=h';exact⟨N,hg,by rw[b4];exact Nat.mul_le_mul_right _ b9⟩
    obtain⟨N,a6,aI⟩:=aS;have b3:=fun ty=>y1Y (P:=prog) wr 75 113 ty (.agg #[.string ⟨#[]⟩,.slice none 0 0]) underlying75 y9H (by decide) (by decide) g (i*2) (j - i) (c - i) N a6 (by omega) (by show i*2+(j - i)*2<=N.size;omega);obtain⟨Z,hZ⟩:=zN ((Builtin.zeroCells (Value.agg #[.string ⟨#[]⟩,.slice none 0 0]).cells (j - i)).toList);rw[<-hZ]at b3;have aR:Z.length=(j - i)*2:=by rw[hZ];simp[Builtin.zeroCells,Value.cells]
    have b5:=z7 (y1X O.o i (by omega) Z (by rw[aR];omega));have a5:=z7 (Chg.setCells (b:=g) Z (i*2) wr);have i1:(i:Int)<=j:=(by omega);have i2:(i:Int)<=c:=(by omega);have i3:c≠i:=(by omega);have b0:Hid ((z5D k L).length=i):=z7 (by rw[<-aX.o,List.length_take,U.o];omega);have bH:=z7 b7;clear a6 aI hZ aR a3 a0;go_wp2;go_ret;refine⟨i,rfl,b0.o.symm,?_,?_⟩
    ·have Y:=b5.o;rw[y7m,aX.o]at Y;exact Y
    ·refine⟨a5.o.os.trans B.o.os,a5.o.tape.trans B.o.tape,a5.o.output.trans B.o.output,Nat.le_trans B.o.size a5.o.size,fun q hq hn=>?_⟩;rw[a5.o.block q (Nat.lt_of_lt_of_le hq B.o.size) (by simp only[List.mem_singleton];exact fun e=>hn (by rw[e];rfl)),B.o.block q hq hn]
theorem z7O(A:Nat)(s:FsS)(F:List Nat)(k:Bs)(w:World)(h:z1v w A s F)(N:s.waits.length<=1048576):
  Calls prog 94 #[.pointer (some ⟨A,0,none⟩),.string ⟨k.toArray⟩] w fun e w'=>e= .returned (.tuple #[])/\z2G w A F {s with waits:=z0Y k s.waits} w':=by
 obtain⟨mb,wv,lp,E,L,h,rfl⟩:=h;obtain⟨c0,c1,c2,c3,c4,fz⟩:=z2H h.blk;have f2:=fz 2;have U:=(Array.getElem?_eq_some_iff.1 h.blk).1;obtain⟨n1,n2,n3⟩:=h.ne;obtain⟨O,wc,rfl⟩:=(z0e h.row).head;have a1:L.length<=1048576:=by rw[h.waits,List.length_map]at N;exact N
 have I:=q5 w (.cells #[.string ⟨k.toArray⟩] 9);have H:=z7 h;have a5:=z7 I;have d2:Hid ((w.alloc (.cells #[.string ⟨k.toArray⟩] 9)).cell? ⟨A,2,none⟩=some (.slice O L.length wc)):=z7 ((I.cell (p:=⟨A,2,none⟩) U).trans c2);have R:=z7 (ownsRow_below h.row I (Nat.le_refl _));have a2:Hid ((w.alloc (.cells #[.string ⟨k.toArray⟩] 9)).cell? ⟨w.heap.size,0,none⟩=some (.string ⟨k.toArray⟩)):=z7 (z0u (j8 _ _)).1;have a4:Hid ((Value.slice O L.length wc).ownBlock≠some w.heap.size):=z7 fun e=>by have:=(h.row.lt _ e).2;omega
 have a3:Hid ((Value.slice O L.length wc).ownBlock≠some A):=z7 fun e=>(n2 A e).1 rfl;have F2:=z7 f2;clear h c0 c1 c2 c3 c4 fz f2 n1 n2 n3 I N;go_enter func94,ntmps94;have a0:=d2.o;go_wp2_with fail;clear a0;refine(y2l O L.length wc k w.heap.size L _ R.o rfl a1 a2.o (by simp) a4.o).mono ?_;rintro e w' ⟨m,rfl,hm,B,hg⟩;have J:w.grownBy w' (Value.slice O L.length wc).ownBlock:=((World.grownBy_alloc w _ none).but _).trans hg;have Y:=z7 (J.block A U fun e=>a3.o e.symm);have d3:w'.cell? ⟨A,2,none⟩=some (.slice O L.length wc):=(World.cell?_of_block (w:=w) (a:=⟨A,2,none⟩) Y.o).trans (z2H H.o.blk).2.2.1;have d4:w'.frozen? ⟨A,2,none⟩=false:=(World.frozen?_of_block (w:=w) (a:=⟨A,2,none⟩) Y.o).trans F2.o;have HM:=z7 hm;have HR:=z7 B;have HG:=z7 J;clear hm B hg J;go_wp2
 go_end0
 refine⟨rfl,H.o.rowTo (L':=z5D k L) HG.o ?_ ?_ rfl rfl rfl rfl ?_ fun p hp=> .inl ?_⟩
 ·rw[<-HM.o];exact HR.o
 ·intro j hj
  left
  revert hj
  cases O<;>simp[Value.ownBlock]
 ·show z0Y k s.waits=_;rw[H.o.waits];unfold z0Y z5D;rw[List.filter_map];rfl
 ·unfold z5D at hp;exact(List.mem_filter.1 hp).1
theorem z2D.mapChg{w0 w w':World}{R I:Nat}{s s':FsS}{U:Value}{O:Option Nat}{E E' L:List (Bs×Ent)}{Y:List Nat}(h:z2D w R s I U O E L)(B:Chg Y (z9m (z1t R I U O) (E++L)) w0 w)(hm:y8o w' I E')(N:w.grownBy w' (some I))
  (hr:s'.room=s.room) (hh:s'.halted=s.halted) (hl:s'.left=s.left) (hf:s'.files=E'.map ct) (hw:s'.waits=s.waits) (he:∀p∈E',p∈E\/(z4P w (z1t R I U O) p.2/\∀k,p.2.v.ownBlock=some k->k∈Y\/w0.heap.size<=k)):
  z2G w0 R Y s' w':=by
 have h':=h.mapTo hm N hr hh hl hf hw fun p J=>(he p J).imp id (·.1);have a0:I∈z9m (z1t R I U O) (E++L):=z2j.2 (.inl (by simp[z1t]));refine⟨_,⟨I,U,O,E',L,h',rfl⟩,N.os.trans B.os,N.tape.trans B.tape,N.output.trans B.output,Nat.le_trans B.size N.size,fun k A hn=>?_,fun k A=>?_⟩
 ·rw[N.block k (Nat.lt_of_lt_of_le A B.size) fun e=>?_,B.block k A hn];simp only[Option.some.injEq]at e;have e2:k=I:=by first|exact e|exact e.symm
  rw[e2]at hn A;rcases B.fresh I a0 with h1|h1
  ·exact hn h1
  ·omega
 ·rcases z2j.1 A with A|⟨p,J,A⟩
  ·exact B.fresh k (z2j.2 (.inl A))
  ·rcases List.mem_append.1 J with J|J
   ·rcases he p J with h2|h2
    ·exact B.fresh k (z2j.2 (.inr ⟨p,List.mem_append_left _ h2,A⟩))
    ·exact h2.2 k A
   ·exact B.fresh k (z2j.2 (.inr ⟨p,List.mem_append_right _ J,A⟩))
theorem z5V.stays{w J L:World}{F N:List Nat}{a:Option Addr}{n c:Nat}{b:Bs}(h:z5V w J a n c b)(R:∀k∈F,k<w.heap.size)(B:Chg F N J L){M:List Nat}(U:∀k∈M,k∈N):
  z4P L M ⟨b,a,n,c⟩/\∀k,(Value.slice a n c).ownBlock=some k->w.heap.size<=k:=by
 have hb:∀k,(Value.slice a n c).ownBlock=some k->L.heap[k]? =J.heap[k]? :=fun k A=>B.block k (h.ge k A).2 fun I=>by have:=R k I;have:=(h.ge k A).1;omega
 refine⟨⟨h.rd.keep hb,h.2.1,h.cap.1,h.cap.2,fun k A=>⟨fun I=>?_,Nat.lt_of_lt_of_le (h.ge k A).2 B.size⟩⟩,fun k A=>(h.ge k A).1⟩;have Y:=h.ge k A;rcases B.fresh k (U k I)with O|O
 ·have:=R k O;omega
 ·omega
theorem q3t(J:Nat)(s:FsS)(F:List Nat)(k:Bs)(U:k.length<=maxLen)(w:World)(h:z1v w J s F)(ok:s.Ok):
  Calls prog 117 #[.pointer (some ⟨J,0,none⟩),.string ⟨k.toArray⟩] w fun e w'=>e= .returned (.int .u16 (z2k s k).1)/\z2G w J F (z2k s k).2 w':=by
 have H:=z7 h;have Y:=z7 ok;clear h ok;cases hh:s.has k with
 | false=>
  have e:z2k s k=(80,s):=by simp[z2k,hh]
  rw[e];clear e;go_enter func117,ntmps117;go_wp2_with fail;refine(z4M J s F k U w H.o Y.o).mono ?_;rintro e w1 I;unfold z2i at I;rw[hh,if_neg (by simp)]at I;obtain⟨rfl,rfl⟩:=I;go_wp2;go_ret;exact⟨rfl,z2G.refl H.o⟩
 | true=>
  cases hg:s.go with
  | false=>
   have e:z2k s k=(0,s.went):=(by simp[z2k,hh,hg]);rw[e];clear e;go_enter func117,ntmps117;go_wp2_with fail;refine(z4M J s F k U w H.o Y.o).mono ?_;rintro e w1 I;unfold z2i at I;rw[hh,if_pos rfl]at I;obtain⟨a,n,c,rfl,hf⟩:=I;have HF:=z7 hf;clear hf;go_wp2_with fail;refine(z4L J s F w1 (H.o.low HF.o.2.2) Y.o.left0).mono ?_;rintro e w2 ⟨rfl,ht⟩;rw[hg];have HT:=z7 ht;clear ht hg;go_wp2;go_ret;obtain⟨F2,aE,B⟩:=HT.o;exact⟨rfl,F2,aE,(Chg.of_below HF.o.2.2).trans B⟩
  | true=>
   have e:z2k s k=(0,{s.went with files:=z1B z2Z k (s.get k) s.files,waits:=z0Y k s.waits}):=(by simp[z2k,hh,hg]);rw[e];obtain⟨s3,a0⟩:=zN (({s.went with files:=z1B z2Z k (s.get k) s.files}:FsS));obtain⟨e1,e2,e3⟩:=z2Y s;have N:({s.went with files:=z1B z2Z k (s.get k) s.files,waits:=z0Y k s.waits}:FsS)={s3 with waits:=z0Y k s3.waits}:=(by rw[a0,e3]);rw[N];have A:=z7 a0;have E2:=z7 e2;have E3:=z7 e3;clear e N a0 e1 e2 e3;go_enter func117,ntmps117;go_wp2_with fail;refine(z4M J s F k U w H.o Y.o).mono ?_;rintro e w1 I;unfold z2i at I;rw[hh,if_pos rfl]at I;obtain⟨a,n,c,rfl,hf⟩:=I;have HF:=z7 hf;clear hf;go_wp2_with fail;refine(z4L J s F w1 (H.o.low HF.o.2.2) Y.o.left0).mono ?_;rintro e w2 ⟨rfl,ht⟩;rw[hg];obtain⟨F2,aH,B⟩:=ht;have a6:=z7 B;obtain⟨mb,wv,lp,E,L,h2,rfl⟩:=aH;obtain⟨c0,c1,c2,c3,c4,fz⟩:=z2H h2.blk;have R:=HF.o.stays H.o.lt B (M:=z1t J mb wv lp) fun k U=>z2j.2 (.inl U);have aC:E.length<maxLen:=by
    have h3:=z7K h2;rw[E2.o]at h3;have:=Y.o.few;unfold maxLen;omega
   have H2:=z7 h2;have aG:=z7 h2.map;have O:=z7 R;clear B h2 c0 c2 c3 c4 fz R hg;go_wp2_with (at_mapUpdate;refine z3U z4o rfl _ _ _ 74 rfl 47 underlying74 rfl aG.o aC k rfl U ⟨s.get k,a,n,c⟩ rfl rfl ?_;intro w3 a4 a3 N;have a9:=z7 a4;have a8:=z7 a3;clear a4 a3 N c1);have h3:=H2.o.mapChg (s':=s3) ((Chg.of_below HF.o.2.2).trans a6.o) a9.o a8.o (by rw[A.o]) (by rw[A.o]) (by rw[A.o]) (by rw[A.o,<-E2.o];exact z6J H2.o k ⟨s.get k,a,n,c⟩) (by rw[A.o]) (fun p hp=>by
    rcases(z2I _ _ _ _ _).1 hp with rfl|hp
    ·exact .inr ⟨O.o.1,fun k U=> .inr (O.o.2 k U)⟩
    ·exact .inl hp.1)
   obtain⟨F3,a2,a1⟩:=h3;have a7:=z7 a1;refine(z7O J s3 F3 k w3 a2 (by rw[A.o];show s.went.waits.length<=1048576;rw[E3.o];exact Y.o.waits_le)).mono ?_;rintro e w4 ⟨rfl,a5⟩;have aA:=z7 a5;clear a5 a2 a1;go_wp2;go_ret;obtain⟨F4,aF,aB⟩:=aA.o;exact⟨rfl,F4,aF,a7.o.trans aB⟩
theorem y8Q(I:Nat)(s:FsS)(F:List Nat)(k:Bs)(hk:k.length<=maxLen)(w:World)(h:z1v w I s F)(ok:s.Ok):
  Calls prog 88 #[.pointer (some ⟨I,0,none⟩),.string ⟨k.toArray⟩] w fun e w'=>e= .returned (.int .u16 (z3c s k).1)/\z2G w I F (z3c s k).2 w':=by
 have H:=z7 h;have OK:=z7 ok;clear h ok;cases hh:s.has k with
 | false=>
  have e:z3c s k=(80,s):=by simp[z3c,hh]
  rw[e];clear e;go_enter func88,ntmps88;go_wp2_with (refine(z2x I s F k hk _ H.o).mono ?_;rintro e w' ⟨rfl,rfl⟩;rw[hh]);go_ret;exact⟨rfl,z2G.refl H.o⟩
 | true=>
  cases hg:s.go with
  | false=>
   have e:z3c s k=(0,s.went):=(by simp[z3c,hh,hg]);rw[e];clear e;go_enter func88,ntmps88;go_wp2_with (refine(z2x I s F k hk _ H.o).mono ?_;rintro e w' ⟨rfl,rfl⟩;rw[hh]);refine(z4L I s F w H.o OK.o.left0).mono ?_;rintro e w2 ⟨rfl,ht⟩;rw[hg];have HT:=z7 ht;clear ht hg;go_wp2;go_ret;exact⟨rfl,HT.o⟩
  | true=>
   have e:z3c s k=(0,{s.went with files:=z2d k s.files,waits:=z0Y k s.waits}):=(by simp[z3c,hh,hg]);rw[e];obtain⟨s3,J⟩:=zN ({s.went with files:=z2d k s.files}:FsS);obtain⟨e1,e2,e3⟩:=z2Y s;have B:({s.went with files:=z2d k s.files,waits:=z0Y k s.waits}:FsS)={s3 with waits:=z0Y k s3.waits}:=(by rw[J,e3]);rw[B];have A:=z7 J;have E2:=z7 e2;have E3:=z7 e3;clear e B J e1 e2 e3;go_enter func88,ntmps88;go_wp2_with (refine(z2x I s F k hk _ H.o).mono ?_;rintro e w' ⟨rfl,rfl⟩;rw[hh]);refine(z4L I s F w H.o OK.o.left0).mono ?_;rintro e w2 ⟨rfl,ht⟩;rw[hg];obtain⟨F2,a9,N⟩:=ht;have a1:=z7 N;obtain⟨mb,wv,lp,E,L,h2,rfl⟩:=a9;obtain⟨c0,c1,c2,c3,c4,fz⟩:=z2H h2.blk;have H2:=z7 h2;have a8:=z7 h2.map;clear N h2 c0 c2 c3 c4 fz hg;go_wp2_with (at_delete;refine y5E z4o rfl _ _ 74 rfl 47 underlying74 rfl a8.o k rfl hk ?_;intro w3 Y U B;have a4:=z7 Y;have a3:=z7 U;clear Y U B c1);have h3:=H2.o.mapChg (s':=s3) a1.o a4.o a3.o (by rw[A.o]) (by rw[A.o]) (by rw[A.o]) (by rw[A.o,<-E2.o];exact y7s H2.o k) (by rw[A.o]) (fun p hp=> .inl ((z3g _ _ _).1 hp).1);obtain⟨F3,R,O⟩:=h3;have a2:=z7 O;refine(z7O I s3 F3 k w3 R (by rw[A.o];show s.went.waits.length<=1048576;rw[E3.o];exact OK.o.waits_le)).mono ?_;rintro e w4 ⟨rfl,a0⟩;have a5:=z7 a0;clear a0 R O;go_wp2;go_ret;obtain⟨F4,a7,a6⟩:=a5.o;exact⟨rfl,F4,a7,a2.o.trans a6⟩
def q1U(K:List Bool)(i:Nat):Bool:=(K[i]?).getD false
def y6e(K:List Bool):Nat->Int
 | 0=> -1
 | n+1=>if q1U K n then n else y6e K n
def y5b(torn last:Int)(i:Nat)(b:Bs):Bs:=if(i:Int)=last/\0<=torn/\torn<b.length then b.take torn.toNat else b
def y0e(k:Bs)(G:List (Bs×Int)):Int:=(z0P k G).getD 0
def y2D(K:List Bool)(torn last:Int)(i:Nat)(p:Bs×Bs)(st:List (Bs×Bs)×List (Bs×Int)):List (Bs×Bs)×List (Bs×Int):=
 if q1U K i then(z1B z2Z p.1 ((z0P p.1 st.1).getD []++List.replicate (y0e p.1 st.2).toNat 0++y5b torn last i p.2) st.1,z1B z2Z p.1 0 st.2)
 else(st.1,z1B z2Z p.1 (y0e p.1 st.2+p.2.length) st.2)
def y0C(K:List Bool)(torn last:Int)(L:List (Bs×Bs))(F:List (Bs×Bs)):Nat->List (Bs×Bs)×List (Bs×Int)
 | 0=>(F, [])
 | n+1=>match L[n]? with
  | some p=>y2D K torn last n p (y0C K torn last L F n)
  | none=>y0C K torn last L F n
def RdK(w:World)(x:Value)(K:List Bool):Prop:=Rd w x 1 K.length (K.map Value.bool)
theorem RdK.low{w w':World}{x:Value}{K:List Bool}(h:RdK w x K)(hb:Below w.heap.size w w'):RdK w' x K:=Rd.low h hb
theorem RdK.at{w:World}{x:Value}{K:List Bool}(h:RdK w x K){k:Nat}(I:k<K.length):∃b A c,x= .slice (some ⟨b,A,none⟩) K.length c/\w.cell? ⟨b,A+k,none⟩=some (.bool K[k])/\b<w.heap.size:=by
 obtain⟨b,A,c,rfl,B,hb⟩:=Rd.addr h (by omega) (by omega);exact⟨b,A,c,rfl,B k _ (by simp[I]),hb⟩
def isInt:Value->Bool
 | .int .i64 _=>true
 | _=>false
abbrev q5u (w:World) (mb:Nat) (G:List (Bs×Int)):Prop:=z3J w prog 9 z2Z isInt (fun n:Int=> .int .i64 n) mb G
theorem q1Z{L R:List Int}(h:L.Perm R):L.sum=R.sum:=by
 induction h with
 | nil=>rfl
 | cons x _ ih=>simp[ih]
 | swap x y l=>simp only[List.sum_cons];omega
 | trans _ _ h1 h2=>exact h1.trans h2
def y7x(G:List (Bs×Int)):Int:=(G.map (·.2)).sum
theorem y8X(k:Bs)(v:Int)(G:List (Bs×Int)):y7x (z1B z2Z k v G)=v+y7x (z2d k G):=by
 unfold y7x z1B;rw[q1Z ((z9D z2Z (k,v) (z2d k G)).map (·.2))];simp
theorem y9J{G:List (Bs×Int)}(h:∀p∈G,0<=p.2)(k:Bs):y0e k G+y7x (z2d k G)<=y7x G:=by
 unfold y0e y7x z0P z2d
 induction G with
 | nil=>simp
 | cons p G ih=>
  have I:=ih fun q A=>h q (by simp[A]);have U:=h p (by simp);rw[List.find?_cons,List.filter_cons];by_cases e:p.1=k
  ·simp only[e,decide_true,Option.map_some,Option.getD_some,ne_eq,not_true,decide_false,Bool.false_eq_true,if_false,List.map_cons,List.sum_cons];have J:∀M:List (Bs×Int),(∀q∈M,0<=q.2)->((M.filter fun q=>!decide (q.1=k)).map (·.2)).sum<=(M.map (·.2)).sum:=by
    intro M
    induction M with
    | nil=>intro _;simp
    | cons q M ih2=>
     intro B;have O:=ih2 fun r N=>B r (by simp[N]);have R:=B q (by simp);rw[List.filter_cons];split
     ·simp only[List.map_cons,List.sum_cons];omega
     ·simp only[List.map_cons,List.sum_cons];omega
   have L:=J G fun q A=>h q (by simp[A]);simp only[ne_eq,decide_not]at L ⊢;omega
  ·simp only[e,decide_false,ne_eq,not_false_eq_true,decide_true,if_true,List.map_cons,List.sum_cons];simp only[ne_eq]at I;omega
theorem y3L{G:List (Bs×Int)}(h:∀p∈G,0<=p.2)(k:Bs):0<=y0e k G:=by
 unfold y0e;cases hg:z0P k G with
 | none=>simp
 | some v=>simpa using h _ (z1z hg)
theorem q1z(B A:Int)(i:Nat)(b:Bs):(y5b B A i b).length<=b.length:=by
 unfold y5b;split
 ·rw[List.length_take];omega
 ·exact Nat.le_refl _
structure y1r (s:FsS) (sb:Nat) (F:List Nat) (w wB:World) (mb:Nat) (wv:Value) (lp:Option Nat) (L:List (Bs×Ent)) (mg:Nat) (E:List (Bs×Ent)) (G:List (Bs×Int)) (wr:World):Prop where
 fs:z2D wr sb {s with files:=E.map ct} mb wv lp E L
 gap:q5u wr mg G
 chg:Chg F (z9m (z1t sb mb wv lp) (E++L)) w wr
 nmg:mg∉z9m (z1t sb mb wv lp) (E++L)
 box:wr.heap[w.heap.size]? =wB.heap[w.heap.size]?
 nbox:w.heap.size∉z9m (z1t sb mb wv lp) (E++L)
 mgb:w.heap.size<mg
structure q5F (s:FsS) (K:List Bool) (torn:Int) (i:Nat) (F:List (Bs×Bs)) (G:List (Bs×Int)):Prop where
 eq:(F,G)=y0C K torn (y6e K s.waits.length) s.waits s.files i
 pos:∀p∈G,0<=p.2
 sum:y7x G+total F<=total s.files+total (s.waits.take i)
 gl:G.length<=i
 el:F.length<=s.files.length+i
theorem y1r.low{s:FsS}{O:Nat}{F:List Nat}{w R:World}{J:Nat}{U:Value}{I:Option Nat}{L:List (Bs×Ent)}{N:Nat}{E:List (Bs×Ent)}{G:List (Bs×Int)}{wr A:World}
  (h:y1r s O F w R J U I L N E G wr) (hb:Below wr.heap.size wr A):y1r s O F w R J U I L N E G A:=by
 have B:w.heap.size<wr.heap.size:=Nat.lt_trans h.mgb h.gap.lt;exact⟨h.fs.low hb,h.gap.low hb,h.chg.trans (Chg.of_below hb),h.nmg,(hb.block _ B).trans h.box,h.nbox,h.mgb⟩
theorem y1r.other{s:FsS}{U:Nat}{F:List Nat}{w Y:World}{R:Nat}{wv:Value}{O:Option Nat}{L:List (Bs×Ent)}{N:Nat}{E:List (Bs×Ent)}{G:List (Bs×Int)}{w0 wr:World}(J:y1r s U F w Y R wv O L N E G w0)(h:y1r s U F w Y R wv O L N E G wr){I:Nat}(a0:w0.heap.size<=I)(j:Nat)(u:Value):y1r s U F w Y R wv O L N E G (wr.setCell ⟨I,j,none⟩ u):=by
 have hb:∀k,k≠I->(wr.setCell ⟨I,j,none⟩ u).heap[k]? =wr.heap[k]? :=fun k A=>q7 A;have B:(wr.setCell ⟨I,j,none⟩ u).heap.size=wr.heap.size:=by simp[World.setCell]
 have h1:=J.gap.lt;have h2:=J.mgb;have h3:=J.chg.size;refine⟨h.fs.same (fun k A=>hb k (by have:=J.fs.fp_lt k A;omega)) (by rw[B];exact Nat.le_refl _),h.gap.same (hb N (by omega)),⟨h.chg.os,h.chg.tape,h.chg.output,by rw[B];exact h.chg.size,fun k A hn=>?_,h.chg.fresh⟩,h.nmg,(hb _ (by omega)).trans h.box,h.nbox,h.mgb⟩;rw[hb k (by omega)];exact h.chg.block k A hn
theorem q2p{κ ν:Type} [DecidableEq κ](B:κ->Lit)(k A:κ)(v:ν)(E:List (κ×ν))(h:(z0P A E).isSome=true):(z0P A (z1B B k v E)).isSome=true:=by
 by_cases e:A=k
 ·subst e;rw[z6g];rfl
 ·rw[z4e B e];exact h
theorem q5F.keeps{s:FsS}{K:List Bool}{A:Int}{i:Nat}{F:List (Bs×Bs)}{G:List (Bs×Int)}(h:q5F s K A i F G){p:Bs×Bs}(I:s.waits[i]? =some p)(L:q1U K i=true):
  q5F s K A (i+1) (z1B z2Z p.1 ((z0P p.1 F).getD []++List.replicate (y0e p.1 G).toNat 0++y5b A (y6e K s.waits.length) i p.2) F) (z1B z2Z p.1 0 G):=by
 have N:=y3L h.pos p.1;refine⟨?_,fun q B=>?_,?_,?_,?_⟩
 ·rw[y0C,I];simp only;rw[<-h.eq,y2D,L];simp
 ·rcases(z2I _ _ _ _ _).1 B with rfl|B
  ·exact Int.le_refl 0
  ·exact h.pos q B.1
 ·have O:=y9J h.pos p.1;have R:=h.sum;have J:total (s.waits.take (i+1))=total (s.waits.take i)+p.2.length:=by rw[List.take_add_one,I,z5h];simp[total]
  have U:=q1z A (y6e K s.waits.length) i p.2;have Y:((z0P p.1 F).getD []).length+total (z2d p.1 F)<=total F:=by
   cases hg:z0P p.1 F with
   | none=>have:=z8F p.1 F;simpa using this
   | some v=>simpa using y1x hg
  rw[y8X,z5B,J];simp only[List.length_append,List.length_replicate];omega
 ·have:=z7c z2Z p.1 (0:Int) G;have:=h.gl;omega
 ·have:=z7c z2Z p.1 ((z0P p.1 F).getD []++List.replicate (y0e p.1 G).toNat 0++y5b A (y6e K s.waits.length) i p.2) F;have:=h.el;omega
theorem z2D.re{w:World}{I B:Nat}{s:FsS}{J:Value}{A:Option Nat}{E L:List (Bs×Ent)}(h:z2D w I s B J A E L):z2D w I {s with files:=E.map ct} B J A E L:=by
 have e:({s with files:=E.map ct}:FsS)=s:=by rw[<-h.files]
 rw[e];exact h
theorem y5f{room:Int}(B:0<=room)(I:room<=1048576):(z6U room).Ok:=
 ⟨B,I,by show((0:Nat):Int)<=room;simpa using B,by simp[z6U],(fun p A=>by cases A),(fun p A=>by cases A),(fun n J=>by cases J)⟩
theorem z8k{s:FsS}(h:s.Ok){k:Bs}(B:named k=true)(v:Bs):∀p∈z1B z2Z k v s.files,named p.1=true:=fun p A=>by
 rcases(z2I _ _ _ _ _).1 A with rfl|A
 ·exact B
 ·exact h.names p A.1
theorem y3h{s:FsS}(h:s.Ok){k:Bs}(A:s.has k=true):named k=true:=by
 obtain⟨v,B⟩:=Option.isSome_iff_exists.1 A;exact h.names (k,v) (z1z B)
theorem z8Q{s:FsS}(h:s.Ok){k:Bs}(A:s.has k=true)(v:Bs):(z1B z2Z k v s.files).length<=8:=by
 unfold z1B;rw[z5T];have:=y0l (k:=k) (E:=s.files) A;have:=h.few;omega
theorem z4X{s:FsS}(h:s.Ok)(k:Bs)(F:List (Bs×Bs))(N:∀j,j≠k->(z0P j s.files).isSome=true->(z0P j F).isSome=true):∀p∈z0Y k s.waits,p.2≠ []/\(z0P p.1 F).isSome=true:=fun p A=>by
 unfold z0Y at A;obtain⟨B,I⟩:=List.mem_filter.1 A;obtain⟨J,L⟩:=h.piece p B;exact⟨J,N p.1 (by simpa using I) L⟩
theorem y0h{s:FsS}(h:s.Ok)(k:Bs):(z2a s k).2.Ok:=by
 unfold z2a;split
 ·exact h
 ·rename_i I;split
  ·exact h
  ·rename_i L;split
   ·exact h
   ·rename_i J;have B:named k=true:=(by simpa using I);split
    ·have e:({s.went with files:=z1B z2Z k [] s.files}:FsS)={s.went with files:=z1B z2Z k [] s.files,waits:=s.waits}:=(by rw[<-(z2Y s).2.2]);rw[e];refine y0E h _ _ ?_ ?_ (z8k h B []) fun p A=>⟨(h.piece p A).1,q2p _ _ _ _ _ (h.piece p A).2⟩
     ·rw[z5B];have:=z8F k s.files;unfold FsS.used;simp;omega
     ·have:=z7c z2Z k [] s.files;omega
    ·exact h.went
theorem y5m{s:FsS}(h:s.Ok)(k b:Bs):(z1f s k b).2.Ok:=by
 unfold z1f;split
 ·exact h
 ·rename_i O;split
  ·exact h
  ·rename_i hb;split
   ·exact h
   ·rename_i R;split
    ·have B:=h.went;obtain⟨L,I,U⟩:=z2Y s;refine⟨B.room0,B.room1,?_,B.few,B.names,fun p A=>?_,B.left0⟩
     ·show((total s.went.files+total (s.waits++ [(k,b)]):Nat):Int)<=s.went.room;rw[L,I,z5h];have:total [(k,b)]=b.length:=(by simp[total]);unfold FsS.used at R;omega
     ·rcases List.mem_append.1 A with A|A
      ·have J:=h.piece p A;refine⟨J.1,?_⟩;show(z0P p.1 s.went.files).isSome=true;rw[I];exact J.2
      ·simp only[List.mem_singleton]at A;subst A;refine⟨fun e=>hb (by rw[show b= []from e];rfl),?_⟩;show(z0P k s.went.files).isSome=true;rw[I];have N:s.has k=true:=by cases e:s.has k with
        | true=>rfl
        | false=>exact absurd e O
       exact N
    ·exact h.went
theorem y9Y{s:FsS}(h:s.Ok)(k:Bs):(z2k s k).2.Ok:=by
 unfold z2k;split
 ·exact h
 ·rename_i B;have A:s.has k=true:=by simpa using B
  split
  ·refine y0E h _ _ ?_ (z8Q h A _) (z8k h (y3h h A) _) (z4X h k _ fun j I J=>by rw[z4e z2Z I];exact J);rw[z5B];have:=z6y s k;omega
  ·exact h.went
theorem q0r{s:FsS}(h:s.Ok)(k:Bs)(n:Int):(z5E s k n).2.Ok:=by
 unfold z5E;split
 ·exact h
 ·rename_i B;have A:s.has k=true:=by simpa using B
  split
  ·exact h
  ·split
   ·refine y0E h _ _ ?_ (z8Q h A _) (z8k h (y3h h A) _) (z4X h k _ fun j I J=>by rw[z4e z2Z I];exact J);rw[z5B,List.length_take];have:=z6y s k;omega
   ·exact h.went
theorem y5A{s:FsS}(h:s.Ok)(k:Bs):(z3c s k).2.Ok:=by
 unfold z3c;split
 ·exact h
 ·split
  ·refine y0E h _ _ ?_ ?_ (fun p B=>h.names p ((z3g _ _ _).1 B).1) (z4X h k _ fun j A I=>by rw[y1a A];exact I)
   ·have:=z6y s k;omega
   ·have:=y0c k s.files;have:=h.few;omega
  ·exact h.went
structure y2J (W w:World) (sb:Nat) (s:FsS) (F:List Nat):Prop where
 rep:z1v w sb s F
 up:∀k∈F,W.heap.size<=k
 low:Below W.heap.size W w
 ok:s.Ok
theorem y2J.step{W w w':World}{I:Nat}{s s':FsS}{F:List Nat}(h:y2J W w I s F)(L:z2G w I F s' w')(ok:s'.Ok):∃A,y2J W w' I s' A/\Chg F A w w':=by
 obtain⟨A,J,B⟩:=L;exact⟨A,⟨J,B.up h.low.size h.up,h.low.trans (B.below h.low.size h.up),ok⟩,B⟩
theorem y2J.then{W w w':World}{A:Nat}{s:FsS}{F:List Nat}(h:y2J W w A s F)(hb:Below w.heap.size w w'):y2J W w' A s F:=⟨h.rep.low hb,h.up,h.low.trans (hb.mono h.low.size),h.ok⟩

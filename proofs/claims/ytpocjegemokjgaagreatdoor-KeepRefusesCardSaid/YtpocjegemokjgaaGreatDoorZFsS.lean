/-
  The walks of a file system's Cut, Halt, Halted, Rename.
-/
import Derived.Test.YtpocjegemokjgaaGreatDoorZFsFFsGFsOAFsNA
namespace Go.Proofs.YtpocjegemokjgaaGreatDoor
open Go.Proofs.Tryz
set_option linter.all false
set_option maxRecDepth 100000
set_option maxHeartbeats 12800000
open Go.RowKit Go.Maps
theorem q0T(N:Nat)(s:FsS)(F:List Nat)(k:Bs)(J:k.length<=maxLen)(n:Int)(w:World)(h:z1v w N s F)(ok:s.Ok):
  Calls prog 47 #[.pointer (some ⟨N,0,none⟩),.string ⟨k.toArray⟩,.int .i64 n] w fun e w'=>e= .returned (.int .u16 (z5E s k n).1)/\z2G w N F (z5E s k n).2 w':=by
 have H:=z7 h;have OK:=z7 ok;clear h ok;cases hh:s.has k with
 | false=>
  have e:z5E s k n=(80,s):=by simp[z5E,hh]
  rw[e];clear e;go_enter func47,ntmps47;go_wp2_with fail;refine(z4M N s F k J w H.o OK.o).mono ?_;rintro e w1 U;unfold z2i at U;rw[hh,if_neg (by simp)]at U;obtain⟨rfl,rfl⟩:=U;go_wp2;go_ret;exact⟨rfl,z2G.refl H.o⟩
 | true=>
  by_cases hn:n<0\/(s.get k).length<n
  ·have e:z5E s k n=(1,s):=(by simp[z5E,hh,hn]);rw[e];clear e;go_enter func47,ntmps47;go_wp2_with fail;refine(z4M N s F k J w H.o OK.o).mono ?_;rintro e w1 U;unfold z2i at U;rw[hh,if_pos rfl]at U;obtain⟨a,m,c,rfl,Y⟩:=U;have a8:=z7 (Chg.of_below (F:=F) Y.2.2);have HL:=z7 (H.o.low Y.2.2);have hm:=Y.2.1;rw[<-hm]at hn;clear Y hm;by_cases hneg:n<0
   ·go_wp2;go_ret;exact⟨rfl,_,HL.o,a8.o⟩
   ·have aX:(m:Int)<n:=(by omega);clear hn;go_wp2;go_ret;exact⟨rfl,_,HL.o,a8.o⟩
  ·have i0:¬n<0:=fun h=>hn (.inl h);have i1:¬((s.get k).length:Int)<n:=fun h=>hn (.inr h);cases hg:s.go with
   | false=>
    have e:z5E s k n=(0,s.went):=(by unfold z5E;rw[if_neg (by simp[hh]),if_neg hn,if_neg (by simp[hg])]);rw[e];clear e hn;go_enter func47,ntmps47;go_wp2_with fail;refine(z4M N s F k J w H.o OK.o).mono ?_;rintro e w1 U;unfold z2i at U;rw[hh,if_pos rfl]at U;obtain⟨a,m,c,rfl,Y⟩:=U;have HF:=z7 Y;have i2:¬((m:Int)<n):=(by have:=Y.2.1;omega);clear Y i1;go_wp2_with fail;refine(z4L N s F w1 (H.o.low HF.o.2.2) OK.o.left0).mono ?_;rintro e w2 ⟨rfl,ht⟩;rw[hg];have HT:=z7 ht;clear ht hg;go_wp2;go_ret;obtain⟨F2,aR,a1⟩:=HT.o;exact⟨rfl,F2,aR,(Chg.of_below HF.o.2.2).trans a1⟩
   | true=>
    have e:z5E s k n=(0,{s.went with files:=z1B z2Z k ((s.get k).take n.toNat) s.files,waits:=z0Y k s.waits}):=(by unfold z5E;rw[if_neg (by simp[hh]),if_neg hn,if_pos hg]);rw[e];obtain⟨q,rfl⟩:∃q:Nat,n=q:=⟨n.toNat,by omega⟩;simp only[Int.toNat_natCast];obtain⟨s3,aJ⟩:=zN (({s.went with files:=z1B z2Z k ((s.get k).take q) s.files}:FsS));obtain⟨e1,e2,e3⟩:=z2Y s;have a0:({s.went with files:=z1B z2Z k ((s.get k).take q) s.files,waits:=z0Y k s.waits}:FsS)={s3 with waits:=z0Y k s3.waits}:=(by rw[aJ,e3]);rw[a0];have A:=z7 aJ;have E2:=z7 e2;have E3:=z7 e3;clear e a0 aJ e1 e2 e3 hn;go_enter func47,ntmps47;go_wp2_with fail;refine(z4M N s F k J w H.o OK.o).mono ?_;rintro e w1 U;unfold z2i at U;rw[hh,if_pos rfl]at U;obtain⟨a,m,c,rfl,Y⟩:=U;have HF:=z7 Y;have i2:¬((m:Int)<q):=(by have:=Y.2.1;omega);have aY:=Y.cap.1;have i3:(q:Int)<=c:=(by omega);have aZ:q<=m:=(by omega);clear Y i1;go_wp2_with fail;refine(z4L N s F w1 (H.o.low HF.o.2.2) OK.o.left0).mono ?_;rintro e w2 ⟨rfl,ht⟩;rw[hg];obtain⟨F2,aV,a1⟩:=ht;have aM:=z7 a1;obtain⟨mb,wv,lp,E,L,h2,rfl⟩:=aV;obtain⟨c0,c1,c2,c3,c4,fz⟩:=z2H h2.blk;have aA:=(Array.getElem?_eq_some_iff.1 h2.blk).1;have a7:=HF.o.stays H.o.lt a1 (M:=z1t N mb wv lp) fun k J=>z2j.2 (.inl J);have aN:E.length<maxLen:=by
     have h3:=z7K h2;rw[E2.o]at h3;have:=OK.o.few;unfold maxLen;omega
    have H2:=z7 h2;have aL:=z7 c1;have I:=z7 a7;clear a1 h2 c0 c1 c2 c3 c4 fz a7 hg;obtain⟨R,hcut⟩:∃R:Ent,Hid (R.b=(s.get k).take q/\((a=none/\q=0/\c=0/\R.v= .slice none 0 0)\/∃ad,a=some ad/\R.v= .slice (some ad) q q)/\∀W,(∀j,(Value.slice a m c).ownBlock=some j->W.heap[j]? =w2.heap[j]?)->w2.heap.size<=W.heap.size->z4P W (z1t N mb wv lp) R):=by
     cases a with
     | none=>
      rcases I.o.1.rd.2 with⟨h5,h6⟩|⟨ad,cc,h5,_⟩
      ·simp only[Ent.v,Value.slice.injEq,true_and]at h5;have aT:(s.get k).length=0:=h6;have aS:s.get k= []:=List.eq_nil_of_length_eq_zero aT;exact⟨⟨[],none,0,0⟩,z7 ⟨by rw[aS];simp,.inl ⟨rfl,by omega,by omega,rfl⟩,fun W _ _=>q2x W _⟩⟩
      ·simp[Ent.v]at h5
     | some ad=>
      refine⟨⟨(s.get k).take q,some ad,q,q⟩,z7 ⟨rfl,.inr ⟨ad,rfl,rfl⟩,fun W hW hs=>?_⟩⟩;have h6:=I.o.1;have h7:=h6.same (w':=W) hW hs;have h8:=HF.o.2.1;have h9:=h6.cap;have aO:q=((s.get k).take q).length:=(by rw[List.length_take];omega);have aU:q<=9223372036854775807:=by
       have:c<=9223372036854775807:=h9;omega
      exact⟨RdB.upto h7.rd h7.n q q q aO,aO,Nat.le_refl _,aU,fun j hj=>h7.far j hj⟩
    rcases hcut.o.2.1 with⟨rfl,rfl,rfl,hv⟩|⟨ad,rfl,hv⟩
    ·have HV:=z7 hv;clear hv;go_wp2_with fail;refine q6 9 41 (fun D v w'=>Below w2.heap.size w2 w') (Below.refl _ _).drew ?_;simp only[z0v];iterate 9 (refine q8.rd (e:=?_) (fun D v w' hD O=>?_) ?_;rotate_left;(have x1:w'.cell? ⟨N,1,none⟩=some (.map (some mb)):=(O.cell (p:=⟨N,1,none⟩) aA).trans aL.o;clear O hD;go_simp;try with_reducible rfl);go_simp)
     refine q8.fin (fun v w3 O=>?_);have HS:=z7 O;have aI:=z7 (H2.o.map.low O);have B:Hid (z4P w3 (z1t N mb wv lp) R/\∀k,R.v.ownBlock=some k->w.heap.size<=k):=z7 (by
      refine⟨hcut.o.2.2 w3 (fun j hj=>O.block j (I.o.1.far j hj).2) O.size,fun k J=>?_⟩;rw[HV.o]at J;first|(cases J;done)|exact I.o.2 k J)
     clear O;go_wp2_with (at_mapUpdate;refine z3U z4o rfl _ _ _ 74 rfl 47 underlying74 rfl aI.o aN k rfl J R (by show Value.slice none 0 0=Ent.v R;exact HV.o.symm) rfl ?_;intro w4 a5 a4 a0;have aE:=z7 a5;have aC:=z7 a4;clear a5 a4 a0);have h3:=(H2.o.low HS.o).mapChg (s':=s3) (((Chg.of_below HF.o.2.2).trans aM.o).trans (Chg.of_below HS.o)) aE.o aC.o (by rw[A.o]) (by rw[A.o]) (by rw[A.o]) (by rw[A.o,<-E2.o,<-hcut.o.1];exact z6J H2.o k R) (by rw[A.o]) (fun p hp=>by
      rcases(z2I _ _ _ _ _).1 hp with rfl|hp
      ·exact .inr ⟨B.o.1,fun k J=> .inr (B.o.2 k J)⟩
      ·exact .inl hp.1)
     obtain⟨F3,a3,a2⟩:=h3;have aB:=z7 a2;refine(z7O N s3 F3 k w4 a3 (by rw[A.o];show s.went.waits.length<=1048576;rw[E3.o];exact OK.o.waits_le)).mono ?_;rintro e w5 ⟨rfl,a6⟩;have aF:=z7 a6;clear a6 a3 a2;go_wp2;go_ret;obtain⟨F5,aH,aG⟩:=aF.o;exact⟨rfl,F5,aH,aB.o.trans aG⟩
    ·have HV:=z7 hv;clear hv;go_wp2_with fail;refine q6 9 41 (fun D v w'=>Below w2.heap.size w2 w') (Below.refl _ _).drew ?_;simp only[z0v];iterate 9 (refine q8.rd (e:=?_) (fun D v w' hD O=>?_) ?_;rotate_left;(have x1:w'.cell? ⟨N,1,none⟩=some (.map (some mb)):=(O.cell (p:=⟨N,1,none⟩) aA).trans aL.o;clear O hD;go_simp;try with_reducible rfl);go_simp)
     refine q8.fin (fun v w3 O=>?_);have HS:=z7 O;have aI:=z7 (H2.o.map.low O);have B:Hid (z4P w3 (z1t N mb wv lp) R/\∀k,R.v.ownBlock=some k->w.heap.size<=k):=z7 (by
      refine⟨hcut.o.2.2 w3 (fun j hj=>O.block j (I.o.1.far j hj).2) O.size,fun k J=>?_⟩;rw[HV.o]at J;first|(cases J;done)|exact I.o.2 k J)
     clear O;go_wp2_with (at_mapUpdate;refine z3U z4o rfl _ _ _ 74 rfl 47 underlying74 rfl aI.o aN k rfl J R (by show Value.slice (some ad) q q=Ent.v R;exact HV.o.symm) rfl ?_;intro w4 a5 a4 a0;have aE:=z7 a5;have aC:=z7 a4;clear a5 a4 a0);have h3:=(H2.o.low HS.o).mapChg (s':=s3) (((Chg.of_below HF.o.2.2).trans aM.o).trans (Chg.of_below HS.o)) aE.o aC.o (by rw[A.o]) (by rw[A.o]) (by rw[A.o]) (by rw[A.o,<-E2.o,<-hcut.o.1];exact z6J H2.o k R) (by rw[A.o]) (fun p hp=>by
      rcases(z2I _ _ _ _ _).1 hp with rfl|hp
      ·exact .inr ⟨B.o.1,fun k J=> .inr (B.o.2 k J)⟩
      ·exact .inl hp.1)
     obtain⟨F3,a3,a2⟩:=h3;have aB:=z7 a2;refine(z7O N s3 F3 k w4 a3 (by rw[A.o];show s.went.waits.length<=1048576;rw[E3.o];exact OK.o.waits_le)).mono ?_;rintro e w5 ⟨rfl,a6⟩;have aF:=z7 a6;clear a6 a3 a2;go_wp2;go_ret;obtain⟨F5,aH,aG⟩:=aF.o;exact⟨rfl,F5,aH,aB.o.trans aG⟩

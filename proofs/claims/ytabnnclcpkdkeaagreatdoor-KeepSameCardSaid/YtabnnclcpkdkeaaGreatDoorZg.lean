/- The walks of a file system's Cut. -/
import Derived.Test.YtabnnclcpkdkeaaGreatDoorZf
namespace Go.Proofs.YtabnnclcpkdkeaaGreatDoor
open Go.Proofs.Tryz
set_option linter.all false
set_option maxRecDepth 100000
set_option maxHeartbeats 0
open Go.RowKit Go.Maps
theorem z2j.nameTo{w:World}{N J g c:Nat}{s s':FsS}{U:Option Nat}{E L:List (Bs×Ent)}(h:z2j w N s J (.slice (some ⟨g,0,none⟩) L.length c) U E L){i:Nat}(hi:i<L.length)(b:Bs)(hr:s'.room=s.room)(hh:s'.halted=s.halted)(hl:s'.left=s.left)(hf:s'.files=s.files)
  (hw:s'.waits=(L.set i (b,L[i].2)).map ct):z2j (w.setCell ⟨g,i*2,none⟩ (.string ⟨b.toArray⟩)) N s' J (.slice (some ⟨g,0,none⟩) (L.set i (b,L[i].2)).length c) U E (L.set i (b,L[i].2)):=by
 obtain⟨n1,n2,n3⟩:=h.ne;have hg:=n2 g rfl;have hb:∀k,k≠g->(w.setCell ⟨g,i*2,none⟩ (.string ⟨b.toArray⟩)).heap[k]? =w.heap[k]? :=fun k R=>q7 R;have a1:(w.setCell ⟨g,i*2,none⟩ (.string ⟨b.toArray⟩)).heap.size=w.heap.size:=by simp[World.setCell]
 have hM:z0P N J (.slice (some ⟨g,0,none⟩) (L.set i (b,L[i].2)).length c) U=z0P N J (.slice (some ⟨g,0,none⟩) L.length c) U:=rfl;have A:∀p∈E++L,z3M (w.setCell ⟨g,i*2,none⟩ (.string ⟨b.toArray⟩)) (z0P N J (.slice (some ⟨g,0,none⟩) L.length c) U) p.2:=fun p I=>
  (h.ent p I).same (fun k R=>hb k fun e=>((h.ent p I).far k R).1 (by simp[z0P,Value.ownBlock,e])) (by rw[a1];exact wJ _)
 refine⟨?_,h.map.same (hb J (pz hg.2)),?_,?_,hf.trans h.files,hw,fun p I=>?_,by rw[hM];exact h.nd⟩
 .rw[hb N (pz hg.1),hr,hh,pj];exact h.blk
 .have Y:=(h.row.stored (i*2) (.string ⟨b.toArray⟩)).1;have e:(z1F L).set (i*2) (.string ⟨b.toArray⟩)=z1F (L.set i (b,L[i].2)):=by
   rw[y3M L i hi];have a0:i*2+1<(z1F L).length:=(by rw[y5e];omega);have O:(z1F L)[i*2+1]=L[i].2.v:=by
    have:=(y0E hi).2;rw[dP,wL a0]at this;exact um this
   rw[<-O];apply qj
   .simp
   intro j Y h2;simp only[ql];split
   .rename_i e1;split
    .omega
    rfl
   split
   .rename_i e1 e2;subst e2;rfl
   rfl
  rw[e]at Y;rw[pj];exact Y
 .rw[hl];exact h.left.same fun k R=>hb k fun e=>(n3 k R).2.2 (by rw[e];rfl)
 rw[hM];rcases uB.1 I with I|I
 .exact A p (uQ _ I)
 rcases eo I with I|rfl
 .exact A p (uT _ I)
 exact A L[i] (uT _ (ug hi))
theorem q3y(O:Nat)(s:FsS)(F:List Nat)(k:Bs)(N:k.length<=maxLen)(n:Int)(w:World)(h:z1L w O s F)(ok:s.Ok):
  Calls prog 60 #[.pointer (some ⟨O,0,none⟩),.string ⟨k.toArray⟩,.int .i64 n] w fun e w'=>e= .returned (.int .u16 (z5Z s k n).1)/\z2e w O F (z5Z s k n).2 w':=by
 have H:=z7 h;have OK:=z7 ok;clear h ok;cases hh:s.has k with
 | false=>
  have e:z5Z s k n=(80,s):=by simp[z5Z,hh]
  rw[e];clear e;go_enter func60,ntmps60;go_wp2_with fail;refine(z5d O s F k N w H.o OK.o).mono ?_;rintro e w1 Y;unfold z2E at Y;rw[hh,wR wH]at Y;obtain⟨rfl,rfl⟩:=Y;go_wp2;go_ret;exact⟨rfl,z2e.refl H.o⟩
 | true=>
  by_cases hn:n<0\/(s.get k).length<n
  .have e:z5Z s k n=(1,s):=(by simp[z5Z,hh,hn]);rw[e];clear e;go_enter func60,ntmps60;go_wp2_with fail;refine(z5d O s F k N w H.o OK.o).mono ?_;rintro e w1 Y;unfold z2E at Y;rw[hh,wZ rfl]at Y;obtain⟨a,m,c,rfl,hf⟩:=Y;have a8:=z7 (Chg.of_below (F:=F) hf.2.2);have HL:=z7 (H.o.low hf.2.2);have hm:=hf.2.1;rw[<-hm]at hn;clear hf hm;by_cases aX:n<0
   .go_wp2;go_ret;exact⟨rfl,_,HL.o,a8.o⟩
   have aY:(m:Int)<n:=wF;clear hn;go_wp2;go_ret;exact⟨rfl,_,HL.o,a8.o⟩
  have i0:¬n<0:=fun h=>hn (.inl h);have i1:¬((s.get k).length:Int)<n:=fun h=>hn (.inr h);cases hg:s.go with
  | false=>
   have e:z5Z s k n=(0,s.went):=(by unfold z5Z;rw[wR (by simp[hh]),wR hn,wR (by simp[hg])]);rw[e];clear e hn;go_enter func60,ntmps60;go_wp2_with fail;refine(z5d O s F k N w H.o OK.o).mono ?_;rintro e w1 Y;unfold z2E at Y;rw[hh,wZ rfl]at Y;obtain⟨a,m,c,rfl,hf⟩:=Y;have HF:=z7 hf;have i2:¬((m:Int)<n):=(by have:=hf.2.1;omega);clear hf i1;go_wp2_with fail;refine(z4f O s F w1 (H.o.low HF.o.2.2) OK.o.left0).mono ?_;rintro e w2 ⟨rfl,ht⟩;rw[hg];have HT:=z7 ht;clear ht hg;go_wp2;go_ret;obtain⟨F2,aR,a1⟩:=HT.o;exact⟨rfl,F2,aR,(Chg.of_below HF.o.2.2).trans a1⟩
  | true=>
   have e:z5Z s k n=(0,{s.went with files:=z1d z1O k ((s.get k).take n.toNat) s.files,waits:=z0O k s.waits}):=(by unfold z5Z;rw[wR (by simp[hh]),wR hn,wZ hg]);rw[e];obtain⟨q,rfl⟩:∃q:Nat,n=q:=⟨n.toNat,wF⟩;simp only[mQ];obtain⟨s3,aJ⟩:=zN (({s.went with files:=z1d z1O k ((s.get k).take q) s.files}:FsS));obtain⟨e1,e2,e3⟩:=z2T s;have a0:({s.went with files:=z1d z1O k ((s.get k).take q) s.files,waits:=z0O k s.waits}:FsS)={s3 with waits:=z0O k s3.waits}:=(by rw[aJ,e3]);rw[a0];have A:=z7 aJ;have E2:=z7 e2;have E3:=z7 e3;clear e a0 aJ e1 e2 e3 hn;go_enter func60,ntmps60;go_wp2_with fail;refine(z5d O s F k N w H.o OK.o).mono ?_;rintro e w1 Y;unfold z2E at Y;rw[hh,wZ rfl]at Y;obtain⟨a,m,c,rfl,hf⟩:=Y;have HF:=z7 hf;have i2:¬((m:Int)<q):=(by have:=hf.2.1;omega);have aZ:=hf.cap.1;have i3:(q:Int)<=c:=wF;have aD:q<=m:=wF;clear hf i1;go_wp2_with fail;refine(z4f O s F w1 (H.o.low HF.o.2.2) OK.o.left0).mono ?_;rintro e w2 ⟨rfl,ht⟩;rw[hg];obtain⟨F2,aV,a1⟩:=ht;have aM:=z7 a1;obtain⟨mb,wv,lp,E,L,h2,rfl⟩:=aV;obtain⟨c0,c1,c2,c3,c4,fz⟩:=z1N h2.blk;have aA:=(wI.1 h2.blk).1;have a7:=HF.o.stays H.o.lt a1 (M:=z0P O mb wv lp) fun k N=>z0F.2 (.inl N);have aN:E.length<maxLen:=by
    have h3:=z6U h2;rw[E2.o]at h3;have:=OK.o.few;unfold maxLen;omega
   have H2:=z7 h2;have aL:=z7 c1;have J:=z7 a7;clear a1 h2 c0 c1 c2 c3 c4 fz a7 hg;obtain⟨U,hcut⟩:∃U:Ent,Hid (U.b=(s.get k).take q/\((a=none/\q=0/\c=0/\U.v= .slice none 0 0)\/∃ad,a=some ad/\U.v= .slice (some ad) q q)/\∀W,(∀j,(Value.slice a m c).ownBlock=some j->W.heap[j]? =w2.heap[j]?)->w2.heap.size<=W.heap.size->z3M W (z0P O mb wv lp) U):=by
    cases a with
    | none=>
     rcases J.o.1.rd.2 with⟨h5,h6⟩|⟨ad,cc,h5,_⟩
     .simp only[Ent.v,wO,oP]at h5;have aT:(s.get k).length=0:=h6;have aS:s.get k= []:=wT aT;exact⟨⟨[],none,0,0⟩,z7 ⟨by rw[aS];simp,.inl ⟨rfl,wF,wF,rfl⟩,fun W _ _=>q2p W _⟩⟩
     simp[Ent.v]at h5
    | some ad=>
     refine⟨⟨(s.get k).take q,some ad,q,q⟩,z7 ⟨rfl,.inr ⟨ad,rfl,rfl⟩,fun W hW hs=>?_⟩⟩;have h6:=J.o.1;have h7:=h6.same (w':=W) hW hs;have h8:=HF.o.2.1;have h9:=h6.cap;have aO:q=((s.get k).take q).length:=(by rw[uR];omega);have aU:q<=9223372036854775807:=by
      have:c<=9223372036854775807:=h9;omega
     exact⟨RdB.upto h7.rd h7.n q q q aO,aO,wJ _,aU,fun j hj=>h7.far j hj⟩
   rcases hcut.o.2.1 with⟨rfl,rfl,rfl,hv⟩|⟨ad,rfl,hv⟩
   .have HV:=z7 hv;clear hv;go_wp2_with fail;refine q6 9 41 (fun D v w'=>Below w2.heap.size w2 w') wD.drew ?_;simp only[z0C];iterate 9 (refine q8.rd ?_ (fun D v w' hD R=>?_) ?_;rotate_left;(have x1:w'.cell? ⟨O,1,none⟩=some (.map (some mb)):=(R.cell (p:=⟨O,1,none⟩) aA).trans aL.o;clear R hD;go_simp;try rfl);go_simp)
    refine q8.fin (fun v w3 R=>?_);have HS:=z7 R;have aI:=z7 (H2.o.map.low R);have I:Hid (z3M w3 (z0P O mb wv lp) U/\∀k,U.v.ownBlock=some k->w.heap.size<=k):=z7 (by
     refine⟨hcut.o.2.2 w3 (fun j hj=>R.block j (J.o.1.far j hj).2) R.size,fun k N=>?_⟩;rw[HV.o]at N;first|(cases N;done)|exact J.o.2 k N)
    clear R;go_wp2_with (at_mapUpdate;refine z2I z2O rfl _ _ _ 82 rfl 47 underlying82 rfl aI.o aN k rfl N U (by show Value.slice none 0 0=Ent.v U;exact HV.o.symm) rfl ?_;intro w4 a5 a4 a0;have aE:=z7 a5;have aC:=z7 a4;clear a5 a4 a0);have h3:=(H2.o.low HS.o).mapChg (s':=s3) (((Chg.of_below HF.o.2.2).trans aM.o).trans (Chg.of_below HS.o)) aE.o aC.o (by rw[A.o]) (by rw[A.o]) (by rw[A.o]) (by rw[A.o,<-E2.o,<-hcut.o.1];exact z6i H2.o k U) (by rw[A.o]) (fun p hp=>by
     rcases(z2d _ _ _ _ _).1 hp with rfl|hp
     .exact .inr ⟨I.o.1,fun k N=> .inr (I.o.2 k N)⟩
     exact .inl hp.1)
    obtain⟨F3,a3,a2⟩:=h3;have aB:=z7 a2;refine(z6W O s3 F3 k w4 a3 (by rw[A.o];show s.went.waits.length<=1048576;rw[E3.o];exact OK.o.waits_le)).mono ?_;rintro e w5 ⟨rfl,a6⟩;have aF:=z7 a6;clear a6 a3 a2;go_wp2;go_ret;obtain⟨F5,aH,aG⟩:=aF.o;exact⟨rfl,F5,aH,aB.o.trans aG⟩
   have HV:=z7 hv;clear hv;go_wp2_with fail;refine q6 9 41 (fun D v w'=>Below w2.heap.size w2 w') wD.drew ?_;simp only[z0C];iterate 9 (refine q8.rd ?_ (fun D v w' hD R=>?_) ?_;rotate_left;(have x1:w'.cell? ⟨O,1,none⟩=some (.map (some mb)):=(R.cell (p:=⟨O,1,none⟩) aA).trans aL.o;clear R hD;go_simp;try rfl);go_simp)
   refine q8.fin (fun v w3 R=>?_);have HS:=z7 R;have aI:=z7 (H2.o.map.low R);have I:Hid (z3M w3 (z0P O mb wv lp) U/\∀k,U.v.ownBlock=some k->w.heap.size<=k):=z7 (by
    refine⟨hcut.o.2.2 w3 (fun j hj=>R.block j (J.o.1.far j hj).2) R.size,fun k N=>?_⟩;rw[HV.o]at N;first|(cases N;done)|exact J.o.2 k N)
   clear R;go_wp2_with (at_mapUpdate;refine z2I z2O rfl _ _ _ 82 rfl 47 underlying82 rfl aI.o aN k rfl N U (by show Value.slice (some ad) q q=Ent.v U;exact HV.o.symm) rfl ?_;intro w4 a5 a4 a0;have aE:=z7 a5;have aC:=z7 a4;clear a5 a4 a0);have h3:=(H2.o.low HS.o).mapChg (s':=s3) (((Chg.of_below HF.o.2.2).trans aM.o).trans (Chg.of_below HS.o)) aE.o aC.o (by rw[A.o]) (by rw[A.o]) (by rw[A.o]) (by rw[A.o,<-E2.o,<-hcut.o.1];exact z6i H2.o k U) (by rw[A.o]) (fun p hp=>by
    rcases(z2d _ _ _ _ _).1 hp with rfl|hp
    .exact .inr ⟨I.o.1,fun k N=> .inr (I.o.2 k N)⟩
    exact .inl hp.1)
   obtain⟨F3,a3,a2⟩:=h3;have aB:=z7 a2;refine(z6W O s3 F3 k w4 a3 (by rw[A.o];show s.went.waits.length<=1048576;rw[E3.o];exact OK.o.waits_le)).mono ?_;rintro e w5 ⟨rfl,a6⟩;have aF:=z7 a6;clear a6 a3 a2;go_wp2;go_ret;obtain⟨F5,aH,aG⟩:=aF.o;exact⟨rfl,F5,aH,aB.o.trans aG⟩

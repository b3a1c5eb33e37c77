/- The walk of a file system's Rename. -/
import Derived.Test.YtabnnclcpkdkeaaGreatDoorZg
namespace Go.Proofs.YtabnnclcpkdkeaaGreatDoor
open Go.Proofs.Tryz
set_option linter.all false
set_option maxRecDepth 100000
set_option maxHeartbeats 0
open Go.RowKit Go.Maps
def z3I(a b:Bs)(p:Bs×Ent):Bs×Ent:=if p.1=a then(b,p.2)else p
theorem q1E(a b:Bs){L:List (Bs×Ent)}{i:Nat}(A:i<L.length):(L.take (i+1)).map (z3I a b)++L.drop (i+1)=((L.take i).map (z3I a b)++L.drop i).set i (z3I a b L[i]):=by
 have I:((L.take i).map (z3I a b)).length=i:=by simp;omega
 have J:L.drop i=L[i]::L.drop (i+1):=pG A;rw[J,mn _ _ wF,I,pI,kx,uG,wL A];simp only[uV,og,uI,pQ,wj,List.singleton_append]
theorem y7w(a b:Bs)(L:List (Bs×Ent))(i:Nat):((L.take i).map (z3I a b)++L.drop i).length=L.length:=by
 simp only[wP,we,uR,uE];omega
theorem q6o(a b:Bs){L:List (Bs×Ent)}{i:Nat}(I:i<L.length)(h:i<((L.take i).map (z3I a b)++L.drop i).length):((L.take i).map (z3I a b)++L.drop i)[i]=L[i]:=by
 have A:((L.take i).map (z3I a b)).length=i:=by simp;omega
 rw[qT wF];simp only[A,pI,List.getElem_drop,dp]
theorem q6p(a b:Bs)(L:List (Bs×Ent)):(L.map (z3I a b)).map ct=(L.map ct).map fun p=>if p.1=a then(b,p.2)else p:=by
 rw[dy,dy];apply kk;intro p _;unfold z3I ct;by_cases e:p.1=a<;>simp[e]
theorem z2j.mapC{w0 w w':World}{U I:Nat}{s s':FsS}{Y:Value}{R:Option Nat}{E E' L:List (Bs×Ent)}{F0:List Nat}(h:z2j w U s I Y R E L)(J:Chg F0 (z4c (z0P U I Y R) (E++L)) w0 w)(hm:y1k w' I E')(O:w.grownBy w' (some I))
  (hr:s'.room=s.room) (hh:s'.halted=s.halted) (hl:s'.left=s.left) (hf:s'.files=E'.map ct) (hw:s'.waits=s.waits) (he:∀p∈E',p∈E\/(z3M w (z0P U I Y R) p.2/\∀k,p.2.v.ownBlock=some k->k∈F0\/w0.heap.size<=k)):
  z2j w' U s' I Y R E' L/\Chg F0 (z4c (z0P U I Y R) (E'++L)) w0 w':=by
 have h':=h.mapTo hm O hr hh hl hf hw fun p N=>(he p N).imp id (·.1);have a0:I∈z4c (z0P U I Y R) (E++L):=z0F.2 (.inl (by simp[z0P]));refine⟨h',O.os.trans J.os,O.tape.trans J.tape,O.output.trans J.output,wV J.size O.size,fun k A hn=>?_,fun k A=>?_⟩
 .rw[O.block k (wS A J.size) fun e=>?_,J.block k A hn];simp only[wK]at e;have e2:k=I:=by first|exact e|exact e.symm
  rw[e2]at hn A;rcases J.fresh I a0 with h1|h1
  .exact hn h1
  omega
 rcases z0F.1 A with A|⟨p,N,A⟩
 .exact J.fresh k (z0F.2 (.inl A))
 rcases uB.1 N with N|N
 .rcases he p N with h2|h2
  .exact J.fresh k (z0F.2 (.inr ⟨p,uQ _ h2,A⟩))
  exact h2.2 k A
 exact J.fresh k (z0F.2 (.inr ⟨p,uT _ N,A⟩))
theorem z2j.nameC{w0 w:World}{O N g n c:Nat}{s s':FsS}{J:Option Nat}{E L:List (Bs×Ent)}{Y:List Nat}(h:z2j w O s N (.slice (some ⟨g,0,none⟩) n c) J E L)(hC:Chg Y (z4c (z0P O N (.slice (some ⟨g,0,none⟩) n c) J) (E++L)) w0 w)(hn:n=L.length){i:Nat}(hi:i<L.length)(b:Bs)(hr:s'.room=s.room)(hh:s'.halted=s.halted)(hl:s'.left=s.left)(hf:s'.files=s.files)
  (hw:s'.waits=(L.set i (b,L[i].2)).map ct):z2j (w.setCell ⟨g,i*2,none⟩ (.string ⟨b.toArray⟩)) O s' N (.slice (some ⟨g,0,none⟩) n c) J E (L.set i (b,L[i].2))/\Chg Y (z4c (z0P O N (.slice (some ⟨g,0,none⟩) n c) J) (E++L.set i (b,L[i].2))) w0 (w.setCell ⟨g,i*2,none⟩ (.string ⟨b.toArray⟩)):=by
 subst hn;have h1:=h.nameTo hi b hr hh hl hf hw;rw[pj]at h1;refine⟨h1,?_⟩;have R:g∈z4c (z0P O N (.slice (some ⟨g,0,none⟩) L.length c) J) (E++L):=z0F.2 (.inl (by simp[z0P,Value.ownBlock]));refine hC.trans ⟨rfl,rfl,rfl,by simp[World.setCell],fun k A U=>?_,fun k A=> .inl ?_⟩
 .exact q7 fun e=>U (by rw[e];exact R)
 rcases z0F.1 A with A|⟨p,I,A⟩
 .exact z0F.2 (.inl A)
 rcases uB.1 I with I|I
 .exact z0F.2 (.inr ⟨p,uQ _ I,A⟩)
 rcases eo I with I|rfl
 .exact z0F.2 (.inr ⟨p,uT _ I,A⟩)
 exact z0F.2 (.inr ⟨L[i],uT _ (ug hi),A⟩)
theorem q0L(A:Nat)(s:FsS)(F:List Nat)(a b:Bs)(ha:a.length<=maxLen)(hb:b.length<=maxLen)(w:World)(h:z1L w A s F)(ok:s.Ok):
  Calls prog 128 #[.pointer (some ⟨A,0,none⟩),.string ⟨a.toArray⟩,.string ⟨b.toArray⟩] w fun e w'=>e= .returned (.int .u16 (z2p s a b).1)/\z2e w A F (z2p s a b).2 w':=by
 have H:=z7 h;have OK:=z7 ok;clear h ok;cases hh:s.has a with
 | false=>
  have e:z2p s a b=(80,s):=by simp[z2p,hh]
  rw[e];clear e;go_enter func128,ntmps128;go_wp2_with (refine(z2a A s _ a ha _ H.o).mono ?_;rintro e w' ⟨rfl,rfl⟩;rw[hh]);go_ret;exact⟨rfl,z2e.refl H.o⟩
 | true=>
  cases R:named b with
  | false=>
   have e:z2p s a b=(1,s):=(by simp[z2p,hh,R]);rw[e];clear e;go_enter func128,ntmps128;go_wp2_with (first|(refine(z2a A s _ a ha _ H.o).mono ?_;rintro e w' ⟨rfl,rfl⟩;rw[hh])|(refine(z4J b hb _).mono ?_;rintro e w' ⟨rfl,rfl⟩;rw[R]));go_ret;exact⟨rfl,z2e.refl H.o⟩
  | true=>
   by_cases a7:a=b
   .subst a7;have e:z2p s a a=(0,s):=(by simp[z2p,hh,R]);rw[e];clear e;go_enter func128,ntmps128;go_wp2_with (first|(refine(z2a A s _ a ha _ H.o).mono ?_;rintro e w' ⟨rfl,rfl⟩;rw[hh])|(refine(z4J a ha _).mono ?_;rintro e w' ⟨rfl,rfl⟩;rw[R]));go_ret;exact⟨rfl,z2e.refl H.o⟩
   have bM:(a==b)=false:=(by simpa using a7);cases hg:s.go with
   | false=>
    have e:z2p s a b=(0,s.went):=(by unfold z2p;rw[wR (by simp[hh]),wR (by simp[R]),wR a7,wR (by simp[hg])]);rw[e];clear e;go_enter func128,ntmps128;go_wp2_with (first|(refine(z2a A s _ a ha _ H.o).mono ?_;rintro e w' ⟨rfl,rfl⟩;rw[hh])|(refine(z4J b hb _).mono ?_;rintro e w' ⟨rfl,rfl⟩;rw[R]));refine(z4f A s F w H.o OK.o.left0).mono ?_;rintro e w2 ⟨rfl,ht⟩;rw[hg];have HT:=z7 ht;clear ht hg;go_wp2;go_ret;exact⟨rfl,HT.o⟩
   | true=>
    obtain⟨e1,e2,e3⟩:=z2T s;obtain⟨s3,aN⟩:=zN ({s.went with waits:=z0O b s.waits}:FsS);obtain⟨s4,aO⟩:=zN (({s3 with files:=z1d z1O b ((z0J a s.files).getD []) s.files}:FsS));obtain⟨U,a5⟩:=zN ({s4 with files:=z2x a s4.files}:FsS);have e:z2p s a b=(0,{U with waits:=U.waits.map fun p=>if p.1=a then(b,p.2)else p}):=by
     unfold z2p;rw[wR (by simp[hh]),wR (by simp[R]),wR a7,wZ hg,a5,aO,aN]
    rw[e];have aG:=z7 aN;have N:=z7 aO;have O:=z7 a5;have E2:=z7 e2;have E3:=z7 e3;clear e aN aO a5 e1 e2 e3;go_enter func128,ntmps128;go_wp2_with (first|(refine(z2a A s _ a ha _ H.o).mono ?_;rintro e w' ⟨rfl,rfl⟩;rw[hh])|(refine(z4J b hb _).mono ?_;rintro e w' ⟨rfl,rfl⟩;rw[R]));refine(z4f A s F w H.o OK.o.left0).mono ?_;rintro e w2 ⟨rfl,ht⟩;rw[hg];obtain⟨F2,b2,aU⟩:=ht;have b6:=z7 aU;have bA:=z7 b2;clear b2 aU hg;go_wp2_with fail;refine(z6W A s.went F2 b w2 bA.o (by rw[E3.o];exact OK.o.waits_le)).mono ?_;rintro e w3 ⟨rfl,bL⟩;obtain⟨F3,b3,aV⟩:=bL;have aE:({s.went with waits:=z0O b s.went.waits}:FsS)=s3:=(by rw[aG.o,E3.o]);rw[aE]at b3;have aS:=z7 (b6.o.trans aV);clear aV aE;obtain⟨mb,wv,lp,E,L,h3,rfl⟩:=b3;obtain⟨c0,c1,c2,c3,c4,fz⟩:=z1N h3.blk;have b4:=(wI.1 h3.blk).1;have b5:=z7 c1;have H3:=z7 h3;have a8:Hid (s3.files=s.files):=z7 (by rw[aG.o];exact E2.o);obtain⟨I,a0⟩:∃I,z0J a E=some I:=by
     have h1:s.has a=(z0J a E).isSome:=(by unfold FsS.has;rw[<-a8.o,z7r h3,gg]);rw[hh]at h1;exact pM.1 h1.symm
    have bB:E.length<maxLen:=by
     have h4:=z6U h3;rw[a8.o]at h4;have:=OK.o.few;unfold maxLen;omega
    have a3:=z7 (h3.ent (a,I) (uQ _ (z1q a0)));have bC:Hid ((z0J a s.files).getD []=I.b):=z7 (by rw[<-a8.o,z7r h3,a0];rfl);have b7:=z7 a0;have aT:=z7 (z1q a0);have bE:Hid (∀W,Below w3.heap.size w3 W->(Instr.lookup 82 (.map (some mb)) (.string ⟨a.toArray⟩) false).run prog W= .ok (.slice I.a I.n I.c) W):=z7 fun W hW=>
     z5T z2O 82 47 underlying82 (z6f _) rfl (H3.o.map.low hW) a ha _ b7.o _ rfl
    clear h3 c0 c1 c2 c3 c4 fz a0;go_wp2_with fail;refine q6 11 70 (fun D v w'=>Below w3.heap.size w3 w') wD.drew ?_;simp only[z0C];iterate 11 (refine q8.rd ?_ (fun D v w' hD hS=>?_) ?_;rotate_left;(have x1:w'.cell? ⟨A,1,none⟩=some (.map (some mb)):=(hS.cell (p:=⟨A,1,none⟩) b4).trans b5.o;have x2:=bE.o w' hS;clear hS hD;go_simp;try rfl);go_simp)
    refine q8.fin (fun v w4 hS=>?_);have HS:=z7 hS;have bG:=z7 (H3.o.map.low hS);clear hS;have a4:Hid (∀w5,y1k w5 mb (z1d z1O b I E)->w4.grownBy w5 (some mb)->z2j w5 A s4 mb wv lp (z1d z1O b I E) L/\Chg F (z4c (z0P A mb wv lp) (z1d z1O b I E++L)) w w5):=z7 fun w5 h1 h2=>by
     have g1:=H3.o.low HS.o;have hf:s4.files=(z1d z1O b I E).map ct:=(by rw[N.o,bC.o,<-a8.o];exact z6i H3.o b I);refine g1.mapC (aS.o.trans (Chg.of_below HS.o)) h1 h2 (by rw[N.o]) (by rw[N.o]) (by rw[N.o]) hf (by rw[N.o]) fun p hp=>?_;rcases(z2d _ _ _ _ _).1 hp with rfl|hp
     .refine .inr ⟨a3.o.same (fun k hk=>HS.o.block k (a3.o.far k hk).2) HS.o.size,fun k hk=>?_⟩;exact aS.o.fresh k (z0F.2 (.inr ⟨(a,I),uQ _ aT.o,hk⟩))
     exact .inl hp.1
    go_wp2_with (first|(at_mapUpdate;refine z2I z2O rfl _ _ _ 82 rfl 47 underlying82 rfl bG.o bB b rfl hb I rfl rfl ?_;intro w5 a9 aH a5;have aF:=z7 (a4.o w5 a9 aH);have b8:=z7 a9;have x5:=(z1N (a4.o w5 a9 aH).1.blk).2.1;clear a9 aH a5)|(at_delete;refine y1i z2O rfl _ _ 82 rfl 47 underlying82 rfl b8.o a rfl ha ?_;intro w6 b1 aW bJ;have Y:=z7 (aF.o.1.mapC (s':=U) aF.o.2 b1 aW (by rw[O.o]) (by rw[O.o]) (by rw[O.o]) (by rw[O.o];exact y2t aF.o.1 a) (by rw[O.o]) fun p hp=> .inl ((z2L _ _ _).1 hp).1);clear b1 aW bJ;have x6:=(z1N Y.o.1.blk).2.2.1;obtain⟨wa,wc,rfl⟩:=(z0d Y.o.1.row).head));obtain⟨n,R⟩:=zN L.length;rw[<-R]at Y x6;have aR:Hid (U.waits=L.map ct):=z7 Y.o.1.waits;have bF:Hid (n<=1048576):=z7 (by
     have h1:=OK.o.waits_le;have h2:=uS List.length aR.o;have h3:U.waits.length<=s.waits.length:=by
      rw[O.o,N.o,aG.o];exact ml _ _
     rw[we]at h2;omega)
    have a6:=z7 R;clear R a4;rw[<-a6.o];go_wp2;go_loopw[7,48] (fun _ iv wr=>∃(i:Nat),iv= .int .i64 i/\i<=n/\Hid (z2j wr A {U with waits:=(((L.take i).map (z3I a b)++L.drop i)).map ct} mb (.slice wa n wc) lp (z2x a (z1d z1O b I E)) ((L.take i).map (z3I a b)++L.drop i)/\Chg F (z4c (z0P A mb (.slice wa n wc) lp) (z2x a (z1d z1O b I E)++((L.take i).map (z3I a b)++L.drop i))) w wr)) (fun _ iv _=>match iv with | .int _ j=>n - j.toNat|_=>0)
    case atStart=>
     refine⟨0,rfl,uA _,z7 ?_⟩;have e1:({U with waits:=(((L.take 0).map (z3I a b)++L.drop 0)).map ct}:FsS)=U:=by
      simp only[iK,pQ,kQ,uW];rw[<-aR.o]
     rw[e1];simpa using Y.o
    case round=>
     obtain⟨i,rfl,hi,hr⟩:=hrel;clear x6;by_cases aJ:i<n
     .have i0:(i:Int)<n:=wF;have aI:i<L.length:=(by rw[<-a6.o];exact aJ);obtain⟨M,hM⟩:=zN ((L.take i).map (z3I a b)++L.drop i);rw[<-hM]at hr;have aY:M.length=L.length:=(by rw[hM];exact y7w a b L i);have aX:M[i]'wF=L[i]:=(by subst hM;exact q6o a b aI _);have aZ:(L.take (i+1)).map (z3I a b)++L.drop (i+1)=M.set i (z3I a b L[i]):=(by rw[hM];exact q1E a b aI);have aC:=hr.o.1;have bI:∃m,m=M.length/\m=n:=⟨_,rfl,by rw[aY];exact a6.o.symm⟩;obtain⟨m,aL,aM⟩:=bI;have aD:z2j wr A {U with waits:=M.map ct} mb (.slice wa M.length wc) lp (z2x a (z1d z1O b I E)) M:=(by rw[<-aL,aM];exact aC);obtain⟨g,pk,pb,pa,pn,pc,rfl,aB,a1,a2,hg,bO⟩:=aD.at (i:=i) wF;have b0:L[i]=(pk,⟨pb,pa,pn,pc⟩):=aX.symm.trans aB;have r2:=(z1N aC.blk).2.2.1;have bR:IntKind.i64.wrap ((i:Int)+1)=(i:Int)+1:=wrap64 wF (by have:=bF.o;omega);have J:Hid (∀W,(pk≠a/\W=wr)\/(pk=a/\W=wr.setCell ⟨g,i*2,none⟩ (.string ⟨b.toArray⟩))->z2j W A {U with waits:=(((L.take (i+1)).map (z3I a b)++L.drop (i+1))).map ct} mb (.slice (some ⟨g,0,none⟩) n wc) lp (z2x a (z1d z1O b I E)) ((L.take (i+1)).map (z3I a b)++L.drop (i+1))/\Chg F (z4c (z0P A mb (.slice (some ⟨g,0,none⟩) n wc) lp) (z2x a (z1d z1O b I E)++((L.take (i+1)).map (z3I a b)++L.drop (i+1)))) w W):=z7 fun W hW=>by
       rw[aZ,b0];rcases hW with⟨bH,rfl⟩|⟨rfl,rfl⟩
       .have e1:z3I a b (pk,⟨pb,pa,pn,pc⟩)=M[i]'wF:=(by rw[aB];unfold z3I;rw[wR bH]);rw[e1,iu];exact hr.o
       have e1:z3I pk b (pk,⟨pb,pa,pn,pc⟩)=(b,(M[i]'wF).2):=(by rw[aB];unfold z3I;rw[wZ rfl]);rw[e1];exact aC.nameC hr.o.2 (by rw[<-aM,aL]) wF b rfl rfl rfl rfl rfl
      clear aB b0 aD hr aC aL aM aZ aX aY hM aI;by_cases aA:pk=a
      .subst aA;go_wp2;refine⟨⟨i+1,rfl,aJ,z7 (J.o _ (.inr ⟨rfl,rfl⟩))⟩,?_⟩;show n - ((i:Int)+1).toNat<n - ((i:Nat):Int).toNat;omega
      have bN:(pk==a)=false:=(by simpa using aA);have b9:=z7 aA;clear aA;go_wp2;refine⟨⟨i+1,rfl,aJ,z7 (J.o _ (.inl ⟨b9.o,rfl⟩))⟩,?_⟩;show n - ((i:Int)+1).toNat<n - ((i:Nat):Int).toNat;omega
     obtain rfl:i=n:=wF
     have J:z2e w A F {U with waits:=U.waits.map fun p=>if p.1=a then(b,p.2)else p} wr:=by
      have h1:=hr.o;rw[a6.o,ui,qi,ue,q6p,<-aR.o]at h1;exact⟨_,⟨_,_,_,_,_,h1.1,rfl⟩,h1.2⟩
     have HE:=z7 J;clear J hr;go_wp2;go_ret;exact⟨rfl,HE.o⟩

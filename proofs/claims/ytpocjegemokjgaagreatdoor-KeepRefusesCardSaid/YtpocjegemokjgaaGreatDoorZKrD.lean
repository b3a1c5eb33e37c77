/-
  The walk of the law KeepRefuses.
-/
import Derived.Test.YtpocjegemokjgaaGreatDoorZKrMKnBKfBKfC
namespace Go.Proofs.YtpocjegemokjgaaGreatDoor
open Go.Proofs.Tryz
set_option linter.all false
set_option maxRecDepth 100000
set_option maxHeartbeats 12800000
open Go.RowKit Go.Maps
theorem y0n(size:Int)(hs: -9223372036854775808<=size/\size<=9223372036854775807)(a:Option Addr)(n c:Nat)(L:List LOp)(hL:∀o∈L,o.Ok)(ga:Option Addr)(gn gc:Nat)(G:List Bs)(w:World)(h:y1I w a n L)(hG:z7U w (.slice ga gn gc) G)(eW:z1u w):
  Calls prog 3 #[.int .i64 size,.slice a n c,.slice ga gn gc] w fun e w'=>e= .returned (.bool true)/\Below w.heap.size w w':=by
 have eG:=z7 (fun w' h=>q2d w' h);have bG:=z7 eW;have H:=z7 h;have iS:=z7 hL;have HG:=z7 hG;have jD:=eW.lt;have dX:gn=G.length:=by
  obtain⟨_,_,e⟩:=hG.head;simp only[Value.slice.injEq]at e;exact e.2.1
 have iM:=z7 dX;clear h eW hL hG dX;by_cases h40:40<n
 ·have d1:decide ((40:Int)<(n:Int))=true:=decide_eq_true (by omega);go_enter func3,ntmps3;go_wp2_with fail;refine(eG.o w bG.o).mono ?_;rintro e w1 ⟨rfl,aN⟩;have aT:=z7 aN;clear aN;go_wp2;go_ret;exact⟨rfl,aT.o⟩
 have d1:decide ((40:Int)<(n:Int))=false:=decide_eq_false (by omega);by_cases h20:20<gn
 ·have d2:decide ((20:Int)<(gn:Int))=true:=decide_eq_true (by omega);go_enter func3,ntmps3;go_wp2_with fail;refine(eG.o w bG.o).mono ?_;rintro e w1 ⟨rfl,aN⟩;have aT:=z7 aN;clear aN;go_wp2;go_ret;exact⟨rfl,aT.o⟩
 ·have d2:decide ((20:Int)<(gn:Int))=false:=decide_eq_false (by omega);go_enter func3,ntmps3;go_wp2_with fail;refine(eG.o w bG.o).mono ?_;rintro e w1 ⟨rfl,aN⟩;have dL:=z7 (q4L size hs a n c L iS.o (by omega) w1 (H.o.low aN) (bG.o.low aN));have aT:=z7 aN;clear aN;go_wp2_with fail;refine dL.o.mono ?_;rintro e W1 ⟨iW,X,a1,m1,c1,rfl,gA,gE,gB⟩;have eH:=z7 gA;have bN:=z7 gE;have bJ:=z7 gB;have gF:Below W1.heap.size W1 (W1.alloc (.cells (y7h (64:Nat) 9000 (24:Nat) 500 10 1048576) 30)):=q5 _ _;have fH:=z7 gF;clear gA gE gB gF dL;obtain⟨O,cX⟩:=zN (W1.alloc (.cells (y7h (64:Nat) 9000 (24:Nat) 500 10 1048576) 30));go_upto_region 5 with fail
  refine z0G cX ?_;have bD:O.heap[W1.heap.size]? =some (.cells (y7h (64:Nat) 9000 (24:Nat) 500 10 1048576) 30 (0,0)):=by rw[cX];exact j8 _ _
  have eZ:Below W1.heap.size W1 O:=by rw[cX];exact fH.o
  obtain⟨cb,dU⟩:=zN W1.heap.size;rw[<-dU]at bD ⊢;have iF:=z7 bD;have jV:=z7 eZ;have j3:cb<O.heap.size:=(Array.getElem?_eq_some_iff.1 bD).1;have bS:=eH.o.next eZ
  have aC:=z7 bS;have bU:Below w.heap.size w O:=aT.o.trans (bS.low.mono aT.o.size);have a4:=z7 bU;have dV:=bG.o.low bU;have dG:=z7 dV;have dM:=z7 (q0t 1048576 (by omega) (by omega) O);obtain⟨c0,c1,c2,c3,c4,c5,cf⟩:=y6D bD;clear bD eZ cX dU bS bU dV fH;go_wp2_with fail;refine dM.o.mono ?_;rintro e w3 ⟨sb,F,rfl,hF,bO,cY⟩;have c6:=(cY.block cb j3).trans iF.o;have fD:=z7 (y8y sb (z6U 1048576) F 64 24 9000 500 10 1048576 ⟨by omega,by omega,by omega,by omega,by omega,by omega⟩ (by rw[y3D]) (by rw[y3D]) w3 hF (y5f (by omega) (by omega)) (dG.o.low cY) (fun hm=>by have:=bO _ hm;have:=dG.o.lt;omega));have dJ:=z7 bO;have eB:=z7 cY;have dF:=z7 c6;clear hF bO cY dM c0 c1 c2 c3 c4 c5 cf c6;go_wp2_with (refine z0J rfl 30 _ rfl cb 0 rfl (y7h (64:Nat) 9000 (24:Nat) 500 10 1048576) (z1X dF.o) q4c q2S ?_);refine fD.o.mono ?_;rintro e w4 ⟨kb,rb,a0,tb,mb,B,E,S,F2,rfl,hK,hC,hS,jG,jC,jJ,j2⟩;rw[y3D]at hK;simp only at hK;have gG:Below O.heap.size O w4:=eB.o.trans (hC.below eB.o.size dJ.o);have hU:∀x,KU rb S F2 x->O.heap.size<=x:=fun x Y=>by
   have k1:=eB.o.size;rcases Y with h|h|h
   ·omega
   ·have:=hS x h;omega
   ·rcases hC.fresh x h with e|e
    ·exact dJ.o x e
    ·omega
  have bT:∀id,(z0g (y1z size L).1 id).Ok:=fun id=>by
   obtain⟨mb,E,S,h1, -, -⟩:=eH.o.bk;exact h1.serOk id
  obtain⟨ab,eX⟩:=zN ((y1z size L).1);rw[<-eX]at aC bJ bT;obtain⟨ids,aX⟩:=zN (X.map z4c.id);have cO:y1q O w4 (fun x=>O.heap.size<=x) kb a0 sb ab ids 0 0:=⟨gG,_,_,_,⟨rb,tb,mb,B,E,S,F2,hK,rfl⟩,hU,z6V.start ab ids,rfl,rfl,rfl,Nat.zero_le _⟩;obtain⟨aH,f3⟩:=q1E size L;rw[<-eX]at aH;have cS:=z7 cO;have aR:=z7 bT;have iR:=z7 aH;have dZ:∀x∈X,x.id<64:=fun x Y=>y8A L (⟨64,z3E size, []⟩, []) (fun p hp=>by cases hp) (x.id,x.xs) (by
   have I:=bN.o;unfold y1z at I;rw[<-I];exact List.mem_map.2 ⟨x,Y,rfl⟩)
  have bI:=z7 dZ;have jT:m1<=40:=by
   have h1:=congrArg List.length bN.o;rw[List.length_map]at h1;have h2:=aC.o.len;have h3:=H.o.1;omega
  have i0:ids.Pairwise (·≠·):=by
   rw[aX,List.pairwise_map];have I:=aH.nd;rw[<-bN.o,List.pairwise_map]at I;exact I
  have e5:∀x∈X,z2f (z0g ab x.id)=x.xs/\x.xs≠ []:=fun x Y=>aH.eq (x.id,x.xs) (by rw[<-bN.o];exact List.mem_map.2 ⟨x,Y,rfl⟩);have fZ:=z7 i0;have dN:=z7 e5;have bH:=z7 aX;have k0:=(z1O aC.o.row).2;have fY:=z7 aC.o.len;have gY:ids.length=m1:=by rw[aX,List.length_map];exact aC.o.len.symm
  have fT:=z7 gY;clear cO bT gG hU hK hC hS jG jC jJ j2 fD dF eX eH aH dZ i0 e5 aX gY f3;go_wp2_with fail;go_loopw[13] (fun iv wr=>∃i:Nat,iv= .int .i64 i/\i<=m1/\Hid (y1q O wr (fun x=>O.heap.size<=x) kb a0 sb ab ids i 0)) (fun iv _=>match iv with | .int _ y=>m1 - y.toNat|_=>0)
  case atStart=>exact⟨0,rfl,Nat.zero_le _,cS⟩
  case round=>
   obtain⟨i,rfl,hi,cT⟩:=hrel;by_cases him:i<m1
   ·have jM:IntKind.i64.wrap ((i:Int)+1)=((i+1:Nat):Int):=z0n (by omega) (by omega);have d3:decide ((i:Int)<(m1:Int))=true:=decide_eq_true (by omega);obtain⟨⟨id,xa,xc,xs⟩,Y⟩:∃x,X[i]? =some x:=⟨_,List.getElem?_eq_getElem (by have:=fY.o;omega)⟩;have b4:id<64:=bI.o _ (List.mem_of_getElem? Y);have dY:ids[i]? =some id:=(by rw[bH.o,List.getElem?_map,Y];rfl);have e6:z2f (z0g ab id)≠ []:=by
     obtain⟨h1,h2⟩:=dN.o _ (List.mem_of_getElem? Y);simp only at h1 h2;rw[h1];exact h2
    have a7:=aC.o.next cT.o.1
    obtain⟨j1,rfl,b1⟩:=a7.at' Y;obtain⟨fE,eU,eV,eY⟩:=b1 wr (Below.refl _ _);have cW:(0:Int)<=i/\(i:Int)<m1:=(by omega);have j6:(z0g ab id).done.length<=40:=(by have:=bJ.o.few id;have:=H.o.1;omega);obtain⟨jN,EA,SA,dT, -, -⟩:=a7.bk;have fL:=z7 (q0g iW jN w1.heap.size EA ab SA id (by omega) (by omega) wr dT);have gL:=y2c e6;have gM:=(z9K (z0g ab id)).2;have fM:=z7 (z9T (aR.o id) id).1;have fJ:=z7 (z9T (aR.o id) id).2;obtain⟨N,hN⟩:=zN (z3o (z0g ab id));rw[<-hN]at gL gM fM fJ;have HN:=z7 hN;have b7:=z7 dY;have fV:=z7 cT.o;clear Y a7 b1 eV e6 dT hN dY;go_wp2_with fail;refine fL.o.mono ?_;rintro e w5 ⟨ca,cn,cc,fs,rfl,aI,cJ,gH⟩;have j4:cn=N:=by
     have I:=congrArg List.length cJ;rw[List.length_map,fM.o]at I;have:=aI.len;omega
    subst j4;obtain⟨g,cap,hv, -⟩:=z2z aI.row (fun e=>by simp only[Value.slice.injEq]at e;omega);simp only[Value.slice.injEq,true_and]at hv;obtain⟨rfl, -⟩:=hv;have bL:=z7 (z3D.start aI);have fX:=z7 cJ;have fU:=z7 (fV.o.inner gH);have iJ:=z7 aI.len;have fO:=z7 (fun x (Y:x∈fs)=>(aI.each x Y).bits);obtain⟨N0,eS⟩:=zN wr.heap.size;rw[<-eS]at bL fU;have jR:O.heap.size<=N0:=(by rw[eS];exact fV.o.1.size);have jS:=z1O aI.row;clear aI cJ gH eU fE eY cW fL eS;go_wp2_with fail;go_loopw[15] (fun nv w9=>∃k:Nat,nv= .int .i64 k/\k<=cn/\Hid (y1q O w9 (fun x=>O.heap.size<=x/\(x<N0\/w5.heap.size<=x)) kb a0 sb ab ids i k)/\Hid (z3D N0 w5.heap.size w9 g fs k)/\w5.heap.size<=w9.heap.size) (fun nv _=>match nv with | .int _ y=>cn - y.toNat|_=>0)
    case atStart=>exact⟨0,rfl,Nat.zero_le _,fU,bL,Nat.le_refl _⟩
    case round=>
     obtain⟨k,rfl,hk,g9,bA,k2⟩:=hrel;have k5:IntKind.i64.wrap ((k:Int)+1)=((k+1:Nat):Int):=z0n (by omega) (by omega);by_cases hkc:k<cn
     ·have d4:decide ((k:Int)<(cn:Int))=true:=decide_eq_true (by omega);have cW:(0:Int)<=k/\(k:Int)<cn:=(by omega);obtain⟨x,Y⟩:∃x,fs[k]? =some x:=⟨_,List.getElem?_eq_getElem (by have:=iJ.o;omega)⟩;obtain⟨p,cl,hp,d0,gN⟩:=fJ.o k hkc;have fB:x.r=z5x id k (p,cl):=by
       have I:(fs.map FrC.r)[k]? =some x.r:=(by rw[List.getElem?_map,Y];rfl);rw[fX.o,gN]at I;exact(Option.some.inj I).symm
      obtain⟨aB,aZ,s,U,⟨rb,tb,mb,B,E,S,F,a5,rfl⟩,hU,A,aJ,J,aA,f8⟩:=g9.o;have aO:=List.mem_of_getElem? Y;have d9:=z6v (aR.o id) hp;have i1:=d9.bits;have jF:=d9.len;have a6:z0R x.b p.l:=(by have I:=fO.o x aO;rw[fB]at I;exact I);have i9:=a6.len;have cH:∀q∈aZ.all,0<=q.1/\q.1<64:=fun q hq=>by
       obtain⟨j,y,e,hj, -⟩:=A.keys q hq;have hy:y<64:=by
        have I:=List.mem_of_getElem? hj;rw[bH.o]at I;obtain⟨z,hz,rfl⟩:=List.mem_map.1 I;exact bI.o z hz
       omega
      have bB:=q4f (aR.o id) (bJ.o.rise id) (by rw[<-HN.o];exact hkc) (A.at_ id b7.o) hp d0 (q4k aZ (y3o a5.bk) cH A.most b4) (by rw[A.size];exact Nat.le_refl _) x.b a6;have b5:=A.step fZ.o b7.o;obtain⟨f,hf⟩:=zN (z3s id k p cl x.b);rw[<-hf]at bB;have cF:f.series=id:=(by rw[hf];rfl);have cE:f.Ok:=by
       rw[hf];exact⟨(by decide:2<256),(by decide:0<4294967296),(by show id<_;omega),(by show k<_;omega),(by decide:0<4294967296),(by decide:0<4294967296),(by show p.st.length<_;omega),(by decide:0<18446744073709551616),(by show _<=((p.l.length:Nat):Int);omega),(by show((p.l.length:Nat):Int)<=_;omega)⟩
      have i3:0<p.l.length:=by
       rcases Nat.eq_zero_or_pos p.l.length with h0|h0
       ·exfalso
        have I:=d9.rd;rw[List.eq_nil_of_length_eq_zero h0]at I;have h8:z5o []=some []:=rfl;rw[h8]at I;rw[<-Option.some.inj I]at d0;exact absurd d0 (by simp)
       ·exact h0
      have b3:z1D f=true:=by
       rw[hf];show z4t (z3s id k p cl x.b)=true;unfold z4t z3s;simp only;rw[z2q a6];simp only[Bool.true_and,Bool.and_eq_true,decide_eq_true_eq];omega
      have gT:f.n=((p.l.length:Nat):Int):=(by rw[hf];rfl);have b8:z0R f.b p.l:=(by rw[hf];exact a6);have cD:f.b=x.b:=(by rw[hf];rfl);have gS:f.kind≠1:=(by rw[hf];show 2≠1;decide);obtain⟨C,hC⟩:=zN (j9 f (.slice x.a x.b.length x.c));have g5:C.size=11:=(by rw[hC];rfl);have gU:frV f (.slice x.a x.b.length x.c)= .agg C:=(by rw[hC];rfl);have jA:(prog.info? 51).map (·.size)=some C.size:=(by rw[g5];exact z0B);have gO:∀(t:Nat) (v:Value),0<t->C[t]? =some v->x.cells[t]? =some v:=fun t v ht hv=>by
       rw[hC,hf]at hv;unfold FrC.cells;rw[fB,Array.getElem?_toList];rw[<-hv]
       match t,ht with
       | t+1,_=>rfl
      have g4:C[0]? =some (.int .u8 2):=(by rw[hC,hf];rfl);obtain⟨lg,jB,bW⟩:=bA.o.now Y;obtain⟨cV,eN,eO⟩:=bA.o.set Y (.int .u8 2);have f7:∃u,wr.cell? ⟨g,k*11,none⟩=some u:=⟨_,bW 0 _ (List.getElem?_eq_getElem (by rw[x.cells_len];omega))⟩;obtain⟨u0,f7⟩:=f7;have o6:z0t (fun b=>b=g) wr (wr.setCell ⟨g,k*11,none⟩ (.int .u8 2)):=z0t.setCell wr _ rfl;obtain⟨W6,eT⟩:=zN (wr.setCell ⟨g,k*11,none⟩ (.int .u8 2));rw[<-eT]at cV eN eO o6;have gI:∀(t:Nat) (v:Value),C[t]? =some v->W6.cell? ⟨g,k*11+t,none⟩=some v:=fun t v hv=>by
       match t with
       | 0=>
        rw[g4]at hv;cases hv;exact eN
       | t+1=>exact eO (t+1) v (by omega) (gO (t+1) v (by omega) hv)
      have i8:RdB W6 (.slice x.a f.b.length x.c) f.b:=(by rw[cD];exact z0e (cV.row x aO));have c8:=z7e f x.a x.c W6 cE (by rw[cD];omega) i8 b3;rw[cD,gU]at c8;obtain⟨jX,gV, -⟩:=bA.o.blk;have g7:KIn W6 kb rb a0 tb mb sb B E S F aZ 0 s:=a5.other o6 gV (fun hu=>by have h1:=hU g hu;have h2:=bA.o.rng;omega) (by have h2:=bA.o.rng;have h3:=a4.o.size;omega);have jW:=bA.o.rng;have dS:Below O.heap.size O W6:=aB.trans (o6.below aB.size (fun b hb=>by omega));have bC:s.used+480<=s.room:=(by rw[aJ];omega);have fA:=q3m (y7N a5.fs) aA J (z3y f p.l) bB.2.2 bC;obtain⟨⟨e1,s1⟩,hw⟩:∃r,r=wrS s (z3y f p.l):=⟨_,rfl⟩;obtain⟨fC,dD⟩:=zN (aZ.set id (z2u (z0g ab id) (k+1)));rw[<-dD]at bB b5;rw[<-hw]at fA;simp only at fA;obtain⟨rfl,jL,i4,gW,gX⟩:=fA;have i7:tkS aZ 0 s f p.l=(0, [z6N (z5u fC 4 0 f.series)],fC,0,s1):=by
       unfold tkS;rw[bB.1,<-hw];simp only;rw[if_neg (by simp),if_neg (by simp),if_neg (by simp),bB.2.1]
      have cB:(z0g aZ id).done.length<=40:=by
       rw[A.at_ id b7.o];show(List.take k _).length<=40;rw[List.length_take];omega
      have e7:s1.used<=480*(42*i+(k+1)):=(by omega);have e3:=i4.trans aJ;have dH:=z7 c8;have iO:=z7 g7;have iU:=z7 cV;have dE:=z7 dS;have iC:=z7 gI;have g2:=z7 i7;have eJ:=z7 b5;have HU:=z7 hU;have fR:=z7 cE;have eE:=z7 b3;have iL:=z7 gT;have iH:=z7 b8;have iI:=z7 gS;have eF:=z7 cF;have iX:=z7 (⟨e3,gW,gX,e7⟩:s1.room=1048576/\s1.left=none/\s1.has z1R=true/\s1.used<=480*(42*i+(k+1)));have b6:=z7 cB;have iT:=z7 o6.size;have jU:p.l.length<=3504:=i1;clear Y hp d0 gN fB aB a5 hU A aJ J aA f8 aO d9 i1 jF a6 i9 cH bB b5 hf cF cE i3 b3 gT b8 cD gS hC gU gO g4 bW cV eN eO o6 gI i8 c8 gV g7 dS bC hw dD jL i4 gW gX i7 cB e7 e3;go_upto_region 19 with fail
      refine z0G eT ?_;clear lg jB f7 eT;go_wp2_with (refine z0J rfl 51 _ rfl g (k*11) rfl C iC.o z1y jA ?_);refine dH.o.mono ?_;rintro e fF ⟨ea,em,ec,rfl,⟨f0,aY⟩,bV⟩;have dO:=iO.o.low bV;have bZ:=z1O aY;have eA:RdB fF (.slice ea em ec) (z0E f):=(by have I:=z0e aY;unfold RdB;rw[<-f0];exact I);have c7:=y3k fR.o eE.o;have hT:=y0A kb rb a0 tb mb sb B 0 E S F aZ s ea em ec (z0E f) f p.l f0 bZ.1 bZ.2 c7.1 c7.2 iI.o iL.o iH.o (by omega) (by omega) (by rw[eF.o];have:=b6.o;omega) fF dO eA;rw[g2.o]at hT;have HT:=z7 hT;have bE:=z7 bV;clear dO bZ eA c7 hT f0 aY bV dH;go_wp2_with fail;refine HT.o.mono ?_;rintro e aM ⟨eM,a2,a8,aS,⟨jE, -⟩|⟨-,oa,om,oc,ox,rfl, -⟩⟩
      ·exact absurd rfl jE
      simp only at a2;have jH:=bE.o.size;have aV:Below O.heap.size O fF:=dE.o.trans (bE.o.mono dE.o.size);have a3:Below O.heap.size O aM:=aV.trans (a8.below aV.size (fun x Y=>(HU.o x Y).1));have jI:=a8.size;have jZ:=iT.o;have aL:y1q O aM (fun x=>O.heap.size<=x/\(x<N0\/w5.heap.size<=x)) kb a0 sb ab ids i (k+1):=⟨a3,fC,s1,eM,a2,fun x Y=>by
       rcases aS x Y with I|I
       ·exact HU.o x I
       ·have h8:=aV.size;exact⟨by omega,.inr (by omega)⟩,eJ.o,iX.o⟩
      have b9:z3D N0 w5.heap.size aM g fs (k+1):=iU.o.keep fun b h1 h2=>(a8.block b (by omega) (fun hu=>by have h3:=(HU.o b hu).2;omega)).trans (bE.o.block b (by omega));have b2:=z7 aL;have cR:=z7 b9;have f6:w5.heap.size<=aM.heap.size:=by omega
      clear a2 a8 aS aV a3 aL b9 HT;go_wp2;exact⟨⟨k+1,rfl,by omega,b2,cR,f6⟩,by show cn - ((k+1:Nat):Int).toNat<cn - (k:Int).toNat;omega⟩
     ·have d4:decide ((k:Int)<(cn:Int))=false:=decide_eq_false (by omega);have gD:k=cn:=(by omega);subst gD;have cO:y1q O wr (fun x=>O.heap.size<=x) kb a0 sb ab ids (i+1) 0:=by
       obtain⟨h1,aZ,s,U,h2,h3,h4,h5,h6,h7,h8⟩:=g9.o;exact⟨h1,aZ,s,U,h2,fun x Y=>(h3 x Y).1,h4.next aR.o b7.o HN.o (by omega),h5,h6,h7,by omega⟩
      have cS:=z7 cO;clear cO;go_wp2;exact⟨⟨i+1,rfl,by omega,cS⟩,by show m1 - ((i+1:Nat):Int).toNat<m1 - (i:Int).toNat;omega⟩
   ·have d3:decide ((i:Int)<(m1:Int))=false:=decide_eq_false (by omega);have gZ:m1=i:=(by omega);subst gZ;obtain⟨aB,kF,s,U,eR,hU,A,aJ,J,aA, -⟩:=cT.o;rw[<-fT.o]at A;have cC:=A.fin fZ.o (by
     obtain⟨rb,tb,mb,B,E,S,F,hK, -⟩:=eR;exact y3o hK.bk)
    have dI:=z7 cC;have iN:Hid (y9U O wr kb a0 sb kF):=z7 ⟨aB,0,s,U,eR,hU,by omega,J,aA⟩;have cA:∀id,(z0g kF id).done.length<=40:=fun id=>by
     by_cases hid:id∈ids
     ·rw[cC.1 id hid];have:=bJ.o.few id;have:=H.o.1;omega
     ·have h0:z0P (id:Int) kF.all=none:=by
       rcases ho:z0P (id:Int) kF.all with _|v
       ·rfl
       ·exfalso
        obtain⟨j,y,e2,hj, -⟩:=A.keys _ (z1z ho);simp only at e2;have:y=id:=(by omega);exact hid (this▸List.mem_of_getElem? hj)
      unfold z0g;rw[h0];exact Nat.zero_le _
    have b6:=z7 cA;clear aB eR hU A aJ J aA cC cA cT cS aR bJ;go_wp2_with fail;go_loopw[18] (fun iv wr=>∃j:Nat,iv= .int .i64 j/\j<=gn/\Hid (y9U O wr kb a0 sb kF)) (fun iv _=>match iv with | .int _ y=>gn - y.toNat|_=>0)
    case atStart=>exact⟨0,rfl,Nat.zero_le _,iN⟩
    case round=>
     obtain⟨j,rfl,hj,bR⟩:=hrel;by_cases hjg:j<gn
     ·have k4:IntKind.i64.wrap ((j:Int)+1)=((j+1:Nat):Int):=z0n (by omega) (by omega);have d4:decide ((j:Int)<(gn:Int))=true:=decide_eq_true (by omega);have cW:(0:Int)<=j/\(j:Int)<gn:=(by omega);have cZ:Below w.heap.size w wr:=a4.o.trans (bR.o.1.mono a4.o.size);have jO:=z7 (fun w' (hb:Below wr.heap.size wr w')=>(HG.o.low (cZ.trans (hb.mono cZ.size))));obtain⟨gb,go,jY,pa,pn,pc,e9,gJ,i5,dW,i2,f4,cG⟩:=(HG.o.low cZ).at (k:=j) (by have:=iM.o;omega);simp only[Value.slice.injEq]at e9;obtain⟨rfl, -, -⟩:=e9;have iE:=z7 (fun w' (hb:Below wr.heap.size wr w')=>(⟨(hb.cell (p:=⟨gb,go+j,none⟩) cG).trans gJ,Nat.lt_of_lt_of_le cG hb.size⟩:w'.cell? ⟨gb,go+j,none⟩=some (.slice pa pn pc)/\gb<w'.heap.size));have iV:=z7 i5;have fW:=z7 dW;clear cZ i5 dW;by_cases hlen:4200<pn
      ·have d5:decide ((4200:Int)<(pn:Int))=true:=decide_eq_true (by omega);go_wp2;go_ret;exact⟨rfl,a4.o.trans (bR.o.1.mono a4.o.size)⟩
      ·have d5:decide ((4200:Int)<(pn:Int))=false:=decide_eq_false (by omega);obtain⟨aB,ep,s,U,⟨rb,tb,mb,B,E,S,F,a5,rfl⟩,hU,j5,J,aA⟩:=bR.o;have bM:=z7 (z9j sb s F wr a5.fs a5.ok);have aU:=z7 a5;have e8:∀x,x.length<=600->(wrS s x).1≠0->(wrS s x).2=s:=fun x Y h0=>by
        rcases q4K a5.ok (y7N a5.fs) aA J x Y with⟨h1, -⟩|⟨-,h2⟩
        ·exact absurd h1 h0
        ·rw[h2]
       have eL:=z7 (fun w' (hb:Below wr.heap.size wr w')=>y6K kb rb a0 tb mb sb B ep E S F kF s pa pn pc _ fW.o (by omega) i2 f4 j5 (fun id=>by have:=b6.o id;omega) e8 w' (aU.o.low hb) (iV.o.low hb));have HU:=z7 hU;have aD:=z7 aB;obtain⟨us,bC⟩:=zN s.used;have iD:=z7 bC;rw[<-bC]at bM;have d7:((us:Int) !=(us:Int))=false:=(by simp);clear a5 hU aB e8 bC;go_wp2_with fail;refine bM.o.mono ?_;rintro e fG ⟨rfl,bX⟩;have dC:=z7 bX;obtain⟨gJ,cG⟩:=iE.o fG bX;clear bX;go_wp2_with fail;refine(eL.o fG dC.o).mono ?_;rintro e aM ⟨R,⟨eM,a2,a8,aS,eD⟩,hR⟩;have aF:Below O.heap.size O fG:=aD.o.trans (dC.o.mono aD.o.size);have a3:Below O.heap.size O aM:=aF.trans (a8.below aF.size HU.o);rcases eD with⟨dA,rfl⟩|⟨dA,oa,om,oc,ox,rfl, -⟩
       ·obtain⟨j0,gR,gC⟩:=hR dA;rw[gC]at a2;simp only at a2;obtain⟨r0,e0⟩:=zN (R.1);rw[<-e0]at dA ⊢;have d6:(r0==0)=false:=beq_false_of_ne dA;have aL:y9U O aM kb a0 sb kF:=⟨a3,j0,s,eM,a2,fun x Y=>by
         rcases aS x Y with I|I
         ·exact HU.o x I
         ·have:=aF.size;omega,gR,J,aA⟩
        have b2:=z7 aL;have dR:Calls prog 11 #[.pointer (some ⟨sb,0,none⟩)] aM fun e dB=>e= .returned (.int .i64 (us:Nat))/\Below aM.heap.size aM dB:=by
         obtain⟨k7,k8,k6,B9,E9,S9,F9,g8, -⟩:=a2;have I:=z9j sb s F9 aM g8.fs g8.ok;rw[<-iD.o]at I;exact I
        have g3:=z7 dR;clear a2 a8 aS aF a3 aL dR hR gC e0 eL aU;go_wp2_with fail;refine g3.o.mono ?_;rintro e iA ⟨rfl,aW⟩;have eI:=z7 (b2.o.low aW);clear aW;go_wp2;exact⟨⟨j+1,rfl,by omega,eI⟩,by show gn - ((j+1:Nat):Int).toNat<gn - (j:Int).toNat;omega⟩
       ·have fI:=z7 (a4.o.trans (a3.mono a4.o.size));clear a2 a8 aS aF a3 hR eL aU;go_wp2;go_ret;exact⟨rfl,fI.o⟩
     ·have d4:decide ((j:Int)<(gn:Int))=false:=decide_eq_false (by omega);obtain⟨aB,ep,s,U,⟨rb,tb,mb,B,E,S,F,a5,rfl⟩, -⟩:=bR.o;have aU:=z7 a5;have aD:=z7 aB;obtain⟨wg,f9⟩:=zN wr;rw[<-f9]at aU aD;have iB:Hid (Below wg.heap.size wg wr):=z7 (by rw[f9];exact Below.refl _ _);clear a5 aB bR f9;go_wp2_with fail;go_loopw[22] (fun iv wr=>∃i:Nat,iv= .int .i64 i/\i<=m1/\Hid (Below wg.heap.size wg wr)) (fun iv _=>match iv with | .int _ y=>m1 - y.toNat|_=>0)
      case atStart=>exact⟨0,rfl,Nat.zero_le _,iB⟩
      case round=>
       obtain⟨i,rfl,hi,aE⟩:=hrel;have bY:Below O.heap.size O wr:=aD.o.trans (aE.o.mono aD.o.size);have a7:=aC.o.next bY
       by_cases him:i<m1
       ·have jM:IntKind.i64.wrap ((i:Int)+1)=((i+1:Nat):Int):=z0n (by omega) (by omega);have d3:decide ((i:Int)<(m1:Int))=true:=decide_eq_true (by omega);have cW:(0:Int)<=i/\(i:Int)<m1:=(by omega);obtain⟨x,Y⟩:∃x,X[i]? =some x:=⟨_,List.getElem?_eq_getElem (by have:=fY.o;omega)⟩;have aO:=List.mem_of_getElem? Y;have b4:=bI.o x aO;have f5:z2f (z0g kF x.id)=x.xs:=by
         rw[dI.o.1 x.id (by rw[bH.o];exact List.mem_map.2 ⟨x,aO,rfl⟩)];exact(dN.o x aO).1
        obtain⟨j1,rfl,b1⟩:=a7.at' Y;have b0:=a7.ent x aO;have cI:x.xs.length<=40:=by
         have I:=y3U L (⟨64,z3E size, []⟩, []) 0 (fun p hp=>by cases hp) (x.id,x.xs) (by
          have I:=bN.o;unfold y1z at I;rw[<-I];exact List.mem_map.2 ⟨x,aO,rfl⟩)
         have:=H.o.1;simp only at I;omega
        obtain⟨id,xa,xc,xs⟩:=x;unfold z4c.v at b1 b0;simp only at b1 b0 f5 b4 cI;obtain⟨sn,cN⟩:=zN xs.length;rw[<-cN]at b1 b0 cI;have fS:=z7 b1;have fN:=z7 b0;have g1:=z7 cN;have g0:=z7 (fun w' (hb:Below wr.heap.size wr w')=>y0X a0 mb B E kF S id (by omega) (by have:=b6.o id;omega) w' (aU.o.low (aE.o.trans (hb.mono aE.o.size))).bk (aU.o.low (aE.o.trans (hb.mono aE.o.size))).db);have eC:=z7 (fun w' (hb:Below wr.heap.size wr w')=>y0x kb rb a0 tb w' (aU.o.low (aE.o.trans (hb.mono aE.o.size))).k);have iZ:=z7 f5;clear Y aO b1 b0 cN f5 a7 bY;go_wp2_with fail;refine q6 15 160 (fun D v w'=>SmS wr 7 sn xs D v w') ⟨(Below.refl _ _).drew,fun e=>by cases e⟩ ?_;simp only[z0v];iterate 1 (refine q8.rl (e:=?_) (fun D v w h=>h.read _ (by decide)) (fun D v w' hD hS=>?_) ?_;rotate_left;(clear hS hD;go_simp;try with_reducible rfl);go_simp)
        refine q8.ca (.pointer (some ⟨a0,0,none⟩)) (fun D v w' hD hS=>?_) ?_
        ·have HZ:=z7 hS;have aG:=z7 (eC.o w' hS.low);clear hS hD;go_simp;go_at_call 13;refine aG.o.mono ?_;rintro e dB ⟨rfl,f2⟩;cases f2.symm;exact⟨rfl,HZ.o.read 1 (by decide)⟩
        go_simp;iterate 5 (refine q8.rl (e:=?_) (fun D v w h=>h.read _ (by decide)) (fun D v w' hD hS=>?_) ?_;rotate_left;(obtain⟨fE,eU,eV,eY⟩:=fS.o w' hS.low;clear hS hD;go_simp;try with_reducible rfl);go_simp)
        refine q8.re (fun D v w' hD hS=>?_) ?_
        ·have HZ:=z7 hS;have aG:=z7 (g0.o w' hS.low);clear hS hD;go_simp;go_at_call 14;refine aG.o.mono ?_;rintro e dB ⟨a,n,c,rfl,e4,hn,hb⟩;rw[iZ.o]at e4 hn;rw[<-g1.o]at hn;subst hn;exact⟨HZ.o.low.trans (hb.mono HZ.o.low.size),fun _=>⟨a,c,z0p _ _ _,z0c e4 HZ.o.low.size⟩⟩
        go_simp;iterate 5 (refine q8.rl (e:=?_) (fun D v w h=>h.read _ (by decide)) (fun D v w' hD hS=>?_) ?_;rotate_left;(obtain⟨fE,eU,eV,eY⟩:=fS.o w' hS.low;clear hS hD;go_simp;try with_reducible rfl);go_simp)
        refine q8.ca (.bool true) (fun D v w' hD hS=>?_) ?_
        ·obtain⟨a9,c9,k3,cM⟩:=hS.smp (hD.pre 7 (by kernel_rfl));have HZ:=z7 hS;have aG:=z7 (q3F a9 xa sn c9 xc _ _ xs g1.o (by omega) w' cM (ownsRow_below fN.o hS.low (Nat.le_refl _)));clear hS hD cM;go_simp;go_at_call 12;refine aG.o.mono ?_;rintro e dB ⟨rfl,hb⟩;exact⟨rfl,HZ.o.after 13 (by decide) hb⟩
        go_simp;iterate 1 (refine q8.rl (e:=?_) (fun D v w h=>h.read _ (by decide)) (fun D v w' hD hS=>?_) ?_;rotate_left;(clear hS hD;go_simp;try with_reducible rfl);go_simp)
        refine q8.fin (fun v iA hS=>?_);have bF:=z7 (aE.o.trans (hS.low.mono aE.o.size));clear hS;go_wp2;exact⟨⟨i+1,rfl,by omega,bF⟩,by show m1 - ((i+1:Nat):Int).toNat<m1 - (i:Int).toNat;omega⟩
       ·have d3:decide ((i:Int)<(m1:Int))=false:=decide_eq_false (by omega);have cU:=aU.o.low aE.o;have eC:=z7 (y0x kb rb a0 tb wr cU.k);have iY:=z7 (y2B a0 mb B E kF S wr cU.bk);have g6:E.length=m1:=by
         have h1:=congrArg List.length cU.bk.all;rw[List.length_map]at h1;have h2:=dI.o.2;have h3:=fT.o;omega
        have aT:=z7 (a4.o.trans ((aD.o.trans (aE.o.mono aD.o.size)).mono a4.o.size));have iG:=z7 g6;clear cU a7 bY g6;go_wp2_with fail;refine eC.o.mono ?_;rintro e w' ⟨rfl,f2⟩;cases f2.symm;go_wp2_with fail;refine iY.o.mono ?_;rintro e iA ⟨sa,sc,sn,ks,rfl,cN,cL, -,aW⟩;have i6:sn=m1:=by
         have h1:=cL.length_eq;rw[List.length_map]at h1;have:=iG.o;omega
        subst i6;have d8:((sn:Int)==(sn:Int))=true:=(by simp);have bF:=z7 (aT.o.trans (aW.mono aT.o.size));clear aW cN cL;go_wp2;go_ret;exact⟨rfl,bF.o⟩

/- The walks of tape's other. -/
import Derived.Test.YtabnnclcpkdkeaaGreatDoorZT
import Derived.Test.YtabnnclcpkdkeaaGreatDoorZh
import Derived.Deep.DeepCutAuto
namespace Go.Proofs.YtabnnclcpkdkeaaGreatDoor
open Go.Proofs.Tryz
set_option linter.all false
set_option maxRecDepth 100000
set_option maxHeartbeats 0
section
open Go.RowKit Go.Maps
def z1v(k:Bs):Bs:=k++ [126]
def z1f(s:FsS)(k:Bs):FsS:=if s.has (z1v k)then(z3v s (z1v k)).2 else s
def z2R(s:FsS)(k note:Bs):Int×FsS:=if 600<note.length then(1,s)else z0V s k (z0A note)
def z3q(s:FsS)(k:Bs):Int×FsS:=if s.has k then(0,s)else z1i s k
def z6g(s:FsS)(k:Bs):Bs:=if s.has k then s.get k else []
def z5D(s:FsS)(k:Bs):FsS:=if(z0X (z6g s k)).2<(z6g s k).length then(z5Z s k (z0X (z6g s k)).2).2 else s
def z2u(s:FsS)(k:Bs):Int×FsS×List Bs:=
 if k.length=0\/16<=k.length then(1,s, [])
 else if(z3q (z1f s k) k).1≠0 then((z3q (z1f s k) k).1,(z3q (z1f s k) k).2, [])
 else(0,z5D (z3q (z1f s k) k).2 k,(z0X (z6g (z3q (z1f s k) k).2 k)).1)
theorem z4i{s:FsS}(h:s.Ok)(k:Bs):(z1f s k).Ok:=by
 unfold z1f;split
 .exact y5U h _
 exact h
theorem y4r{s:FsS}(h:s.Ok)(k:Bs):(z3q s k).2.Ok:=by
 unfold z3q;split
 .exact h
 exact z4s h _
theorem q2U{s:FsS}(h:s.Ok)(k:Bs):(z5D s k).Ok:=by
 unfold z5D;split
 .exact q3p h _ _
 exact h
theorem z8p{s:FsS}(h:s.Ok)(k b:Bs):(z2R s k b).2.Ok:=by
 unfold z2R;split
 .exact h
 exact z6C h _ _
theorem y3L{s:FsS}(h:s.Ok)(k:Bs):(z2u s k).2.1.Ok:=by
 unfold z2u;split
 .exact h
 split
 .exact y4r (z4i h k) k
 exact q2U (y4r (z4i h k) k) k
def z3F(w:World)(tb sb:Nat)(k:Bs):Prop:=w.heap[tb]? =some (.cells #[.pointer (some ⟨sb,0,none⟩),.string ⟨k.toArray⟩] 154 (0,0))
theorem z3F.low{w w':World}{A I:Nat}{k:Bs}(h:z3F w A I k)(hb:Below w.heap.size w w'):z3F w' A I k:=(hb.block A (wI.1 h).1).trans h
theorem z3F.chg{w w':World}{A I:Nat}{k:Bs}{F J:List Nat}(h:z3F w A I k)(L:Chg F J w w')(N:A∉F):z3F w' A I k:=(L.block A (wI.1 h).1 N).trans h
theorem z3F.lt{w:World}{A I:Nat}{k:Bs}(h:z3F w A I k):A<w.heap.size:=(wI.1 h).1
theorem q1A(k:Bs):(⟨k.toArray⟩:ByteArray)++⟨#[126]⟩=⟨(z1v k).toArray⟩:=by
 apply ByteArray.ext;simp[z1v]
theorem z7e(I N:Nat)(k:Bs)(w:World)(h:z3F w I N k)(R:k.length<=1000000):Calls prog 102 #[.pointer (some ⟨I,0,none⟩)] w fun e w'=>e= .returned (.string ⟨(z1v k).toArray⟩)/\w=w':=by
 obtain⟨c0,c1,O,L⟩:=z4x h;have A:=q1A k;have J:=z7 A;clear h A;go_enter func102,ntmps102;go_wp2;go_ret;exact⟨by rw[<-J.o];rfl,rfl⟩
theorem q2t(N:Nat)(s:FsS)(F:List Nat)(k:Bs)(U:k.length<=maxLen)(w:World)(h:z1L w N s F)(ok:s.Ok):Calls prog 56 #[.pointer (some ⟨N,0,none⟩),.string ⟨k.toArray⟩] w fun e w'=>e= .returned (.bool (s.has k))/\Below w.heap.size w w':=by
 have O:=z7 (z5d N s F k U w h ok);obtain⟨hb,A⟩:=zN (s.has k);have J:=z7 A;clear h ok;cases hb with
 | true=>
  rw[<-A];clear A;go_enter func56,ntmps56;go_wp2_with fail;refine O.o.mono ?_;rintro e Y I;unfold z2E at I;rw[<-J.o,wZ rfl]at I;obtain⟨ra,rn,rc,rfl,L⟩:=I;have R:=z7 L.2.2;clear L;go_wp2;go_ret;exact⟨rfl,R.o⟩
 | false=>
  rw[<-A];clear A;go_enter func56,ntmps56;go_wp2_with fail;refine O.o.mono ?_;rintro e Y I;unfold z2E at I;rw[<-J.o,wR wH]at I;obtain⟨rfl,rfl⟩:=I;go_wp2;go_ret;exact⟨rfl,wN _ _⟩
theorem y1W(J N:Nat)(s:FsS)(F:List Nat)(k:Bs)(hk:k.length<=1000000)(w:World)(hB:z3F w J N k)(h:z1L w N s F)(ok:s.Ok):
  Calls prog 55 #[.pointer (some ⟨J,0,none⟩)] w fun e w'=>e= .returned (.tuple #[])/\z2e w N F (z1f s k) w':=by
 have H:=z7 h;have OK:=z7 ok;have HB:=z7 hB;have Y:=z7 (show(z1v k).length<=maxLen by unfold z1v maxLen;simp;omega);obtain⟨c0,c1,cf,a3⟩:=z4x hB;have a1:Hid (∀w',Below w.heap.size w w'->w'.cell? ⟨J,0,none⟩=some (.pointer (some ⟨N,0,none⟩))/\w'.cell? ⟨J,1,none⟩=some (.string ⟨k.toArray⟩)):=z7 fun w' hw=>⟨(hw.cell (p:=⟨J,0,none⟩) a3).trans c0,(hw.cell (p:=⟨J,1,none⟩) a3).trans c1⟩;obtain⟨bo,a0⟩:=zN (s.has (z1v k));have O:=z7 a0;clear h ok hB c0 c1 cf a0;go_enter func55,ntmps55;go_wp2_with fail;refine q6 7 16 (fun D v w'=>Below w.heap.size w w') wD.drew ?_;simp only[z0C];iterate 5 (refine q8.rd ?_ (fun D v w' L A=>?_) ?_;rotate_left;(obtain⟨x0,x1⟩:=a1.o w' A;clear A L;go_simp;try rfl);go_simp)
 refine q8.ca (.string ⟨(z1v k).toArray⟩) (fun D v w' L A=>?_) ?_
 .have I:=z7 A;clear A L;go_simp;go_at_call 102;refine(z7e J N k w' (HB.o.low I.o) hk).mono ?_;rintro e a4 ⟨rfl,rfl⟩;exact⟨rfl,I.o⟩
 go_simp;refine q8.ca (.bool bo) (fun D v w' L A=>?_) ?_
 .have I:=z7 A;clear A L;go_simp;go_at_call 56;refine(q2t N s F (z1v k) Y.o w' (H.o.low I.o) OK.o).mono ?_;rintro e a4 ⟨rfl,hb⟩;exact⟨by rw[O.o],I.o.trans (hb.mono I.o.size)⟩
 go_simp;refine q8.fin (fun v w4 A=>?_);have I:=z7 A;clear A;cases bo with
 | false=>
  have e:z1f s k=s:=by unfold z1f;rw[<-O.o];rfl
  have HE:=z7 e;clear e;go_wp2
  go_end0
  rw[HE.o];exact⟨rfl,F,H.o.low I.o,Chg.of_below I.o⟩
 | true=>
  have e:z1f s k=(z3v s (z1v k)).2:=by unfold z1f;rw[<-O.o];rfl
  have HE:=z7 e;clear e;have a2:Hid (∀w',Below w4.heap.size w4 w'->w'.cell? ⟨J,0,none⟩=some (.pointer (some ⟨N,0,none⟩))/\w'.cell? ⟨J,1,none⟩=some (.string ⟨k.toArray⟩)):=z7 fun w' hw=>a1.o w' (I.o.trans (hw.mono I.o.size));go_wp2_with fail;refine q6 6 16 (fun D v w'=>Below w4.heap.size w4 w') wD.drew ?_;simp only[z0C];iterate 5 (refine q8.rd ?_ (fun D v w' L A=>?_) ?_;rotate_left;(obtain⟨x0,x1⟩:=a2.o w' A;clear A L;go_simp;try rfl);go_simp)
  refine q8.ca (.string ⟨(z1v k).toArray⟩) (fun D v w' L A=>?_) ?_
  .have R:=z7 A;clear A L;go_simp;go_at_call 102;refine(z7e J N k w' ((HB.o.low I.o).low R.o) hk).mono ?_;rintro e a4 ⟨rfl,rfl⟩;exact⟨rfl,R.o⟩
  go_simp;refine q8.fin (fun v w5 A=>?_);have U:=z7 (I.o.trans (A.mono I.o.size));clear A;go_wp2_with fail;refine(q0W N s F (z1v k) Y.o w5 (H.o.low U.o) OK.o).mono ?_;rintro e w6 ⟨rfl,ht⟩;have HT:=z7 ht;clear ht;go_wp2
  go_end0
  rw[HE.o];obtain⟨F',h1,h2⟩:=HT.o;exact⟨rfl,F',h1,(Chg.of_below U.o).trans h2⟩
theorem q1i(Y sb:Nat)(s:FsS)(F:List Nat)(k:Bs)(hk:k.length<=1000000)(a:Option Addr)(n c:Nat)(A:Bs)(w:World)(hB:z3F w Y sb k)(h:z1L w sb s F)(ok:s.Ok)(hx:RdB w (.slice a n c) A)(hn:n=A.length)(a8:n<=c)(hc:c<=9223372036854775807)(a1:0<n->∀j,(Value.slice a n c).ownBlock=some j->j<w.heap.size):
  Calls prog 86 #[.pointer (some ⟨Y,0,none⟩),.slice a n c] w fun e w'=>e= .returned (.int .u16 (z2R s k A).1)/\z2e w sb F (z2R s k A).2 w':=by
 have H:=z7 h;have OK:=z7 ok;have HX:=z7 hx;have HN:=z7 hn;have a4:=z7 a1;obtain⟨c0,c1,cf,a2⟩:=z4x hB;have a6:Hid (∀w',Below w.heap.size w w'->w'.cell? ⟨Y,0,none⟩=some (.pointer (some ⟨sb,0,none⟩))/\w'.cell? ⟨Y,1,none⟩=some (.string ⟨k.toArray⟩)):=z7 fun w' U=>⟨(U.cell (p:=⟨Y,0,none⟩) a2).trans c0,(U.cell (p:=⟨Y,1,none⟩) a2).trans c1⟩;have a7:k.length<=maxLen:=by unfold maxLen;omega
 clear h ok hB c0 c1 cf hx a1;by_cases N:600<n
 .have e:z2R s k A=(1,s):=by unfold z2R;rw[<-hn,wZ N]
  rw[e];have d1:decide ((600:Int)<n)=true:=hQ;clear e hn;go_enter func86,ntmps86;go_wp2;go_ret;exact⟨rfl,z2e.refl H.o⟩
 have e:z2R s k A=z0V s k (z0A A):=by unfold z2R;rw[<-hn,wR N]
 rw[e];have d1:decide ((600:Int)<n)=false:=wC;obtain⟨X,hX⟩:=zN (z0A A);rw[<-hX];have a9:X.length<=700:=by rw[hX];have:=z4u A;omega
 have a5:=z7 hX;clear e hn hX;go_enter func86,ntmps86;go_wp2_with fail;refine q6 10 19 (fun D v w'=>Below w.heap.size w w'/\(D 9=true->∃a' c',v 9= .slice a' X.length c'/\w'.ownsRow w.heap.size 5 1 (.slice a' X.length c') X.length (z0c X))) ⟨wD.drew,fun h=>by cases h⟩ ?_;simp only[z0C];iterate 9 (refine q8.rd ?_ (fun D v w' hD J=>?_) ?_;rotate_left;(obtain⟨x0,x1⟩:=a6.o w' J.1;clear J hD;go_simp;try rfl);go_simp)
 refine q8.re (fun D v w' hD J=>?_) ?_
 .have HS:=z7 J.1;clear J hD;go_simp;go_at_call 126;have U:=y6Z A a c w' (by rw[<-HN.o];exact HX.o.low HS.o) (by rw[<-HN.o];exact a8) hc (by rw[<-HN.o];omega) (by rw[<-HN.o];exact fun h0 j hj=>wS (a4.o h0 j hj) HS.o.size);rw[<-HN.o]at U;refine U.mono ?_;clear U;rintro e aB ⟨a',c',rfl,I,hb⟩;rw[<-a5.o]at I ⊢;exact⟨HS.o.trans (hb.mono HS.o.size),fun _=>⟨a',c',rfl,z0f I HS.o.size⟩⟩
 go_simp;refine q8.fin (fun v w5 J=>?_);obtain⟨a',c',a3,I⟩:=J.2 rfl;have a0:=z7 J.1;have L:=z7 I;rw[a3];obtain⟨xn,R⟩:=zN X.length;rw[<-R];have O:=z7 R;have aA:xn<=700:=wF
 clear J a3 I R;go_wp2_with fail;refine(y3I sb s F k a7 a' xn c' X w5 (H.o.low a0.o) OK.o (by rw[O.o];exact z0d L.o) O.o wF (fun _ j hj hm=>by have:=(L.o.lt j (by rw[<-O.o];exact hj)).1;have:=H.o.lt j hm;omega)).mono ?_;rintro e w6 ⟨rfl,ht⟩;have HT:=z7 ht;clear ht;go_wp2;go_ret;obtain⟨F',h1,h2⟩:=HT.o;exact⟨rfl,F',h1,(Chg.of_below a0.o).trans h2⟩
theorem y6F{s:FsS}{k:Bs}{w w':World}{e:Ending}(h:z2E s k w e w'):∃a n c J,e= .returned (.tuple #[.slice a n c,.int .u16 J])/\w'.ownsRow w.heap.size 5 1 (.slice a n c) n (z0c (z6g s k))/\n=(z6g s k).length/\n<=c/\c<=9223372036854775807/\Below w.heap.size w w'/\J=(if s.has k then 0 else 80):=by
 unfold z2E at h;unfold z6g;split at h
 .rename_i I;obtain⟨a,n,c,rfl,A⟩:=h;rw[wZ I,wZ I];exact⟨a,n,c,0,rfl,A.1,A.2.1,A.cap.1,A.cap.2,A.2.2,rfl⟩
 rename_i I;obtain⟨rfl,rfl⟩:=h;rw[wR I,wR I];exact⟨none,0,0,80,rfl,uN _ _ _ _,rfl,wJ _,wF,wN _ _,rfl⟩
theorem q2u{s:FsS}(ok:s.Ok)(k:Bs):(z6g s k).length<=1048576:=by
 unfold z6g;split
 .have A:=z7k s k;have I:=ok.used_le;omega
 simp
def y7O(F:List Nat)(v:Value)(xs:List (Value×List UInt8)):Prop:=∀b,(v.ownBlock=some b\/∃x∈xs,x.1.ownBlock=some b)->b∉F
theorem z0E.chg{B:Nat}{w w':World}{v:Value}{J:List (Value×List UInt8)}{F O:List Nat}(h:z0E B w v J)(N:y7O F v J)(L:Chg F O w w'):z0E B w' v J/\y7O O v J:=by
 have A:∀b,(v.ownBlock=some b\/∃x∈J,x.1.ownBlock=some b)->b<w.heap.size:=fun b hb=>by
  rcases hb with hb|⟨x,I,hb⟩
  .exact(h.row.lt b hb).2
  exact((h.ent x I).lt b hb).2
 refine⟨⟨j7 h.row fun b hb=>L.block b (A b (.inl hb)) (N b (.inl hb)),fun x I=>j7 (h.ent x I) fun b hb=>L.block b (A b (.inr ⟨x,I,hb⟩)) (N b (.inr ⟨x,I,hb⟩))⟩,fun b hb U=>?_⟩;rcases L.fresh b U with R|R
 .exact N b hb R
 have:=A b hb;omega
theorem z0E.base{B A:Nat}{w:World}{v:Value}{I:List (Value×List UInt8)}(h:z0E B w v I)(hb:A<=B):z0E A w v I:=⟨z0f h.row hb,fun x J=>z0f (h.ent x J) hb⟩
theorem z0E.far{B:Nat}{w:World}{v:Value}{A:List (Value×List UInt8)}{F:List Nat}(h:z0E B w v A)(I:∀k∈F,k<B):y7O F v A:=fun b hb J=>by
 have:=I b J;rcases hb with hb|⟨x,L,hb⟩
 .have:=(h.row.lt b hb).1;omega
 have:=((h.ent x L).lt b hb).1;omega
def z3S(sb:Nat)(s:FsS)(k:Bs)(F:List Nat)(w:World)(e:Ending)(w':World):Prop:=
 ∃F',z1L w' sb (z2u s k).2.1 F'/\Chg F F' w w'/\
  (((z2u s k).1≠0/\e= .returned (.tuple #[.pointer none,.slice none 0 0,.int .u16 (z2u s k).1]))\/
   ((z2u s k).1=0/\∃tb a cc xs,e= .returned (.tuple #[.pointer (some ⟨tb,0,none⟩),.slice a xs.length cc,.int .u16 0])/\z3F w' tb sb k/\w.heap.size<=tb/\tb∉F'/\
    z0E w.heap.size w' (.slice a xs.length cc) xs/\xs.map Prod.snd=(z2u s k).2.2/\y7O F' (.slice a xs.length cc) xs))
theorem y9V(sb:Nat)(s:FsS)(F:List Nat)(k:Bs)(hk:k.length<=maxLen)(w:World)(h:z1L w sb s F)(ok:s.Ok):
  Calls prog 24 #[.pointer (some ⟨sb,0,none⟩),.string ⟨k.toArray⟩] w (z3S sb s k F w):=by
 have H:=z7 h;have OK:=z7 ok;obtain⟨kn,bM⟩:=zN k.length;have a9:=z7 bM;clear h ok bM;by_cases a0:kn=0\/16<=kn
 .have e:z2u s k=(1,s, []):=by unfold z2u;rw[wZ (by rw[<-a9.o];exact a0)]
  have HE:=z7 e;have aN:Hid (z3S sb s k F w (.returned (.tuple #[.pointer none,.slice none 0 0,.int .u16 1])) w):=z7 (by
   unfold z3S;rw[HE.o];exact⟨F,H.o,Chg.refl _ _,.inl ⟨by show(1:Int)≠0;decide,rfl⟩⟩)
  clear e HE;by_cases h0:kn=0
  .have aZ:k= []:=wT (by rw[<-a9.o];exact h0);subst aZ;clear a0 h0;go_enter func24,ntmps24;go_wp2;go_ret3
   exact aN.o
  have aZ:k≠ []:=fun e=>h0 (by rw[a9.o,e];rfl);have e1:(k== [])=false:=by simpa using aZ
  have d1:decide ((16:Int)<=k.length)=true:=wQ (by have:=a9.o;omega);clear a0 h0;go_enter func24,ntmps24;go_wp2;go_ret3
  exact aN.o
 have aZ:k≠ []:=fun e=>a0 (.inl (by rw[a9.o,e];rfl));have e1:(k== [])=false:=by simpa using aZ
 have d1:decide ((16:Int)<=k.length)=false:=wM (by have:=a9.o;omega);have bV:k.length<=1000000:=by have:=a9.o;omega
 have a2:Hid (z2u s k=if(z3q (z1f s k) k).1≠0 then((z3q (z1f s k) k).1,(z3q (z1f s k) k).2, [])else(0,z5D (z3q (z1f s k) k).2 k,(z0X (z6g (z3q (z1f s k) k).2 k)).1)):=z7 (by
  unfold z2u;rw[wR (by rw[<-a9.o];exact a0)])
 obtain⟨s1,b7⟩:=zN (z1f s k);rw[<-b7]at a2;have bS:=z7 b7;have b2:Hid (s1.Ok):=z7 (by rw[b7];exact z4i OK.o k);obtain⟨W1,b3⟩:=zN (w.alloc (.cells #[.pointer (some ⟨sb,0,none⟩),.string ⟨k.toArray⟩] 154));have bL:Below w.heap.size w W1:=by rw[b3];exact q5 _ _
 have aY:z3F W1 w.heap.size sb k:=by rw[b3];exact j8 _ _
 have bG:=z7 bL;have b8:=z7 aY;have bX:=aY.lt;have bJ:Hid (w.heap.size∉F):=z7 fun hm=>by have:=H.o.lt _ hm;omega
 clear a0 b7 bL aY;go_enter func24,ntmps24;go_upto_region 4 with fail
 rw[<-b3];clear b3;go_wp2_with fail;refine(y1W w.heap.size sb s F k bV W1 b8.o (H.o.low bG.o) OK.o).mono ?_;rintro e w2 ⟨rfl,ht⟩;rw[<-bS.o]at ht;obtain⟨F1,bN,b5⟩:=ht;have b9:=z7 bN;have bI:Hid (Chg F F1 w w2):=z7 ((Chg.of_below bG.o).trans b5);have aS:=z7 (b8.o.chg b5 bJ.o);have aC:Hid (w.heap.size∉F1):=z7 fun hm=>by
  rcases b5.fresh _ hm with h1|h1
  .exact bJ.o h1
  omega
 clear bN b5;go_wp2_with fail;refine(q2t sb s1 F1 k hk w2 b9.o b2.o).mono ?_;rintro e w3 ⟨rfl,b4⟩;have b1:=z7 (b9.o.low b4);have aT:Hid (Chg F F1 w w3):=z7 (bI.o.trans (Chg.of_below b4));have I:=z7 (aS.o.low b4);clear b4 b9 bI aS;obtain⟨bo,bC⟩:=zN (s1.has k);rw[<-bC];have bH:=z7 bC;clear bC;cases bo with
 | true=>
  obtain⟨S2,a4⟩:=zN s1;have aG:Hid (z3q s1 k=(0,S2)):=z7 (by unfold z3q;rw[<-bH.o,wZ rfl,a4]);have aI:Hid (S2.Ok):=z7 (by rw[a4];exact b2.o);have aB:Hid (z1L w3 sb S2 F1):=z7 (by rw[a4];exact b1.o);have aO:=aT;have J:=I;have O:=aC;clear a4 b1 aT I aC;go_wp2_with fail;refine(z5d sb S2 F1 k hk w3 aB.o aI.o).mono ?_;rintro e w5 hr;obtain⟨ra,rn,rc,bU,rfl,Y,a8,bF,hc,a6, -⟩:=y6F hr;obtain⟨G,hG⟩:=zN (z6g S2 k);rw[<-hG]at Y a8;have bB:rn<=1048576:=by rw[a8,hG];exact q2u aI.o k
  have HG:=z7 hG;have aA:=z7 Y;have a3:=z7 a8;have aH:=z7 (aB.o.low a6);have aF:Hid (Chg F F1 w w5):=z7 (aO.o.trans (Chg.of_below a6));have L:=z7 (J.o.low a6);have aW:=aF.o.size;clear hr Y a8 a6 hG aB aO J;go_wp2_with fail;refine(y9J G ra rn rc w5 a3.o (by have:=z0d aA.o;unfold RdB;rw[<-a3.o];exact this) bF hc bB (fun j hj=>(aA.o.lt j hj).2)).mono ?_;rintro e w6 ⟨na,nc,xs,rfl,a5,b0,a7⟩;obtain⟨nx,aM⟩:=zN ((z0X G).2);obtain⟨m,hm⟩:=zN xs.length;rw[<-hm]at a5 ⊢;rw[<-aM];have aV:=z7 aM;have HM:=z7 hm;have bA:=z7 b0;have aR:=z7 a5;have aX:=z7 (aH.o.low a7);have aU:Hid (Chg F F1 w w6):=z7 (aF.o.trans (Chg.of_below a7));have A:=z7 (L.o.low a7);have U:Hid (y7O F1 (.slice na m nc) xs):=z7 (a5.far fun j hj=>aH.o.lt j hj);have aE:Hid (∀w' F',z1L w' sb (z5D S2 k) F'->Chg F F' w w'->z3F w' w.heap.size sb k->w.heap.size∉F'->z0E w5.heap.size w' (.slice na m nc) xs->y7O F' (.slice na m nc) xs->z3S sb s k F w (.returned (.tuple #[.pointer (some ⟨w.heap.size,0,none⟩),.slice na m nc,.int .u16 0])) w'):=z7 fun w' F' z1 z2 z3 z4 z5 z6=>by
   unfold z3S;rw[a2.o,aG.o,wR wH];refine⟨F',z1,z2,.inr ⟨rfl,w.heap.size,na,nc,xs,by rw[<-HM.o],z3,wJ _,z4,?_,?_,?_⟩⟩
   .rw[<-HM.o];exact z5.base aW
   .rw[bA.o,HG.o]
   rw[<-HM.o];exact z6
  clear aM hm b0 a5 a7 aH aF L;by_cases hcut:nx<rn
  .have d6:decide (nx<rn)=true:=(by simpa using hcut);have aJ:Hid (z5D S2 k=(z5Z S2 k (nx:Nat)).2):=z7 (by unfold z5D;rw[<-HG.o,<-aV.o,wZ (by rw[<-a3.o];exact hcut)]);clear hcut;go_wp2_with fail;refine(q3y sb S2 F1 k hk (nx:Nat) w6 aX.o aI.o).mono ?_;rintro e w7 ⟨rfl,ht⟩;rw[<-aJ.o]at ht;obtain⟨F3,aD,R⟩:=ht;have aL:=aR.o.chg U.o R;have N:=z7 (aE.o w7 F3 aD (aU.o.trans R) (A.o.chg R O.o) (fun hm=>by
    rcases R.fresh _ hm with h1|h1
    .exact O.o h1
    have:=A.o.lt;omega) aL.1 aL.2)
   clear aD R aL;go_wp2;go_ret3
   exact N.o
  have d6:decide (nx<rn)=false:=(by simpa using hcut);have aJ:Hid (z5D S2 k=S2):=z7 (by unfold z5D;rw[<-HG.o,<-aV.o,wR (by rw[<-a3.o];exact hcut)]);clear hcut;have N:=z7 (aE.o w6 F1 (by rw[aJ.o];exact aX.o) aU.o A.o O.o aR.o U.o);go_wp2;go_ret3
  exact N.o
 | false=>
  obtain⟨S2,a4⟩:=zN ((z1i s1 k).2);obtain⟨er,bE⟩:=zN ((z1i s1 k).1);have a1:Hid (z3q s1 k=(er,S2)):=z7 (by unfold z3q;rw[<-bH.o,wR wH,a4,bE]);have aI:Hid (S2.Ok):=z7 (by rw[a4];exact z4s b2.o k);have bT:=z7 a4;have bR:=z7 bE;clear a4 bE;go_wp2_with fail;refine(y4A sb s1 F1 k hk w3 b1.o b2.o).mono ?_;rintro e w4 ⟨rfl,ht⟩;rw[<-bT.o]at ht;rw[<-bR.o];obtain⟨F2,bO,b6⟩:=ht;have aB:=z7 bO;have aO:Hid (Chg F F2 w w4):=z7 (aT.o.trans b6);have J:=z7 (I.o.chg b6 aC.o);have O:Hid (w.heap.size∉F2):=z7 fun hm=>by
   rcases b6.fresh _ hm with h1|h1
   .exact aC.o h1
   have:=aT.o.size;have:=I.o.lt;omega
  clear bO b6;by_cases he:er=0
  .subst he;have aG:=a1;clear a1 b1 aT I aC;go_wp2_with fail;refine(z5d sb S2 F2 k hk w4 aB.o aI.o).mono ?_;rintro e w5 hr;obtain⟨ra,rn,rc,bU,rfl,Y,a8,bF,hc,a6, -⟩:=y6F hr;obtain⟨G,hG⟩:=zN (z6g S2 k);rw[<-hG]at Y a8;have bB:rn<=1048576:=(by rw[a8,hG];exact q2u aI.o k);have HG:=z7 hG;have aA:=z7 Y;have a3:=z7 a8;have aH:=z7 (aB.o.low a6);have aF:Hid (Chg F F2 w w5):=z7 (aO.o.trans (Chg.of_below a6));have L:=z7 (J.o.low a6);have aW:=aF.o.size;clear hr Y a8 a6 hG aB aO J;go_wp2_with fail;refine(y9J G ra rn rc w5 a3.o (by have:=z0d aA.o;unfold RdB;rw[<-a3.o];exact this) bF hc bB (fun j hj=>(aA.o.lt j hj).2)).mono ?_;rintro e w6 ⟨na,nc,xs,rfl,a5,b0,a7⟩;obtain⟨nx,aM⟩:=zN ((z0X G).2);obtain⟨m,hm⟩:=zN xs.length;rw[<-hm]at a5 ⊢;rw[<-aM];have aV:=z7 aM;have HM:=z7 hm;have bA:=z7 b0;have aR:=z7 a5;have aX:=z7 (aH.o.low a7);have aU:Hid (Chg F F2 w w6):=z7 (aF.o.trans (Chg.of_below a7));have A:=z7 (L.o.low a7);have U:Hid (y7O F2 (.slice na m nc) xs):=z7 (a5.far fun j hj=>aH.o.lt j hj);have aE:Hid (∀w' F',z1L w' sb (z5D S2 k) F'->Chg F F' w w'->z3F w' w.heap.size sb k->w.heap.size∉F'->z0E w5.heap.size w' (.slice na m nc) xs->y7O F' (.slice na m nc) xs->z3S sb s k F w (.returned (.tuple #[.pointer (some ⟨w.heap.size,0,none⟩),.slice na m nc,.int .u16 0])) w'):=z7 fun w' F' z1 z2 z3 z4 z5 z6=>by
    unfold z3S;rw[a2.o,aG.o,wR wH];refine⟨F',z1,z2,.inr ⟨rfl,w.heap.size,na,nc,xs,by rw[<-HM.o],z3,wJ _,z4,?_,?_,?_⟩⟩
    .rw[<-HM.o];exact z5.base aW
    .rw[bA.o,HG.o]
    rw[<-HM.o];exact z6
   clear aM hm b0 a5 a7 aH aF L;by_cases hcut:nx<rn
   .have d6:decide (nx<rn)=true:=(by simpa using hcut);have aJ:Hid (z5D S2 k=(z5Z S2 k (nx:Nat)).2):=z7 (by unfold z5D;rw[<-HG.o,<-aV.o,wZ (by rw[<-a3.o];exact hcut)]);clear hcut;go_wp2_with fail;refine(q3y sb S2 F2 k hk (nx:Nat) w6 aX.o aI.o).mono ?_;rintro e w7 ⟨rfl,ht⟩;rw[<-aJ.o]at ht;obtain⟨F3,aD,R⟩:=ht;have aL:=aR.o.chg U.o R;have N:=z7 (aE.o w7 F3 aD (aU.o.trans R) (A.o.chg R O.o) (fun hm=>by
     rcases R.fresh _ hm with h1|h1
     .exact O.o h1
     have:=A.o.lt;omega) aL.1 aL.2)
    clear aD R aL;go_wp2;go_ret3
    exact N.o
   have d6:decide (nx<rn)=false:=(by simpa using hcut);have aJ:Hid (z5D S2 k=S2):=z7 (by unfold z5D;rw[<-HG.o,<-aV.o,wR (by rw[<-a3.o];exact hcut)]);clear hcut;have N:=z7 (aE.o w6 F2 (by rw[aJ.o];exact aX.o) aU.o A.o O.o aR.o U.o);go_wp2;go_ret3
   exact N.o
  have e2:(er !=0)=true:=(by simpa using he);have aN:Hid (z3S sb s k F w (.returned (.tuple #[.pointer none,.slice none 0 0,.int .u16 er])) w4):=z7 (by
   unfold z3S;rw[a2.o,a1.o,wZ he];exact⟨F2,aB.o,aO.o,.inl ⟨he,rfl⟩⟩)
  clear he;go_wp2;go_ret3
  exact aN.o
end
section
open Go.RowKit
theorem RdB.lt0{w:World}{a:Option Addr}{n c:Nat}{l:Bs}(h:RdB w (.slice a n c) l)(L:n=l.length):0<n->∀k,(Value.slice a n c).ownBlock=some k->k<w.heap.size:=by
 intro J k A;obtain⟨b,I,c',e,_,hb⟩:=Rd.addr h wF wF;simp only[wO]at e;obtain⟨rfl, -, -⟩:=e;simp only[Value.ownBlock,pK,wK]at A;omega
def z8q(w:World)(x:Value)(ls:List Bs):Prop:=∃xs:List Value,Rd w x 1 ls.length xs/\xs.length=ls.length/\(∀(i:Nat) (v:Value) (l:Bs),xs[i]? =some v->ls[i]? =some l->(RdB w v l/\∃a c,v= .slice a l.length c/\l.length<=c/\c<=9223372036854775807))/\∃a c,x= .slice a ls.length c/\ls.length<=c/\c<=9223372036854775807
theorem z8q.bs{w:World}{x:Value}{A:List Bs}(h:z8q w x A):y1s w x A:=by
 obtain⟨R,I,J,L,_⟩:=h;exact⟨R,I,J,fun i v l O N=>(L i v l O N).1⟩
theorem z8q.low{w w':World}{x:Value}{L:List Bs}(h:z8q w x L)(hb:Below w.heap.size w w'):z8q w' x L:=by
 obtain⟨U,N,O,A,R⟩:=h;exact⟨U,N.low hb,O,fun i v l J I=>⟨(A i v l J I).1.low hb,(A i v l J I).2⟩,R⟩
theorem z8q.cap{w:World}{a:Option Addr}{n c:Nat}{J:List Bs}(h:z8q w (.slice a n c) J):n<=c/\c<=9223372036854775807:=by
 obtain⟨_,_,_,_,a',c',e,A,I⟩:=h;simp only[wO]at e;obtain⟨rfl,rfl,rfl⟩:=e;exact⟨A,I⟩
theorem z8q.nil(w:World):z8q w (.slice none 0 0) []:=⟨[],Rd.nil w 1,rfl,(fun i v l h=>by simp at h),none,0,rfl,wJ _,wF⟩
theorem z8q.head{w:World}{x:Value}{A:List Bs}(h:z8q w x A):∃a c,x= .slice a A.length c:=h.bs.head
theorem z8q.at{w:World}{x:Value}{I:List Bs}(h:z8q w x I){k:Nat}(hk:k<I.length):∃b A c a n c',x= .slice (some ⟨b,A,none⟩) I.length c/\w.cell? ⟨b,A+k,none⟩=some (.slice a n c')/\RdB w (.slice a n c') I[k]/\n=I[k].length/\n<=c'/\c'<=9223372036854775807/\b<w.heap.size:=by
 obtain⟨L,U,h2,Y,_⟩:=h;obtain⟨b,A,c,rfl,hc,hb⟩:=Rd.addr U wF wF;have J:L[k]? =some (L[k]'wF):=wL wF;obtain⟨N,a,c',e,O,R⟩:=Y k _ _ J (wL hk);refine⟨b,A,c,a,I[k].length,c',rfl,?_,?_,rfl,O,R,hb⟩
 .have:=hc k _ J;rw[e]at this;exact this
 rw[<-e];exact N
theorem q1z{α:Type}{L:List α}{P:α->Prop}{i:Nat}(J:i<L.length)(h:∀o∈L.take i,P o)(N:P L[i]):∀o∈L.take (i+1),P o:=fun o I=>by
 rw[uG,wL J]at I;rcases uB.1 I with A|A
 .exact h o A
 simp only[og,uD]at A;rw[A];exact N
end
section
open Go.RowKit Go.Maps
def z1p(s:FsS)(k:Bs):List Bs->Int×FsS
 | []=>(0,s)
 | x::l=>if(z0V s k (z0A x)).1≠0 then z0V s k (z0A x)else z1p (z0V s k (z0A x)).2 k l
def z9k(s:FsS)(k:Bs):Int×FsS:=if(z2G s (z1v k)).1≠0 then z2G s (z1v k)else z2p (z2G s (z1v k)).2 (z1v k) k
def z4t(s:FsS)(k:Bs)(l:List Bs):Int×FsS:=
 if(z1i s (z1v k)).1≠0 then z1i s (z1v k)
 else if(z1p (z1i s (z1v k)).2 (z1v k) l).1≠0 then z1p (z1i s (z1v k)).2 (z1v k) l
 else z9k (z1p (z1i s (z1v k)).2 (z1v k) l).2 k
def z4q(s:FsS)(k:Bs)(l:List Bs):Int×FsS:=
 if(l.all fun x=>decide (x.length<=600))=false then(1,s)
 else((z4t (z1f s k) k l).1,if(z4t (z1f s k) k l).1≠0 then z1f (z4t (z1f s k) k l).2 k else(z4t (z1f s k) k l).2)
theorem y0y:∀(l:List Bs) {s:FsS} (h:s.Ok) (k:Bs),(z1p s k l).2.Ok
 | [],s,h,k=>h
 | x::l,s,h,k=>by
  unfold z1p;split
  .exact z6C h _ _
  exact y0y l (z6C h _ _) k
theorem z8n:∀(l:List Bs) (s:FsS) (k:Bs) (x:Bs),z1p s k (l++ [x])=if(z1p s k l).1≠0 then z1p s k l else z0V (z1p s k l).2 k (z0A x)
 | [],s,k,x=>by
  simp only[uW,z1p];split
  .simp
  rename_i h;simp only[ne_eq,not_true,ei];have:(z0V s k (z0A x)).1=0:=(by simpa using h);rw[<-this]
 | y::l,s,k,x=>by
  rw[uY,z1p,z1p];split
  .rfl
  exact z8n l _ k x
theorem q1D{s:FsS}(h:s.Ok)(k:Bs):(z9k s k).2.Ok:=by
 unfold z9k;split
 .exact z8v h _
 exact y7q (z8v h _) _ _
theorem y2V{s:FsS}(h:s.Ok)(k:Bs)(l:List Bs):(z4t s k l).2.Ok:=by
 unfold z4t;split
 .exact z4s h _
 split
 .exact y0y l (z4s h _) _
 exact q1D (y0y l (z4s h _) _) _
theorem q1c{s:FsS}(h:s.Ok)(k:Bs)(l:List Bs):(z4q s k l).2.Ok:=by
 unfold z4q;split
 .exact h
 dsimp only;split
 .exact z4i (y2V (z4i h k) k l) k
 exact y2V (z4i h k) k l
theorem y5z{s:FsS}{k:Bs}{l:List Bs}{i:Nat}{x:Bs}(N:l[i]? =some x)(h:(z1p s k (l.take i)).1=0)(hb:(z0V (z1p s k (l.take i)).2 k (z0A x)).1≠0):z1p s k l=z0V (z1p s k (l.take i)).2 k (z0A x):=by
 have A:z1p s k (l.take (i+1))=z0V (z1p s k (l.take i)).2 k (z0A x):=by
  rw[uG,N];show z1p s k (l.take i++ [x])=_;rw[z8n,wR (by simpa using h)]
 have J:∀(m:List Bs),(z1p s k (l.take (i+1)++m))=z1p s k (l.take (i+1)):=by
  have key:∀(a m:List Bs) (s:FsS),(z1p s k a).1≠0->z1p s k (a++m)=z1p s k a:=by
   intro a
   induction a with
   | nil=>intro m s h;exact absurd rfl h
   | cons y a ih=>
    intro m s h;rw[uY,z1p,z1p];rw[z1p]at h;split
    .rfl
    rename_i L;rw[wR L]at h;exact ih m _ h
  intro m;exact key _ m s (by rw[A];exact hb)
 have I:=J (l.drop (i+1));rw[pZ]at I;rw[I,A]
theorem z3F.cells{w:World}{I L:Nat}{k:Bs}(h:z3F w I L k):∀w',Below w.heap.size w w'->w'.cell? ⟨I,0,none⟩=some (.pointer (some ⟨L,0,none⟩))/\w'.cell? ⟨I,1,none⟩=some (.string ⟨k.toArray⟩):=fun w' J=>by
 obtain⟨c0,c1,_,A⟩:=z4x h;exact⟨(J.cell (p:=⟨I,0,none⟩) A).trans c0,(J.cell (p:=⟨I,1,none⟩) A).trans c1⟩
theorem z2e.trans{w J L:World}{I:Nat}{F A:List Nat}{s:FsS}(U:Chg F A w J)(Y:z2e J I A s L):z2e w I F s L:=by
 obtain⟨N,O,R⟩:=Y;exact⟨N,O,U.trans R⟩
theorem z2e.after{w I J:World}{A:Nat}{F:List Nat}{s:FsS}(L:Below w.heap.size w I)(N:z2e I A F s J):z2e w A F s J:=z2e.trans (Chg.of_below L) N
theorem q5G(U J:Nat)(s:FsS)(F:List Nat)(k:Bs)(hk:k.length<=1000000)(w:World)(O:z3F w U J k)(h:z1L w J s F)(ok:s.Ok):
  Calls prog 87 #[.pointer (some ⟨U,0,none⟩)] w fun e w'=>e= .returned (.int .u16 (z2G s k).1)/\z2e w J F (z2G s k).2 w':=by
 have H:=z7 h;have OK:=z7 ok;have L:=z7 O.cells;have N:k.length<=maxLen:=by unfold maxLen;omega
 clear h ok O;go_enter func87,ntmps87;go_wp2_with fail;refine q6 8 12 (fun D v w'=>Below w.heap.size w w') wD.drew ?_;simp only[z0C];iterate 8 (refine q8.rd ?_ (fun D v w' hD I=>?_) ?_;rotate_left;(obtain⟨x0,x1⟩:=L.o w' I;clear I hD;go_simp;try rfl);go_simp)
 refine q8.fin (fun v w5 I=>?_);have A:=z7 I;clear I;go_wp2_with fail;refine(q0A J s F k N w5 (H.o.low A.o) OK.o).mono ?_;rintro e w6 ⟨rfl,R⟩;have Y:=z7 R;clear R;go_wp2;go_ret;exact⟨rfl,z2e.after A.o Y.o⟩
structure y8p (W:World) (F0:List Nat) (w:World) (sb:Nat) (s:FsS) (F:List Nat):Prop where
 rep:z1L w sb s F
 ch:Chg F0 F W w
 ok:s.Ok
theorem y8p.step{W w w':World}{J:List Nat}{I:Nat}{s s':FsS}{F:List Nat}(h:y8p W J w I s F)(O:z2e w I F s' w')(ok:s'.Ok):∃A,y8p W J w' I s' A/\Chg F A w w':=by
 obtain⟨A,N,L⟩:=O;exact⟨A,⟨N,h.ch.trans L,ok⟩,L⟩
theorem q6I(tb sb:Nat)(s:FsS)(F:List Nat)(k:Bs)(hk:k.length<=1000000)(W w:World)(F0:List Nat)(U:y8p W F0 w sb s F)(hB:z3F w tb sb k)(bF:tb∉F)(a:Option Addr)(n c:Nat)(L:List Bs)(hL:∀F' w',Chg F0 F' W w'->z8q w' (.slice a n c) L)(hn:n=L.length)(aE:∀x∈L,x.length<=600)(hm:n<=maxLen):
  Calls prog 90 #[.pointer (some ⟨tb,0,none⟩),.slice a n c] w fun e w'=>e= .returned (.int .u16 (z4t s k L).1)/\z2e w sb F (z4t s k L).2 w':=by
 have H:=z7 U;have HB:=z7 hB;have HN:=z7 hn;have HL:=z7 hL;have aS:=z7 aE;have bI:=z7 hB.cells;have aM:=z7 bF;have aA:=z7 (show(z1v k).length<=maxLen by unfold z1v maxLen;simp;omega);have bL:k.length<=maxLen:=by unfold maxLen;omega
 obtain⟨e1,b5⟩:=zN ((z1i s (z1v k)).1);obtain⟨s1,bA⟩:=zN ((z1i s (z1v k)).2);have a2:=z7 b5;have a3:=z7 bA;clear U hB hn hL aE bF b5 bA;go_enter func90,ntmps90;go_wp2_with fail;refine q6 6 60 (fun D v w'=>Below w.heap.size w w') wD.drew ?_;simp only[z0C];iterate 5 (refine q8.rd ?_ (fun D v w' J A=>?_) ?_;rotate_left;(obtain⟨x0,x1⟩:=bI.o w' A;clear A J;go_simp;try rfl);go_simp)
 refine q8.ca (.string ⟨(z1v k).toArray⟩) (fun D v w' J A=>?_) ?_
 .have I:=z7 A;clear A J;go_simp;go_at_call 102;refine(z7e tb sb k w' (HB.o.low I.o) hk).mono ?_;rintro e aB ⟨rfl,rfl⟩;exact⟨rfl,I.o⟩
 go_simp;refine q8.fin (fun v w2 A=>?_);have I:=z7 A;clear A;go_wp2_with fail;refine(y4A sb s F (z1v k) aA.o w2 (H.o.rep.low I.o) H.o.ok).mono ?_;rintro e w3 ⟨rfl,ht⟩;have a9:=z7 (z2e.after I.o ht);rw[<-a2.o];rw[<-a3.o]at a9;clear ht;by_cases h1:e1=0
 case neg=>
  have d2:(e1 !=0)=true:=by simpa using h1
  have N:=z7 (show z4t s k L=(e1,s1) by unfold z4t;rw[<-a2.o,wZ h1,a2.o,a3.o]);clear h1;go_wp2;go_ret;rw[N.o];exact⟨rfl,a9.o⟩
 subst h1;obtain⟨F3,b2,aW⟩:=H.o.step a9.o (by rw[a3.o];exact z4s H.o.ok _);have aY:=z7 b2;have aT:=z7 aW;clear b2 aW a9;obtain⟨w0,bR⟩:=zN w
 go_upto_block 0 with fail
 go_cut[] (fun wx=>∃F' s',Hid (y8p W F0 wx sb s' F')/\Hid (Chg F F' w wx)/\Hid (z1p s1 (z1v k) L=(0,s')))
 case first=>
  go_wp2_with fail;go_loopw[22] (fun iv wr=>∃(i:Nat) (F':List Nat) (s':FsS),iv= .int .i64 i/\i<=n/\Hid (y8p W F0 wr sb s' F')/\Hid (Chg F F' w wr)/\Hid (z1p s1 (z1v k) (L.take i)=(0,s'))) (fun iv _=>match iv with | .int _ j=>n - j.toNat|_=>0)
  case atStart=>exact⟨0,F3,s1,rfl,uA _,aY,aT,z7 (by simp[z1p])⟩
  case round=>
   obtain⟨i,F',s',rfl,hi,U,hC,hA⟩:=hrel;by_cases bJ:i<n
   .obtain⟨bb,bV,cc,xa,xn,xc,he,ec,er,en,g1,g2,bN⟩:=(HL.o _ _ U.o.ch).at (k:=i) (by have:=HN.o;omega);obtain⟨x,hx⟩:∃x,x=L[i]'(by have:=HN.o;omega):=⟨_,rfl⟩;rw[<-hx]at er en;simp only[wO]at he;obtain⟨rfl, -,rfl⟩:=he;have b8:L[i]? =some x:=(by rw[hx];exact wL _);have aV:=z7 er;have R:=z7 en;have aX:=z7 b8;have bU:xn<=600:=(by rw[en,hx];exact aS.o _ (ug _));clear er en b8 hx;have bT:IntKind.i64.wrap ((i:Int)+1)=(i:Int)+1:=wrap64 wF (by have:=HN.o;unfold maxLen at hm;omega);have a5:=z7 (HB.o.chg hC.o aM.o);have a6:=z7 a5.o.cells;obtain⟨X,hX⟩:=zN (z0A x);have bM:X.length<=700:=(by rw[hX];have:=z4u x;have:=R.o;omega);have HX:=z7 hX;clear hX;obtain⟨e2,b6⟩:=zN ((z0V s' (z1v k) X).1);obtain⟨s2,bB⟩:=zN ((z0V s' (z1v k) X).2);have a7:=z7 b6;have a0:=z7 bB;clear b6 bB;obtain⟨wb,bS⟩:=zN wr;go_wp2_with fail;refine q6 8 60 (fun D v w'=>Below wr.heap.size wr w'/\(D 7=true->∃a' c',v 7= .slice a' X.length c'/\w'.ownsRow wr.heap.size 5 1 (.slice a' X.length c') X.length (z0c X))) ⟨wD.drew,fun h=>by cases h⟩ ?_;simp only[z0C];iterate 5 (refine q8.rd ?_ (fun D v w' J A=>?_) ?_;rotate_left;(obtain⟨x0,x1⟩:=a6.o w' A.1;clear A J;go_simp;try rfl);go_simp)
    refine q8.ca (.string ⟨(z1v k).toArray⟩) (fun D v w' J A=>?_) ?_
    .have aJ:=z7 A;clear A J;go_simp;go_at_call 102;refine(z7e tb sb k w' (a5.o.low aJ.o.1) hk).mono ?_;rintro e aB ⟨rfl,rfl⟩;exact⟨rfl,aJ.o.1,aJ.o.2⟩
    go_simp;(refine q8.rd ?_ (fun D v w' J A=>?_) ?_;rotate_left;(clear A J;go_simp;try rfl);go_simp)
    refine q8.re (fun D v w' J A=>?_) ?_
    .have HS:=z7 A.1;clear A J;go_simp;go_at_call 126;have hw:=y6Z x xa xc w' (by rw[<-R.o];exact aV.o.low HS.o) (by rw[<-R.o];exact g1) g2 (by rw[<-R.o];omega) (by rw[<-R.o];exact fun h0 j hj=>wS (aV.o.lt0 R.o h0 j hj) HS.o.size);rw[<-R.o]at hw;refine hw.mono ?_;clear hw;rintro e aB ⟨a',c',rfl,O,hb⟩;rw[<-HX.o]at O ⊢;exact⟨HS.o.trans (hb.mono HS.o.size),fun _=>⟨a',c',rfl,z0f O HS.o.size⟩⟩
    go_simp;refine q8.fin (fun v w5 A=>?_);obtain⟨a',c',bG,O⟩:=A.2 rfl;have a4:=z7 A.1;have aC:=z7 O;rw[bG];obtain⟨pn,aO⟩:=zN X.length;rw[<-aO];have aI:=z7 aO;have bO:pn<=700:=wF;clear A bG O aO;go_wp2_with fail;refine(y3I sb s' F' (z1v k) aA.o a' pn c' X w5 (U.o.rep.low a4.o) U.o.ok (by rw[aI.o];exact z0d aC.o) aI.o wF (fun _ j hj hm=>by have:=(aC.o.lt j (by rw[<-aI.o];exact hj)).1;have:=U.o.rep.lt j hm;omega)).mono ?_;rintro e w6 ⟨rfl,ht⟩;have HT:=z7 (z2e.after a4.o ht);clear ht;rw[<-a7.o];rw[<-a0.o]at HT;have aR:Hid (e2≠0->z4t s k L=(e2,s2)):=z7 fun h=>by
     have h9:=hA.o;have h8:z1p s1 (z1v k) L=(e2,s2):=by
      rw[y5z aX.o (by rw[h9]) (by rw[h9,<-HX.o];rw[<-a7.o];exact h),h9,<-HX.o,a7.o,a0.o]
     unfold z4t;rw[<-a2.o,wR wH,<-a3.o,h8,wZ h]
    have aN:Hid (e2=0->z1p s1 (z1v k) (L.take (i+1))=(0,s2)):=z7 fun h=>by
     have h9:=hA.o;rw[uG,aX.o];show z1p s1 (z1v k) (L.take i++ [x])=_;rw[z8n,h9,wR wH,<-HX.o,a0.o,<-h,a7.o]
    obtain⟨F6,b4,b1⟩:=U.o.step HT.o (by rw[a0.o];exact z6C U.o.ok _ _);have aZ:=z7 b4;have aU:=z7 (hC.o.trans b1);clear b4 b1 HT;by_cases h2:e2=0
    .subst h2;have b9:=z7 (aN.o rfl);clear aN aR;go_wp2;exact⟨⟨i+1,F6,s2,wH,bJ,aZ,aU,b9⟩,by show n - ((i:Int)+1).toNat<n - ((i:Nat):Int).toNat;omega⟩
    have d2:(e2 !=0)=true:=(by simpa using h2);have bE:=z7 (aR.o h2);clear aN aR h2;go_wp2;go_ret;rw[bE.o];exact⟨rfl,F6,aZ.o.rep,aU.o⟩
   have i0:decide ((i:Int)<n)=false:=wC;obtain rfl:i=n:=wF
   go_wp2;go_meet
   exact⟨F',s',U,hC,z7 (by have h9:=hA.o;rw[wt (by have:=HN.o;omega)]at h9;exact h9)⟩
 case rest=>
  obtain⟨F',s',U,hC,hA⟩:=hcut;have a5:=z7 (HB.o.chg hC.o aM.o);have a6:=z7 a5.o.cells;have N:Hid (z4t s k L=z9k s' k):=z7 (by unfold z4t;rw[<-a2.o,wR wH,<-a3.o,hA.o,wR wH]);obtain⟨e4,b7⟩:=zN ((z2G s' (z1v k)).1);obtain⟨s4,bC⟩:=zN ((z2G s' (z1v k)).2);have a8:=z7 b7;have a1:=z7 bC;clear b7 bC hA aY aT;go_wp2_with fail;refine q6 6 60 (fun D v w'=>Below wc.heap.size wc w') wD.drew ?_;simp only[z0C];iterate 5 (refine q8.rd ?_ (fun D v w' J A=>?_) ?_;rotate_left;(obtain⟨x0,x1⟩:=a6.o w' A;clear A J;go_simp;try rfl);go_simp)
  refine q8.ca (.string ⟨(z1v k).toArray⟩) (fun D v w' J A=>?_) ?_
  .have I:=z7 A;clear A J;go_simp;go_at_call 102;refine(z7e tb sb k w' (a5.o.low I.o) hk).mono ?_;rintro e aB ⟨rfl,rfl⟩;exact⟨rfl,I.o⟩
  go_simp;refine q8.fin (fun v w2 A=>?_);have I:=z7 A;clear A;go_wp2_with fail;refine(q0A sb s' F' (z1v k) aA.o w2 (U.o.rep.low I.o) U.o.ok).mono ?_;rintro e w4 ⟨rfl,ht⟩;have aL:=z7 (z2e.after I.o ht);rw[<-a8.o];rw[<-a1.o]at aL;clear ht;obtain⟨F4,b3,b0⟩:=U.o.step aL.o (by rw[a1.o];exact z8v U.o.ok _);have aH:=z7 b3;have aG:=z7 (hC.o.trans b0);clear b3 b0 aL;by_cases h4:e4=0
  case neg=>
   have d2:(e4 !=0)=true:=(by simpa using h4);have Y:=z7 (show z4t s k L=(e4,s4) by rw[N.o];unfold z9k;rw[<-a8.o,wZ h4,a8.o,a1.o]);clear h4;go_wp2;go_ret;rw[Y.o];exact⟨rfl,F4,aH.o.rep,aG.o⟩
  subst h4;have Y:=z7 (show z4t s k L=z2p s4 (z1v k) k by rw[N.o];unfold z9k;rw[<-a8.o,wR wH,a1.o]);have aD:=z7 (HB.o.chg aG.o aM.o);have aF:=z7 aD.o.cells;clear N;go_wp2_with fail;refine q6 10 60 (fun D v w'=>Below w4.heap.size w4 w') wD.drew ?_;simp only[z0C];iterate 5 (refine q8.rd ?_ (fun D v w' J A=>?_) ?_;rotate_left;(obtain⟨x0,x1⟩:=aF.o w' A;clear A J;go_simp;try rfl);go_simp)
  refine q8.ca (.string ⟨(z1v k).toArray⟩) (fun D v w' J A=>?_) ?_
  .have I:=z7 A;clear A J;go_simp;go_at_call 102;refine(z7e tb sb k w' (aD.o.low I.o) hk).mono ?_;rintro e aB ⟨rfl,rfl⟩;exact⟨rfl,I.o⟩
  go_simp;iterate 4 (refine q8.rd ?_ (fun D v w' J A=>?_) ?_;rotate_left;(obtain⟨x0,x1⟩:=aF.o w' A;clear A J;go_simp;try rfl);go_simp)
  refine q8.fin (fun v w5 A=>?_);have a4:=z7 A;clear A;go_wp2_with fail;refine(q0L sb s4 F4 (z1v k) k aA.o bL w5 (aH.o.rep.low a4.o) aH.o.ok).mono ?_;rintro e w6 ⟨rfl,ht⟩;have bH:=z7 (z2e.trans aG.o (z2e.after a4.o ht));clear ht;go_wp2;go_ret;rw[Y.o];exact⟨rfl,bH.o⟩
theorem q2H(tb sb:Nat)(s:FsS)(F:List Nat)(k:Bs)(hk:k.length<=1000000)(W w:World)(F0:List Nat)(hO:y8p W F0 w sb s F)(hB:z3F w tb sb k)(aC:tb∉F)(a:Option Addr)(n c:Nat)(L:List Bs)(hL:∀F' w',Chg F0 F' W w'->z8q w' (.slice a n c) L)(hn:n=L.length)(hm:n<=maxLen):
  Calls prog 43 #[.pointer (some ⟨tb,0,none⟩),.slice a n c] w fun e w'=>e= .returned (.int .u16 (z4q s k L).1)/\z2e w sb F (z4q s k L).2 w':=by
 have H:=z7 hO;have HB:=z7 hB;have HN:=z7 hn;have HL:=z7 hL;have a0:=z7 aC;clear hO hB hn hL aC;go_enter func43,ntmps43;go_wp2;go_loopw[10] (fun iv wr=>∃i:Nat,iv= .int .i64 i/\i<=n/\Hid (∀x∈L.take i,x.length<=600)/\w=wr) (fun iv _=>match iv with | .int _ j=>n - j.toNat|_=>0)
 case atStart=>exact⟨0,rfl,uA _,z7 wH,rfl⟩
 case round=>
  obtain⟨i,rfl,hi,A,rfl⟩:=hrel;by_cases aH:i<n
  .obtain⟨bb,aM,cc,xa,xn,xc,he,ec,er,en,g1,g2,aJ⟩:=(HL.o _ _ H.o.ch).at (k:=i) (by have:=HN.o;omega);simp only[wO]at he;obtain⟨rfl, -,rfl⟩:=he;have aL:IntKind.i64.wrap ((i:Int)+1)=(i:Int)+1:=wrap64 wF (by have:=HN.o;unfold maxLen at hm;omega);have J:Hid (600<xn->z4q s k L=(1,s)):=z7 fun h=>by
    unfold z4q;rw[wZ];cases h9:L.all fun x=>decide (x.length<=600)with
    | false=>rfl
    | true=>
     have:=gu.1 h9 _ (ug (by have:=HN.o;omega:i<L.length));have:=ua this;omega
   have a4:Hid (xn<=600->∀x∈L.take (i+1),x.length<=600):=z7 fun g=>q1z (by have:=HN.o;omega) A.o (by rw[<-en];exact g);clear er en A;by_cases h6:600<xn
   .have d6:decide ((600:Int)<xn)=true:=hQ;have aG:=z7 (J.o h6);clear J a4;go_wp2;go_ret;rw[aG.o];exact⟨rfl,z2e.refl H.o.rep⟩
   have d6:decide ((600:Int)<xn)=false:=wC;have aI:=z7 (a4.o wF);clear J a4;go_wp2;exact⟨⟨i+1,wH,aH,aI,by trivial⟩,by show n - ((i:Int)+1).toNat<n - ((i:Nat):Int).toNat;omega⟩
  have i0:decide ((i:Int)<n)=false:=wC;obtain rfl:i=n:=wF
  have I:Hid (∀x∈L,x.length<=600):=z7 (by have h9:=A.o;rw[wt (by have:=HN.o;omega)]at h9;exact h9);clear A;obtain⟨e1,a2⟩:=zN ((z4t (z1f s k) k L).1);obtain⟨s1,a5⟩:=zN ((z4t (z1f s k) k L).2);have N:Hid (z4q s k L=(e1,if e1≠0 then z1f s1 k else s1)):=z7 (by
   unfold z4q;rw[wR (by simpa using I.o),a2,a5])
  have aE:=z7 a2;have a7:=z7 a5;clear a2 a5;go_wp2_with fail;refine(y1W tb sb s F k hk w HB.o H.o.rep H.o.ok).mono ?_;rintro e w2 ⟨rfl,O⟩;obtain⟨F2,a9,a1⟩:=H.o.step O (z4i H.o.ok k);have U:=z7 a9;have a6:=z7 a1;have aB:Hid (tb∉F2):=z7 fun hm=>by
   rcases a1.fresh _ hm with h|h
   .exact a0.o h
   have:=HB.o.lt;omega
  clear O a9 a1;go_wp2_with fail;refine(q6I tb sb _ F2 k hk W w2 F0 U.o (HB.o.chg a6.o a0.o) aB.o a i c L HL.o HN.o I.o hm).mono ?_;rintro e w3 ⟨rfl,O⟩;rw[<-aE.o];rw[<-a7.o]at O;obtain⟨F3,aA,a8⟩:=U.o.step O (by rw[a7.o];exact y2V U.o.ok k L);have Y:=z7 aA;have R:=z7 (a6.o.trans a8);clear O aA a8;by_cases h1:e1=0
  .subst h1;go_wp2;go_ret;rw[N.o];exact⟨rfl,F3,Y.o.rep,R.o⟩
  have d2:(e1 !=0)=true:=(by simpa using h1);have a3:Hid (z4q s k L=(e1,z1f s1 k)):=z7 (by rw[N.o,wZ h1]);clear N h1;go_wp2_with fail;refine(y1W tb sb s1 F3 k hk w3 (HB.o.chg R.o a0.o) Y.o.rep Y.o.ok).mono ?_;rintro e w4 ⟨rfl,O⟩;have aF:=z7 (z2e.trans R.o O);clear O;go_wp2;go_ret;rw[a3.o];exact⟨rfl,aF.o⟩
end

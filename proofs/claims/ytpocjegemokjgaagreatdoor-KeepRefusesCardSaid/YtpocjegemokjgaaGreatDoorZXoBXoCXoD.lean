/-
  The walks of xor's wrong, write.
-/
import Derived.Test.YtpocjegemokjgaaGreatDoorZZiFXoA
namespace Go.Proofs.YtpocjegemokjgaaGreatDoor
open Go.Proofs.Tryz
set_option linter.all false
set_option maxRecDepth 100000
set_option maxHeartbeats 12800000
open Go.RowKit
theorem y5D(a:Option Addr)(n c:Nat)(l:List Bool)(b:List UInt8)(has:Bool)(prev lead width:Nat)(R:lead<256)(hw:width<256)(hs:z1k ⟨has,prev,lead,width⟩=true)(w:World)(h:z0r w a n c l b)(hl:l.length<=549755813888):
  Calls prog 127 #[.agg #[.slice a n c,.int .i64 l.length],.agg #[.bool has,.int .u64 prev,.int .u8 lead,.int .u8 width]] w fun e w'=>e= .returned (.int .u16 0)/\Below w.heap.size w w':=by
 obtain⟨N,hN⟩:=zN l.length;rw[<-hN];have Y:=z7 (z2q h.bits);have A:=z7 h.len;have a1:n<=70368744177665:=by have:=h.bits.len;have:=h.len;omega
 have a0:N<=549755813888:=by omega
 have HS:=z7 (y5Z has prev lead width R hw);rw[hs]at HS;have H:=z7 h;have HN:=z7 hN;clear h hN hs hl R hw;have I:=z7 (((Loc.start w).new (.cells #[.slice a n c,.int .i64 (N:Nat)] 49)).new' (.cells #[.bool has,.int .u64 prev,.int .u8 lead,.int .u8 width] 96) (n:=w.heap.size+1) (by simp));go_enter func127,ntmps127;go_wp2_with fail;have B:=z2M a c b N _ (by have:=(H.o.low I.o.low).rd;rw[A.o]at this;exact this) (by have:=A.o;omega) (by omega) (by omega);rw[<-A.o,HN.o,Y.o,<-HN.o]at B;refine B.mono ?_;rintro e w2 ⟨rfl,L⟩;have J:=z7 (I.o.call L);clear L B;obtain⟨c0,c1,c2,c3,cf⟩:=z0x (J.o.get 0 rfl);go_wp2_with fail;refine(HS.o _).mono ?_;rintro e w3 ⟨rfl,O⟩;have U:=z7 (J.o.call O);clear O;go_wp2;go_ret;exact⟨rfl,U.o.low⟩
def z3p(s:z4Z)(v:Nat):List (Nat×Nat):=
 if s.has=false then [(v,64)]
 else if v^^^s.prev=0 then [(0,1)]
 else if z5b s.lead s.width (v^^^s.prev)then [(2,2),((v^^^s.prev)/2^(64 - s.lead - s.width),s.width)]
 else [(3,2),(z3q (v^^^s.prev),5),(z1S (v^^^s.prev) - 1,6),((v^^^s.prev)/2^tz (v^^^s.prev),z1S (v^^^s.prev))]
def z3R(ps:List (Nat×Nat)):List Bool:=ps.flatMap fun p=>z2U p.1 p.2
theorem y8O(s:z4Z)(v:Nat):z3R (z3p s v)=(z4S s v).1:=by
 unfold z3p z4S;split
 ·simp[z3R]
 ·split
  ·rfl
  ·split
   ·simp only[z3R,List.flatMap_cons,List.flatMap_nil,List.append_nil];rfl
   ·simp only[z3R,List.flatMap_cons,List.flatMap_nil,List.append_nil,List.append_assoc];rfl
theorem q2r{s:z4Z}{v:Nat}(B:z1k s=true)(L:v<2^64)(A:s.prev<2^64):∀p∈z3p s v,p.1<18446744073709551616/\p.2<=64:=by
 have J:=y1d L A;unfold z3p;split
 ·intro p A;simp only[List.mem_singleton]at A;subst A;exact⟨L,Nat.le_refl _⟩
 ·rename_i I;have I:s.has=true:=by simpa using I
  unfold z1k at B;rw[if_pos I]at B;have B:=of_decide_eq_true B;split
  ·intro p A;simp only[List.mem_singleton]at A;subst A;exact⟨by decide,by decide⟩
  ·rename_i hd;split
   ·intro p A;simp only[List.mem_cons,List.not_mem_nil,or_false]at A;rcases A with rfl|rfl
    ·exact⟨by decide,by decide⟩
    ·exact⟨Nat.lt_of_le_of_lt (Nat.div_le_self _ _) J,by simp only;omega⟩
   ·have N:=z8t J hd;intro p A;simp only[List.mem_cons,List.not_mem_nil,or_false]at A;rcases A with rfl|rfl|rfl|rfl
    ·exact⟨by decide,by decide⟩
    ·exact⟨by simp only;omega,by simp⟩
    ·exact⟨by simp only;omega,by simp⟩
    ·exact⟨Nat.lt_of_le_of_lt (Nat.div_le_self _ _) J,by simp only;omega⟩
def z6t(ps:List (Nat×Nat)):List Value:=ps.flatMap fun p=> [.int .u64 (p.1:Nat),.int .i64 (p.2:Nat)]
def z9w(s:z4Z)(v:Nat)(w:World)(e:Ending)(w':World):Prop:=
 ∃g cs,e= .returned (.tuple #[.slice (some ⟨g,0,none⟩) (z3p s v).length (z3p s v).length,.agg #[.bool (z4S s v).2.has,.int .u64 ((z4S s v).2.prev:Nat),.int .u8 ((z4S s v).2.lead:Nat),.int .u8 ((z4S s v).2.width:Nat)]])/\
  w'.heap[g]? =some (.cells cs 251 (0,0))/\cs.toList=z6t (z3p s v)/\w.heap.size<=g/\Below w.heap.size w w'
theorem z9G{s A:z4Z}{v g n:Nat}{I:List (Nat×Nat)}{w w':World}{cs:Array Value}(h:z3p s v=I/\(z4S s v).2=A)(L:w'.heap[g]? =some (.cells cs 251 (0,0)))(N:n=I.length)(J:cs.toList=z6t I)(B:w.heap.size<=g)(hb:Below w.heap.size w w'):
  z9w s v w (.returned (.tuple #[.slice (some ⟨g,0,none⟩) n n,.agg #[.bool A.has,.int .u64 (A.prev:Nat),.int .u8 (A.lead:Nat),.int .u8 (A.width:Nat)]])) w':=by
 obtain⟨rfl,rfl⟩:=h;subst N;exact⟨g,cs,rfl,L,J,B,hb⟩
theorem q1I(has:Bool)(prev lead width v:Nat)(hs:z1k ⟨has,prev,lead,width⟩=true)(hp:prev<18446744073709551616)(hv:v<18446744073709551616)(w:World)(hT:z1u w):
  Calls prog 128 #[.agg #[.bool has,.int .u64 prev,.int .u8 lead,.int .u8 width],.int .u64 (v:Nat)] w (z9w ⟨has,prev,lead,width⟩ v w):=by
 have aA:=z7 (((Loc.start w).new (.cells #[.bool has,.int .u64 prev,.int .u8 lead,.int .u8 width] 96)).new' (.cells #[.bool true,.int .u64 (v:Nat),.int .u8 0,.int .u8 0] 96) (n:=w.heap.size+1) (by simp));cases has with
 | false=>
  have a6:=z7 (aA.o.new' (.cells #[.int .u64 (v:Nat),.int .i64 64] 251) (n:=w.heap.size+1+1) (by simp));clear hs hp hv hT;go_enter func128,ntmps128;go_wp2;refine bodyPost_ret (z8Y rfl _ _ (w.heap.size+1) _ _ _ _ rfl (a6.o.get 1 rfl) rfl) rfl ?_;exact⟨w.heap.size+1+1,_,rfl,a6.o.get 0 rfl,rfl,a6.o.ge 0 rfl,a6.o.low⟩
 | true=>
  obtain⟨d,hd⟩:=zN (v^^^prev);have hx:bits .xor .u64 (v:Int) (prev:Int)=(d:Int):=by rw[hd];exact u64_xor_nat _ _ hv hp
  have a0:d<18446744073709551616:=by rw[hd];exact y1d hv hp
  have a3:=hs;unfold z1k at a3;simp only[if_true]at a3;have a3:=of_decide_eq_true a3;have aR:lead<=31/\width<=64/\lead+width<=64:=by omega
  have aA:=z7 (((Loc.start w).new (.cells #[.bool true,.int .u64 (v:Nat),.int .u8 lead,.int .u8 width] 96)).new' (.cells #[.bool false,.int .u64 0,.int .u8 0,.int .u8 0] 96) (n:=w.heap.size+1) (by simp));have aT:=z7 (q2U true v lead width (by omega) (by omega));have HD:=z7 hd;clear hs a3 hd hp hv;go_enter func128,ntmps128;go_wp2_with fail;refine(aT.o _).mono ?_;rintro e w2 ⟨rfl,aM⟩;have R:=z7 (aA.o.call aM);have HT:=z7 (fun w' (hb:Below w.heap.size w w')=>hT.low hb);clear aM hT;obtain⟨c0,c1,c2,c3,cf⟩:=z0x (R.o.get 1 rfl);obtain⟨r0,r1,r2,r3,rf⟩:=z0x (R.o.get 0 rfl);have l0:=R.o.lt 0 rfl;have l1:=R.o.lt 1 rfl;by_cases h0:d=0
  ·subst h0;go_wp2;go_region
   have a7:=((((((R.o.set 0 rfl 0 (.bool true)).set 0 rfl 1 (.int .u64 (v:Nat))).set 0 rfl 2 (.int .u8 lead)).set 0 rfl 3 (.int .u8 width)).new (.cells #[.int .i64 lead,.int .i64 width] 285)).new' (.cells #[.int .u64 0,.int .i64 1] 251) (n:=w2.heap.size+1) (by simp)).drew;have a2:Hid (z3p ⟨true,prev,lead,width⟩ v= [(0,1)]/\(z4S ⟨true,prev,lead,width⟩ v).2=⟨true,v,lead,width⟩):=z7 (by
    unfold z3p z4S;simp[HD.o.symm])
   go_wp2;refine bodyPost_ret (z8Y rfl _ _ (w.heap.size+1) _ _ _ _ rfl (a7.get 2 rfl) rfl) rfl ?_;exact z9G a2.o (a7.get 0 rfl) rfl rfl (a7.ge 0 rfl) a7.low
  ·have d0:((d:Int)==0)=false:=(by simp;omega);have HH:=z7 (q2M lead width d aR.2.2 a0);have aG:=z7 (y0w lead width aR.2.2);obtain⟨D,I⟩:=zN (64 - lead - width);rw[<-I]at aG;have aS:=z7 I;have aX:D<=64:=(by omega);have a5:=z7 h0;clear I h0;go_wp2_with fail;refine(HH.o _ (HT.o _ (R.o.new _).low)).mono ?_;rintro e w3 ⟨rfl,aN⟩;have J:=z7 ((R.o.new (.cells #[.int .i64 lead,.int .i64 width] 285)).call aN);clear aN c0 c1 c2 c3 cf r0 r1 r2 r3 rf;obtain⟨c0,c1,c2,c3,cf⟩:=z0x (J.o.get 2 rfl);obtain⟨r0,r1,r2,r3,rf⟩:=z0x (J.o.get 1 rfl);obtain⟨Y,b1,bf⟩:=z0i (J.o.get 0 rfl);have l2:=J.o.lt 0 rfl;have l3:=J.o.lt 1 rfl;have l4:=J.o.lt 2 rfl;have L:Hid (∀w',Below w3.heap.size w3 w'->w'.cell? ⟨w.heap.size,0,none⟩=some (.bool true)/\w'.cell? ⟨w.heap.size,1,none⟩=some (.int .u64 (v:Nat))/\w'.cell? ⟨w.heap.size,2,none⟩=some (.int .u8 lead)/\w'.cell? ⟨w.heap.size,3,none⟩=some (.int .u8 width)/\w'.cell? ⟨w2.heap.size,0,none⟩=some (.int .i64 lead)/\w'.cell? ⟨w2.heap.size,1,none⟩=some (.int .i64 width)):=z7 fun w' hb=>by
    obtain⟨c0,c1,c2,c3,cf⟩:=z0x ((J.o.call hb).get 2 rfl);obtain⟨Y,b1,bf⟩:=z0i ((J.o.call hb).get 0 rfl);exact⟨c0,c1,c2,c3,Y,b1⟩
   cases hin:z5b lead width d with
   | true=>
    obtain⟨q,hq⟩:=zN (d/2^D);have aU:(d:Int)/2^D=(q:Int):=(by rw[hq];simp);have a2:Hid (z3p ⟨true,prev,lead,width⟩ v= [(2,2),(q,width)]/\(z4S ⟨true,prev,lead,width⟩ v).2=⟨true,v,lead,width⟩):=z7 (by
     unfold z3p z4S;simp[HD.o.symm,a5.o,hin,hq,aS.o])
    clear hq hin;go_upto_region 9 with fail
    clear c0 c1 c2 c3 cf Y b1 bf;refine q6 11 73 (fun D v w'=>SlS w3 251 2 8 10 #[.int .u64 2,.int .i64 2,.int .u64 (q:Nat),.int .i64 width] D v w') (SlS.start _ _ _ _ _ _) ?_;simp only[z0v];iterate 3 (refine q8.rl (e:=?_) (fun D v w h=>⟨h.low,h.made,h.asg⟩) (fun D v w' I B=>?_) ?_;rotate_left;(obtain⟨c0,c1,c2,c3,Y,b1⟩:=L.o w' B.low;clear B I;go_simp;try with_reducible rfl);go_simp)
    refine q8.ca (.int .i64 (D:Nat)) (fun D v w' I B=>?_) ?_
    ·have HS:=z7 B;clear B I;go_simp;go_at_call 158;refine(aG.o w').mono ?_;rintro e aV ⟨rfl,aC⟩;exact⟨rfl,HS.o.call 3 (by decide) (by decide) aC⟩
    go_simp;iterate 4 (refine q8.rl (e:=?_) (fun D v w h=>⟨h.low,h.made,h.asg⟩) (fun D v w' I B=>?_) ?_;rotate_left;(obtain⟨c0,c1,c2,c3,Y,b1⟩:=L.o w' B.low;clear B I;go_simp;try with_reducible rfl);go_simp)
    refine q8.re (fun D v w' I B=>?_) ?_
    ·have dj:D 10=false:=I.post 10 _ rfl (by kernel_rfl);have O:=z7 (SlS.make (by decide) B dj);clear B I;go_simp;exact O.o
    go_simp;iterate 1 (refine q8.rl (e:=?_) (fun D v w h=>⟨h.low,h.made,h.asg⟩) (fun D v w' I B=>?_) ?_;rotate_left;(obtain⟨c0,c1,c2,c3,Y,b1⟩:=L.o w' B.low;clear B I;go_simp;try with_reducible rfl);go_simp)
    refine q8.re (fun D v w' I B=>?_) ?_
    ·have dn:=I.pre 8 (by kernel_rfl);have O:=z7 (SlS.assign (by decide) B dn);clear I B dn;go_simp;first|exact O.o|exact⟨_,rfl,O.o,trivial⟩
    go_simp;refine q8.fin (fun vv w5 B=>?_);obtain⟨g,aE,hg,a1⟩:=B.made rfl;have a4:=(B.asg rfl).2.trans aE;have aH:=z7 (J.o.call B.low);have a9:=z7 a1;clear B a1;clear L;obtain⟨r0,r1,r2,r3,rf⟩:=z0x (aH.o.get 1 rfl);rw[a4];go_wp2;have N:=(((aH.o.set 1 rfl 0 (.bool true)).set 1 rfl 1 (.int .u64 (v:Nat))).set 1 rfl 2 (.int .u8 lead)).set 1 rfl 3 (.int .u8 width);refine bodyPost_ret (z8Y rfl _ _ (w.heap.size+1) _ _ _ _ rfl (N.get 1 rfl) rfl) rfl ?_;exact z9G a2.o (by rw[q7 (by omega),q7 (by omega),q7 (by omega),q7 (by omega)];exact a9.o) rfl rfl (by omega) N.low
   | false=>
    have aF:=z7 (y3b d a0 a5.o);obtain⟨z1,z2,z3,z4⟩:=z8t a0 a5.o;obtain⟨A,hA⟩:=zN (z3q d);obtain⟨S,B⟩:=zN (z1S d);obtain⟨T,aB⟩:=zN (tz d);obtain⟨q,hq⟩:=zN (d/2^T);have aU:(d:Int)/2^T=(q:Int):=(by rw[hq];simp);have a2:Hid (z3p ⟨true,prev,lead,width⟩ v= [(3,2),(A,5),(S - 1,6),(q,S)]/\(z4S ⟨true,prev,lead,width⟩ v).2=⟨true,v,A,S⟩):=z7 (by
     unfold z3p z4S;simp[HD.o.symm,a5.o,hin,hq,hA,B,aB])
    rw[<-hA,<-B]at aF z3 z4;rw[<-hA]at z2;rw[<-B]at z1;rw[<-aB]at z4;have a8:=z7 (y0w A S z3);rw[z4]at a8;have aY:T<=64:=(by omega);have aZ:(A:Int)%256=A:=(by omega);have aW:(S:Int)%256=S:=(by omega);have b2:IntKind.i64.wrap ((S:Int) - 1)=((S - 1:Nat):Int):=(by rw[z0n (by omega) (by omega)];omega);have b3:IntKind.u64.wrap ((S - 1:Nat):Int)=((S - 1:Nat):Int):=(by rw[IntKind.wrap_u64];omega);have aD:IntKind.u64.wrap (A:Int)=(A:Int):=(by rw[IntKind.wrap_u64];omega);clear hq hin hA B aB z2 z3 z4 z1 L;go_wp2_with fail;refine(aF.o _ (HT.o _ J.o.low)).mono ?_;rintro e w4 ⟨rfl,aO⟩;have U:=z7 (J.o.call aO);clear aO c0 c1 c2 c3 cf r0 r1 r2 r3 rf Y b1 bf;obtain⟨c0,c1,c2,c3,cf⟩:=z0x (U.o.get 2 rfl);obtain⟨r0,r1,r2,r3,rf⟩:=z0x (U.o.get 1 rfl);obtain⟨Y,b1,bf⟩:=z0i (U.o.get 0 rfl);have m2:=U.o.lt 0 rfl;have m3:=U.o.lt 1 rfl;have m4:=U.o.lt 2 rfl;go_wp2_with fail;go_region
    go_upto_region 12 with fail
    obtain⟨W6,aL,N⟩:=((((U.o.set 0 rfl 0 (.int .i64 (A:Nat))).set 0 rfl 1 (.int .i64 (S:Nat))).set 2 rfl 2 (.int .u8 (A:Nat))).set 2 rfl 3 (.int .u8 (S:Nat))).drew.named;rw[<-aL];have N:=z7 N;have L:Hid (∀w',Below W6.heap.size W6 w'->w'.cell? ⟨w.heap.size,0,none⟩=some (.bool true)/\w'.cell? ⟨w.heap.size,1,none⟩=some (.int .u64 (v:Nat))/\w'.cell? ⟨w.heap.size,2,none⟩=some (.int .u8 (A:Nat))/\w'.cell? ⟨w.heap.size,3,none⟩=some (.int .u8 (S:Nat))/\w'.cell? ⟨w2.heap.size,0,none⟩=some (.int .i64 (A:Nat))/\w'.cell? ⟨w2.heap.size,1,none⟩=some (.int .i64 (S:Nat))):=z7 fun w' hb=>by
     obtain⟨c0,c1,c2,c3,cf⟩:=z0x ((N.o.call hb).get 2 rfl);obtain⟨Y,b1,bf⟩:=z0i ((N.o.call hb).get 0 rfl);exact⟨c0,c1,c2,c3,Y,b1⟩
    clear aL c0 c1 c2 c3 cf r0 r1 r2 r3 rf Y b1 bf;refine q6 20 73 (fun D v w'=>SlS W6 251 4 17 19 #[.int .u64 3,.int .i64 2,.int .u64 (A:Nat),.int .i64 5,.int .u64 (S - 1:Nat),.int .i64 6,.int .u64 (q:Nat),.int .i64 (S:Nat)] D v w') (SlS.start _ _ _ _ _ _) ?_;simp only[z0v];iterate 12 (refine q8.rl (e:=?_) (fun D v w h=>⟨h.low,h.made,h.asg⟩) (fun D v w' I B=>?_) ?_;rotate_left;(obtain⟨c0,c1,c2,c3,Y,b1⟩:=L.o w' B.low;clear B I;go_simp;try with_reducible rfl);go_simp)
    refine q8.ca (.int .i64 (T:Nat)) (fun D v w' I B=>?_) ?_
    ·have HS:=z7 B;clear B I;go_simp;go_at_call 158;refine(a8.o w').mono ?_;rintro e aV ⟨rfl,aC⟩;exact⟨rfl,HS.o.call 12 (by decide) (by decide) aC⟩
    go_simp;iterate 4 (refine q8.rl (e:=?_) (fun D v w h=>⟨h.low,h.made,h.asg⟩) (fun D v w' I B=>?_) ?_;rotate_left;(obtain⟨c0,c1,c2,c3,Y,b1⟩:=L.o w' B.low;clear B I;go_simp;try with_reducible rfl);go_simp)
    refine q8.re (fun D v w' I B=>?_) ?_
    ·have dj:D 19=false:=I.post 19 _ rfl (by kernel_rfl);have O:=z7 (SlS.make (by decide) B dj);clear B I;go_simp;exact O.o
    go_simp;iterate 1 (refine q8.rl (e:=?_) (fun D v w h=>⟨h.low,h.made,h.asg⟩) (fun D v w' I B=>?_) ?_;rotate_left;(obtain⟨c0,c1,c2,c3,Y,b1⟩:=L.o w' B.low;clear B I;go_simp;try with_reducible rfl);go_simp)
    refine q8.re (fun D v w' I B=>?_) ?_
    ·have dn:=I.pre 17 (by kernel_rfl);have O:=z7 (SlS.assign (by decide) B dn);clear I B dn;go_simp;first|exact O.o|exact⟨_,rfl,O.o,trivial⟩
    go_simp;refine q8.fin (fun vv w7 B=>?_);obtain⟨g,aE,hg,a1⟩:=B.made rfl;have a4:=(B.asg rfl).2.trans aE;have aI:=z7 (N.o.call B.low);have a9:=z7 a1;have b4:=N.o.lt 1 rfl;clear B a1 L;obtain⟨r0,r1,r2,r3,rf⟩:=z0x (aI.o.get 1 rfl);rw[a4];go_wp2;have aJ:=(((aI.o.set 1 rfl 0 (.bool true)).set 1 rfl 1 (.int .u64 (v:Nat))).set 1 rfl 2 (.int .u8 (A:Nat))).set 1 rfl 3 (.int .u8 (S:Nat));refine bodyPost_ret (z8Y rfl _ _ (w.heap.size+1) _ _ _ _ rfl (aJ.get 1 rfl) rfl) rfl ?_;exact z9G a2.o (by rw[q7 (by omega),q7 (by omega),q7 (by omega),q7 (by omega)];exact a9.o) rfl rfl (by omega) aJ.low
theorem z4i{w:World}{base e size n:Nat}{v:Value}{A:List Value}(h:w.ownsRow base e size v n A):w.drew.ownsRow base e size v n A:=j7 h fun _ _=>rfl
theorem q3y{A:List (Nat×Nat)}{k:Nat}{p:Nat×Nat}(h:A[k]? =some p):(z6t A)[k*2]? =some (.int .u64 (p.1:Nat))/\(z6t A)[k*2+1]? =some (.int .i64 (p.2:Nat)):=by
 induction A generalizing k with
 | nil=>simp at h
 | cons q A ih=>
  unfold z6t at ih ⊢;rw[List.flatMap_cons];cases k with
  | zero=>
   simp only[List.getElem?_cons_zero,Option.some.injEq]at h;subst h;exact⟨rfl,rfl⟩
  | succ k=>
   rw[List.getElem?_cons_succ]at h;obtain⟨B,I⟩:=ih h;rw[show(k+1)*2=k*2+2 by omega];exact⟨B,I⟩
theorem y4y{A:List (Nat×Nat)}{k:Nat}{p:Nat×Nat}(h:A[k]? =some p):z3R (A.take (k+1))=z3R (A.take k)++z2U p.1 p.2:=by
 unfold z3R;rw[List.take_add_one,h];simp
theorem y9d(s:z4Z)(v:Nat):0<(z3p s v).length/\(z3p s v).length<=4:=by
 unfold z3p;split
 ·exact⟨by simp,by simp⟩
 ·split
  ·exact⟨by simp,by simp⟩
  ·split
   ·exact⟨by simp,by simp⟩
   ·exact⟨by simp,by simp⟩
def y1E(W:World)(l:List Bool)(s:z4Z)(e:Ending)(w':World):Prop:=
 ∃a n c b,e= .returned (.tuple #[.agg #[.slice a n c,.int .i64 l.length],.agg #[.bool s.has,.int .u64 (s.prev:Nat),.int .u8 (s.lead:Nat),.int .u8 (s.width:Nat)],.int .u16 0])/\w'.ownsRow W.heap.size 5 1 (.slice a n c) n (z0b b)/\n=b.length/\z0R b l/\Below W.heap.size W w'
theorem q4P(a:Option Addr)(n c:Nat)(l:List Bool)(b:List UInt8)(has:Bool)(prev lead width v:Nat)(hs:z1k ⟨has,prev,lead,width⟩=true)(hp:prev<18446744073709551616)(hv:v<18446744073709551616)(w:World)(h:z0r w a n c l b)(hl:l.length<=549755813000)(hT:z1u w):
  Calls prog 86 #[.agg #[.slice a n c,.int .i64 l.length],.agg #[.bool has,.int .u64 prev,.int .u8 lead,.int .u8 width],.int .u64 v] w (y1E w (l++(z4S ⟨has,prev,lead,width⟩ v).1) (z4S ⟨has,prev,lead,width⟩ v).2):=by
 have aG:lead<256/\width<256:=by
  cases has with
  | false=>
   have:z1k ⟨false,prev,lead,width⟩=decide (prev=0/\lead=0/\width=0):=(by unfold z1k zeroV;simp);rw[this]at hs;have:=of_decide_eq_true hs;omega
  | true=>
   unfold z1k at hs;simp only[if_true]at hs;have:=of_decide_eq_true hs;omega
 obtain⟨N,hN⟩:=zN l.length;rw[<-hN];have aN:=z7 (fun w' (hb:z0r w' a n c l b)=>y5D a n c l b has prev lead width aG.1 aG.2 hs w' hb (by omega));rw[<-hN]at aN;have L:=z7 (fun w'=>q1I has prev lead width v hs hp hv w');have aC:=z7 (q2r hs hv hp);obtain⟨s,b5⟩:=zN (⟨has,prev,lead,width⟩:z4Z);rw[<-b5]at aC L ⊢;have b3:=y8O s v;have a7:=y9d s v;rw[<-b3];obtain⟨ps,aH⟩:=zN (z3p s v);obtain⟨s2,aI⟩:=zN ((z4S s v).2);obtain⟨sh,sp,sl,sw⟩:=s2;unfold z9w at L;rw[<-aH]at aC a7 ⊢;rw[<-aH,<-aI]at L;rw[<-aI];simp only at L;obtain⟨m,hm⟩:=zN ps.length;rw[<-hm]at L a7;have H:=z7 h;have HN:=z7 hN;have HM:=z7 hm;have HT:=z7 (fun w' (hb:Below w.heap.size w w')=>hT.low hb);have bE:N<=549755813000:=by omega
 have aJ:=z7 (((((Loc.start w).new (.cells #[.slice a n c,.int .i64 (N:Nat)] 49)).new' (.cells #[.bool has,.int .u64 prev,.int .u8 lead,.int .u8 width] 96) (n:=w.heap.size+1) (by simp)).new' (.cells #[.slice none 0 0,.int .i64 0] 49) (n:=w.heap.size+1+1) (by simp)).new' (.cells #[.bool false,.int .u64 0,.int .u8 0,.int .u8 0] 96) (n:=w.heap.size+1+1+1) (by simp));clear hs hp hv h hl hT aG hN b5 b3 aH aI hm;go_enter func86,ntmps86;go_wp2_with fail;refine(aN.o _ (H.o.low aJ.o.low)).mono ?_;rintro e w2 ⟨rfl,aU⟩;have aA:=z7 (aJ.o.call aU);clear aU;obtain⟨c0,c1,c2,c3,cf⟩:=z0x (aA.o.get 2 rfl);go_wp2_with fail;refine(L.o _ (HT.o _ aA.o.low)).mono ?_;rintro e w3 ⟨g,cs,rfl,hg,aZ,aD,aV⟩;have aL:=z7 (aA.o.add aV hg aD);have b7:=z7 aZ;clear aV hg aD aZ c0 c1 c2 c3 cf;obtain⟨c0,c1,c2,c3,cf⟩:=z0x (aL.o.get 3 rfl);go_wp2_with fail;obtain⟨W4,aT,O⟩:=((((aL.o.set 3 rfl 0 (.bool sh)).set 3 rfl 1 (.int .u64 sp)).set 3 rfl 2 (.int .u8 sl)).set 3 rfl 3 (.int .u8 sw)).named;rw[<-aT];have O:=z7 (show Loc w [(g,.cells cs 251 (0,0)),(w.heap.size+1+1+1,.cells #[.bool false,.int .u64 0,.int .u8 0,.int .u8 0] 96 (0,0)),(w.heap.size+1+1,.cells #[.slice none 0 0,.int .i64 0] 49 (0,0)),(w.heap.size+1,.cells #[.bool sh,.int .u64 sp,.int .u8 sl,.int .u8 sw] 96 (0,0)),(w.heap.size,.cells #[.slice a n c,.int .i64 (N:Nat)] 49 (0,0))] W4 from O)
 clear aT c0 c1 c2 c3 cf;go_loopw[29] (fun kv wr=>∃k ak nk ck bk Nk,kv= .int .i64 (k:Nat)/\k<=m/\Nk<=N+64*k/\Hid (Loc w [(g,.cells cs 251 (0,0)),(w.heap.size+1+1+1,.cells #[.bool false,.int .u64 0,.int .u8 0,.int .u8 0] 96 (0,0)),(w.heap.size+1+1,.cells #[.slice none 0 0,.int .i64 0] 49 (0,0)),(w.heap.size+1,.cells #[.bool sh,.int .u64 sp,.int .u8 sl,.int .u8 sw] 96 (0,0)),(w.heap.size,.cells #[.slice ak nk ck,.int .i64 (Nk:Nat)] 49 (0,0))] wr)/\
   Hid (Nk=(l++z3R (ps.take k)).length)/\Hid (z0r wr ak nk ck (l++z3R (ps.take k)) bk)/\Hid (k=0\/wr.ownsRow (w.heap.size+1+1+1+1) 5 1 (.slice ak nk ck) nk (z0b bk))) (fun kv _=>match kv with | .int _ x=>m - x.toNat|_=>0)
 case atStart=>exact⟨0,a,n,c,b,N,rfl,Nat.zero_le _,by omega,O,z7 (by simpa[z3R]using HN.o),z7 (by simpa[z3R]using H.o.low O.o.low),z7 (.inl rfl)⟩
 case round=>
  obtain⟨k,ak,nk,ck,bk,Nk,rfl,hk,bC,A,a0,aE,aS⟩:=hrel;clear O;obtain⟨c0,c1,cf⟩:=z0i (A.o.get 4 rfl);have l0:=A.o.lt 4 rfl;by_cases hkm:k<m
  ·have d0:(k:Int)<m:=(by omega);obtain⟨p,a2⟩:∃p,ps[k]? =some p:=⟨_,List.getElem?_eq_getElem (by have:=HM.o;omega)⟩;obtain⟨pv,pw⟩:=p;have a1:=q3y a2;rw[<-b7.o]at a1;have hg:=A.o.get 0 rfl;have g0:wr.cell? ⟨g,k*2,none⟩=some (.int .u64 pv):=(by rw[cell_of_row wr g (k*2) _ _ (0,0) hg];simpa using a1.1);have g1:wr.cell? ⟨g,k*2+1,none⟩=some (.int .i64 pw):=(by rw[cell_of_row wr g (k*2+1) _ _ (0,0) hg];simpa using a1.2);obtain⟨b1,b2⟩:=aC.o _ (List.mem_of_getElem? a2);simp only at b1 b2;have bA:IntKind.i64.wrap ((k:Int)+1)=((k+1:Nat):Int):=z0n (by omega) (by omega);obtain⟨k',aF⟩:=zN (k+1);rw[<-aF]at bA;have a3:Hid (l++z3R (ps.take k')=(l++z3R (ps.take k))++z2U pv pw):=z7 (by rw[aF,y4y a2,List.append_assoc]);have b9:=z7 (A.o.new (.cells #[.int .u64 pv,.int .i64 pw] 251));have hP:=y3C ak nk ck (l++z3R (ps.take k)) bk pv pw (wr.alloc (.cells #[.int .u64 pv,.int .i64 pw] 251)) (aE.o.low (q5 _ _)) (by rw[<-a0.o];omega) b1 b2;rw[<-a0.o,<-a3.o]at hP;have HP:=z7 hP;have aW:k'<=m/\k<k':=(by omega);have aO:Nk+pw<=N+64*k':=by omega
   have U:Hid ((l++z3R (ps.take k')).length=Nk+pw):=z7 (by rw[a3.o,List.length_append,<-a0.o,z0X]);have bB:=z7 (A.o.ge 1 rfl);clear hg a1 a2 hP aF aE aS;go_wp2_with fail;refine HP.o.mono ?_;rintro e w6 ⟨a6,n6,c6,b6,rfl,Y,b0,J,aX⟩;have aM:=z7 (b9.o.call aX).less;have a4:=z7 Y;have b8:=z7 b0;have a9:=z7 J;rw[U.o];obtain⟨N6,aR⟩:=zN (Nk+pw);rw[<-aR]at aO U ⊢;have aY:Hid (w.heap.size+1+1+1+1<=(wr.alloc (.cells #[.int .u64 pv,.int .i64 pw] 251)).heap.size):=z7 (by have:=A.o.lt 1 rfl;simp;omega);clear Y b0 J aX aR c0 c1 cf g0 g1;obtain⟨c0,c1,cf⟩:=z0i (aM.o.get 4 rfl);go_wp2;have B:∀q,(Value.slice a6 n6 c6).ownBlock=some q->q≠w.heap.size:=fun q I=>by have:=(a4.o.lt q I).1;have:=aY.o;omega
   have b4:=z0c (j7 (j7 a4.o fun q I=>q7 (o:=0) (u:= .slice a6 n6 c6) (B q I)) fun q I=>q7 (o:=1) (u:= .int .i64 (N6:Nat)) (B q I)) aY.o;exact⟨⟨k',a6,n6,c6,b6,N6,rfl,aW.1,aO,z7 ((aM.o.set 4 rfl 0 (.slice a6 n6 c6)).set 4 rfl 1 (.int .i64 (N6:Nat))),z7 U.o.symm,z7 (z5l b4 b8.o a9.o),z7 (.inr b4)⟩,by show m - (k':Int).toNat<m - (k:Int).toNat;omega⟩
  ·obtain rfl:k=m:=by omega
   have d0:decide ((k:Int)<k)=false:=decide_eq_false (by omega);obtain⟨v0,v1,v2,v3,vf⟩:=z0x (A.o.get 3 rfl);obtain⟨r0,r1,rf⟩:=z0i (A.o.get 2 rfl);obtain⟨q0,q1,q2,q3,qf⟩:=z0x (A.o.get 1 rfl);have l1:=A.o.lt 3 rfl;have l2:=A.o.lt 2 rfl;have l3:=A.o.lt 1 rfl;go_wp2_with fail;go_region
   go_wp2;have aB:=((((((A.o.set 2 rfl 0 (.slice ak nk ck)).set 2 rfl 1 (.int .i64 (Nk:Nat))).set 1 rfl 0 (.bool sh)).set 1 rfl 1 (.int .u64 sp)).set 1 rfl 2 (.int .u8 sl)).set 1 rfl 3 (.int .u8 sw)).drew;refine bodyPost_ret (q2L rfl _ _ (w.heap.size+1+1) _ _ rfl (aB.get 2 rfl) rfl (w.heap.size+1+1+1) _ _ _ _ rfl (aB.get 1 rfl) rfl) rfl ?_;have a3:ps.take k=ps:=List.take_of_length_le (by have:=HM.o;omega);have a5:=a0.o;have R:=aE.o;rw[a3]at a5 R;rcases aS.o with h0|a8
   ·omega
   ·have B:∀q,(Value.slice ak nk ck).ownBlock=some q->q≠w.heap.size+1+1/\q≠w.heap.size+1+1+1:=fun q I=>by have:=(a8.lt q I).1;omega
    refine⟨ak,nk,ck,bk,by rw[<-a5];rfl,?_,R.len,R.bits,aB.low⟩;have e1:=j7 a8 fun q I=>q7 (o:=0) (u:= .slice ak nk ck) (B q I).1;have e2:=j7 e1 fun q I=>q7 (o:=1) (u:= .int .i64 (Nk:Nat)) (B q I).1;have e3:=j7 e2 fun q I=>q7 (o:=0) (u:= .bool sh) (B q I).2;have e4:=j7 e3 fun q I=>q7 (o:=1) (u:= .int .u64 sp) (B q I).2;have e5:=j7 e4 fun q I=>q7 (o:=2) (u:= .int .u8 sl) (B q I).2;have e6:=j7 e5 fun q I=>q7 (o:=3) (u:= .int .u8 sw) (B q I).2;exact z0c (z4i e6) (by omega)
def y7T(w:World)(q:Nat)(o o':Obj)(w':World):Prop:=∀w0 K i,Loc w0 K w->K[i]? =some (q,o)->Loc w0 (K.set i (q,o')) w'
theorem y7T.same(w:World)(q:Nat)(o:Obj):y7T w q o o w:=fun w0 K i h B=>by
 have A:=(List.getElem?_eq_some_iff.1 B).1;have:K.set i (q,o)=K:=by
  apply List.ext_getElem?;intro j;by_cases hj:j=i
  ·subst hj;rw[List.getElem?_set_self A,B]
  ·rw[List.getElem?_set_ne (Ne.symm hj)]
 rw[this];exact h
def tkN(e:Nat)(l:List Bool)(p w:Nat):Nat:=if e=0 then z2E l p w else 0
def tkE(e:Nat)(l:List Bool)(p w:Nat):Nat:=if e=0 then z2e l p w else e
def tkP(e:Nat)(p w:Nat):Nat:=if e=0 then p+w else p
def z0l(a:Option Addr)(n c N p e:Nat):Obj:= .cells #[.slice a n c,.int .i64 N,.int .i64 p,.int .u16 e] 305 (0,0)
theorem z5I(l:List Bool)(p w:Nat):z2e l p w<100:=by unfold z2e;split<;>decide
theorem q2R(l:List Bool)(p w:Nat)(A:w<=64):z2E l p w<18446744073709551616:=by
 unfold z2E;split
 ·exact Nat.lt_of_lt_of_le (z5P _) (Nat.pow_le_pow_right (by decide) (by simp;omega):2^_<=2^64)
 ·decide
theorem y4d(e:Nat)(l:List Bool)(p w:Nat)(A:w<=64):tkN e l p w<18446744073709551616:=by
 unfold tkN;split
 ·exact q2R l p w A
 ·decide
theorem z7F(e:Nat)(l:List Bool)(p w:Nat):tkN e l p w<2^w:=by
 unfold tkN z2E;split
 ·split
  ·exact Nat.lt_of_lt_of_le (z5P _) (Nat.pow_le_pow_right (by decide) (by simp;omega))
  ·exact Nat.two_pow_pos _
 ·exact Nat.two_pow_pos _
theorem y8x(q:Nat)(a:Option Addr)(n c:Nat)(l:List Bool)(b:List UInt8)(p A width:Nat)(w:World)(h:z0r w a n c l b)(hl:l.length<=549755813888)(hp:p<=1099511627000)(he:A<100)(hw:width<=64)(J:w.heap[q]? =some (z0l a n c l.length p A)):
  Calls prog 171 #[.pointer (some ⟨q,0,none⟩),.int .i64 width] w fun e w'=>e= .returned (.int .u64 (tkN A l p width:Nat))/\y7T w q (z0l a n c l.length p A) (z0l a n c l.length (tkP A p width) (tkE A l p width)) w':=by
 obtain⟨N,hN⟩:=zN l.length;rw[<-hN]at J ⊢;have a4:=(Array.getElem?_eq_some_iff.1 J).1;obtain⟨c0,c1,c2,c3,cf⟩:=z0x J;by_cases h0:A=0
 ·subst h0;have L:tkN 0 l p width=z2E l p width:=rfl;have O:tkE 0 l p width=z2e l p width:=rfl;have R:tkP 0 p width=p+width:=rfl;rw[L,O,R];obtain⟨p',a1⟩:=zN (p+width);rw[<-a1];have a6:IntKind.i64.wrap ((p:Int)+width)=(p':Int):=by rw[z0n (by omega) (by omega)];omega
  have I:Hid (∀w',Below w.heap.size w w'->w'.heap[q]? =some (z0l a n c N p 0)):=z7 fun w' hb=>(hb.block q a4).trans J;have hG:Hid (∀w',z0r w' a n c l b->Calls prog 169 #[.agg #[.slice a n c,.int .i64 (N:Nat)],.int .i64 p,.int .i64 width] w' fun e a2=>e= .returned (.tuple #[.int .u64 (z2E l p width:Nat),.int .u16 (z2e l p width:Nat)])/\Below w'.heap.size w' a2):=z7 fun w' hb=>by
   have:=y1i a n c l b p width w' hb hl (by omega) hw;rw[<-hN]at this;exact this
  have H:=z7 h;obtain⟨E0,Y⟩:=zN (z2e l p width);obtain⟨N0,a0⟩:=zN (z2E l p width);rw[<-Y,<-a0]at hG ⊢;clear L O R a1 J h Y a0 hl he hw hN;go_enter func171,ntmps171;go_wp2_with fail;clear c0 c1 c2 c3 cf;refine q6 17 36 (fun D v w'=>Below w.heap.size w w') (Below.refl _ _).drew ?_;simp only[z0v];iterate 10 (refine q8.rd (e:=?_) (fun D v w' U B=>?_) ?_;rotate_left;(obtain⟨c0,c1,c2,c3,cf⟩:=z0x (I.o w' B);clear B U;go_simp;try with_reducible rfl);go_simp)
  refine q8.ca (.tuple #[.int .u64 (N0:Nat),.int .u16 (E0:Nat)]) (fun D v w' U B=>?_) ?_
  ·have HS:=z7 B;clear B U;go_simp;go_at_call 169;refine(hG.o w' (H.o.low HS.o)).mono ?_;rintro e a2 ⟨rfl,a3⟩;exact⟨rfl,HS.o.trans (a3.mono HS.o.size)⟩
  go_simp;iterate 6 (refine q8.rd (e:=?_) (fun D v w' U B=>?_) ?_;rotate_left;(obtain⟨c0,c1,c2,c3,cf⟩:=z0x (I.o w' B);clear B U;go_simp;try with_reducible rfl);go_simp)
  refine q8.fin (fun v w5 B=>?_);have HB:=z7 B;obtain⟨c0,c1,c2,c3,cf⟩:=z0x (I.o w5 B);clear B;go_wp2;go_ret;refine⟨rfl,fun w0 K i hL hi=>?_⟩;have h1:=(hL.call HB.o).set i hi 3 (.int .u16 (E0:Nat));have h2:=h1.set i (by rw[List.getElem?_set_self (List.getElem?_eq_some_iff.1 hi).1]) 2 (.int .i64 (p':Nat));rw[List.set_set]at h2;exact h2
 ·have a5:((A:Int)==0)=false:=by simp;omega
  have L:tkN A l p width=0:=if_neg h0;have O:tkE A l p width=A:=if_neg h0;have R:tkP A p width=p:=if_neg h0;rw[L,O,R];have HT:=z7 (y7T.same w q (z0l a n c N p A));clear L O R h J hN;go_enter func171,ntmps171;go_wp2;go_ret;exact⟨rfl,HT.o⟩
theorem z5F(q:Nat)(a:Option Addr)(n c N p A v:Nat)(I:Bool)(sp J L:Nat)(w:World)(he:A<100)(O:w.heap[q]? =some (z0l a n c N p A)):
  Calls prog 172 #[.pointer (some ⟨q,0,none⟩),.int .u64 v,.agg #[.bool I,.int .u64 sp,.int .u8 J,.int .u8 L]] w fun e w'=>
   (A=0->e= .returned (.tuple #[.int .u64 v,.int .i64 p,.agg #[.bool I,.int .u64 sp,.int .u8 J,.int .u8 L],.int .u16 0]))/\
   (A≠0->e= .returned (.tuple #[.int .u64 0,.int .i64 0,.agg #[.bool false,.int .u64 0,.int .u8 0,.int .u8 0],.int .u16 A]))/\Below w.heap.size w w':=by
 have Y:=(Array.getElem?_eq_some_iff.1 O).1;obtain⟨c0,c1,c2,c3,cf⟩:=z0x O;have a0:q≠w.heap.size/\q≠w.heap.size+1:=by omega
 by_cases h0:A=0
 ·subst h0;have B:=z7 (((Loc.start w).new (.cells #[.bool I,.int .u64 sp,.int .u8 J,.int .u8 L] 96)).new' (.cells #[.bool I,.int .u64 sp,.int .u8 J,.int .u8 L] 96) (n:=w.heap.size+1) (by simp)).drew;clear O;go_enter func172,ntmps172;go_wp2_with fail;go_region
  go_wp2;refine bodyPost_ret (z2A rfl _ _ (w.heap.size+1) _ _ _ _ rfl (B.o.get 0 rfl) rfl) rfl ?_;exact⟨fun _=>rfl,fun h=>absurd rfl h,B.o.low⟩
 ·have U:((A:Int)==0)=false:=by simp;omega
  have B:=z7 (((Loc.start w).new (.cells #[.bool I,.int .u64 sp,.int .u8 J,.int .u8 L] 96)).new' (.cells #[.bool false,.int .u64 0,.int .u8 0,.int .u8 0] 96) (n:=w.heap.size+1) (by simp)).drew;have R:=z7 h0;clear O h0;go_enter func172,ntmps172;go_wp2_with fail;go_region
  go_wp2;refine bodyPost_ret (z2A rfl _ _ (w.heap.size+1) _ _ _ _ rfl (B.o.get 0 rfl) rfl) rfl ?_;exact⟨fun h=>absurd h R.o,fun _=>rfl,B.o.low⟩

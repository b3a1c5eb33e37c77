/-
  What bytes begin with: notes, one behind the other. Plain.
-/
import Derived.Test.YtpocjegemokjgaaGreatDoorZStMStAStEStC
import Derived.BigQuiet
namespace Go.Proofs.YtpocjegemokjgaaGreatDoor
open Go.Proofs.Tryz
set_option linter.unnecessarySimpa false
set_option linter.all false
set_option maxRecDepth 100000
set_option maxHeartbeats 12800000
section
open Go.RowKit
theorem z9J{b x:List UInt8}(h:opened b=some x):(nul b).length<b.length:=by
 unfold opened at h;split at h
 ·cases h
 ·rename_i B;rcases(q2P b).2 with⟨A,_⟩|⟨r,A,_⟩
  ·exact absurd (.inr A) B
  ·have:=congrArg List.length A;simp at this;omega
def z1h(b:List UInt8):List (List UInt8)×Nat:=
 match h:opened b with
 | none=>([],0)
 | some x=>if 600<x.length then([],0)else(x::(z1h (b.drop ((nul b).length+1))).1,(nul b).length+1+(z1h (b.drop ((nul b).length+1))).2)
termination_by b.length
decreasing_by all_goals (have:=z9J h;rw[List.length_drop];omega)
theorem z7q{b:List UInt8}(h:opened b=none):z1h b=([],0):=by
 rw[z1h];split
 ·rfl
 ·rename_i x A;rw[h]at A;cases A
theorem y0f{b x:List UInt8}(h:opened b=some x)(B:600<x.length):z1h b=([],0):=by
 rw[z1h];split
 ·rfl
 ·rename_i y A;rw[h]at A;simp only[Option.some.injEq]at A;subst A;rw[if_pos B]
theorem y0g{b x:List UInt8}(h:opened b=some x)(I:x.length<=600):z1h b=(x::(z1h (b.drop ((nul b).length+1))).1,(nul b).length+1+(z1h (b.drop ((nul b).length+1))).2):=by
 rw[z1h];split
 ·rename_i B;rw[h]at B;cases B
 ·rename_i y A;rw[h]at A;simp only[Option.some.injEq]at A;subst A;rw[if_neg (by omega)]
theorem y3f:∀(n:Nat) (b:List UInt8),b.length<=n->(z1h b).2<=b.length/\(z1h b).1.length<=b.length/\∀x∈(z1h b).1,x.length<=600
 | 0,b,hn=>by
  have:b= []:=List.eq_nil_of_length_eq_zero (by omega);subst this;rw[z7q (by simp[opened,nul])];simp
 | n+1,b,hn=>by
  cases h:opened b with
  | none=>rw[z7q h];simp
  | some x=>
   by_cases hl:x.length<=600
   ·have L:=z9J h;obtain⟨B,I,J⟩:=y3f n (b.drop ((nul b).length+1)) (by rw[List.length_drop];omega);rw[List.length_drop]at B I;rw[y0g h hl];refine⟨by simp only;omega,by simp only[List.length_cons];omega,fun y A=>?_⟩;rcases List.mem_cons.1 A with rfl|A
    ·exact hl
    ·exact J y A
   ·rw[y0f h (by omega)];simp
end
section
open Go.RowKit Go.Shelf
attribute [local go_sem] Oper.semAt_some
def q5l(b:List UInt8)(B:Nat)(pre:List (Value×List UInt8))(x:Value×List UInt8)(W:World):Prop:=
 W.ownsRow B 5 1 x.1 x.2.length (z0b x.2)/\x.2.length<=600/\(∃r,pre.map Prod.snd++x.2::r=(z1h b).1)
def q5X(B h:Nat)(W W':World):Prop:=W.heap.size<=W'.heap.size/\∀k,k<B->k≠h->W'.heap[k]? =W.heap[k]?
def q4d(rB:Nat)(X X':World):Prop:=Chg [rB] [] X X'
def rAt(rB:Nat)(w:World):Nat:=match w.cell? ⟨rB,1,none⟩with|some (.int _ n)=>n.toNat|_=>0
theorem RdB.rest'{w:World}{A:Addr}{c n:Nat}{l:List UInt8}(h:RdB w (.slice (some A) n c) l)(J:n=l.length)(N:n<=c)(k:Nat)(O:k<=n)(c' m:Nat)(B:m=(l.drop k).length):
  RdB w (.slice (if c=k then some A else some (A.add k)) m c') (l.drop k):=by
 by_cases e:c=k
 ·rw[if_pos e];have I:l.drop k= []:=List.drop_of_length_le (by omega);rw[I]at B ⊢;subst B;exact⟨rfl,.inr ⟨A,c',rfl,fun j u L=>by simp[z0b]at L⟩⟩
 ·rw[if_neg e];exact h.from J k c' m B (by omega)
theorem z3X{w:World}{A:Nat}{u v:Value}{t:TypeId}(h:w.heap[A]? =some (.cells #[u,v] t (0,0))):w.cell? ⟨A,0,none⟩=some u/\w.cell? ⟨A,1,none⟩=some v/\(∀j,w.frozen? ⟨A,j,none⟩=false)/\A<w.heap.size:=by
 refine⟨?_,?_,?_,(Array.getElem?_eq_some_iff.1 h).1⟩<;>simp[World.cell?,World.frozen?,h]
structure TeS (wr:World) (s:List UInt8) (D:Nat->Bool) (v:Nat->Value) (w':World) (a:Option Addr) (n' c':Nat):Prop where
 low:Below wr.heap.size wr w'
 d9:D 9=true->v 9= .tuple #[.slice a n' c',.int .i64 (oN s),.int .u16 (oE s)]/\w'.ownsRow wr.heap.size 5 1 (.slice a n' c') n' (z0b (oB s))/\n'=(oB s).length
 d10:D 10=true->D 9=true/\v 10= .tuple #[.slice a n' c',.int .i64 (oN s),.int .u16 (oE s)]
 d11:D 11=true->D 10=true/\v 11= .slice a n' c'
 d14:D 14=true->D 11=true/\v 14= .slice a n' c'
def TeI(wr:World)(s:List UInt8)(D:Nat->Bool)(v:Nat->Value)(w':World):Prop:=∃a n' c',TeS wr s D v w' a n' c'
theorem q3s(n:Nat)(bD:1<=n)(b:List UInt8)(ao:Option Addr)(c B h O:Nat)(w:World)
  (hr:w.heap[O]? =some (.cells #[.slice ao b.length c,.int .i64 0] 190 (0,0)))
  (hx:RdB w (.slice ao b.length c) b) (b6:b.length<=c) (hc:c<=9223372036854775807) (b7:b.length<=1048576) (b9:∀k,(Value.slice ao b.length c).ownBlock=some k->k<B/\k≠h/\k≠O)
  (lB:O<B) (hB:B<=w.heap.size) (nO:O≠h):
  y8n Fence.wide n prog 93 #[.pointer (some ⟨O,0,none⟩)] #[] (fun x:Value×List UInt8=> #[x.1]) (q5l b B) (q5X B h) (q4d O) (fun xs=>xs.map Prod.snd=(z1h b).1) (fun W=>W.cell? ⟨O,1,none⟩=some (.int .i64 (z1h b).2)) w:=by
 intro l J W hW hl hJ hY h0;refine callsIn_of_wp func93 rfl trivial ?_ rfl;simp only[ntmps93,List.size_toArray,List.length_cons,List.length_nil,Nat.reduceAdd,Nat.reduceSub,Array.replicate_succ,Array.replicate_zero,List.push_toArray,List.append_toArray,List.nil_append,List.cons_append];have bB:=(hW.block O (by omega) (by simp)).trans hr
 gi_wp2
 gi_loopw [4] (fun i wr=>∃(pre:List (Value×List UInt8)) (at_:Nat),at_<=b.length/\Hid (pre.map Prod.snd++(z1h (b.drop at_)).1=(z1h b).1/\at_+(z1h (b.drop at_)).2=(z1h b).2)/\wr.heap[O]? =some (.cells #[.slice ao b.length c,.int .i64 at_] 190 (0,0))/\
   Hid (RdB wr (.slice ao b.length c) b)/\Hid (B<=wr.heap.size)/\J pre wr) (fun i wr=>b.length - rAt O wr)
 case atStart=>
  have hb:=fun k (hk:k<B)=>hW.block k (by omega) (by simp);exact⟨[],0,Nat.zero_le _,z7 ⟨by simp,by simp⟩,bB,z7 (hx.chg hW (by simp)),z7 (Nat.le_trans hB hW.size),h0⟩
 case round=>
  obtain⟨pre,at_,b4,a0,ur,aX,b1,b3⟩:=hrel;obtain⟨u0,u1,uf,ul⟩:=z3X ur;obtain⟨s,hs⟩:=zN (b.drop at_);obtain⟨ns,aI⟩:=zN (b.length - at_);have a4:ns=s.length:=by rw[hs,List.length_drop,aI]
  obtain⟨nb,aH⟩:=zN b.length;rw[<-aH]at b4 b7 b6 aI ur u0 aX;have bY:∃sa,RdB wr (.slice sa ns (c - at_)) s/\((ao=none/\nb=0/\c=0/\sa=none/\at_=0)\/∃ad,ao=some ad/\sa=if c=at_ then some ad else some (ad.add at_)):=by
   have aU:=aX.o;rw[aH]at aU;rcases aU.2 with⟨he,hz⟩|⟨bO,c2,he,_⟩
   ·simp only[Value.slice.injEq]at he;obtain⟨rfl,h1,rfl⟩:=he;refine⟨none,?_,.inl ⟨rfl,by omega,rfl,rfl,by omega⟩⟩;have:s= []:=List.eq_nil_of_length_eq_zero (by omega);subst this;obtain rfl:ns=0:=a4;exact⟨rfl,.inl ⟨by simp,rfl⟩⟩
   ·simp only[Value.slice.injEq]at he;obtain⟨rfl, -, -⟩:=he;refine⟨_,?_,.inr ⟨bO,rfl,rfl⟩⟩;have:=aU.rest' rfl (by omega) at_ (by omega) (c - at_) ns (by rw[<-hs];exact a4);rw[<-hs]at this;exact this
  obtain⟨sa,bG,bF⟩:=bY;have bM:=z7 bG;have bL:=z7 bF;have HS:=z7 hs;have a8:=z7 a4;have bZ:ns<=1048576:=by omega
  have bU:ns<=c - at_:=by omega
  have a3:=z7 aI;have aE:=z7 aH;have aA:Hid (∀w',Below wr.heap.size wr w'->w'.cell? ⟨O,0,none⟩=some (.slice ao nb c)/\w'.cell? ⟨O,1,none⟩=some (.int .i64 at_)):=z7 fun w' hw=>⟨(hw.cell (p:=⟨O,0,none⟩) ul).trans u0,(hw.cell (p:=⟨O,1,none⟩) ul).trans u1⟩;have aW:=z7 ur;clear bG bF hs a4 aI aH hx hr bB u0 u1
  gi_wp2_with fail
  refine wpIn_wide.2 ?_;refine q6 17 40 (fun D v w'=>TeI wr s D v w') ⟨none,0,0,(Below.refl _ _).drew,(fun h=>by cases h),(fun h=>by cases h),(fun h=>by cases h),(fun h=>by cases h)⟩ ?_;simp only[z0v];iterate 8 (refine q8.rl (e:=?_) (fun D v w h=>by obtain⟨a,n',c',z⟩:=h;exact⟨a,n',c',z.low,z.d9,z.d10,z.d11,z.d14⟩) (fun D v w' N R=>?_) ?_;rotate_left;(obtain⟨a,n',c',z⟩:=R;obtain⟨x0,x1⟩:=aA.o w' z.low;have R:=trivial;clear R N;go_simp;try with_reducible rfl);go_simp)
  refine q8.rl (e:= .slice sa ns (c - at_)) (fun D v w h=>by obtain⟨a,n',c',z⟩:=h;exact⟨a,n',c',z.low,z.d9,z.d10,z.d11,z.d14⟩) (fun D v w' N R=>?_) ?_
  ·clear R N;have aD:=a3.o;rcases bL.o with⟨rfl,rfl,rfl,rfl,rfl⟩|⟨ad,rfl,rfl⟩
   ·subst aD;go_simp
   ·have t1:at_<=nb:=b4;have t2:nb<=c:=b6;subst aD;go_simp
  go_simp;refine q8.re (fun D v w' N R=>?_) ?_
  ·have I:D 10=false:=N.post 10 _ rfl (by kernel_rfl);obtain⟨a,n',c',z⟩:=R;have L:D 11=false:=by
    cases e:D 11 with
    | false=>rfl
    | true=>rw[(z.d11 e).1]at I;cases I
   have Y:D 14=false:=by
    cases e:D 14 with
    | false=>rfl
    | true=>rw[(z.d14 e).1]at L;cases L
   have A:=z7 z.low;have aO:=z7 I;have a6:=z7 L;have a7:=z7 Y;clear N I L Y z;go_simp;go_at_call 129;have H:=q4b s sa (c - at_) w' (by rw[<-a8.o];exact bM.o.low A.o) (by rw[<-a8.o];exact bU) (by omega) (by rw[<-a8.o];omega);rw[<-a8.o]at H;refine H.mono ?_;clear H;rintro e c7 ⟨a2,n2,c2,rfl,a5,bX,hb⟩;refine⟨a2,n2,c2,A.o.trans (hb.mono A.o.size),fun _=>⟨rfl,z0c a5 A.o.size,bX⟩,fun e=>?_,fun e=>?_,fun e=>?_⟩
   ·have:D 10=true:=e;rw[aO.o]at this;cases this
   ·have:D 11=true:=e;rw[a6.o]at this;cases this
   ·have:D 14=true:=e;rw[a7.o]at this;cases this
  go_simp;refine q8.re (fun D v w' N R=>?_) ?_
  ·have d9:D 9=true:=N.pre 9 (by kernel_rfl);have L:D 11=false:=N.post 11 _ rfl (by kernel_rfl);obtain⟨a,n',c',z⟩:=R;have Y:D 14=false:=by
    cases e:D 14 with
    | false=>rfl
    | true=>rw[(z.d14 e).1]at L;cases L
   have Z:=z7 z;have D9:=z7 d9;have a6:=z7 L;have a7:=z7 Y;clear N d9 L Y z;go_simp;refine⟨a,n',c',Z.o.low,Z.o.d9,fun _=>⟨D9.o,(Z.o.d9 D9.o).1⟩,fun e=>?_,fun e=>?_⟩
   ·have:D 11=true:=e;rw[a6.o]at this;cases this
   ·have:D 14=true:=e;rw[a7.o]at this;cases this
  go_simp;refine q8.re (fun D v w' N R=>?_) ?_
  ·have I:D 10=true:=N.pre 10 (by kernel_rfl);have Y:D 14=false:=N.post 14 _ rfl (by kernel_rfl);obtain⟨a,n',c',z⟩:=R;have U:=(z.d10 I).2;have Z:=z7 z;have aO:=z7 I;have a7:=z7 Y;clear N I Y z;rw[U];clear U;go_simp;refine⟨a,n',c',Z.o.low,Z.o.d9,Z.o.d10,fun _=>⟨aO.o,rfl⟩,fun e=>?_⟩;have:D 14=true:=e;rw[a7.o]at this;cases this
  go_simp;refine q8.rl (e:= .int .i64 (oN s)) (fun D v w h=>by obtain⟨a,n',c',z⟩:=h;exact⟨a,n',c',z.low,z.d9,z.d10,z.d11,z.d14⟩) (fun D v w' N R=>?_) ?_
  ·have I:D 10=true:=N.pre 10 (by kernel_rfl);obtain⟨a,n',c',z⟩:=R;have U:=(z.d10 I).2;clear N I z;rw[U];go_simp
  go_simp;refine q8.rl (e:= .int .u16 (oE s)) (fun D v w h=>by obtain⟨a,n',c',z⟩:=h;exact⟨a,n',c',z.low,z.d9,z.d10,z.d11,z.d14⟩) (fun D v w' N R=>?_) ?_
  ·have I:D 10=true:=N.pre 10 (by kernel_rfl);obtain⟨a,n',c',z⟩:=R;have U:=(z.d10 I).2;clear N I z;rw[U];go_simp
  go_simp;refine q8.re (fun D v w' N R=>?_) ?_
  ·have L:D 11=true:=N.pre 11 (by kernel_rfl);obtain⟨a,n',c',z⟩:=R;have aM:=(z.d11 L).2;have Z:=z7 z;have a6:=z7 L;clear N L z;rw[aM];clear aM;go_simp;exact⟨a,n',c',Z.o.low,Z.o.d9,Z.o.d10,Z.o.d11,fun _=>⟨a6.o,rfl⟩⟩
  go_simp;iterate 2 (refine q8.rl (e:=?_) (fun D v w h=>by obtain⟨a,n',c',z⟩:=h;exact⟨a,n',c',z.low,z.d9,z.d10,z.d11,z.d14⟩) (fun D v w' N R=>?_) ?_;rotate_left;(clear R N;go_simp;try with_reducible rfl);go_simp)
  refine q8.fin (fun v w7 R=>?_);obtain⟨a,n',c',z⟩:=R;have aN:=(z.d14 rfl).2;obtain⟨_,a5,b8⟩:=z.d9 rfl;have A:=z7 z.low;rw[aN];have a9:=z7 a5;have aC:=z7 b8;clear z aN a5 b8;have bI:q4d O wr w7:=⟨A.o.os,A.o.tape,A.o.output,A.o.size,fun k hk _=>A.o.block k hk,fun k hk=>by cases hk⟩;have aR:=z7 (hJ pre wr w7 b3 bI);obtain⟨x0,x1⟩:=aA.o w7 A.o;have b0:=z7 x1;have HJ:=z7 hJ;have HY:=z7 hY;clear bI b3 hW hJ h0 hY;cases ho:opened s with
  | none=>
   obtain⟨o1,o2,o3⟩:=z9Z ho;have aB:=z7 (z7q ho);rw[o2,o3];clear ho o1 o2 o3;go_wp2
   gi_wp2
   have h9:=a0.o;rw[<-HS.o,aB.o]at h9;refine bodyPost_ret (results_none rfl _ _ _) rfl ⟨⟨_,rfl⟩,⟨pre,by simpa using h9.1,aR.o⟩,?_⟩;rw[b0.o,<-h9.2];simp
  | some x=>
   obtain⟨o1,o2,o3⟩:=z7w ho;rw[o2,o3];rw[o1]at a9 aC;by_cases hbig:600<x.length
   ·have aB:=z7 (y0f ho hbig);have d1:decide ((600:Int)<n')=true:=decide_eq_true (by have:=aC.o;omega);clear ho o1 o2 o3;go_wp2
    gi_wp2
    have h9:=a0.o;rw[<-HS.o,aB.o]at h9;refine bodyPost_ret (results_none rfl _ _ _) rfl ⟨⟨_,rfl⟩,⟨pre,by simpa using h9.1,aR.o⟩,?_⟩;rw[b0.o,<-h9.2];simp
   ·have aJ:=z7 (y0g ho (by omega));have d1:decide ((600:Int)<n')=false:=decide_eq_false (by have:=aC.o;omega);have bV:=z9J ho;obtain⟨q,hq⟩:=zN ((nul s).length+1);rw[<-hq]at aJ ⊢;have c5:q<=ns:=(by rw[hq,a8.o];omega);have bW:1<=q:=(by omega);have c6:IntKind.i64.wrap ((at_:Int)+(q:Int))=(at_:Int)+(q:Int):=(by have:=a3.o;rw[IntKind.wrap_i64];omega);have aZ:=z7 (show x.length<=600 by omega);clear ho o1 o2 o3 bV hq hbig;have aY:w7.heap[O]? =some (.cells #[.slice ao nb c,.int .i64 at_] 190 (0,0)):=(A.o.block O ul).trans aW.o;obtain⟨z0,z1,zf,zl⟩:=z3X aY;have c8:=zf 1;obtain⟨w8,a1⟩:=zN (w7.setCell ⟨O,1,none⟩ (.int .i64 ((at_:Int)+(q:Int))));have aF:∀k,k≠O->w8.heap[k]? =w7.heap[k]? :=fun k hk=>by rw[a1];exact q7 hk
    have bH:w8.heap[O]? =some (.cells #[.slice ao nb c,.int .i64 ((at_:Int)+(q:Int))] 190 (0,0)):=by
     rw[a1];have:=z0a aY 1 (.int .i64 ((at_:Int)+(q:Int)));simpa using this
    have aL:w8.heap.size=w7.heap.size:=(by rw[a1];simp[World.setCell]);have b2:J pre w8:=HJ.o pre w7 w8 aR.o ⟨by rw[a1];rfl,by rw[a1];rfl,by rw[a1];rfl,by rw[aL];exact Nat.le_refl _,fun k _ hk=>aF k (by simpa using hk),fun k hk=>by cases hk⟩;have aS:=aC.o;subst aS;have bA:q5l b B pre (.slice a x.length c',x) w8:=by
     refine⟨z0c (j7 a9.o fun k hk=>aF k fun e=>?_) b1.o,aZ.o,(z1h (s.drop q)).1,?_⟩
     ·have:=(a9.o.lt k hk).1;omega
     ·have h9:=a0.o.1;rw[<-HS.o,aJ.o]at h9;exact h9
    obtain⟨fn,tmps,assign,body,hy,hR⟩:=HY.o pre _ w8 b2 bA;dsimp only at hy;have bN:=z7 bH;have bE:Hid (RdB w8 (.slice ao nb c) b):=z7 (((aX.o.low A.o)).keep fun k hk=>aF k fun e=>(b9 k (by rw[<-hk];cases ao<;>rfl)).2.2 e);have aT:Hid ((pre++ [(Value.slice a x.length c',x)]).map Prod.snd++(z1h (b.drop (at_+q))).1=(z1h b).1/\at_+q+(z1h (b.drop (at_+q))).2=(z1h b).2):=z7 (by
     have h9:=a0.o;rw[<-HS.o,aJ.o]at h9;have e9:s.drop q=b.drop (at_+q):=(by rw[HS.o,List.drop_drop]);rw[<-e9];refine⟨?_,?_⟩
     ·rw[List.map_append,List.append_assoc];exact h9.1
     ·have:=h9.2;simp only at this;omega)
    have bS:Hid (B<=w8.heap.size):=z7 (by have:=b1.o;have:=A.o.size;omega);clear b2 bA aF bH aL aY a0 aJ x0 x1 z0 zl;go_wp2;subst a1
    gi_wp2
    refine hR.mono ?_;rintro e W3 ⟨rfl,bT,aG⟩;have aV:=(aG.2 O lB nO).trans bN.o;obtain⟨y0,y1,yf,yl⟩:=z3X aV;have bJ:=z7 aV;have bC:Hid (RdB W3 (.slice ao nb c) b):=z7 (bE.o.keep fun k hk=>by
     have b5:=b9 k (by rw[<-hk];cases ao<;>rfl);exact aG.2 k b5.1 b5.2.1)
    have bR:Hid (B<=W3.heap.size):=z7 (Nat.le_trans bS.o aG.1);have Y1:=z7 y1;clear aG aV y0 y1 yf
    gi_wp2
    go_roundw
    case rel=>exact⟨_,at_+q,by have:=a3.o;have:=aE.o;omega,aT,by rw[bJ.o];simp[aE.o],by rw[<-aE.o];exact bC,bR,bT⟩
    case measure=>
     have e1:rAt O W3=at_+q:=by
      unfold rAt;rw[Y1.o];simp;omega
     have e2:rAt O wr=at_:=by
      unfold rAt;rw[(z3X aW.o).2.1];simp
     rw[e1,e2];have:=a3.o;have:=aE.o;omega
attribute [local go_sem] Oper.semAt_some
theorem z3I{F:Fence}{n':Nat}{P:Program}{w:World}{a:Act}{o:Oper}{Q:Exit->Act->World->Prop}{ops:Array Oper}{rest:List Oper}(a0:o.guard=none)(s x:Operand)(t:TypeId)
  (ho:o.op= .call {callee:= .builtin .append,args:= #[s,x],argTypes:= #[t,t]})
  (base:Nat) (e:TypeId) (i:TypeInfo) (z:Value) (size bytes:Nat) (ht:P.underlying t=some (.slice e)) (hi:P.info? e=some i) (hz:i.zero=some z)
  (I:i.size=size) (U:i.bytes=bytes) (a3:z.cells.size=size) (a2:0<size)
  (v:Value) (n:Nat) (xs:List Value) (hs:a.eval s=v) (L:w.ownsRow base e size v n xs)
  (xv:Value) (m:Nat) (news:List Value) (hx:a.eval x=xv) (a1:Rd w xv size m news) (h1:∀u∈news,u.oneCell'=true)
  (O:n+m<=maxLen) (A:(n+m)*bytes<=140737488355328) (B:base<=w.heap.size)
  (h:∀J w',w'.ownsRow base e size J (n+m) (xs++news)->w.grownBy w' v.ownBlock->(J.ownBlock=v.ownBlock\/J.ownBlock=some w.heap.size)->wpListIn F n' P ops Q rest (a.put o.dst J) w'):
  wpListIn F n' P ops Q (o::rest) a w:=by
 refine wpListIn_plain a0 fun K R=>?_;obtain⟨J,w',N,r1,r2,r3,r4⟩:=z3M (P:=P) (w:=w) base t o.type e i z size bytes ht hi hz I U a3 a2 v n xs L xv m news a1 h1 O A B;unfold Oper.wpIn;refine⟨?_,?_⟩
 ·simp[Oper.about,ho,resolve,Target.leads,Sem.run_pure]
 ·rw[Oper.semAt_plain F _ _ (by rw[ho];intro c Y;cases Y)];simp[execOp,ho,resolve,invoke,builtin,hs,hx,N,Result.andThen];exact R _ _ (h J w' r1 r2 r4)
theorem y3c{w:World}{B e n k l:Nat}{v:Value}{U:List Value}{o:Obj}(h:w.ownsRow B e 1 v n U)(A:v.ownBlock=some k)(J:w.heap[l]? =some o)(R:o.isCells=false):k≠l:=fun N=>by
 subst N;rcases h.2 with⟨I,_⟩|⟨g,cap,L,I,_,O,_⟩
 ·rw[I]at A;cases A
 ·rw[I]at A;simp only[Value.ownBlock,Option.some.injEq]at A;subst A;rw[O]at J;simp only[Option.some.injEq]at J;subst J;cases R
theorem y8p{w:World}{B e Y n n' k:Nat}{v v':Value}{xs O:List Value}(h:w.ownsRow B e 1 v n xs)(h':w.ownsRow B Y 1 v' n' O)(he:Y≠e)(L:v.ownBlock=some k)(A:v'.ownBlock=some k):False:=by
 rcases h.2 with⟨N,_⟩|⟨g,cap,a0,N,_,h3,_⟩
 ·rw[N]at L;cases L
 ·rcases h'.2 with⟨I,_⟩|⟨g',R,U,I,_,J,_⟩
  ·rw[I]at A;cases A
  ·rw[N]at L;rw[I]at A;simp only[Value.ownBlock,Option.some.injEq]at L A;subst L;subst A;rw[h3]at J;simp only[Option.some.injEq,Obj.cells.injEq]at J;exact he J.2.1.symm
structure z0I (B:Nat) (w:World) (v:Value) (xs:List (Value×List UInt8)):Prop where
 row:w.ownsRow B 47 1 v xs.length (xs.map Prod.fst)
 ent:∀x∈xs,w.ownsRow B 5 1 x.1 x.2.length (z0b x.2)
def TrI(B h rB:Nat)(W5:World)(pre:List (Value×List UInt8))(W:World):Prop:=∃v,W.heap[h]? =some (.cells #[v] 23)/\z0I B W v pre/\Chg [h,rB] [] W5 W
theorem z0I.same{B:Nat}{w w':World}{v:Value}{L:List (Value×List UInt8)}(h:z0I B w v L)(U:∀k o,B<=k->w.heap[k]? =some o->o.isCells=true->w'.heap[k]? =w.heap[k]?):z0I B w' v L:=by
 have key:∀{e:TypeId} {n:Nat} {u:Value} {l:List Value},w.ownsRow B e 1 u n l->w'.ownsRow B e 1 u n l:=fun J=>j7 J fun k A=>by
  rcases J.2 with⟨I,_⟩|⟨g,cap,N,I,O,R,_⟩
  ·rw[I]at A;cases A
  ·rw[I]at A;simp only[Value.ownBlock,Option.some.injEq]at A;subst A;exact U g _ O R rfl
 exact⟨key h.row,fun x Y=>key (h.ent x Y)⟩
theorem TrI.turn{B h rB:Nat}{N W O:World}{L:List (Value×List UInt8)}{row:Option Nat}(hI:TrI B h rB N L W)(I:W.grownBy O row)(hB:N.heap.size<=B)(Y:∀r,row=some r->B<=r/\∃o:Obj,W.heap[r]? =some o/\o.isCells=false):TrI B h rB N L O:=by
 obtain⟨v,R,h2,A⟩:=hI;have J:=fun r e=>(Y r e).2;refine⟨v,(grownBy_keeps_cells I J R rfl).trans R,h2.same fun k o _ ho hc=>grownBy_keeps_cells I J ho hc,?_⟩;exact⟨I.os.trans A.os,I.tape.trans A.tape,I.output.trans A.output,Nat.le_trans A.size I.size,fun k U hn=>(I.block k (Nat.lt_of_lt_of_le U A.size) (fun e=>by have:=(Y k e.symm).1;omega)).trans (A.block k U hn),A.fresh⟩
theorem TrI.step{B h N:Nat}{U W R:World}{L:List (Value×List UInt8)}(hI:TrI B h N U L W)(A:q4d N W R)(hB:N<B)(hn:h≠N):TrI B h N U L R:=by
 obtain⟨u,Y,h2,I⟩:=hI;refine⟨u,(A.block h (Array.getElem?_eq_some_iff.1 Y).1 (by simpa using hn)).trans Y,h2.same fun k o O ho _=>A.block k (Array.getElem?_eq_some_iff.1 ho).1 (by simp;omega),?_⟩;exact⟨A.os.trans I.os,A.tape.trans I.tape,A.output.trans I.output,Nat.le_trans I.size A.size,fun k O J=>(A.block k (Nat.lt_of_lt_of_le O I.size) (fun e=>J (by simp at e;simp[e]))).trans (I.block k O J),I.fresh⟩
theorem y5X:(prog.info? 47).map (fun i=>(i.zero,i.size,i.bytes))=some (some (.slice none 0 0),1,24):=by kernel_rfl
theorem y8D(b:List UInt8)(ao:Option Addr)(n0 c:Nat)(w:World)(aS:n0=b.length)(R:RdB w (.slice ao n0 c) b)(aH:n0<=c)(hc:c<=9223372036854775807)(aR:n0<=1048576)(aI:∀k,(Value.slice ao n0 c).ownBlock=some k->k<w.heap.size):
  Calls prog 46 #[.slice ao n0 c] w fun e w'=>∃a cc xs,e= .returned (.tuple #[.slice a xs.length cc,.int .i64 (z1h b).2])/\z0I w.heap.size w' (.slice a xs.length cc) xs/\xs.map Prod.snd=(z1h b).1/\Below w.heap.size w w':=by
 obtain⟨iS,b0,aU,aV,aX⟩:=info_parts y5X;have a3:=z7 aS;clear aS;refine(callsIn_wide (n:=3)).1 ?_;refine callsIn_of_wp_marks func46 rfl trivial ?_ rfl;simp only[ntmps46,List.size_toArray,List.length_cons,List.length_nil,Nat.reduceAdd,Nat.reduceSub,Array.replicate_succ,Array.replicate_zero,List.push_toArray,List.append_toArray,List.nil_append,List.cons_append]
 gi_wp2
 obtain⟨A,J⟩:=zN w.heap.size;obtain⟨W5,a5⟩:=zN ((w.alloc (.cells #[.slice ao n0 c,.int .i64 0] 190)).alloc (.cells #[.slice none 0 0] 23));have a9:W5.heap.size=A+2:=by rw[a5,J];simp
 have k0:W5.heap[A]? =some (.cells #[.slice ao n0 c,.int .i64 0] 190 (0,0)):=by
  rw[a5,J];exact(Below.heap_alloc _ _ _ (by simp)).trans (j8 w _)
 have k1:W5.heap[A+1]? =some (.cells #[.slice none 0 0] 23):=by
  rw[a5,J];have:=j8 (w.alloc (.cells #[.slice ao n0 c,.int .i64 0] 190)) (.cells #[.slice none 0 0] 23);simpa using this
 have a4:Below A w W5:=by
  rw[a5,J];exact((Below.refl _ w).alloc (Nat.le_refl _) _).alloc (by simp) _
 rw[<-a5];simp only[<-J];have a7:∀k,(Value.slice ao n0 c).ownBlock=some k->k<A+2/\k≠A+1/\k≠A:=fun k I=>by
  have:=aI k I;omega
 have aM:RdB W5 (.slice ao n0 c) b:=R.low (by rw[<-J];exact a4);have HH:=z7 J;have aA:=z7 a9;clear a5;refine z5O (encs:=fun x:Value×List UInt8=> #[x.1]) rfl (by omega) (gf:=93) (la:= #[.pointer (some ⟨A,0,none⟩)]) (lb:= #[]) rfl trivial (enters_of func93 (by kernel_rfl) rfl) (fun _=>rfl)
  (q5l b (A+2)) (q5X (A+2) (A+1)) (q4d A) (fun xs=>xs.map Prod.snd=(z1h b).1) (fun W=>W.cell? ⟨A,1,none⟩=some (.int .i64 (z1h b).2))
  (q3s (3 - 1) (by omega) b ao c (A+2) (A+1) A W5 (by rw[<-a3.o];exact k0) (by rw[<-a3.o];exact aM) (by rw[<-a3.o];exact aH) hc (by rw[<-a3.o];exact aR) (by rw[<-a3.o];exact a7) (by omega) (by omega) (by omega))
  (fun X l o o' hX hl ho hc=>(World.cell?_of_block (w:=X) (a:=⟨A,1,none⟩) (World.putObj_heap_other (show A≠l by omega))).trans hX)
  (fun B U=>⟨Nat.le_trans B.1 U.1,fun k I hn=>(U.2 k I hn).trans (B.2 k I hn)⟩)
  (fun W l o o' hl aO ho=>⟨by simp,fun k I hn=>World.putObj_heap_other (by omega)⟩)
  (fun pre W=>TrI (A+2) (A+1) A W5 pre W)
  (fun s X X' hs aC=>hs.step aC (by omega) (by omega))
  (fun X X' aC=>⟨aC.size,fun k o I ho hc=>(aC.block k (Array.getElem?_eq_some_iff.1 ho).1 (by simp;omega)).trans ho⟩)
  (fun s X X' row hs hg hr=>hs.turn hg (by omega) (fun r e=>by have:=hr r e;rw[a9]at this;exact this))
  (fun s x X l o o' ⟨q1,q2,q3⟩ hl aO ho=>⟨j7 q1 (fun k I=>World.putObj_heap_other (y3c q1 I aO ho)),q2,q3⟩)
  ⟨_,k1,⟨World.ownsRow_nil _ _ _ _,fun x R=>by cases R⟩,⟨rfl,rfl,rfl,Nat.le_refl _,fun _ _ _=>rfl,fun x R=>by cases R⟩⟩
  (fun x=>{tmps:= #[.slice ao n0 c,undef,.slice none 0 0,.int .i64 0,.pointer (some ⟨A,0,none⟩),.pointer (some ⟨A+1,0,none⟩),x.1,.slice ao n0 c,.agg #[.slice ao n0 c,.int .i64 0],.pointer (some ⟨A,0,none⟩),.pointer (some ⟨A,0,none⟩),.func (.func 93) #[.pointer (some ⟨A,0,none⟩)] #[],x.1,undef,undef,undef,undef,undef,undef,undef,undef,undef],defers:= []}) ?assign ?body ?done
 case assign=>
  clear J a9;intro l x W K hK
  gi_wp2
  exact hK
 case body=>
  rintro l pre x W ⟨v,c1,N,O⟩ ⟨q1,q2,rr,q3⟩;obtain⟨xv,p⟩:=x;dsimp only at q1 q2 q3 ⊢;obtain⟨ax,cx,rfl⟩:=(z0e q1).head;obtain⟨av,cv,rfl⟩:=(z0e N.row).head;obtain⟨m,hm⟩:=zN pre.length;obtain⟨pn,aJ⟩:=zN p.length;obtain⟨f1,f2,f3⟩:=z0u c1;have b1:pre.length<=1048576:=by
   have B:=(y3f b.length b (Nat.le_refl _)).2.1;rw[<-q3,List.length_append,List.length_map]at B;have:=a3.o;omega
  have a8:=N.row;rw[<-hm]at a8 f1 c1 b1;rw[<-aJ]at q1 ⊢;have HM:=z7 hm;have aZ:=z7 aJ;have aE:=z7 N;have L:=z7 a8;clear hm aJ a8;have a0:=z7 O;have Q1:=z7 q1;have C1:=z7 c1;clear J a9 q1 q2 q3 aI a7 aH hc R aM N O c1;have aL:Hid (∀o,(W.alloc o).ownsRow (A+2) 47 1 (.slice av m cv) m (pre.map Prod.fst)):=z7 fun o=>L.o.alloc o;have aT:=z7 (z3z W #[.slice ax pn cx] 47 1 1 (by decide) rfl);have b2:A+2<=W.heap.size:=by have:=a0.o.size;have:=aA.o;omega
  gi_wp2_with (gi_at_builtin;refine z3I rfl _ _ 23 rfl (A+2) 47 iS (.slice none 0 0) 1 24 underlying23 b0 aU aV aX rfl (by decide) _ m _ rfl (aL.o _) _ 1 [.slice ax pn cx] rfl (by exact aT.o) (by simp[Value.oneCell']) (by unfold maxLen;omega) (by omega) (by simp;omega) ?_;intro v1 w1 Y aG aW;obtain⟨a1,aB,rfl⟩:=(z0e Y).head;have aN:=z7 Y;have a2:=z7 aG;have aF:=((aG.block (A+1) (by simp;omega) (fun e=>by have:=(L.o.lt _ e.symm).1;omega)).trans (Below.heap_alloc W _ _ f3)).trans C1.o;obtain⟨e1,e2,e3⟩:=z0u aF;have aY:=z7 aF;clear Y aG aW aF)
  have hI:TrI (A+2) (A+1) A W5 (pre++ [(.slice ax pn cx,p)]) (w1.setCell ⟨A+1,0,none⟩ (.slice a1 (m+1) aB)):=by
   have a6:∀{e n:Nat} {u:Value} {l:List Value},e≠47->W.ownsRow (A+2) e 1 u n l->(w1.setCell ⟨A+1,0,none⟩ (.slice a1 (m+1) aB)).ownsRow (A+2) e 1 u n l:=fun he hr=>j7 hr fun k I=>by
    have B:=hr.lt k I;have U:k≠A+1:=(by omega);rw[q7 U,a2.o.block k (by simp;omega) (fun e'=>y8p L.o hr he e'.symm I)];exact Below.heap_alloc W _ _ B.2
   refine⟨.slice a1 (m+1) aB,?_,⟨?_,fun x R=>?_⟩,?_⟩
   ·have:=z0a aY.o 0 (.slice a1 (m+1) aB);simpa using this
   ·rw[List.length_append,List.map_append,<-HM.o];exact j7 aN.o fun k I=>q7 (by have:=(aN.o.lt k I).1;omega)
   ·rcases List.mem_append.1 R with R|R
    ·exact a6 (by decide) (aE.o.ent x R)
    ·rw[List.mem_singleton]at R;subst R;have:=a6 (by decide) Q1.o;rw[aZ.o]at this ⊢;exact this
   ·have B:=a0.o;have U:=a2.o;refine⟨U.os.trans B.os,U.tape.trans B.tape,U.output.trans B.output,by have:=U.size;have:=B.size;simp[World.setCell]at*;omega,fun k I hn=>?_,fun k I=>by cases I⟩;have h3:k≠A+1:=fun e=>hn (by simp[e]);rw[q7 h3,U.block k (by have:=B.size;simp;omega) (fun e=>by have:=(L.o.lt _ e.symm).1;have:=aA.o;omega),Below.heap_alloc W _ _ (by have:=B.size;omega)];exact B.block k I hn
  refine⟨?_,?_,hI⟩
  ·rw[aA.o];refine⟨by have:=a2.o.size;simp[World.setCell]at*;omega,fun k o I ho hc=>?_⟩;have B:=(Array.getElem?_eq_some_iff.1 ho).1;have U:k≠A+1:=(by omega);rw[q7 U,a2.o.block k (by simp;omega) (fun e'=>(y3c L.o e'.symm ho hc) rfl),Below.heap_alloc W _ _ B];exact ho
  ·refine⟨by have:=a2.o.size;simp[World.setCell]at*;omega,fun k I hn=>?_⟩;rw[q7 hn,a2.o.block k (by simp;omega) (fun e=>by have:=(L.o.lt _ e.symm).1;omega)];exact Below.heap_alloc W _ _ (by omega)
 case done=>
  rintro D xs W hD hS hF ⟨v,c1,N,O⟩ hK;obtain⟨m,hm⟩:=zN xs.length;obtain⟨av,cv,rfl⟩:=(z0e N.row).head;rw[<-hm]at c1;obtain⟨f1,f2,f3⟩:=z0u c1;have HM:=z7 hm;have aE:=z7 N;have a0:=z7 O;have HK:=z7 hK;have HS:=z7 hS;clear J a9 hm N O hK hS aI a7 aH hc R aM
  gi_wp2_with fail
  refine wpIn_wide.2 ?_;go_quiet (fail)
  go_wp2
  gi_wp2
  have aD:(W.drewN nq).heap[D]? =some (.deferred (some [])):=HK.o;refine⟨by simp,.inl ⟨_,_,rfl,run_takeDeferred aD,?_⟩⟩;refine⟨_,results_tmp2 rfl _ _ _,av,cv,xs,?_,?_,HS.o,?_⟩
  ·rw[<-HM.o];rfl
  ·have B:=aE.o;have U:z0I (A+2) ((W.drewN nq).putObj D (.deferred none)) (.slice av xs.length cv) xs:=B.same fun k o _ ho hc=>World.putObj_heap_other (fun e=>by
    subst e;have h3:=HK.o;rw[ho]at h3;simp only[Option.some.injEq]at h3;subst h3;cases hc)
   rw[<-HH.o];exact⟨z0c U.row (by omega),fun x R=>z0c (U.ent x R) (by omega)⟩
  ·rw[<-HH.o];have B:=a0.o;have b3:=aA.o;refine⟨B.os.trans a4.os,B.tape.trans a4.tape,B.output.trans a4.output,?_,fun k I=>?_⟩
   ·have:=B.size;have:=a4.size;simp;omega
   ·refine(World.putObj_heap_other (by omega)).trans ((B.block k (by omega) ?_).trans (a4.block k I));simp;omega
end

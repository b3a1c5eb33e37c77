/-
  What bytes begin with: notes, one behind the other. Plain.
-/
import Derived.Test.YtfcnapnopdomhaaGreatDoorZStMStAStEStC
import Derived.Test.YtfcnapnopdomhaaGreatDoorZReg2Reg3
import Derived.BigQuiet
namespace Go.Proofs.YtfcnapnopdomhaaGreatDoor
set_option linter.unnecessarySimpa false
set_option linter.unusedSimpArgs false
set_option linter.unusedVariables false
set_option maxRecDepth 100000
set_option maxHeartbeats 12800000
section
open Go.RowKit
theorem z8W{b x:List UInt8}(h:opened b=some x):(nul b).length<b.length:=by
 unfold opened at h;split at h
 ·cases h
 ·rename_i hn;rcases (y8Q b).2 with ⟨h1,_⟩ | ⟨r,h1,_⟩
  ·exact absurd (.inr h1) hn
  ·have:=congrArg List.length h1;simp at this;omega
def z0W(b:List UInt8):List (List UInt8)×Nat:=
 match h:opened b with
 | none=>([],0)
 | some x=>if 600<x.length then ([],0) else (x::(z0W (b.drop ((nul b).length+1))).1,(nul b).length+1+(z0W (b.drop ((nul b).length+1))).2)
termination_by b.length
decreasing_by all_goals (have:=z8W h;rw [List.length_drop];omega)
theorem z6O{b:List UInt8}(h:opened b=none):z0W b=([],0):=by
 rw [z0W];split
 ·rfl
 ·rename_i x hx;rw [h] at hx;cases hx
theorem z9l{b x:List UInt8}(h:opened b=some x)(hl:600<x.length):z0W b=([],0):=by
 rw [z0W];split
 ·rfl
 ·rename_i y hy;rw [h] at hy;simp only [Option.some.injEq] at hy;subst hy;rw [if_pos hl]
theorem z9i{b x:List UInt8}(h:opened b=some x)(hl:x.length≤600):z0W b=(x::(z0W (b.drop ((nul b).length+1))).1,(nul b).length+1+(z0W (b.drop ((nul b).length+1))).2):=by
 rw [z0W];split
 ·rename_i hn;rw [h] at hn;cases hn
 ·rename_i y hy;rw [h] at hy;simp only [Option.some.injEq] at hy;subst hy;rw [if_neg (by omega)]
theorem y2d:∀(n:Nat) (b:List UInt8),b.length≤n→(z0W b).2≤b.length∧(z0W b).1.length≤b.length∧∀x∈(z0W b).1,x.length≤600
 | 0,b,hn=>by
  have:b= []:=List.eq_nil_of_length_eq_zero (by omega);subst this;rw [z6O (by simp [opened,nul])];simp
 | n+1,b,hn=>by
  cases h:opened b with
  | none=>rw [z6O h];simp
  | some x=>
   by_cases hl:x.length≤600
   ·have h1:=z8W h;obtain ⟨g1,g2,g3⟩:=y2d n (b.drop ((nul b).length+1)) (by rw [List.length_drop];omega);rw [List.length_drop] at g1 g2;rw [z9i h hl];refine ⟨by simp only;omega,by simp only [List.length_cons];omega,fun y hy=>?_⟩;rcases List.mem_cons.1 hy with rfl | hy
    ·exact hl
    ·exact g3 y hy
   ·rw [z9l h (by omega)];simp
end
section
open Go.RowKit Go.Shelf
attribute [local go_sem] Oper.semAt_some
def q3c(b:List UInt8)(B:Nat)(pre:List (Value×List UInt8))(x:Value×List UInt8)(W:World):Prop:=
 W.ownsRow B 5 1 x.1 x.2.length (z0b x.2)∧x.2.length≤600∧(∃r,pre.map Prod.snd++x.2::r=(z0W b).1)
def q3y(B h:Nat)(W W':World):Prop:=W.heap.size≤W'.heap.size∧∀k,k<B→k≠h→W'.heap[k]? =W.heap[k]?
def q1z(rB:Nat)(X X':World):Prop:=Chg [rB] [] X X'
def rAt(rB:Nat)(w:World):Nat:=match w.cell? ⟨rB,1,none⟩ with | some (.int _ n)=>n.toNat | _=>0
theorem RdB.rest'{w:World}{ad:Addr}{c n:Nat}{l:List UInt8}(h:RdB w (.slice (some ad) n c) l)(hn:n=l.length)(hc:n≤c)(k:Nat)(hk:k≤n)(c' m:Nat)(hm:m=(l.drop k).length):
  RdB w (.slice (if c=k then some ad else some (ad.add k)) m c') (l.drop k):=by
 by_cases e:c=k
 ·rw [if_pos e];have e2:l.drop k= []:=List.drop_of_length_le (by omega);rw [e2] at hm ⊢;subst hm;exact ⟨rfl, .inr ⟨ad,c',rfl,fun j u hu=>by simp [z0b] at hu⟩⟩
 ·rw [if_neg e];exact h.from hn k c' m hm (by omega)
theorem z3F{w:World}{rB:Nat}{u v:Value}{t:TypeId}(h:w.heap[rB]? =some (.cells #[u,v] t (0,0))):w.cell? ⟨rB,0,none⟩=some u∧w.cell? ⟨rB,1,none⟩=some v∧(∀j,w.frozen? ⟨rB,j,none⟩=false)∧rB<w.heap.size:=by
 refine ⟨?_,?_,?_,(Array.getElem?_eq_some_iff.1 h).1⟩<;>simp [World.cell?,World.frozen?,h]
structure TeS (wr:World) (s:List UInt8) (D:Nat→Bool) (v:Nat→Value) (w':World) (a:Option Addr) (n' c':Nat):Prop where
 low:Below wr.heap.size wr w'
 d9:D 9=true→v 9= .tuple #[.slice a n' c', .int .i64 (oN s), .int .u16 (oE s)]∧w'.ownsRow wr.heap.size 5 1 (.slice a n' c') n' (z0b (oB s))∧n'=(oB s).length
 d10:D 10=true→D 9=true∧v 10= .tuple #[.slice a n' c', .int .i64 (oN s), .int .u16 (oE s)]
 d11:D 11=true→D 10=true∧v 11= .slice a n' c'
 d14:D 14=true→D 11=true∧v 14= .slice a n' c'
def TeI(wr:World)(s:List UInt8)(D:Nat→Bool)(v:Nat→Value)(w':World):Prop:=∃a n' c',TeS wr s D v w' a n' c'
theorem q1H(n:Nat)(hn1:1≤n)(b:List UInt8)(ao:Option Addr)(c B h rB:Nat)(w:World)
  (hr:w.heap[rB]? =some (.cells #[.slice ao b.length c, .int .i64 0] 281 (0,0)))
  (hx:RdB w (.slice ao b.length c) b) (hle:b.length≤c) (hc:c≤9223372036854775807) (hlen:b.length≤1048576) (hob:∀k,(Value.slice ao b.length c).ownBlock=some k→k<B∧k≠h∧k≠rB)
  (lB:rB<B) (hB:B≤w.heap.size) (nO:rB≠h):
  y6p Fence.wide n Tryz.prog 158 #[.pointer (some ⟨rB,0,none⟩)] #[] (fun x:Value×List UInt8=> #[x.1]) (q3c b B) (q3y B h) (q1z rB) (fun xs=>xs.map Prod.snd=(z0W b).1) (fun W=>W.cell? ⟨rB,1,none⟩=some (.int .i64 (z0W b).2)) w:=by
 intro l J W hW hl hJ hY h0;refine callsIn_of_wp Tryz.func158 rfl trivial ?_ rfl;simp only [Tryz.ntmps158,List.size_toArray,List.length_cons,List.length_nil,Nat.reduceAdd,Nat.reduceSub,Array.replicate_succ,Array.replicate_zero,List.push_toArray,List.append_toArray,List.nil_append,List.cons_append];have hr1:=(hW.block rB (by omega) (by simp)).trans hr
 gi_wp2
 gi_loopw [4] (fun i wr=>∃(pre:List (Value×List UInt8)) (at_:Nat),at_≤b.length∧Hid (pre.map Prod.snd++(z0W (b.drop at_)).1=(z0W b).1∧at_+(z0W (b.drop at_)).2=(z0W b).2)∧wr.heap[rB]? =some (.cells #[.slice ao b.length c, .int .i64 at_] 281 (0,0))∧
   Hid (RdB wr (.slice ao b.length c) b)∧Hid (B≤wr.heap.size)∧J pre wr) (fun i wr=>b.length - rAt rB wr)
 case atStart=>
  have hb:=fun k (hk:k<B)=>hW.block k (by omega) (by simp);exact ⟨[],0,Nat.zero_le _,z7 ⟨by simp,by simp⟩,hr1,z7 (hx.chg hW (by simp)),z7 (Nat.le_trans hB hW.size),h0⟩
 case round=>
  obtain ⟨pre,at_,hat,hpre,ur,hrd,hBr,hJr⟩:=hrel;obtain ⟨u0,u1,uf,ul⟩:=z3F ur;obtain ⟨s,hs⟩:∃s,s=b.drop at_:=⟨_,rfl⟩;obtain ⟨ns,hns⟩:∃ns,ns=b.length - at_:=⟨_,rfl⟩;have hns2:ns=s.length:=by rw [hs,List.length_drop,hns]
  obtain ⟨nb,hnb⟩:∃nb,nb=b.length:=⟨_,rfl⟩;rw [←hnb] at hat hlen hle hns ur u0 hrd;have hsl:∃sa,RdB wr (.slice sa ns (c - at_)) s∧((ao=none∧nb=0∧c=0∧sa=none∧at_=0)∨∃ad,ao=some ad∧sa=if c=at_ then some ad else some (ad.add at_)):=by
   have hr0:=hrd.out;rw [hnb] at hr0;rcases hr0.2 with ⟨he,hz⟩ | ⟨ad2,c2,he,_⟩
   ·simp only [Value.slice.injEq] at he;obtain ⟨rfl,h1,rfl⟩:=he;refine ⟨none,?_, .inl ⟨rfl,by omega,rfl,rfl,by omega⟩⟩;have:s= []:=List.eq_nil_of_length_eq_zero (by omega);subst this;obtain rfl:ns=0:=hns2;exact ⟨rfl, .inl ⟨by simp,rfl⟩⟩
   ·simp only [Value.slice.injEq] at he;obtain ⟨rfl, -, -⟩:=he;refine ⟨_,?_, .inr ⟨ad2,rfl,rfl⟩⟩;have:=hr0.rest' rfl (by omega) at_ (by omega) (c - at_) ns (by rw [←hs];exact hns2);rw [←hs] at this;exact this
  obtain ⟨sa,hsr,hsa⟩:=hsl;have HSR:=z7 hsr;have HSA:=z7 hsa;have HS:=z7 hs;have HNS:=z7 hns2;have hnsl:ns≤1048576:=by omega
  have hcs:ns≤c - at_:=by omega
  have HNS0:=z7 hns;have HNB:=z7 hnb;have hcell:Hid (∀w',Below wr.heap.size wr w'→w'.cell? ⟨rB,0,none⟩=some (.slice ao nb c)∧w'.cell? ⟨rB,1,none⟩=some (.int .i64 at_)):=z7 fun w' hw=>⟨(hw.cell (p:=⟨rB,0,none⟩) ul).trans u0,(hw.cell (p:=⟨rB,1,none⟩) ul).trans u1⟩;have HUR:=z7 ur;clear hsr hsa hs hns2 hns hnb hx hr hr1 u0 u1
  gi_wp2_with fail
  refine wpIn_wide.2 ?_;refine q6 17 40 (by kernel_rfl) (by kernel_rfl) rfl (by kernel_rfl) (fun D v w'=>TeI wr s D v w') (fun _=>undef) ⟨none,0,0,(Below.refl _ _).drew,(fun h=>by cases h),(fun h=>by cases h),(fun h=>by cases h),(fun h=>by cases h)⟩ ?_;simp only [List.take_succ_cons,List.take_zero,List.drop_succ_cons,List.drop_zero];iterate 8 (refine q8.read (e:=?_) (fun v=>by rfl) (fun D v w h=>by obtain ⟨a,n',c',z⟩:=h;exact ⟨a,n',c',z.low,z.d9,z.d10,z.d11,z.d14⟩) (fun D v w' hD hS=>?_) ?_;rotate_left;(obtain ⟨a,n',c',z⟩:=hS;obtain ⟨x0,x1⟩:=hcell.out w' z.low;have hS:=trivial;clear hS hD;first | (go_simp;done) | (go_simp;with_reducible rfl));go_simp)
  refine q8.read (e:= .slice sa ns (c - at_)) (fun v=>by rfl) (fun D v w h=>by obtain ⟨a,n',c',z⟩:=h;exact ⟨a,n',c',z.low,z.d9,z.d10,z.d11,z.d14⟩) (fun D v w' hD hS=>?_) ?_
  ·clear hS hD;have HN0:=HNS0.out;rcases HSA.out with ⟨rfl,rfl,rfl,rfl,rfl⟩ | ⟨ad,rfl,rfl⟩
   ·subst HN0;go_simp
   ·have t1:at_≤nb:=hat;have t2:nb≤c:=hle;subst HN0;go_simp
  go_simp;refine q8.rel (fun v=>by rfl) (fun D v w' hD hS=>?_) ?_
  ·have d10:D 10=false:=hD.post 10 _ rfl (by kernel_rfl);obtain ⟨a,n',c',z⟩:=hS;have d11:D 11=false:=by
    cases e:D 11 with
    | false=>rfl
    | true=>rw [(z.d11 e).1] at d10;cases d10
   have d14:D 14=false:=by
    cases e:D 14 with
    | false=>rfl
    | true=>rw [(z.d14 e).1] at d11;cases d11
   have HLOW:=z7 z.low;have D10:=z7 d10;have D11:=z7 d11;have D14:=z7 d14;clear hD d10 d11 d14 z;go_simp;go_at_call 215;have H:=q1l s sa (c - at_) w' (by rw [←HNS.out];exact HSR.out.low HLOW.out) (by rw [←HNS.out];exact hcs) (by omega) (by rw [←HNS.out];omega);rw [←HNS.out] at H;refine H.mono ?_;clear H;rintro e w'' ⟨a2,n2,c2,rfl,hown,hn2,hb⟩;refine ⟨a2,n2,c2,HLOW.out.trans (hb.mono HLOW.out.size),fun _=>⟨rfl,z0i hown HLOW.out.size,hn2⟩,fun e=>?_,fun e=>?_,fun e=>?_⟩
   ·have:D 10=true:=e;rw [D10.out] at this;cases this
   ·have:D 11=true:=e;rw [D11.out] at this;cases this
   ·have:D 14=true:=e;rw [D14.out] at this;cases this
  go_simp;refine q8.rel (fun v=>by rfl) (fun D v w' hD hS=>?_) ?_
  ·have d9:D 9=true:=hD.pre 9 (by kernel_rfl);have d11:D 11=false:=hD.post 11 _ rfl (by kernel_rfl);obtain ⟨a,n',c',z⟩:=hS;have d14:D 14=false:=by
    cases e:D 14 with
    | false=>rfl
    | true=>rw [(z.d14 e).1] at d11;cases d11
   have Z:=z7 z;have D9:=z7 d9;have D11:=z7 d11;have D14:=z7 d14;clear hD d9 d11 d14 z;go_simp;refine ⟨a,n',c',Z.out.low,Z.out.d9,fun _=>⟨D9.out,(Z.out.d9 D9.out).1⟩,fun e=>?_,fun e=>?_⟩
   ·have:D 11=true:=e;rw [D11.out] at this;cases this
   ·have:D 14=true:=e;rw [D14.out] at this;cases this
  go_simp;refine q8.rel (fun v=>by rfl) (fun D v w' hD hS=>?_) ?_
  ·have d10:D 10=true:=hD.pre 10 (by kernel_rfl);have d14:D 14=false:=hD.post 14 _ rfl (by kernel_rfl);obtain ⟨a,n',c',z⟩:=hS;have hv10:=(z.d10 d10).2;have Z:=z7 z;have D10:=z7 d10;have D14:=z7 d14;clear hD d10 d14 z;rw [hv10];clear hv10;go_simp;refine ⟨a,n',c',Z.out.low,Z.out.d9,Z.out.d10,fun _=>⟨D10.out,rfl⟩,fun e=>?_⟩;have:D 14=true:=e;rw [D14.out] at this;cases this
  go_simp;refine q8.read (e:= .int .i64 (oN s)) (fun v=>by rfl) (fun D v w h=>by obtain ⟨a,n',c',z⟩:=h;exact ⟨a,n',c',z.low,z.d9,z.d10,z.d11,z.d14⟩) (fun D v w' hD hS=>?_) ?_
  ·have d10:D 10=true:=hD.pre 10 (by kernel_rfl);obtain ⟨a,n',c',z⟩:=hS;have hv10:=(z.d10 d10).2;clear hD d10 z;rw [hv10];go_simp
  go_simp;refine q8.read (e:= .int .u16 (oE s)) (fun v=>by rfl) (fun D v w h=>by obtain ⟨a,n',c',z⟩:=h;exact ⟨a,n',c',z.low,z.d9,z.d10,z.d11,z.d14⟩) (fun D v w' hD hS=>?_) ?_
  ·have d10:D 10=true:=hD.pre 10 (by kernel_rfl);obtain ⟨a,n',c',z⟩:=hS;have hv10:=(z.d10 d10).2;clear hD d10 z;rw [hv10];go_simp
  go_simp;refine q8.rel (fun v=>by rfl) (fun D v w' hD hS=>?_) ?_
  ·have d11:D 11=true:=hD.pre 11 (by kernel_rfl);obtain ⟨a,n',c',z⟩:=hS;have hv11:=(z.d11 d11).2;have Z:=z7 z;have D11:=z7 d11;clear hD d11 z;rw [hv11];clear hv11;go_simp;exact ⟨a,n',c',Z.out.low,Z.out.d9,Z.out.d10,Z.out.d11,fun _=>⟨D11.out,rfl⟩⟩
  go_simp;iterate 2 (refine q8.read (e:=?_) (fun v=>by rfl) (fun D v w h=>by obtain ⟨a,n',c',z⟩:=h;exact ⟨a,n',c',z.low,z.d9,z.d10,z.d11,z.d14⟩) (fun D v w' hD hS=>?_) ?_;rotate_left;(skip;clear hS hD;first | (go_simp;done) | (go_simp;with_reducible rfl));go_simp)
  refine q8.fin (fun v w7 hS=>?_);obtain ⟨a,n',c',z⟩:=hS;have hv14:=(z.d14 rfl).2;obtain ⟨_,hown,hn'⟩:=z.d9 rfl;have HLOW:=z7 z.low;rw [hv14];have HOWN:=z7 hown;have HN':=z7 hn';clear z hv14 hown hn';have hw7:q1z rB wr w7:=⟨HLOW.out.os,HLOW.out.tape,HLOW.out.output,HLOW.out.size,fun k hk _=>HLOW.out.block k hk,fun k hk=>by cases hk⟩;have hJ7:=z7 (hJ pre wr w7 hJr hw7);obtain ⟨x0,x1⟩:=hcell.out w7 HLOW.out;have HX1:=z7 x1;have HJ:=z7 hJ;have HY:=z7 hY;clear hw7 hJr hW hJ h0 hY;cases ho:opened s with
  | none=>
   obtain ⟨o1,o2,o3⟩:=z9p ho;have hend:=z7 (z6O ho);rw [o2,o3];clear ho o1 o2 o3;go_wp2
   gi_wp2
   have h9:=hpre.out;rw [←HS.out,hend.out] at h9;refine bodyPost_ret (results_none rfl _ _ _) rfl ⟨⟨_,rfl⟩,⟨pre,by simpa using h9.1,hJ7.out⟩,?_⟩;rw [HX1.out,←h9.2];simp
  | some x=>
   obtain ⟨o1,o2,o3⟩:=z6T ho;rw [o2,o3];rw [o1] at HOWN HN';by_cases hbig:600<x.length
   ·have hend:=z7 (z9l ho hbig);have d1:decide ((600:Int)<n')=true:=decide_eq_true (by have:=HN'.out;omega);clear ho o1 o2 o3;go_wp2
    gi_wp2
    have h9:=hpre.out;rw [←HS.out,hend.out] at h9;refine bodyPost_ret (results_none rfl _ _ _) rfl ⟨⟨_,rfl⟩,⟨pre,by simpa using h9.1,hJ7.out⟩,?_⟩;rw [HX1.out,←h9.2];simp
   ·have hst:=z7 (z9i ho (by omega));have d1:decide ((600:Int)<n')=false:=decide_eq_false (by have:=HN'.out;omega);have hlt:=z8W ho;obtain ⟨q,hq⟩:∃q,q=(nul s).length+1:=⟨_,rfl⟩;rw [←hq] at hst ⊢;have hqn:q≤ns:=by rw [hq,HNS.out];omega
    have hq1:1≤q:=by omega
    have hwq:IntKind.i64.wrap ((at_:Int)+(q:Int))=(at_:Int)+(q:Int):=by have:=HNS0.out;rw [IntKind.wrap_i64];omega
    have hx600:=z7 (show x.length≤600 by omega);clear ho o1 o2 o3 hlt hq hbig;have hu7:w7.heap[rB]? =some (.cells #[.slice ao nb c, .int .i64 at_] 281 (0,0)):=(HLOW.out.block rB ul).trans HUR.out;obtain ⟨z0,z1,zf,zl⟩:=z3F hu7;have zf1:=zf 1;obtain ⟨w8,hw8⟩:∃w8,w8=w7.setCell ⟨rB,1,none⟩ (.int .i64 ((at_:Int)+(q:Int))):=⟨_,rfl⟩;have hb8:∀k,k≠rB→w8.heap[k]? =w7.heap[k]? :=fun k hk=>by rw [hw8];exact q7 hk
    have hu8:w8.heap[rB]? =some (.cells #[.slice ao nb c, .int .i64 ((at_:Int)+(q:Int))] 281 (0,0)):=by
     rw [hw8];have:=j9 hu7 1 (.int .i64 ((at_:Int)+(q:Int)));simpa using this
    have hsz8:w8.heap.size=w7.heap.size:=by rw [hw8];simp [World.setCell]
    have hJ8:J pre w8:=HJ.out pre w7 w8 hJ7.out ⟨by rw [hw8];rfl,by rw [hw8];rfl,by rw [hw8];rfl,by rw [hsz8];exact Nat.le_refl _,fun k _ hk=>hb8 k (by simpa using hk),fun k hk=>by cases hk⟩;have hn600:=HN'.out;subst hn600;have hok:q3c b B pre (.slice a x.length c',x) w8:=by
     refine ⟨z0i (j7 HOWN.out fun k hk=>hb8 k fun e=>?_) hBr.out,hx600.out,(z0W (s.drop q)).1,?_⟩
     ·have:=(HOWN.out.lt k hk).1;omega
     ·have h9:=hpre.out.1;rw [←HS.out,hst.out] at h9;exact h9
    obtain ⟨fn,tmps,assign,body,hy,hR⟩:=HY.out pre _ w8 hJ8 hok;dsimp only at hy;have HU8:=z7 hu8;have hrd8:Hid (RdB w8 (.slice ao nb c) b):=z7 (((hrd.out.low HLOW.out)).keep fun k hk=>hb8 k fun e=>(hob k (by rw [←hk];cases ao<;>rfl)).2.2 e);have hpre2:Hid ((pre++ [(Value.slice a x.length c',x)]).map Prod.snd++(z0W (b.drop (at_+q))).1=(z0W b).1∧at_+q+(z0W (b.drop (at_+q))).2=(z0W b).2):=z7 (by
     have h9:=hpre.out;rw [←HS.out,hst.out] at h9;have e9:s.drop q=b.drop (at_+q):=by rw [HS.out,List.drop_drop]
     rw [←e9];refine ⟨?_,?_⟩
     ·rw [List.map_append,List.append_assoc];exact h9.1
     ·have:=h9.2;simp only at this;omega)
    have hB8:Hid (B≤w8.heap.size):=z7 (by have:=hBr.out;have:=HLOW.out.size;omega);clear hJ8 hok hb8 hu8 hsz8 hu7 hpre hst x0 x1 z0 zl;go_wp2;subst hw8
    gi_wp2
    refine hR.mono ?_;rintro e W3 ⟨rfl,hJ3,hk3⟩;have hr3:=(hk3.2 rB lB nO).trans HU8.out;obtain ⟨y0,y1,yf,yl⟩:=z3F hr3;have HR3:=z7 hr3;have hrd3:Hid (RdB W3 (.slice ao nb c) b):=z7 (hrd8.out.keep fun k hk=>by
     have hk':=hob k (by rw [←hk];cases ao<;>rfl);exact hk3.2 k hk'.1 hk'.2.1)
    have hB3:Hid (B≤W3.heap.size):=z7 (Nat.le_trans hB8.out hk3.1);have Y1:=z7 y1;clear hk3 hr3 y0 y1 yf
    gi_wp2
    go_roundw
    case rel=>exact ⟨_,at_+q,by have:=HNS0.out;have:=HNB.out;omega,hpre2,by rw [HR3.out];simp [HNB.out],by rw [←HNB.out];exact hrd3,hB3,hJ3⟩
    case measure=>
     have e1:rAt rB W3=at_+q:=by
      unfold rAt;rw [Y1.out];simp;omega
     have e2:rAt rB wr=at_:=by
      unfold rAt;rw [(z3F HUR.out).2.1];simp
     rw [e1,e2];have:=HNS0.out;have:=HNB.out;omega
attribute [local go_sem] Oper.semAt_some
theorem z4F{F:Fence}{n':Nat}{P:Program}{w:World}{a:Act}{o:Oper}{Q:Exit→Act→World→Prop}{ops:Array Oper}{rest:List Oper}(hgd:o.guard=none)(s x:Operand)(t:TypeId)
  (ho:o.op= .call {callee:= .builtin .append,args:= #[s,x],argTypes:= #[t,t]})
  (base:Nat) (e:TypeId) (i:TypeInfo) (z:Value) (size bytes:Nat) (ht:P.underlying t=some (.slice e)) (hi:P.info? e=some i) (hz:i.zero=some z)
  (hsize:i.size=size) (hby:i.bytes=bytes) (hzs:z.cells.size=size) (hsz:0<size)
  (v:Value) (n:Nat) (xs:List Value) (hs:a.eval s=v) (hown:w.ownsRow base e size v n xs)
  (xv:Value) (m:Nat) (news:List Value) (hx:a.eval x=xv) (hrd:Rd w xv size m news) (h1:∀u∈news,u.oneCell'=true)
  (h63:n+m≤maxLen) (hbytes:(n+m)*bytes≤140737488355328) (hbase:base≤w.heap.size)
  (h:∀v' w',w'.ownsRow base e size v' (n+m) (xs++news)→w.grownBy w' v.ownBlock→(v'.ownBlock=v.ownBlock∨v'.ownBlock=some w.heap.size)→wpListIn F n' P ops Q rest (a.put o.dst v') w'):
  wpListIn F n' P ops Q (o::rest) a w:=by
 refine wpListIn_plain hgd fun K hK'=>?_;obtain ⟨v',w',hrun,r1,r2,r3,r4⟩:=z3t (P:=P) (w:=w) base t o.type e i z size bytes ht hi hz hsize hby hzs hsz v n xs hown xv m news hrd h1 h63 hbytes hbase;unfold Oper.wpIn;refine ⟨?_,?_⟩
 ·simp [Oper.about,ho,resolve,Target.leads,Sem.run_pure]
 ·rw [Oper.semAt_plain F _ _ (by rw [ho];intro c hc';cases hc')];simp [execOp,ho,resolve,invoke,builtin,hs,hx,hrun,Result.andThen];exact hK' _ _ (h v' w' r1 r2 r4)
theorem y1X{w:World}{B e n k l:Nat}{v:Value}{xs:List Value}{o:Obj}(h:w.ownsRow B e 1 v n xs)(hk:v.ownBlock=some k)(hl:w.heap[l]? =some o)(ho:o.isCells=false):k≠l:=fun e'=>by
 subst e';rcases h.2 with ⟨h1,_⟩ | ⟨g,cap,cur,h1,_,h3,_⟩
 ·rw [h1] at hk;cases hk
 ·rw [h1] at hk;simp only [Value.ownBlock,Option.some.injEq] at hk;subst hk;rw [h3] at hl;simp only [Option.some.injEq] at hl;subst hl;cases ho
theorem y6r{w:World}{B e e' n n' k:Nat}{v v':Value}{xs xs':List Value}(h:w.ownsRow B e 1 v n xs)(h':w.ownsRow B e' 1 v' n' xs')(he:e'≠e)(hk:v.ownBlock=some k)(hk':v'.ownBlock=some k):False:=by
 rcases h.2 with ⟨h1,_⟩ | ⟨g,cap,cur,h1,_,h3,_⟩
 ·rw [h1] at hk;cases hk
 ·rcases h'.2 with ⟨h1',_⟩ | ⟨g',cap',cur',h1',_,h3',_⟩
  ·rw [h1'] at hk';cases hk'
  ·rw [h1] at hk;rw [h1'] at hk';simp only [Value.ownBlock,Option.some.injEq] at hk hk';subst hk;subst hk';rw [h3] at h3';simp only [Option.some.injEq,Obj.cells.injEq] at h3';exact he h3'.2.1.symm
structure z0F (B:Nat) (w:World) (v:Value) (xs:List (Value×List UInt8)):Prop where
 row:w.ownsRow B 46 1 v xs.length (xs.map Prod.fst)
 ent:∀x∈xs,w.ownsRow B 5 1 x.1 x.2.length (z0b x.2)
def TrI(B h rB:Nat)(W5:World)(pre:List (Value×List UInt8))(W:World):Prop:=∃v,W.heap[h]? =some (.cells #[v] 56)∧z0F B W v pre∧Chg [h,rB] [] W5 W
theorem z0F.same{B:Nat}{w w':World}{v:Value}{xs:List (Value×List UInt8)}(h:z0F B w v xs)(hk:∀k o,B≤k→w.heap[k]? =some o→o.isCells=true→w'.heap[k]? =w.heap[k]?):z0F B w' v xs:=by
 have key:∀{e:TypeId} {n:Nat} {u:Value} {l:List Value},w.ownsRow B e 1 u n l→w'.ownsRow B e 1 u n l:=fun hr=>j7 hr fun k hkk=>by
  rcases hr.2 with ⟨h1,_⟩ | ⟨g,cap,cur,h1,h2,h3,_⟩
  ·rw [h1] at hkk;cases hkk
  ·rw [h1] at hkk;simp only [Value.ownBlock,Option.some.injEq] at hkk;subst hkk;exact hk g _ h2 h3 rfl
 exact ⟨key h.row,fun x hx=>key (h.ent x hx)⟩
theorem TrI.turn{B h rB:Nat}{W5 W W':World}{L:List (Value×List UInt8)}{row:Option Nat}(hI:TrI B h rB W5 L W)(hg:W.grownBy W' row)(hB:W5.heap.size≤B)(hr:∀r,row=some r→B≤r∧∃o:Obj,W.heap[r]? =some o∧o.isCells=false):TrI B h rB W5 L W':=by
 obtain ⟨v,h1,h2,h3⟩:=hI;have hr':=fun r e=>(hr r e).2;refine ⟨v,(grownBy_keeps_cells hg hr' h1 rfl).trans h1,h2.same fun k o _ ho hc=>grownBy_keeps_cells hg hr' ho hc,?_⟩;exact ⟨hg.os.trans h3.os,hg.tape.trans h3.tape,hg.output.trans h3.output,Nat.le_trans h3.size hg.size,fun k hk hn=>(hg.block k (Nat.lt_of_lt_of_le hk h3.size) (fun e=>by have:=(hr k e.symm).1;omega)).trans (h3.block k hk hn),h3.fresh⟩
theorem TrI.step{B h rB:Nat}{W5 W W':World}{L:List (Value×List UInt8)}(hI:TrI B h rB W5 L W)(hst:q1z rB W W')(hB:rB<B)(hn:h≠rB):TrI B h rB W5 L W':=by
 obtain ⟨u,h1,h2,h3⟩:=hI;refine ⟨u,(hst.block h (Array.getElem?_eq_some_iff.1 h1).1 (by simpa using hn)).trans h1,h2.same fun k o hk ho _=>hst.block k (Array.getElem?_eq_some_iff.1 ho).1 (by simp;omega),?_⟩;exact ⟨hst.os.trans h3.os,hst.tape.trans h3.tape,hst.output.trans h3.output,Nat.le_trans h3.size hst.size,fun k hk hk2=>(hst.block k (Nat.lt_of_lt_of_le hk h3.size) (fun e=>hk2 (by simp at e;simp [e]))).trans (h3.block k hk hk2),h3.fresh⟩
theorem y4E:(Tryz.prog.info? 46).map (fun i=>(i.zero,i.size,i.bytes))=some (some (.slice none 0 0),1,24):=by kernel_rfl
theorem y6O(b:List UInt8)(ao:Option Addr)(n0 c:Nat)(w:World)(hn0:n0=b.length)(hx:RdB w (.slice ao n0 c) b)(hle:n0≤c)(hc:c≤9223372036854775807)(hlen:n0≤1048576)(hlt:∀k,(Value.slice ao n0 c).ownBlock=some k→k<w.heap.size):
  Calls Tryz.prog 90 #[.slice ao n0 c] w fun e w'=>∃a cc xs,e= .returned (.tuple #[.slice a xs.length cc, .int .i64 (z0W b).2])∧z0F w.heap.size w' (.slice a xs.length cc) xs∧xs.map Prod.snd=(z0W b).1∧Below w.heap.size w w':=by
 obtain ⟨iS,hiS,hyS0,hyS1,hyS2⟩:=info_parts y4E;have HN0:=z7 hn0;clear hn0;refine (callsIn_wide (n:=3)).1 ?_;refine callsIn_of_wp_marks Tryz.func90 rfl trivial ?_ rfl;simp only [Tryz.ntmps90,List.size_toArray,List.length_cons,List.length_nil,Nat.reduceAdd,Nat.reduceSub,Array.replicate_succ,Array.replicate_zero,List.push_toArray,List.append_toArray,List.nil_append,List.cons_append]
 gi_wp2
 obtain ⟨rB,hrB⟩:∃rB,rB=w.heap.size:=⟨_,rfl⟩;obtain ⟨W5,hW5⟩:∃W5,W5=(w.alloc (.cells #[.slice ao n0 c, .int .i64 0] 281)).alloc (.cells #[.slice none 0 0] 56):=⟨_,rfl⟩;have hsz:W5.heap.size=rB+2:=by rw [hW5,hrB];simp
 have k0:W5.heap[rB]? =some (.cells #[.slice ao n0 c, .int .i64 0] 281 (0,0)):=by
  rw [hW5,hrB];exact (Below.heap_alloc _ _ _ (by simp)).trans (j8 w _)
 have k1:W5.heap[rB+1]? =some (.cells #[.slice none 0 0] 56):=by
  rw [hW5,hrB];have:=j8 (w.alloc (.cells #[.slice ao n0 c, .int .i64 0] 281)) (.cells #[.slice none 0 0] 56);simpa using this
 have hB5:Below rB w W5:=by
  rw [hW5,hrB];exact ((Below.refl _ w).alloc (Nat.le_refl _) _).alloc (by simp) _
 rw [←hW5];simp only [←hrB];have hlt':∀k,(Value.slice ao n0 c).ownBlock=some k→k<rB+2∧k≠rB+1∧k≠rB:=fun k hk=>by
  have:=hlt k hk;omega
 have hx5:RdB W5 (.slice ao n0 c) b:=hx.low (by rw [←hrB];exact hB5);have HH:=z7 hrB;have HSZ:=z7 hsz;clear hW5;refine z5v (encs:=fun x:Value×List UInt8=> #[x.1]) rfl (by omega) (gf:=158) (la:= #[.pointer (some ⟨rB,0,none⟩)]) (lb:= #[]) rfl trivial (enters_of Tryz.func158 (by kernel_rfl) rfl) (fun _=>rfl)
  (q3c b (rB+2)) (q3y (rB+2) (rB+1)) (q1z rB) (fun xs=>xs.map Prod.snd=(z0W b).1) (fun W=>W.cell? ⟨rB,1,none⟩=some (.int .i64 (z0W b).2))
  (q1H (3 - 1) (by omega) b ao c (rB+2) (rB+1) rB W5 (by rw [←HN0.out];exact k0) (by rw [←HN0.out];exact hx5) (by rw [←HN0.out];exact hle) hc (by rw [←HN0.out];exact hlen) (by rw [←HN0.out];exact hlt') (by omega) (by omega) (by omega))
  (fun X l o o' hX hl ho hc=>(World.cell?_of_block (w:=X) (a:=⟨rB,1,none⟩) (World.putObj_heap_other (show rB≠l by omega))).trans hX)
  (fun h1 h2=>⟨Nat.le_trans h1.1 h2.1,fun k hk hn=>(h2.2 k hk hn).trans (h1.2 k hk hn)⟩)
  (fun W l o o' hl hl2 ho=>⟨by simp,fun k hk hn=>World.putObj_heap_other (by omega)⟩)
  (fun pre W=>TrI (rB+2) (rB+1) rB W5 pre W)
  (fun s X X' hs hst=>hs.step hst (by omega) (by omega))
  (fun X X' hst=>⟨hst.size,fun k o hk ho hc=>(hst.block k (Array.getElem?_eq_some_iff.1 ho).1 (by simp;omega)).trans ho⟩)
  (fun s X X' row hs hg hr=>hs.turn hg (by omega) (fun r e=>by have:=hr r e;rw [hsz] at this;exact this))
  (fun s x X l o o' ⟨q1,q2,q3⟩ hl hl2 ho=>⟨j7 q1 (fun k hk=>World.putObj_heap_other (y1X q1 hk hl2 ho)),q2,q3⟩)
  ⟨_,k1,⟨World.ownsRow_nil _ _ _ _,fun x hx=>by cases hx⟩,⟨rfl,rfl,rfl,Nat.le_refl _,fun _ _ _=>rfl,fun x hx=>by cases hx⟩⟩
  (fun x=>{tmps:= #[.slice ao n0 c,undef, .slice none 0 0, .int .i64 0, .pointer (some ⟨rB,0,none⟩), .pointer (some ⟨rB+1,0,none⟩),x.1, .slice ao n0 c, .agg #[.slice ao n0 c, .int .i64 0], .pointer (some ⟨rB,0,none⟩), .pointer (some ⟨rB,0,none⟩), .func (.func 158) #[.pointer (some ⟨rB,0,none⟩)] #[],x.1,undef,undef,undef,undef,undef,undef,undef,undef,undef],defers:= []}) ?assign ?body ?done
 case assign=>
  clear hrB hsz;intro l x W K hK
  gi_wp2
  exact hK
 case body=>
  rintro l pre x W ⟨v,c1,hat,hchg⟩ ⟨q1,q2,rr,q3⟩;obtain ⟨xv,p⟩:=x;dsimp only at q1 q2 q3 ⊢;obtain ⟨ax,cx,rfl⟩:=(z0d q1).head;obtain ⟨av,cv,rfl⟩:=(z0d hat.row).head;obtain ⟨m,hm⟩:∃m,m=pre.length:=⟨_,rfl⟩;obtain ⟨pn,hpn⟩:∃pn,pn=p.length:=⟨_,rfl⟩;obtain ⟨f1,f2,f3⟩:=z0t c1;have hpl:pre.length≤1048576:=by
   have h1:=(y2d b.length b (Nat.le_refl _)).2.1;rw [←q3,List.length_append,List.length_map] at h1;have:=HN0.out;omega
  have hrow:=hat.row;rw [←hm] at hrow f1 c1 hpl;rw [←hpn] at q1 ⊢;have HM:=z7 hm;have HPN:=z7 hpn;have HAT:=z7 hat;have HROW:=z7 hrow;clear hm hpn hrow;have HCHG:=z7 hchg;have Q1:=z7 q1;have C1:=z7 c1;clear hrB hsz q1 q2 q3 hlt hlt' hle hc hx hx5 hat hchg c1;have hrow4:Hid (∀o,(W.alloc o).ownsRow (rB+2) 46 1 (.slice av m cv) m (pre.map Prod.fst)):=z7 fun o=>HROW.out.alloc o;have hrd4:=z7 (z3C W #[.slice ax pn cx] 46 1 1 (by decide) rfl);have hsz4:rB+2≤W.heap.size:=by have:=HCHG.out.size;have:=HSZ.out;omega
  gi_wp2_with (gi_at_builtin;refine z4F rfl _ _ 56 rfl (rB+2) 46 iS (.slice none 0 0) 1 24 Tryz.underlying56 hiS hyS0 hyS1 hyS2 rfl (by decide) _ m _ rfl (hrow4.out _) _ 1 [.slice ax pn cx] rfl (by exact hrd4.out) (by simp [Value.oneCell']) (by unfold maxLen;omega) (by omega) (by simp;omega) ?_;intro v1 w1 hown1 hg1 hb1;obtain ⟨a1,co1,rfl⟩:=(z0d hown1).head;have HO1:=z7 hown1;have HG1:=z7 hg1;have hbx:=((hg1.block (rB+1) (by simp;omega) (fun e=>by have:=(HROW.out.lt _ e.symm).1;omega)).trans (Below.heap_alloc W _ _ f3)).trans C1.out;obtain ⟨e1,e2,e3⟩:=z0t hbx;have HBX:=z7 hbx;clear hown1 hg1 hb1 hbx)
  have hI:TrI (rB+2) (rB+1) rB W5 (pre++ [(.slice ax pn cx,p)]) (w1.setCell ⟨rB+1,0,none⟩ (.slice a1 (m+1) co1)):=by
   have hkeep:∀{e n:Nat} {u:Value} {l:List Value},e≠46→W.ownsRow (rB+2) e 1 u n l→(w1.setCell ⟨rB+1,0,none⟩ (.slice a1 (m+1) co1)).ownsRow (rB+2) e 1 u n l:=fun he hr=>j7 hr fun k hk=>by
    have h1:=hr.lt k hk;have h2:k≠rB+1:=by omega
    rw [q7 h2,HG1.out.block k (by simp;omega) (fun e'=>y6r HROW.out hr he e'.symm hk)];exact Below.heap_alloc W _ _ h1.2
   refine ⟨.slice a1 (m+1) co1,?_,⟨?_,fun x hx=>?_⟩,?_⟩
   ·have:=j9 HBX.out 0 (.slice a1 (m+1) co1);simpa using this
   ·rw [List.length_append,List.map_append,←HM.out];exact j7 HO1.out fun k hk=>q7 (by have:=(HO1.out.lt k hk).1;omega)
   ·rcases List.mem_append.1 hx with hx | hx
    ·exact hkeep (by decide) (HAT.out.ent x hx)
    ·rw [List.mem_singleton] at hx;subst hx;have:=hkeep (by decide) Q1.out;rw [HPN.out] at this ⊢;exact this
   ·have h1:=HCHG.out;have h2:=HG1.out;refine ⟨h2.os.trans h1.os,h2.tape.trans h1.tape,h2.output.trans h1.output,by have:=h2.size;have:=h1.size;simp [World.setCell] at*;omega,fun k hk hn=>?_,fun k hk=>by cases hk⟩;have h3:k≠rB+1:=fun e=>hn (by simp [e]);rw [q7 h3,h2.block k (by have:=h1.size;simp;omega) (fun e=>by have:=(HROW.out.lt _ e.symm).1;have:=HSZ.out;omega),Below.heap_alloc W _ _ (by have:=h1.size;omega)];exact h1.block k hk hn
  refine ⟨?_,?_,hI⟩
  ·rw [HSZ.out];refine ⟨by have:=HG1.out.size;simp [World.setCell] at*;omega,fun k o hk ho hc=>?_⟩;have h1:=(Array.getElem?_eq_some_iff.1 ho).1;have h2:k≠rB+1:=by omega
   rw [q7 h2,HG1.out.block k (by simp;omega) (fun e'=>(y1X HROW.out e'.symm ho hc) rfl),Below.heap_alloc W _ _ h1];exact ho
  ·refine ⟨by have:=HG1.out.size;simp [World.setCell] at*;omega,fun k hk hn=>?_⟩;rw [q7 hn,HG1.out.block k (by simp;omega) (fun e=>by have:=(HROW.out.lt _ e.symm).1;omega)];exact Below.heap_alloc W _ _ (by omega)
 case done=>
  rintro D xs W hD hS hF ⟨v,c1,hat,hchg⟩ hK;obtain ⟨m,hm⟩:∃m,m=xs.length:=⟨_,rfl⟩;obtain ⟨av,cv,rfl⟩:=(z0d hat.row).head;rw [←hm] at c1;obtain ⟨f1,f2,f3⟩:=z0t c1;have HM:=z7 hm;have HAT:=z7 hat;have HCHG:=z7 hchg;have HK:=z7 hK;have HS:=z7 hS;clear hrB hsz hm hat hchg hK hS hlt hlt' hle hc hx hx5
  gi_wp2_with fail
  refine wpIn_wide.2 ?_;go_quiet (fail)
  go_wp2
  gi_wp2
  have hK1:(W.drewN nq).heap[D]? =some (.deferred (some [])):=HK.out;refine ⟨by simp, .inl ⟨_,_,rfl,run_takeDeferred hK1,?_⟩⟩;refine ⟨_,results_tmp2 rfl _ _ _,av,cv,xs,?_,?_,HS.out,?_⟩
  ·rw [←HM.out];rfl
  ·have h1:=HAT.out;have h2:z0F (rB+2) ((W.drewN nq).putObj D (.deferred none)) (.slice av xs.length cv) xs:=h1.same fun k o _ ho hc=>World.putObj_heap_other (fun e=>by
    subst e;have h3:=HK.out;rw [ho] at h3;simp only [Option.some.injEq] at h3;subst h3;cases hc)
   rw [←HH.out];exact ⟨z0i h2.row (by omega),fun x hx=>z0i (h2.ent x hx) (by omega)⟩
  ·rw [←HH.out];have h1:=HCHG.out;have hs5:=HSZ.out;refine ⟨h1.os.trans hB5.os,h1.tape.trans hB5.tape,h1.output.trans hB5.output,?_,fun k hk=>?_⟩
   ·have:=h1.size;have:=hB5.size;simp;omega
   ·refine (World.putObj_heap_other (by omega)).trans ((h1.block k (by omega) ?_).trans (hB5.block k hk));simp;omega
end
end Go.Proofs.YtfcnapnopdomhaaGreatDoor

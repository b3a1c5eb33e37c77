/-
  The walks of roll: fit, times, plus, Next, More, Of.
-/
import Derived.Test.YtfcnapnopdomhaaGreatDoorZRoA
import Derived.Test.YtfcnapnopdomhaaGreatDoorZBkIBkJ
namespace Go.Proofs.YtfcnapnopdomhaaGreatDoor
set_option linter.unusedSimpArgs false
set_option linter.unusedVariables false
set_option maxRecDepth 100000
set_option maxHeartbeats 12800000
section
open Go.RowKit
def z8B(s:Nat)(one:Bool):Nat:=(s*1000000007+(if one then 2 else 1))%2305843009213693951
def z3b(s:Nat)(l:List Bool):Nat:=l.foldl z8B s
theorem q0i(s:Nat)(one:Bool):z8B s one<2305843009213693951:=by
 unfold z8B;exact Nat.mod_lt _ (by omega)
theorem y5W(s:Nat)(l:List Bool)(b:Bool):z3b s (l++ [b])=z8B (z3b s l) b:=by unfold z3b;rw [List.foldl_append,List.foldl_cons,List.foldl_nil]
theorem y5Q(s:Nat)(b:Bool)(l:List Bool):z3b s (b::l)=z3b (z8B s b) l:=by unfold z3b;rw [List.foldl_cons]
theorem y0K(l:List Bool):∀(s:Nat),s<2305843009213693951→z3b s l<2305843009213693951:=by
 induction l with
 | nil=>intro s h;exact h
 | cons b l ih=>intro s h;rw [y5Q];exact ih _ (q0i s b)
theorem q2R(h l:Nat)(hh:h<18446744073709551616)(hl:l<18446744073709551616)(w:World):
  Calls Tryz.prog 304 #[.int .u64 (h:Nat), .int .u64 (l:Nat)] w fun e w'=>e= .returned (.int .u64 (((h*18446744073709551616+l)%2305843009213693951:Nat):Int))∧Below w.heap.size w w':=by
 obtain ⟨H,hH⟩:∃x,x=h%2305843009213693951:=⟨_,rfl⟩;have h1:(h:Int).tmod 2305843009213693951=(H:Int):=by rw [hH];exact Int.ofNat_tmod h 2305843009213693951
 have h2:(h:Int)%2305843009213693951=(H:Int):=by rw [hH];simp
 have hHl:H<2305843009213693951:=by rw [hH];exact Nat.mod_lt _ (by decide)
 have he:(h*18446744073709551616+l)%2305843009213693951=(H*18446744073709551616+l)%2305843009213693951:=by
  rw [hH]
  conv=>lhs;rw [Nat.add_mod,Nat.mul_mod]
  conv=>rhs;rw [Nat.add_mod,Nat.mul_mod,Nat.mod_mod]
 rw [he];have HD:=z7 (y9p H l hHl hl);obtain ⟨r,hr⟩:∃r,r=(H*18446744073709551616+l)%2305843009213693951:=⟨_,rfl⟩;rw [←hr] at HD ⊢;clear hr he hH;go_enter Tryz.func304,Tryz.ntmps304;go_wp2_with fail;refine (HD.out _).mono ?_;rintro e w1 ⟨⟨q,rfl⟩,hb⟩;have HB:=z7 hb;clear hb;go_wp2;go_ret;exact ⟨rfl,HB.out⟩
theorem y9J(a b:Nat)(ha:a<18446744073709551616)(hb:b<18446744073709551616)(w:World):
  Calls Tryz.prog 268 #[.int .u64 (a:Nat), .int .u64 (b:Nat)] w fun e w'=>e= .returned (.int .u64 ((a*b%2305843009213693951:Nat):Int))∧Below w.heap.size w w':=by
 have HM:=z7 (q3o a b ha hb);have hlt:a*b/18446744073709551616<18446744073709551616:=by
  rw [Nat.div_lt_iff_lt_mul (by decide)];exact Nat.mul_lt_mul'' ha hb
 have HF:=z7 (q2R (a*b/18446744073709551616) (a*b%18446744073709551616) hlt (Nat.mod_lt _ (by decide)));rw [show a*b/18446744073709551616*18446744073709551616+a*b%18446744073709551616=a*b from Nat.div_add_mod' _ _] at HF;obtain ⟨r,hr⟩:∃r,r=a*b%2305843009213693951:=⟨_,rfl⟩;obtain ⟨p,hp⟩:∃r,r=a*b/18446744073709551616:=⟨_,rfl⟩;obtain ⟨q,hq⟩:∃r,r=a*b%18446744073709551616:=⟨_,rfl⟩;rw [←hr] at HF ⊢;rw [←hp,←hq] at HF HM;clear hr hp hq hlt;go_enter Tryz.func268,Tryz.ntmps268;go_wp2_with fail;refine (HM.out _).mono ?_;rintro e w1 ⟨rfl,rfl⟩;go_wp2_with fail;refine (HF.out _).mono ?_;rintro e w2 ⟨rfl,hb⟩;have HB:=z7 hb;clear hb;go_wp2;go_ret;exact ⟨rfl,HB.out⟩
theorem q1g(a b:Nat)(ha:a<18446744073709551616)(hb:b<18446744073709551616)(w:World):
  Calls Tryz.prog 267 #[.int .u64 (a:Nat), .int .u64 (b:Nat)] w fun e w'=>e= .returned (.int .u64 (((a+b)%2305843009213693951:Nat):Int))∧w'=w:=by
 obtain ⟨A,hA⟩:∃x,x=a%2305843009213693951:=⟨_,rfl⟩;obtain ⟨B,hB⟩:∃x,x=b%2305843009213693951:=⟨_,rfl⟩;obtain ⟨S,hS⟩:∃x,x=A+B:=⟨_,rfl⟩;obtain ⟨r,hr⟩:∃x,x=(a+b)%2305843009213693951:=⟨_,rfl⟩;have a1:(a:Int).tmod 2305843009213693951=(A:Int):=by rw [hA];exact Int.ofNat_tmod a 2305843009213693951
 have a2:(a:Int)%2305843009213693951=(A:Int):=by rw [hA];simp
 have b1:(b:Int).tmod 2305843009213693951=(B:Int):=by rw [hB];exact Int.ofNat_tmod b 2305843009213693951
 have b2:(b:Int)%2305843009213693951=(B:Int):=by rw [hB];simp
 have hs:IntKind.u64.wrap ((A:Int)+B)=(S:Int):=by rw [z2T (by omega) (by omega)];omega
 have hr2:r=S%2305843009213693951:=by rw [hr,hS,hA,hB,←Nat.add_mod]
 have c1:(S:Int).tmod 2305843009213693951=(r:Int):=by rw [hr2];exact Int.ofNat_tmod S 2305843009213693951
 have c2:(S:Int)%2305843009213693951=(r:Int):=by rw [hr2];simp
 rw [←hr];clear hA hB hS hr hr2;go_enter Tryz.func267,Tryz.ntmps267;go_wp2;go_ret;exact ⟨rfl,rfl⟩
theorem q0X(s:Nat)(one:Bool)(hs:s<18446744073709551616)(w:World):
  Calls Tryz.prog 221 #[.int .u64 (s:Nat), .bool one] w fun e w'=>e= .returned (.int .u64 (z8B s one:Nat))∧Below w.heap.size w w':=by
 have HT:=z7 (y9J s 1000000007 hs (by decide));have hlt:s*1000000007%2305843009213693951<18446744073709551616:=Nat.lt_trans (Nat.mod_lt _ (by decide)) (by decide);have HP:=z7 (fun n (hn:n<18446744073709551616)=>q1g (s*1000000007%2305843009213693951) n hlt hn);have e1:∀n,(s*1000000007%2305843009213693951+n)%2305843009213693951=(s*1000000007+n)%2305843009213693951:=fun n=>by rw [Nat.add_mod,Nat.mod_mod,←Nat.add_mod]
 obtain ⟨t,ht⟩:∃t,t=s*1000000007%2305843009213693951:=⟨_,rfl⟩;rw [←ht] at HT HP e1;cases one with
 | true=>
  have HN:Hid (z8B s true=(t+2)%2305843009213693951):=z7 (by rw [e1];rfl);rw [HN.out];have HP2:=z7 (HP.out 2 (by decide));obtain ⟨r,hr⟩:∃r,r=(t+2)%2305843009213693951:=⟨_,rfl⟩;rw [←hr] at HP2 ⊢;have hw2:IntKind.u64.wrap 2=2:=by rw [IntKind.wrap_u64];rfl
  clear hr e1 ht hlt;go_enter Tryz.func221,Tryz.ntmps221;go_wp2_with fail;refine (HT.out _).mono ?_;rintro e w1 ⟨rfl,hb⟩;have HB:=z7 hb;clear hb;go_wp2_with fail;refine (HP2.out _).mono ?_;rintro e w2 ⟨rfl,rfl⟩;go_wp2;go_ret;exact ⟨rfl,HB.out⟩
 | false=>
  have HN:Hid (z8B s false=(t+1)%2305843009213693951):=z7 (by rw [e1];rfl);rw [HN.out];have HP2:=z7 (HP.out 1 (by decide));obtain ⟨r,hr⟩:∃r,r=(t+1)%2305843009213693951:=⟨_,rfl⟩;rw [←hr] at HP2 ⊢;clear hr e1 ht hlt;go_enter Tryz.func221,Tryz.ntmps221;go_wp2_with fail;refine (HT.out _).mono ?_;rintro e w1 ⟨rfl,hb⟩;have HB:=z7 hb;clear hb;go_wp2_with fail;refine (HP2.out _).mono ?_;rintro e w2 ⟨rfl,rfl⟩;go_wp2;go_ret;exact ⟨rfl,HB.out⟩
theorem q2x{b:List UInt8}{l:List Bool}(h:z0U b l){i:Nat}(hi:i<l.length):(b.getD (i/8) 0).toNat/2^(7 - i%8)%2=(if l.getD i false then 1 else 0):=by
 have hlen:=h.len;have h1:=h.at (j:=i/8) (k:=i%8) (by omega) (Nat.mod_lt _ (by decide));rw [show 8*(i/8)+i%8=i from Nat.div_add_mod i 8] at h1;rw [←h1,Nat.testBit_eq_decide_div_mod_eq];have h2:=Nat.mod_two_eq_zero_or_one ((b.getD (i/8) 0).toNat/2^(7 - i%8));rcases h2 with h2 | h2<;>rw [h2]<;>rfl
theorem y5l{l:List Bool}{i s:Nat}(hi:i<l.length):z3b s (l.take (i+1))=z8B (z3b s (l.take i)) (l.getD i false):=by
 rw [List.take_add_one,←y5W]
 congr 2
 simp [List.getD_eq_getElem?_getD,hi]
theorem q1J(s:Nat)(a:Option Addr)(n c:Nat)(l:List Bool)(b:List UInt8)(hs:s<2305843009213693951)(w:World)(h:z0o w a n c l b)(hl:l.length≤549755813888):
  Calls Tryz.prog 167 #[.int .u64 (s:Nat), .agg #[.slice a n c, .int .i64 l.length]] w fun e w'=>e= .returned (.tuple #[.int .u64 (z3b s l:Nat), .int .u16 0])∧Below w.heap.size w w':=by
 obtain ⟨N,hN⟩:∃N,N=l.length:=⟨_,rfl⟩;rw [←hN];have HSB:=z7 (z2s h.bits);have HLEN:=z7 h.len;have hnl:n≤70368744177665:=by have:=h.bits.len;have:=h.len;omega
 have hNl:N≤549755813888:=by omega
 have H:=z7 h;have HN:=z7 hN;have HL0:=z7 ((Loc.start w).new (.cells #[.slice a n c, .int .i64 (N:Nat)] 48));have m1:(s:Int).tmod 2305843009213693951=(s:Int):=Int.tmod_eq_of_lt (by omega) (by omega);have m2:(s:Int)%2305843009213693951=(s:Int):=Int.emod_eq_of_lt (by omega) (by omega);have hs0:Hid (s<2305843009213693951):=z7 hs;clear h hN hl;go_enter Tryz.func167,Tryz.ntmps167;go_wp2_with fail;have hsn:=z2x a c b N _ (by have:=(H.out.low HL0.out.low).rd;rw [HLEN.out] at this;exact this) (by have:=HLEN.out;omega) (by omega) (by omega);rw [←HLEN.out,HN.out,HSB.out,←HN.out] at hsn;refine hsn.mono ?_;rintro e w2 ⟨rfl,hb2⟩;have HL2:=z7 (HL0.out.call hb2);clear hb2 hsn;obtain ⟨c0,c1,cf⟩:=z0g (HL2.out.get 0 rfl);go_wp2_with fail;clear c0 c1 cf;go_loopw [0,14] (fun sv iv wr=>∃k:Nat,sv= .int .u64 (z3b s (l.take k):Nat)∧iv= .int .i64 (k:Nat)∧k≤N∧Hid (Loc w [(w.heap.size, .cells #[.slice a n c, .int .i64 (N:Nat)] 48 (0,0))] wr)) (fun _ iv _=>match iv with | .int _ x=>N - x.toNat | _=>0)
 case atStart=>exact ⟨0,rfl,rfl,Nat.zero_le _,HL2⟩
 case round=>
  obtain ⟨k,rfl,rfl,hk,hL⟩:=hrel;clear HL2;obtain ⟨S,hS⟩:∃S,S=z3b s (l.take k):=⟨_,rfl⟩;have hSl:S<18446744073709551616:=by rw [hS];exact Nat.lt_trans (y0K _ _ hs) (by decide)
  rw [←hS];have HS:=z7 hS;clear hS;obtain ⟨c0,c1,cf⟩:=z0g (hL.out.get 0 rfl);by_cases hkN:k<N
  ·have d1:decide ((k:Int)<N)=true:=decide_eq_true (by omega);have hkl:k<l.length:=by have:=HN.out;omega
   obtain ⟨g,off,hae,cz,hg⟩:=(H.out.low hL.out.low).cell (j:=k/8) (by have:=H.out.bits.len;have:=HLEN.out;omega);obtain ⟨z,hz⟩:∃z,z=(b.getD (k/8) 0).toNat:=⟨_,rfl⟩;have hz8:z<256:=by rw [hz];exact (b.getD (k/8) 0).toNat_lt
   rw [←hz] at cz;obtain ⟨q,hq⟩:∃q,q=k/8:=⟨_,rfl⟩;obtain ⟨m,hm⟩:∃m,m=7 - k%8:=⟨_,rfl⟩;obtain ⟨kr,hkr⟩:∃x,x=k%8:=⟨_,rfl⟩;rw [←hq] at cz;have hdiv:(k:Int).tdiv 8=(q:Int):=by rw [hq];exact Int.ofNat_tdiv k 8
   have hdv2:(k:Int)/8=(q:Int):=by omega
   have hmod:(k:Int).tmod 8=(kr:Int):=by rw [hkr];exact Int.ofNat_tmod k 8
   have hmd2:(k:Int)%8=(kr:Int):=by omega
   have hwm:IntKind.i64.wrap (7 - (kr:Int))=(m:Int):=by rw [z0n (by omega) (by omega)];omega
   have hm8:m≤8:=by omega
   obtain ⟨v,hv⟩:∃v,v=z/2^m:=⟨_,rfl⟩;have hv1:(z:Int)/2^m=(v:Int):=by rw [hv];simp
   have hv8:v<256:=by rw [hv];exact Nat.lt_of_le_of_lt (Nat.div_le_self _ _) hz8
   obtain ⟨t,ht⟩:∃t,t=v%2:=⟨_,rfl⟩;have hand:bits .and .u8 (v:Int) 1=(t:Int):=by
    have:=u8_and_nat v 1 hv8 (by decide);rw [Nat.and_one_is_mod] at this;rw [ht];exact this
   have hbit:t=if l.getD k false then 1 else 0:=by rw [ht,hv,hz,hm];exact q2x H.out.bits hkl
   obtain ⟨x,hx⟩:∃x,x=l.getD k false:=⟨_,rfl⟩;have hnx:=y5l (s:=s) hkl;rw [←hx] at hbit hnx;rw [←HS.out] at hnx;have HNX:=z7 hnx;have hqn:q<n:=by have:=H.out.bits.len;have:=HLEN.out;omega
   have hwk:IntKind.i64.wrap ((k:Int)+1)=((k+1:Nat):Int):=z0n (by omega) (by omega);obtain ⟨k',hk'⟩:∃k',k'=k+1:=⟨_,rfl⟩;rw [←hk'] at hwk HNX;have hk'N:k'≤N∧k<k':=by omega
   have HNXT:=z7 (q0X S x hSl);subst hae;clear hz hq hm hkr hv ht hx hnx hk' hkl;cases x with
   | true=>
    simp only [if_true] at hbit;subst hbit;go_wp2_with fail;refine (HNXT.out _).mono ?_;rintro e w3 ⟨rfl,hb3⟩;have HL3:=z7 (hL.out.call hb3);clear hb3;go_wp2;exact ⟨⟨k',by rw [HNX.out],rfl,hk'N.1,HL3⟩,by show N - (k':Int).toNat<N - (k:Int).toNat;omega⟩
   | false=>
    simp only [Bool.false_eq_true,if_false] at hbit;subst hbit;go_wp2_with fail;refine (HNXT.out _).mono ?_;rintro e w3 ⟨rfl,hb3⟩;have HL3:=z7 (hL.out.call hb3);clear hb3;go_wp2;exact ⟨⟨k',by rw [HNX.out],rfl,hk'N.1,HL3⟩,by show N - (k':Int).toNat<N - (k:Int).toNat;omega⟩
  ·have d1:decide ((k:Int)<N)=false:=decide_eq_false (by omega);have hkN2:k=N:=by omega
   go_wp2;go_ret2;refine ⟨?_,hL.out.low⟩;rw [HS.out,hkN2,HN.out,List.take_length];rfl
theorem q3z(a:Option Addr)(n c:Nat)(l:List Bool)(b:List UInt8)(w:World)(h:z0o w a n c l b)(hl:l.length≤549755813888):
  Calls Tryz.prog 98 #[.agg #[.slice a n c, .int .i64 l.length]] w fun e w'=>e= .returned (.tuple #[.int .u64 (z3b 0 l:Nat), .int .u16 0])∧Below w.heap.size w w':=by
 obtain ⟨N,hN⟩:∃N,N=l.length:=⟨_,rfl⟩;have HM:=z7 (fun w' (h':z0o w' a n c l b)=>q1J 0 a n c l b (by decide) w' h' hl);rw [←hN] at HM ⊢;have H:=z7 h;have HL0:=z7 ((Loc.start w).new (.cells #[.slice a n c, .int .i64 (N:Nat)] 48));obtain ⟨S,hS⟩:∃S,S=z3b 0 l:=⟨_,rfl⟩;rw [←hS] at HM ⊢;clear h hl hN hS;go_enter Tryz.func98,Tryz.ntmps98;go_wp2_with fail;refine (HM.out _ (H.out.low HL0.out.low)).mono ?_;rintro e w2 ⟨rfl,hb2⟩;have HL2:=z7 (HL0.out.call hb2);clear hb2;go_wp2;go_ret2;exact ⟨rfl,HL2.out.low⟩
end
section
open Go.RowKit Go.Maps
structure q1r (W:World) (s:z1o) (p:Nat×Nat×Nat) (D:Nat→Bool) (v:Nat→Value) (w':World):Prop where
 low:Below W.heap.size W w'
 at_:D 2=true→∃X,v 2= .pointer (some ⟨X.sb,0,none⟩)∧z0v w' X∧X.ser=s
 pt:D 4=true→∃X u,v 4=u∧z0v w' X∧X.ser=s∧y4k X p (.returned u)
 as_:D 5=true→D 4=true∧v 5=v 4
theorem q1r.other{W w' w'':World}{s:z1o}{p:Nat×Nat×Nat}{D:Nat→Bool}{v:Nat→Value}(h:q1r W s p D v w')(k:Nat)(h2:k≠2)(h4:k≠4)(h5:k≠5)(hb:Below w'.heap.size w' w''):q1r W s p (mark D k) v w'':=
 ⟨h.low.trans (hb.mono h.low.size),(fun e=>by
  rw [q9 h2] at e;obtain ⟨X,g1,g2,g3⟩:=h.at_ e;exact ⟨X,g1,g2.low hb,g3⟩),(fun e=>by
  rw [q9 h4] at e;obtain ⟨X,u,g0,g1,g2⟩:=h.pt e;exact ⟨X,u,g0,g1.low hb,g2⟩),fun e=>by rw [q9 h5] at e;rw [q9 h4];exact h.as_ e⟩
theorem z9M{p:z1h}(h:p.Ok)(n:Nat):toP p n≤p.l.length:=by
 unfold toP;split
 ·omega
 ·cases hg:(z1i p.st)[n - 1]? with
  | none=>exact Nat.zero_le _
  | some e=>
   unfold z1i at hg;rw [List.getElem?_map,Option.map_eq_some_iff] at hg;obtain ⟨x,hx,rfl⟩:=hg;exact ((z3n h.rd).2.2.2.1 x (List.mem_of_getElem? hx)).2.2.2.1
theorem z7P{s:z1o}{p:Nat×Nat×Nat}{x:z1h}{cl:Bool}(h:z4n s p=some (x,cl)):s.parts[p.1]? =some (x,cl)∧p.2.2≤x.st.length∧¬(cl=true∧p.2.2=x.st.length)∧toP x p.2.2=p.2.1:=by
 unfold z4n at h;split at h
 ·cases h
 ·rename_i y cy hy;split at h
  ·cases h
  ·rename_i hn;simp only [Option.some.injEq,Prod.mk.injEq] at h;obtain ⟨rfl,rfl⟩:=h;refine ⟨hy,Nat.le_of_not_lt fun e=>hn (.inl e),fun e=>hn (.inr (.inl e)),?_⟩;by_cases e:toP y p.2.2=p.2.1
   ·exact e
   ·exact absurd (.inr (.inr e)) hn
def z8c(s:z1o)(p:Nat×Nat×Nat):Nat×Nat:=
 match z4n s p with
 | none=>(0,122)
 | some (x,_)=>(z3b 0 (x.l.take p.2.1),0)
theorem y1y:(Tryz.prog.info? 48).map (·.size)=some 2:=by kernel_rfl
def q3C(L:List Bool)(p:Array Value)(w:World):Prop:=∃a b c,p= #[.slice a b.length c, .int .i64 (L.length:Nat)]∧z0o w a b.length c L b
theorem y5B(bb mb B:Nat)(E:List (Int×z0C))(b:z0m)(S:Nat→Prop)(id:Nat)(hid:id<4294967296)(ck pb pc:Nat)(h1:ck<4294967296)(h2:pb<4294967296)(h3:pc<4294967296)(hfew:(z0f b id).done.length≤1000000000)(w:World)(h:z0r w bb mb E b B S):
  Calls Tryz.prog 47 #[.pointer (some ⟨bb,0,none⟩), .int .u32 id,z3D (ck,pb,pc)] w fun e w'=>e= .returned (.tuple #[.int .u64 ((z8c (z0f b id) (ck,pb,pc)).1:Nat), .int .u16 ((z8c (z0f b id) (ck,pb,pc)).2:Nat)])∧Below w.heap.size w w':=by
 have HL0:=z7 ((Loc.start w).new (.cells #[.int .u32 ck, .int .u32 pb, .int .u32 pc] 42));have H:=z7 h;have HFEW:=z7 hfew;have HAT:=z7 (fun w' h=>z9q bb mb B E b S id hid w' h);clear h hfew;go_enter Tryz.func47,Tryz.ntmps47;go_upto_region 1 with fail
 obtain ⟨W,hW,hL⟩:=HL0.out.named;refine z0D hW ?_;have HL:=z7 hL;clear hL hW;refine q6 6 33 (by kernel_rfl) (by kernel_rfl) rfl (by kernel_rfl) (fun D v w'=>q1r W (z0f b id) (ck,pb,pc) D v w') (fun _=>undef) ⟨(Below.refl _ _).drew,(fun e=>by cases e),(fun e=>by cases e),fun e=>by cases e⟩ ?_;simp only [List.take_succ_cons,List.take_zero,List.drop_succ_cons,List.drop_zero];iterate 2 (refine q8.read (e:=?_) (fun v=>by rfl) (fun D v w h=>⟨h.low,h.at_,h.pt,h.as_⟩) (fun D v w' hD hS=>?_) ?_;rotate_left;(skip;clear hS hD;first | (go_simp;done) | (go_simp;with_reducible rfl));go_simp)
 refine q8.rel (fun v=>by rfl) (fun D v w' hD hS=>?_) ?_
 ·have d4:D 4=false:=hD.post 4 _ rfl (by kernel_rfl);have HZ:=z7 hS;clear hS hD;go_simp;go_at_call 44;refine (HAT.out w' (H.out.low (HL.out.call HZ.out.low).low)).mono ?_;rintro e w'' ⟨X,rfl,hX,hXs,hb, -⟩;exact ⟨HZ.out.low.trans (hb.mono HZ.out.low.size),(fun _=>⟨X,z0p _ _ _,hX,hXs⟩),(fun e=>by rw [q9 (by decide),d4] at e;cases e),fun e=>by rw [q9 (by decide)] at e;have:=(HZ.out.as_ e).1;rw [d4] at this;cases this⟩
 go_simp;iterate 1 (refine q8.read (e:=?_) (fun v=>by rfl) (fun D v w h=>⟨h.low,h.at_,h.pt,h.as_⟩) (fun D v w' hD hS=>?_) ?_;rotate_left;(obtain ⟨p0,p1,p2,pf⟩:=cells3 ((HL.out.call hS.low).get 0 rfl);have l0:=(HL.out.call hS.low).lt 0 rfl;clear hS hD;first | (go_simp;done) | (go_simp;with_reducible rfl));go_simp)
 refine q8.rel (fun v=>by rfl) (fun D v w' hD hS=>?_) ?_
 ·obtain ⟨X,hv2,hX,hXs⟩:=hS.at_ (hD.pre 2 (by kernel_rfl));have d4:=z7 hD.self;have hpt:=z7 (y6R X (by have:=HFEW.out;rw [←hXs,X.done_len] at this;exact this) ck pb pc h1 h2 h3 w' hX);have HX:=z7 hX;have HXS:=z7 hXs;have HZ:=z7 hS;clear hS hD hX hXs;go_simp;go_at_call 46;refine hpt.out.mono ?_;rintro e w'' ⟨hpt2,hb⟩;obtain ⟨u,rfl⟩:∃u,e= .returned u:=by
   rcases hpt2 with ⟨-,rfl⟩ | ⟨_,_, -, -, -,rfl⟩
   ·exact ⟨_,rfl⟩
   ·exact ⟨_,rfl⟩
  refine ⟨HZ.out.low.trans (hb.mono HZ.out.low.size),(fun e=>?_),(fun _=>⟨X,u,z0p _ _ _,HX.out.low hb,HXS.out,hpt2⟩),fun e=>?_⟩
  ·rw [q9 (by decide)] at e;rw [z0c (by decide)];obtain ⟨Y,g1,g2,g3⟩:=HZ.out.at_ e;exact ⟨Y,g1,g2.low hb,g3⟩
  ·rw [q9 (by decide)] at e;have:=(HZ.out.as_ e).1;rw [d4.out] at this;cases this
 go_simp;refine q8.rel (fun v=>by rfl) (fun D v w' hD hS=>?_) ?_
 ·have d4:=hD.pre 4 (by kernel_rfl);have HZ:=z7 hS;clear hS hD;go_simp;refine ⟨HZ.out.low,(fun e=>?_),(fun e=>?_),fun _=>⟨by rw [q9 (by decide)];exact d4,by rw [z0p,z0c (by decide)]⟩⟩
  ·rw [z0c (by decide)];rw [q9 (by decide)] at e;exact HZ.out.at_ e
  ·rw [z0c (by decide)];rw [q9 (by decide)] at e;exact HZ.out.pt e
 go_simp;refine q8.fin (fun v w1 hS=>?_);obtain ⟨X,u,hv4,hX,hXs,hpt⟩:=hS.pt rfl;have hv5:=(hS.as_ rfl).2;rw [hv5,hv4];have HL1:=z7 (HL.out.call hS.low);clear hS hv4 hv5;rcases hpt with ⟨hno,hu⟩ | ⟨x,cl,hxc,hps,hpc,hu⟩
 ·simp only [Ending.returned.injEq] at hu;subst hu;have HS0:Hid (z8c (z0f b id) (ck,pb,pc)=(0,122)):=z7 (by unfold z8c;rw [←hXs,hno]);clear hno hX hXs;go_wp2;go_ret2;rw [HS0.out];exact ⟨rfl,HL1.out.low⟩
 ·simp only [Ending.returned.injEq] at hu;subst hu;obtain ⟨hxs, -, -,hpb⟩:=z7P hps;have hok:=(hX.partOk hxc).1;have hS0:z8c (z0f b id) (ck,pb,pc)=(z3b 0 (x.p.l.take pb),0):=by unfold z8c;rw [←hXs,hps]
  have hpl:pb≤x.p.l.length:=by have:=z9M hok.ok pc;simp only at hpb;omega
  have hxl:=hok.ok.bits;obtain ⟨N,hN⟩:∃N,N=x.p.l.length:=⟨_,rfl⟩;obtain ⟨bl,hbl⟩:∃bl,bl=x.b.length:=⟨_,rfl⟩;have hcut:=z7 (fun w' (hb:Below w1.heap.size w1 w')=>q0m x.a bl x.c x.p.l x.b 0 pb w' (by rw [hbl];exact (hok.next fun k hk=>hb.block k (hX.lt k hk)).rd.now) (by omega) (Nat.zero_le _) hpl);rw [←hN,List.drop_zero,Nat.sub_zero] at hcut;obtain ⟨L,hL⟩:∃L,L=x.p.l.take pb:=⟨_,rfl⟩;rw [←hL] at hS0 hcut;have hLl:L.length≤3504:=by rw [hL,List.length_take];omega
  have hsum:=z7 (fun a' n' c' b' w' (h':z0o w' a' n' c' L b')=>q3z a' n' c' L b' w' h' (by omega));have hc0:=z7 (fun w' (hb:Below w1.heap.size w1 w')=>(hX.low hb).partAt hxc rfl);have hw5:IntKind.i64.wrap (pb:Int)=(pb:Int):=by rw [IntKind.wrap_i64];omega
  have HN:=z7 hN;have HBL:=z7 hbl;have HS0:=z7 hS0;have HLG:=z7 (fun w' (hb:Below w1.heap.size w1 w')=>(hX.low hb).lts X.g (.inr (.inl rfl)));clear hX hXs hxc hps hpc hxs hpb hok hS0 hpl hN hbl hL hxl;go_upto_region 4 with fail
  refine q6 14 33 (by kernel_rfl) (by kernel_rfl) rfl (by kernel_rfl) (fun D v w'=>CsS w1 7 2 48 (.int .u16 0) (q3C L) D v w') (fun _=>undef) (CsS.start _ _ _ _ _ _) ?_;simp only [List.take_succ_cons,List.take_zero,List.drop_succ_cons,List.drop_zero];iterate 7 (refine q8.read (e:=?_) (fun v=>by rfl) (fun D v w h=>h.other _ (by decide) (by decide) (by decide) (by decide) (by decide) (Below.refl _ _)) (fun D v w' hD hS=>?_) ?_;rotate_left;(obtain ⟨p0,p1,p2,pf⟩:=cells3 ((HL1.out.call hS.low).get 0 rfl);have l0:=(HL1.out.call hS.low).lt 0 rfl;have lg:=HLG.out w' hS.low;have c0:=hc0.out w' hS.low 0 (.slice x.a bl x.c) (by rw [HBL.out];rfl);have c1:=hc0.out w' hS.low 1 (.int .i64 (N:Nat)) (by rw [HN.out];rfl);simp only [Nat.add_zero] at c0;clear hS hD;first | (go_simp;done) | (go_simp;with_reducible rfl));go_simp)
  refine q8.rel (fun v=>by rfl) (fun D v w' hD hS=>?_) ?_
  ·have HZ:=z7 hS;have d7:=z7 hD.self;clear hS hD;go_simp;go_at_call 48;refine (hcut.out w' HZ.out.low).mono ?_;rintro e w'' ⟨a',n',c',b',rfl,hrow,rfl,hbt,hb⟩;exact HZ.out.call d7.out hb #[.slice a' b'.length c', .int .i64 (L.length:Nat)] (fun k=>(Value.slice a' b'.length c').ownBlock=some k) rfl (by simp [Value.oneCell']) (fun w3 hk=>⟨a',b',c',rfl,z4O (j7 hrow fun k hk2=>hk k hk2) rfl hbt⟩) (fun k hk=>hrow.lt k hk)
  go_simp
  refine q8.rel (fun v=>by rfl) (fun D v w' hD hS=>?_) ?_;(focus (have d:=hD.pre 7 (by kernel_rfl);have HS2:=z7 (hS.move d);clear hS hD;go_simp;exact HS2.out));go_simp;refine q8.rel (fun v=>by rfl) (fun D v w' hD hS=>?_) ?_;(focus (obtain ⟨d,hm⟩:=hS.m (hD.pre 8 (by kernel_rfl));obtain ⟨p,F,hp, -⟩:=hS.c d;have HS2:=z7 (hS.ext d hp (hD.post 12 _ rfl (by kernel_rfl)));rw [hp] at hm;clear hS hD hp;go_simp;exact HS2.out));go_simp;refine q8.read (.int .u16 0) (fun v=>by rfl) (fun D v w h=>h.other 10 (by decide) (by decide) (by decide) (by decide) (by decide) (Below.refl _ _)) (fun D v w' hD hS=>?_) ?_;(focus (obtain ⟨d,hm⟩:=hS.m (hD.pre 8 (by kernel_rfl));obtain ⟨p,F,hp, -⟩:=hS.c d;rw [hp] at hm;clear hS hD hp;go_simp));go_simp;refine q8.rel (fun v=>by rfl) (fun D v w' hD hS=>?_) ?_;(focus (have HS2:=z7 (hS.make (hD.post 12 _ rfl (by kernel_rfl)) (Z:= #[.slice none 0 0, .int .i64 0]) rfl);clear hS hD;go_simp;exact HS2.out));go_simp;refine q8.call undef (fun v=>by rfl) (fun D v w' hD hS=>?_) ?_;(focus (have d2:=hD.pre 9 (by kernel_rfl);have d4:=hD.pre 11 (by kernel_rfl);obtain ⟨d,he⟩:=hS.e d2;obtain ⟨p,F,hp,hps,hpo, -⟩:=hS.c d;have hv:=he p hp;obtain ⟨g,cs,hg, -,hgc,hcs, -⟩:=hS.al d4;refine z1N _ _ _ rfl g 0 hg p hv (z0y hgc (by omega)) (z0B hgc) (by rw [hps];exact y1y) hpo ?_;exact ⟨undef,rfl,rfl,hS.store d2 d4 hg hv hps⟩));go_simp;iterate 1 (refine q8.read (e:=?_) (fun v=>by rfl) (fun D v w h=>h.other _ (by decide) (by decide) (by decide) (by decide) (by decide) (Below.refl _ _)) (fun D v w' hD hS=>?_) ?_;rotate_left;(clear hS hD;first | (go_simp;done) | (go_simp;with_reducible rfl));go_simp)
  refine q8.fin (fun v w2 hS=>?_);obtain ⟨p,F,hp, -, -,hR, -⟩:=hS.c rfl;obtain ⟨g,cs,hg,hge,hgc, -,hcs⟩:=hS.al rfl;have hv9:=(hS.e rfl).2 p hp;have hcp:=hcs rfl;rw [hv9] at hcp;simp only [Value.agg.injEq] at hcp;subst hcp;obtain ⟨a',b',c',rfl,hbits⟩:=hR.now;rw [hg];have HL2:=z7 (HL1.out.call hS.low);have HB2:=z7 hbits;obtain ⟨q0,q1,qf⟩:=z0g hgc;have lq:=(Array.getElem?_eq_some_iff.1 hgc).1;clear hS hp hR hg hgc hcs hv9 hbits;go_wp2_with fail;refine (hsum.out a' _ c' b' w2 HB2.out).mono ?_;rintro e w3 ⟨rfl,hb⟩;have HL3:=z7 (HL2.out.call hb);clear hb;go_wp2;go_ret2;rw [HS0.out];exact ⟨rfl,HL3.out.low⟩
end
end Go.Proofs.YtfcnapnopdomhaaGreatDoor

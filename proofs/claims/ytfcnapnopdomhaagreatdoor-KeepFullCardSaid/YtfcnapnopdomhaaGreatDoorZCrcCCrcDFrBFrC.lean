/-
  The laws of check sums: the example; lists of lists that are laid for a call.
-/
import Derived.Test.YtfcnapnopdomhaaGreatDoorZItemsLawOwn
import Derived.Lib.SlBytesConst
import Derived.Laws.StructEq
namespace Go.Proofs.YtfcnapnopdomhaaGreatDoor
set_option linter.unusedSimpArgs false
set_option linter.unusedVariables false
set_option maxRecDepth 100000
set_option maxHeartbeats 12800000
open Go.RowKit
theorem z3U:(Tryz.prog.info? 5).map (fun i=>(i.zero,i.size,i.bytes))=some (some (.int .u8 0),1,1):=by kernel_rfl
theorem q0D{w:World}{n:Nat}{vs:List Value}{ls:List (List UInt8)}{e:TypeId}{fr:Nat×Nat}(hrow:w.heap[n]? =some (.cells vs.toArray e fr))(hl:vs.length=ls.length)(hp:0<ls.length)
  (h:∀(i:Nat) (v:Value) (l:List UInt8),vs[i]? =some v→ls[i]? =some l→RdB w v l) (c:Nat):z9B w (.slice (some ⟨n,0,none⟩) ls.length c) ls:=by
 refine ⟨vs,⟨by simpa using hl, .inr ⟨⟨n,0,none⟩,c,rfl,fun j u hu=>?_⟩⟩,hl,h⟩;have hadd:(⟨n,0,none⟩:Addr).add j=⟨n,j,none⟩:=by unfold Addr.add;split<;>simp_all
 rw [hadd,cell_of_row w n j vs.toArray e fr hrow];simpa using hu
theorem z8p{w:World}{n:Nat}{l:List UInt8}{e:TypeId}{fr:Nat×Nat}(hrow:w.heap[n]? =some (.cells (z0b l).toArray e fr))(hp:0<l.length)(c:Nat):RdB w (.slice (some ⟨n,0,none⟩) l.length c) l:=by
 refine ⟨by simp [z0b], .inr ⟨⟨n,0,none⟩,c,rfl,fun j u hu=>?_⟩⟩;have hadd:(⟨n,0,none⟩:Addr).add j=⟨n,j,none⟩:=by unfold Addr.add;split<;>simp_all
 rw [hadd,cell_of_row w n j _ e fr hrow];simpa using hu
theorem heap_alloc_old(w:World)(o:Obj){k:Nat}(h:k<w.heap.size):(w.alloc o).heap[k]? =w.heap[k]? :=Below.heap_alloc w o k h
theorem z7Q(w:World):Calls Tryz.prog 106 #[] w fun e w'=>e= .returned (.pointer (some ⟨w.heap.size,0,none⟩))∧Tab w' w.heap.size false∧Below w.heap.size w w'∧w.heap.size<w'.heap.size:=by
 refine (q1n w).mono ?_;rintro e w' ⟨rfl,rfl⟩;exact ⟨rfl,z1t.made w,(Below.refl _ _).alloc (Nat.le_refl _) _,by simp⟩
theorem Tab.alloc{w:World}{tb:Nat}{f:Bool}(h:Tab w tb f)(o:Obj):Tab (w.alloc o) tb f:=h.low ((Below.refl _ _).alloc (Nat.le_refl _) _)
theorem Tab.lt{w:World}{tb:Nat}{f:Bool}(h:Tab w tb f):tb<w.heap.size:=(z1t.heads h).2.2.2.2
theorem z2W{w:World}{n:Nat}(o:Obj)(h:n=w.heap.size):(w.alloc o).heap[n]? =some o:=by rw [h];exact j8 w o
theorem y3Y(tb:Nat)(f:Bool)(vs:List Value)(ls:List (List UInt8))(n:Nat)(w0:World)(hT:Tab w0 tb f)(hrow:w0.heap[n]? =some (.cells vs.toArray 46 (0,0)))(hl:vs.length=ls.length)(hp:0<ls.length)(hn:n≠tb)
  (hv:∀w',Chg [tb] [tb] w0 w'→∀(i:Nat) (v:Value) (l:List UInt8),vs[i]? =some v→ls[i]? =some l→RdB w' v l) (hls:∀l∈ls,l.length≤9223372036854775807) (hll:ls.length≤9223372036854775807):
  Calls Tryz.prog 107 #[.pointer (some ⟨tb,0,none⟩), .slice (some ⟨n,0,none⟩) ls.length ls.length] w0 fun e w'=>e= .returned (.int .u32 (z2A ls.flatten:Nat))∧Tab w' tb true∧Chg [tb] [tb] w0 w':=
 q2g tb f _ ls w0 hT (fun w' hc=>q0D (w:=w') (by rw [hc.block n (Array.getElem?_eq_some_iff.1 hrow).1 (by simpa using hn)];exact hrow) hl hp (hv w' hc) _) hll hls
theorem z6S(tb:Nat)(f:Bool)(v:Value)(l:List UInt8)(n:Nat)(w0:World)(hT:Tab w0 tb f)(hrow:w0.heap[n]? =some (.cells #[v] 46 (0,0)))(hn:n≠tb)
  (hv:∀w',Chg [tb] [tb] w0 w'→RdB w' v l) (hl:l.length≤9223372036854775807):
  Calls Tryz.prog 107 #[.pointer (some ⟨tb,0,none⟩), .slice (some ⟨n,0,none⟩) 1 1] w0 fun e w'=>e= .returned (.int .u32 (z2A l:Nat))∧Tab w' tb true∧Chg [tb] [tb] w0 w':=by
 have h:=y3Y tb f [v] [l] n w0 hT hrow rfl (by simp) hn (fun w' hc i v' l' h1 h2=>by
  cases i with
  | zero=>simp at h1 h2;subst h1;subst h2;exact hv w' hc
  | succ i=>simp at h1) (by simpa using hl) (by simp)
 simpa using h
structure CS (W:World) (tb:Nat) (f:Bool) (w:World):Prop where
 tab:Tab w tb f
 low:Below W.heap.size W w
 ge:W.heap.size≤tb
theorem CS.alloc{W w:World}{tb:Nat}{f:Bool}(h:CS W tb f w)(o:Obj):CS W tb f (w.alloc o):=⟨h.tab.alloc o,h.low.alloc h.low.size o,h.ge⟩
theorem CS.to{W w w':World}{tb:Nat}{f:Bool}(h:CS W tb f w)(hb:Below w.heap.size w w'):CS W tb f w':=⟨h.tab.low hb,h.low.trans (hb.mono h.low.size),h.ge⟩
theorem CS.sum{W w w':World}{tb:Nat}{f:Bool}(h:CS W tb f w)(ht:Tab w' tb true)(hc:Chg [tb] [tb] w w'):CS W tb true w':=⟨ht,h.low.trans (hc.below h.low.size (by simpa using h.ge)),h.ge⟩
theorem CS.rd{W w w':World}{tb:Nat}{f:Bool}(h:CS W tb f w)(hc:Chg [tb] [tb] w w'){v:Value}{l:List UInt8}(hv:RdB W v l):RdB w' v l:=
 hv.low (h.low.trans (hc.below h.low.size (by simpa using h.ge)))
theorem CS.lt{W w:World}{tb:Nat}{f:Bool}(h:CS W tb f w):tb<w.heap.size:=h.tab.lt
theorem y9Y{W w w':World}(hb:Below W.heap.size W w)(ht:Tab w' w.heap.size false)(hl:Below w.heap.size w w'):CS W w.heap.size false w':=⟨ht,hb.trans (hl.mono hb.size),hb.size⟩
structure y2Z (w:World) (tb base:Nat) (v:Value) (l:List UInt8):Prop where
 row:w.ownsRow base 5 1 v l.length (z0b l)
 ge:tb<base
theorem y2Z.rd{w:World}{tb base:Nat}{v:Value}{l:List UInt8}(h:y2Z w tb base v l):RdB w v l:=z0d h.row
theorem y2Z.to{w w':World}{tb base:Nat}{v:Value}{l:List UInt8}(h:y2Z w tb base v l)(hb:Below w.heap.size w w'):y2Z w' tb base v l:=⟨ownsRow_below h.row hb (Nat.le_refl _),h.ge⟩
theorem y2Z.chg{w w':World}{tb base:Nat}{v:Value}{l:List UInt8}(h:y2Z w tb base v l)(hc:Chg [tb] [tb] w w'):y2Z w' tb base v l:=
 ⟨j7 h.row fun k hk=>hc.block k (h.row.lt k hk).2 (by have:=(h.row.lt k hk).1;have:=h.ge;simp;omega),h.ge⟩
theorem y5S{n:Nat}(h:n<4294967296):z0b (be4 n)= [.int .u8 ((n:Int)/16777216), .int .u8 ((n:Int)/65536%256), .int .u8 ((n:Int)/256%256), .int .u8 ((n:Int)%256)]:=by
 simp only [z0b,be4,List.map_cons,List.map_nil,UInt8.toNat_ofNat',List.cons.injEq,Value.int.injEq,true_and,and_true];omega
theorem q0Y{n:Nat}(w:World)(h:n<4294967296):RdB (w.alloc (.cells #[.int .u8 ((n:Int)/16777216), .int .u8 ((n:Int)/65536%256), .int .u8 ((n:Int)/256%256), .int .u8 ((n:Int)%256)] 5)) (.slice (some ⟨w.heap.size,0,none⟩) 4 4) (be4 n):=by
 refine z8p (l:=be4 n) (e:=5) (fr:=(0,0)) ?_ (by simp [be4]) 4;rw [j8,y5S h]
def q0h(w:World)(base:Nat)(v:Value)(l:List UInt8)(e:Ending)(w':World):Prop:=
 ∃g cap,e= .returned (.slice (some ⟨g,0,none⟩) l.length cap)∧base≤g∧w'.ownsRow base 5 1 (.slice (some ⟨g,0,none⟩) l.length cap) l.length (z0b l)∧Below base w w'
theorem q2S(v:Value)(l:List UInt8)(n base:Nat)(w:World)(hn:n<4294967296)(hown:w.ownsRow base 5 1 v l.length (z0b l))(hl:l.length≤2000000)(hb:base≤w.heap.size):
  Calls Tryz.prog 173 #[v, .int .u32 n] w (q0h w base v (l++be4 n)):=by
 have hr:=q0Y w hn;obtain ⟨a0,c0,rfl⟩:=(z0d hown).head;have HO:=z7 (ownsRow_below hown (q5 w (.cells #[.int .u8 ((n:Int)/16777216), .int .u8 ((n:Int)/65536%256), .int .u8 ((n:Int)/256%256), .int .u8 ((n:Int)%256)] 5)) (Nat.le_refl _));have HR:=z7 hr;clear hr;go_enter Tryz.func173,Tryz.ntmps173;go_wp2_with (at_builtin;refine z4Y rfl (.tmp 5) (.tmp 17) 46 rfl base 5 Tryz.underlying46 z3U _ l rfl HO.out _ (be4 n) rfl HR.out (by simp [be4];omega) (by simp;omega) ?_);intro ao co w3 h1 h2 h3;have hge:∀k,(Value.slice a0 l.length c0).ownBlock=some k→base≤k:=fun k hk=>(hown.lt k hk).1;have hb3:Below base w w3:=((Below.refl base w).alloc hb _).grown h2 (by simp;omega) hge;obtain ⟨g,cap,he,hg⟩:=z4N h1 (by intro e;have:=h1.1;rw [e] at h1;rcases h1.2 with ⟨_,hz⟩ | ⟨_,_,_,hz,_⟩<;>simp [be4] at hz);have e4:l.length+(be4 n).length=(l++be4 n).length:=by simp
 rw [e4] at he h1 h3 ⊢;simp only [Value.slice.injEq,true_and] at he;obtain ⟨rfl,rfl⟩:=he;have HP:Hid (q0h w base (.slice a0 l.length c0) (l++be4 n) (.returned (.slice (some ⟨g,0,none⟩) (l++be4 n).length co)) w3):=⟨g,co,rfl,hg,h1,hb3⟩;clear h1 h2 h3 hge hb3 e4 HR HO hown;go_wp2;go_ret;exact HP.out
theorem q1x(b:Bool)(w:World):Calls Tryz.prog 174 #[.bool b] w fun e w'=>e= .returned (.int .u8 ((y0w b).toNat:Nat))∧w=w':=by
 cases b;all_goals
  go_enter Tryz.func174,Tryz.ntmps174;go_wp2;go_ret;exact ⟨rfl,rfl⟩
def q2s(x:Value):Prop:=∃a n c,x= .slice a n c∧n≤c∧c≤9223372036854775807
theorem q2s.mk{a:Option Addr}{n c:Nat}(h1:n≤c)(h2:c≤9223372036854775807):q2s (.slice a n c):=⟨a,n,c,rfl,h1,h2⟩
theorem y6e(a:Option Addr)(c:Nat)(l:List UInt8)(w:World)(hx:RdB w (.slice a l.length c) l)(hl:4≤l.length)(hc:l.length≤c)(hc2:c≤9223372036854775807):
  Calls Tryz.prog 105 #[.slice a l.length c] w fun e w'=>e= .returned (.int .u32 (unB (l.take 4):Nat))∧w=w':=by
 have HX:=z7 hx;clear hx;go_enter Tryz.func105,Tryz.ntmps105;go_wp2
 go_loop [3,9] (fun v j=>∃(n m:Nat),m≤4∧v= .int .u32 n∧n<256^m∧j= .int .i64 m∧Hid (n=unB (l.take m))) (fun _ j=>4 - (intOf j).toNat)
 case atStart=>exact ⟨0,0,by omega,rfl,by simp,rfl,rfl⟩
 case round=>
  obtain ⟨n,m,hm,rfl,hn,rfl,hnm⟩:=hrel;by_cases hlt:m<4
  ·have hlt2:m<l.length:=by omega
   obtain ⟨b,off,c',he,hc3,hb⟩:=HX.out.at hlt2;simp only [Value.slice.injEq,true_and] at he;obtain ⟨rfl,rfl⟩:=he;have hn3:n<16777216:=Nat.lt_of_lt_of_le hn (Nat.pow_le_pow_right (n:=256) (by omega) (by omega:m≤3));have hlt3:=l[m].toNat_lt;have hor:bits .or .u32 ((n:Int)*256) (l[m].toNat:Int)=((n*256+l[m].toNat:Nat):Int):=by
    have:=u32_or_nat (n*256) l[m].toNat (by omega) (by omega);rw [nat_join 8 _ _ (by omega) (by omega)] at this;simpa using this
   have hn4:n*256+l[m].toNat<256^(m+1):=by rw [Nat.pow_succ];omega
   have hnm2:Hid (n*256+l[m].toNat=unB (l.take (m+1))):=z7 (by rw [hnm.out,List.take_succ_eq_append_getElem hlt2,y8y]);obtain ⟨y,hy⟩:∃y,y=l[m]:=⟨_,rfl⟩;rw [←hy] at hc3 hlt3 hor hn4 hnm2;have HO:=z7 hor;have i0:(0:Int)≤m:=by omega
   have i1:(m:Int)<4:=by omega
   clear hor hy;go_wp2;rw [HO.out]
   go_round
   case rel=>exact ⟨_,m+1,by omega,rfl,hn4,by go_num,hnm2⟩
   case measure=>simp [intOf];omega
  ·obtain rfl:m=4:=by omega
   go_wp2;go_ret;exact ⟨by rw [←hnm.out];rfl,rfl⟩
theorem z0M{a b:Bool}(h:a=b):Ending.returned (.bool a)=Ending.returned (.bool b):=by rw [h]
theorem y6j{k:IntKind}{a b:Int}(h:a=b):Ending.returned (.int k a)=Ending.returned (.int k b):=by rw [h]
def z0a(f:Fr)(x:Value):Array Value:= #[.int .u8 f.kind, .int .u32 f.epoch, .int .u32 f.series, .int .u32 f.chunk, .int .u32 f.bits, .int .u32 f.cnt, .int .u32 f.count, .bool f.closed, .int .u64 f.sum,x, .int .i64 f.n]
def frV(f:Fr)(x:Value):Value:= .agg (z0a f x)
theorem y2m(a:Option Addr)(len c:Nat)(n:Int)(w:World)(hl:len≤9223372036854775807):
  Calls Tryz.prog 172 #[.agg #[.slice a len c, .int .i64 n]] w fun e w'=>e= .returned (.bool (decide (n=0)&&decide (len=0)))∧Below w.heap.size w w':=by
 go_enter Tryz.func172,Tryz.ntmps172;go_wp2;all_goals go_ret
 all_goals refine ⟨z0M ?_,q5 _ _⟩
 ·rw [Bool.eq_iff_iff];simp [*]
 ·rw [Bool.eq_iff_iff];simp [*]
theorem z9g(n:Int)(w:World)(h0:0≤n)(h1:n≤9223372036854775807):
  Calls Tryz.prog 168 #[.int .i64 n] w fun e w'=>e= .returned (.int .i64 (n/8+min (n%8) 1))∧w=w':=by
 go_enter Tryz.func168,Tryz.ntmps168;go_wp2;all_goals go_ret
 all_goals exact ⟨y6j (by omega),rfl⟩
theorem y7o(y:UInt8)(k:Int)(h0:0≤k)(h1:k<8):bits .and .u8 (y.toNat:Int) (255/2^k.toNat)=((y.toNat&&&(255>>>k.toNat):Nat):Int):=by
 have e:(255/2^k.toNat:Int)=((255>>>k.toNat:Nat):Int):=by
  rw [Nat.shiftRight_eq_div_pow];simp
 have h2:255>>>k.toNat≤255:=by rw [Nat.shiftRight_eq_div_pow];exact Nat.div_le_self _ _
 rw [e];exact u8_and_nat y.toNat (255>>>k.toNat) (by have:=y.toNat_lt;omega) (by omega)
theorem z0k{B n:Nat}{w w':World}(h:Below B w w'):Below B w (w'.drewN n):=⟨h.os,h.tape,h.output,h.size,h.block⟩
theorem z2x(a:Option Addr)(c:Nat)(b:List UInt8)(n:Int)(w:World)(hx:RdB w (.slice a b.length c) b)(hl:b.length≤9223372036854775807)(h0: -9223372036854775808≤n)(h1:n≤9223372036854775807):
  Calls Tryz.prog 99 #[.agg #[.slice a b.length c, .int .i64 n]] w fun e w'=>e= .returned (.bool (z1T b n))∧Below w.heap.size w w':=by
 have HX:=z7 hx;clear hx;by_cases hn:n<0
 ·have hnb:decide (n<0)=true:=by simpa using hn
  go_enter Tryz.func99,Tryz.ntmps99;go_wp2;go_quiet (fail)
  go_wp2;go_ret;exact ⟨z0M (by unfold z1T;rw [decide_eq_false (by omega)];rfl),z0k (q5 _ _)⟩
 have hnb:decide (n<0)=false:=by simpa using hn
 have hn0:0≤n:=by omega
 clear hn;by_cases hlen:(b.length:Int)=n/8+min (n%8) 1
 case neg=>
  have hlb:((b.length:Int) !=n/8+min (n%8) 1)=true:=by simpa using hlen
  have hs:Hid (z1T b n=false):=z7 (by unfold z1T;rw [decide_eq_false hlen];simp);clear hlen;go_enter Tryz.func99,Tryz.ntmps99;go_wp2;go_quiet ((go_at_call 168;exact Calls.quiet_of_same ((z9g n _ hn0 h1).mono fun e w' h=>⟨h.1,h.2.symm⟩)))
  go_wp2;go_ret;exact ⟨z0M hs.out.symm,z0k (q5 _ _)⟩
 have hlb:((b.length:Int) !=n/8+min (n%8) 1)=false:=by simpa using hlen
 by_cases hk:n%8=0
 ·have hkb:(n%8==0)=true:=by simpa using hk
  have hs:Hid (z1T b n=true):=z7 (by unfold z1T;rw [decide_eq_true hlen,decide_eq_true hn0,decide_eq_true hk];rfl);clear hlen hk;go_enter Tryz.func99,Tryz.ntmps99;go_wp2;go_quiet ((go_at_call 168;exact Calls.quiet_of_same ((z9g n _ hn0 h1).mono fun e w' h=>⟨h.1,h.2.symm⟩)))
  go_wp2;go_quiet (fail)
  go_wp2;go_ret;exact ⟨z0M hs.out.symm,z0k (z0k (q5 _ _))⟩
 ·have hkb:(n%8==0)=false:=by simpa using hk
  have hp:0<b.length:=by omega
  obtain ⟨b0,off,c0,he,hc,hb0⟩:=HX.out.at (k:=b.length - 1) (by omega);simp only [Value.slice.injEq,true_and] at he;obtain ⟨rfl,rfl⟩:=he;have hg:b[b.length - 1]=b.getD (b.length - 1) 0:=by simp [List.getD,List.getElem?_eq_getElem (show b.length - 1<b.length by omega)]
  rw [hg] at hc;have hlt:=y7o (b.getD (b.length - 1) 0) (n%8) (by omega) (by omega);have hs:Hid (z1T b n=((((b.getD (b.length - 1) 0).toNat&&&(255>>>(n%8).toNat):Nat):Int)==0)):=z7 (by
   unfold z1T;rw [decide_eq_true hlen,decide_eq_true hn0,decide_eq_false hk];simp only [Bool.true_and,Bool.false_or];rw [Bool.eq_iff_iff];simp only [decide_eq_true_eq,beq_iff_eq];omega)
  generalize b.getD (b.length - 1) 0=y at hc hlt hs
  have hcW:(w.alloc (.cells #[.slice (some ⟨b0,off,none⟩) b.length c, .int .i64 n] 48)).cell? ⟨b0,off+(b.length - 1),none⟩=some (.int .u8 y.toNat):=((q5 w _).cell (p:=⟨b0,off+(b.length - 1),none⟩) hb0).trans hc;have i0:(0:Int)≤(b.length:Int) - 1:=by omega
  have i1:(b.length:Int) - 1<b.length:=by omega
  have i2:0≤n%8:=by omega
  have i3:n%8<8:=by omega
  have HL:=z7 hlt;clear hlen hk hlt hg hc;go_enter Tryz.func99,Tryz.ntmps99;go_wp2;go_quiet ((go_at_call 168;exact Calls.quiet_of_same ((z9g n _ hn0 h1).mono fun e w' h=>⟨h.1,h.2.symm⟩)))
  go_wp2;go_quiet (fail)
  go_wp2;go_ret;exact ⟨z0M (by rw [hs.out,←HL.out]),z0k (z0k (q5 _ _))⟩
def z2j(w:World)(q:Nat)(f:Fr)(x:Value):Prop:=w.heap[q]? =some (.cells (z0a f x) 50 (0,0))
theorem z2j.cells{w:World}{q:Nat}{f:Fr}{x:Value}(h:z2j w q f x):
  w.cell? ⟨q,0,none⟩=some (.int .u8 f.kind)∧w.cell? ⟨q,1,none⟩=some (.int .u32 f.epoch)∧w.cell? ⟨q,2,none⟩=some (.int .u32 f.series)∧w.cell? ⟨q,3,none⟩=some (.int .u32 f.chunk)∧w.cell? ⟨q,4,none⟩=some (.int .u32 f.bits)∧w.cell? ⟨q,5,none⟩=some (.int .u32 f.cnt)∧
   w.cell? ⟨q,6,none⟩=some (.int .u32 f.count)∧w.cell? ⟨q,7,none⟩=some (.bool f.closed)∧w.cell? ⟨q,8,none⟩=some (.int .u64 f.sum)∧w.cell? ⟨q,9,none⟩=some x∧w.cell? ⟨q,10,none⟩=some (.int .i64 f.n):=by
 unfold z2j at h;refine ⟨?_,?_,?_,?_,?_,?_,?_,?_,?_,?_,?_⟩<;>simp [World.cell?,h,z0a]
theorem z2j.made(w:World)(f:Fr)(x:Value):z2j (w.alloc (.cells (z0a f x) 50)) w.heap.size f x:=j8 w _
theorem z2j.lt{w:World}{q:Nat}{f:Fr}{x:Value}(h:z2j w q f x):q<w.heap.size:=(Array.getElem?_eq_some_iff.1 h).1
theorem z2j.low{w w':World}{q:Nat}{f:Fr}{x:Value}(h:z2j w q f x)(hb:Below w.heap.size w w'):z2j w' q f x:=(hb.block q h.lt).trans h
theorem q1L(f:Fr)(a:Option Addr)(c:Nat)(w:World)(hf:f.Ok)(hl:f.b.length≤1000000)(hx:RdB w (.slice a f.b.length c) f.b)(hk:f.kind=1):
  Calls Tryz.prog 110 #[frV f (.slice a f.b.length c)] w fun e w'=>e= .returned (.bool (z1D f))∧Below w.heap.size w w':=by
 have hm:Hid (z1D f=(z4H f&&(decide (f.series=0)&&(decide (f.chunk=0∧f.bits=0∧f.cnt=0)&&(decide (f.count=0)&&(!f.closed&&decide (f.sum=0))))))):=z7 (by unfold z1D;rw [if_pos hk]);have k1:((f.kind:Int)==1)=true:=by simp [hk]
 clear hk;have hA:=z2j.made w f (.slice a f.b.length c);have hX:=z7 (hx.low (q5 w (.cells (z0a f (.slice a f.b.length c)) 50)));obtain ⟨kind,epoch,series,chunk,bits_,cnt,count,closed,sum,b,n⟩:=f;obtain ⟨o1,o2,o3,o4,o5,o6,o7,o8,o9,o10⟩:=hf;simp only at*;have HA:=z7 hA;unfold frV z0a;unfold z0a at HA hX;clear hA hx;go_enter Tryz.func110,Tryz.ntmps110;go_wp2_with fail;refine (y2m a b.length c n _ (by omega)).mono ?_;rintro e w2 ⟨rfl,hb⟩;have hA2:=HA.out.low hb;obtain ⟨c0,c1,c2,c3,c4,c5,c6,c7,c8,c9,c10⟩:=hA2.cells;have hbW:Hid (Below w.heap.size w w2):=z7 ((q5 w _).trans (hb.mono (by simp)));obtain ⟨nb,hnb⟩:∃nb,nb=(decide (n=0)&&decide (b.length=0)):=⟨_,rfl⟩;rw [←hnb];have HN:=z7 hnb;clear hb hA2 HA hnb;go_wp2;all_goals go_ret
 all_goals refine ⟨z0M ?_,hbW.out⟩
 all_goals rw [hm.out]
 all_goals unfold z4H
 all_goals simp only
 all_goals rw [←HN.out]
 all_goals try simp [*]
 all_goals try (rw [Bool.eq_iff_iff];simp)
theorem q1s(f:Fr)(a:Option Addr)(c:Nat)(w:World)(hf:f.Ok)(hl:f.b.length≤1000000)(hx:RdB w (.slice a f.b.length c) f.b)(hk:f.kind=4):
  Calls Tryz.prog 110 #[frV f (.slice a f.b.length c)] w fun e w'=>e= .returned (.bool (z1D f))∧Below w.heap.size w w':=by
 have hm:Hid (z1D f=(z4H f&&(decide (f.count=0)&&!f.closed))):=z7 (by unfold z1D;rw [if_neg (by omega),if_pos (.inl hk)]);have k1:((f.kind:Int)==1)=false:=by simp [hk]
 have k4:((f.kind:Int)==4)=true:=by simp [hk]
 clear hk;have hA:=z2j.made w f (.slice a f.b.length c);have hX:=z7 (hx.low (q5 w (.cells (z0a f (.slice a f.b.length c)) 50)));obtain ⟨kind,epoch,series,chunk,bits_,cnt,count,closed,sum,b,n⟩:=f;obtain ⟨o1,o2,o3,o4,o5,o6,o7,o8,o9,o10⟩:=hf;simp only at*;have HA:=z7 hA;unfold frV z0a;unfold z0a at HA hX;clear hA hx;go_enter Tryz.func110,Tryz.ntmps110;go_wp2_with fail;refine (y2m a b.length c n _ (by omega)).mono ?_;rintro e w2 ⟨rfl,hb⟩;have hA2:=HA.out.low hb;obtain ⟨c0,c1,c2,c3,c4,c5,c6,c7,c8,c9,c10⟩:=hA2.cells;have hbW:Hid (Below w.heap.size w w2):=z7 ((q5 w _).trans (hb.mono (by simp)));obtain ⟨nb,hnb⟩:∃nb,nb=(decide (n=0)&&decide (b.length=0)):=⟨_,rfl⟩;rw [←hnb];have HN:=z7 hnb;clear hb hA2 HA hnb;go_wp2;all_goals go_ret
 all_goals refine ⟨z0M ?_,hbW.out⟩
 all_goals rw [hm.out]
 all_goals unfold z4H
 all_goals simp only
 all_goals rw [←HN.out]
 all_goals try simp [*]
 all_goals try (rw [Bool.eq_iff_iff];simp)
theorem q1d(f:Fr)(a:Option Addr)(c:Nat)(w:World)(hf:f.Ok)(hl:f.b.length≤1000000)(hx:RdB w (.slice a f.b.length c) f.b)(hk:f.kind=5):
  Calls Tryz.prog 110 #[frV f (.slice a f.b.length c)] w fun e w'=>e= .returned (.bool (z1D f))∧Below w.heap.size w w':=by
 have hm:Hid (z1D f=(z4H f&&(decide (f.count=0)&&!f.closed))):=z7 (by unfold z1D;rw [if_neg (by omega),if_pos (.inr hk)]);have k1:((f.kind:Int)==1)=false:=by simp [hk]
 have k4:((f.kind:Int)==4)=false:=by simp [hk]
 have k5:((f.kind:Int)==5)=true:=by simp [hk]
 clear hk;have hA:=z2j.made w f (.slice a f.b.length c);have hX:=z7 (hx.low (q5 w (.cells (z0a f (.slice a f.b.length c)) 50)));obtain ⟨kind,epoch,series,chunk,bits_,cnt,count,closed,sum,b,n⟩:=f;obtain ⟨o1,o2,o3,o4,o5,o6,o7,o8,o9,o10⟩:=hf;simp only at*;have HA:=z7 hA;unfold frV z0a;unfold z0a at HA hX;clear hA hx;go_enter Tryz.func110,Tryz.ntmps110;go_wp2_with fail;refine (y2m a b.length c n _ (by omega)).mono ?_;rintro e w2 ⟨rfl,hb⟩;have hA2:=HA.out.low hb;obtain ⟨c0,c1,c2,c3,c4,c5,c6,c7,c8,c9,c10⟩:=hA2.cells;have hbW:Hid (Below w.heap.size w w2):=z7 ((q5 w _).trans (hb.mono (by simp)));obtain ⟨nb,hnb⟩:∃nb,nb=(decide (n=0)&&decide (b.length=0)):=⟨_,rfl⟩;rw [←hnb];have HN:=z7 hnb;clear hb hA2 HA hnb;go_wp2;all_goals go_ret
 all_goals refine ⟨z0M ?_,hbW.out⟩
 all_goals rw [hm.out]
 all_goals unfold z4H
 all_goals simp only
 all_goals rw [←HN.out]
 all_goals try simp [*]
 all_goals try (rw [Bool.eq_iff_iff];simp)
theorem q0t(f:Fr)(a:Option Addr)(c:Nat)(w:World)(hf:f.Ok)(hl:f.b.length≤1000000)(hx:RdB w (.slice a f.b.length c) f.b)(hk:f.kind=3)(hz:f.bits=0∧f.cnt=0∧f.sum=0):
  Calls Tryz.prog 110 #[frV f (.slice a f.b.length c)] w fun e w'=>e= .returned (.bool (z1D f))∧Below w.heap.size w w':=by
 have hm:Hid (z1D f=(decide (f.bits=0∧f.cnt=0∧f.sum=0)&&z4G f)):=z7 (by unfold z1D;rw [if_neg (by omega),if_neg (by omega),if_pos hk]);have k1:((f.kind:Int)==1)=false:=by simp [hk]
 have k4:((f.kind:Int)==4)=false:=by simp [hk]
 have k5:((f.kind:Int)==5)=false:=by simp [hk]
 have k3:((f.kind:Int)==3)=true:=by simp [hk]
 have z1:((f.bits:Int) !=0)=false:=by simp [hz.1]
 have z2:((f.cnt:Int) !=0)=false:=by simp [hz.2.1]
 have z3:((f.sum:Int) !=0)=false:=by simp [hz.2.2]
 have HZ:=z7 hz;clear hk hz;have hA:=z2j.made w f (.slice a f.b.length c);have hX:=z7 (hx.low (q5 w (.cells (z0a f (.slice a f.b.length c)) 50)));obtain ⟨kind,epoch,series,chunk,bits_,cnt,count,closed,sum,b,n⟩:=f;obtain ⟨o1,o2,o3,o4,o5,o6,o7,o8,o9,o10⟩:=hf;simp only at*;have HA:=z7 hA;unfold frV z0a;unfold z0a at HA hX;clear hA hx;go_enter Tryz.func110,Tryz.ntmps110;have hW:Hid (Below w.heap.size w (w.alloc (.cells #[.int .u8 kind, .int .u32 epoch, .int .u32 series, .int .u32 chunk, .int .u32 bits_, .int .u32 cnt, .int .u32 count, .bool closed, .int .u64 sum, .slice a b.length c, .int .i64 n] 50))):=z7 (q5 w _);go_wp2_with (go_at_call 99;refine (z2x a c b n _ hX.out (by omega) o9 o10).mono ?_;rintro e w2 ⟨rfl,hb⟩;have hA2:=HA.out.low hb;obtain ⟨c0,c1,c2,c3,c4,c5,c6,c7,c8,c9,c10⟩:=hA2.cells;have hbW:Hid (Below w.heap.size w w2):=z7 ((q5 w _).trans (hb.mono (by simp)));obtain ⟨nb,hnb⟩:∃nb,nb=z1T b n:=⟨_,rfl⟩;rw [←hnb];have HN:=z7 hnb;clear hb hA2 hnb);all_goals try go_wp2
 all_goals go_ret
 all_goals refine ⟨z0M ?_,by first | exact hbW.out | exact hW.out⟩
 all_goals rw [hm.out,decide_eq_true HZ.out]
 all_goals unfold z4G
 all_goals simp only
 all_goals try rw [←HN.out]
 all_goals try simp [*]
 all_goals try (rw [Bool.eq_iff_iff];simp;omega)
 all_goals try (intros;omega)
theorem q0g(f:Fr)(a:Option Addr)(c:Nat)(w:World)(hf:f.Ok)(hk:f.kind=3)(hz:¬(f.bits=0∧f.cnt=0∧f.sum=0)):
  Calls Tryz.prog 110 #[frV f (.slice a f.b.length c)] w fun e w'=>e= .returned (.bool (z1D f))∧Below w.heap.size w w':=by
 have hm:Hid (z1D f=false):=z7 (by unfold z1D;rw [if_neg (by omega),if_neg (by omega),if_pos hk,decide_eq_false hz];rfl);have k1:((f.kind:Int)==1)=false:=by simp [hk]
 have k4:((f.kind:Int)==4)=false:=by simp [hk]
 have k5:((f.kind:Int)==5)=false:=by simp [hk]
 have k3:((f.kind:Int)==3)=true:=by simp [hk]
 clear hk;obtain ⟨kind,epoch,series,chunk,bits_,cnt,count,closed,sum,b,n⟩:=f;simp only at*;unfold frV z0a;by_cases g1:bits_=0
 ·have z1:((bits_:Int) !=0)=false:=by simp [g1]
  by_cases g2:cnt=0
  ·have z2:((cnt:Int) !=0)=false:=by simp [g2]
   have z3:((sum:Int) !=0)=true:=by rw [bne_iff_ne];omega
   clear g1 g2 hz;go_enter Tryz.func110,Tryz.ntmps110;go_wp2;go_ret;exact ⟨z0M hm.out.symm,q5 _ _⟩
  ·have z2:((cnt:Int) !=0)=true:=by rw [bne_iff_ne];omega
   clear g1 g2 hz;go_enter Tryz.func110,Tryz.ntmps110;go_wp2;go_ret;exact ⟨z0M hm.out.symm,q5 _ _⟩
 ·have z1:((bits_:Int) !=0)=true:=by rw [bne_iff_ne];omega
  clear g1 hz;go_enter Tryz.func110,Tryz.ntmps110;go_wp2;go_ret;exact ⟨z0M hm.out.symm,q5 _ _⟩
theorem q1M(f:Fr)(a:Option Addr)(c:Nat)(w:World)(hf:f.Ok)(hl:f.b.length≤1000000)(hx:RdB w (.slice a f.b.length c) f.b)(hk:f.kind=2):
  Calls Tryz.prog 110 #[frV f (.slice a f.b.length c)] w fun e w'=>e= .returned (.bool (z1D f))∧Below w.heap.size w w':=by
 have hm:Hid (z1D f=z4G f):=z7 (by unfold z1D;rw [if_neg (by omega),if_neg (by omega),if_neg (by omega),if_pos hk]);have k1:((f.kind:Int)==1)=false:=by simp [hk]
 have k4:((f.kind:Int)==4)=false:=by simp [hk]
 have k5:((f.kind:Int)==5)=false:=by simp [hk]
 have k3:((f.kind:Int)==3)=false:=by simp [hk]
 have k2:((f.kind:Int)==2)=true:=by simp [hk]
 clear hk;have hA:=z2j.made w f (.slice a f.b.length c);have hX:=z7 (hx.low (q5 w (.cells (z0a f (.slice a f.b.length c)) 50)));obtain ⟨kind,epoch,series,chunk,bits_,cnt,count,closed,sum,b,n⟩:=f;obtain ⟨o1,o2,o3,o4,o5,o6,o7,o8,o9,o10⟩:=hf;simp only at*;have HA:=z7 hA;unfold frV z0a;unfold z0a at HA hX;clear hA hx;go_enter Tryz.func110,Tryz.ntmps110;have hW:Hid (Below w.heap.size w (w.alloc (.cells #[.int .u8 kind, .int .u32 epoch, .int .u32 series, .int .u32 chunk, .int .u32 bits_, .int .u32 cnt, .int .u32 count, .bool closed, .int .u64 sum, .slice a b.length c, .int .i64 n] 50))):=z7 (q5 w _);go_wp2_with (go_at_call 99;refine (z2x a c b n _ hX.out (by omega) o9 o10).mono ?_;rintro e w2 ⟨rfl,hb⟩;have hA2:=HA.out.low hb;obtain ⟨c0,c1,c2,c3,c4,c5,c6,c7,c8,c9,c10⟩:=hA2.cells;have hbW:Hid (Below w.heap.size w w2):=z7 ((q5 w _).trans (hb.mono (by simp)));obtain ⟨nb,hnb⟩:∃nb,nb=z1T b n:=⟨_,rfl⟩;rw [←hnb];have HN:=z7 hnb;clear hb hA2 hnb);all_goals try go_wp2
 all_goals go_ret
 all_goals refine ⟨z0M ?_,by first | exact hbW.out | exact hW.out⟩
 all_goals rw [hm.out]
 all_goals unfold z4G
 all_goals simp only
 all_goals try rw [←HN.out]
 all_goals try simp [*]
 all_goals try (rw [Bool.eq_iff_iff];simp;omega)
 all_goals try (intros;omega)
theorem q2h(f:Fr)(a:Option Addr)(c:Nat)(w:World)(hf:f.Ok)(hl:f.b.length≤1000000)(hx:RdB w (.slice a f.b.length c) f.b)(hk:f.kind≠1∧f.kind≠2∧f.kind≠3∧f.kind≠4∧f.kind≠5):
  Calls Tryz.prog 110 #[frV f (.slice a f.b.length c)] w fun e w'=>e= .returned (.bool (z1D f))∧Below w.heap.size w w':=by
 have hm:Hid (z1D f=false):=z7 (by unfold z1D;rw [if_neg (by omega),if_neg (by omega),if_neg (by omega),if_neg (by omega)]);have k1:((f.kind:Int)==1)=false:=by rw [beq_eq_false_iff_ne];omega
 have k4:((f.kind:Int)==4)=false:=by rw [beq_eq_false_iff_ne];omega
 have k5:((f.kind:Int)==5)=false:=by rw [beq_eq_false_iff_ne];omega
 have k3:((f.kind:Int)==3)=false:=by rw [beq_eq_false_iff_ne];omega
 have k2:((f.kind:Int)==2)=false:=by rw [beq_eq_false_iff_ne];omega
 clear hk;have hA:=z2j.made w f (.slice a f.b.length c);have hX:=z7 (hx.low (q5 w (.cells (z0a f (.slice a f.b.length c)) 50)));obtain ⟨kind,epoch,series,chunk,bits_,cnt,count,closed,sum,b,n⟩:=f;obtain ⟨o1,o2,o3,o4,o5,o6,o7,o8,o9,o10⟩:=hf;simp only at*;have HA:=z7 hA;unfold frV z0a;unfold z0a at HA hX;clear hA hx;go_enter Tryz.func110,Tryz.ntmps110;go_wp2;go_ret;exact ⟨z0M hm.out.symm,q5 _ _⟩
theorem y2F(f:Fr)(a:Option Addr)(c:Nat)(w:World)(hf:f.Ok)(hl:f.b.length≤1000000)(hx:RdB w (.slice a f.b.length c) f.b):
  Calls Tryz.prog 110 #[frV f (.slice a f.b.length c)] w fun e w'=>e= .returned (.bool (z1D f))∧Below w.heap.size w w':=by
 by_cases h1:f.kind=1
 ·exact q1L f a c w hf hl hx h1
 by_cases h2:f.kind=2
 ·exact q1M f a c w hf hl hx h2
 by_cases h3:f.kind=3
 ·by_cases hz:f.bits=0∧f.cnt=0∧f.sum=0
  ·exact q0t f a c w hf hl hx h3 hz
  ·exact q0g f a c w hf h3 hz
 by_cases h4:f.kind=4
 ·exact q1s f a c w hf hl hx h4
 by_cases h5:f.kind=5
 ·exact q1d f a c w hf hl hx h5
 exact q2h f a c w hf hl hx ⟨h1,h2,h3,h4,h5⟩
end Go.Proofs.YtfcnapnopdomhaaGreatDoor

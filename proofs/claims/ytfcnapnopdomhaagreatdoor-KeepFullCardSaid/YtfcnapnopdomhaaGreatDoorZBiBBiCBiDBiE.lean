/-
  The walks of bit's number, at.
-/
import Derived.Test.YtfcnapnopdomhaaGreatDoorZReg4Reg5BiA
import Derived.Test.YtfcnapnopdomhaaGreatDoorZFrDFrEFrG
namespace Go.Proofs.YtfcnapnopdomhaaGreatDoor
set_option linter.unusedSimpArgs false
set_option linter.unusedVariables false
set_option maxRecDepth 100000
set_option maxHeartbeats 12800000
open Go.RowKit
theorem z2U.low{W w:World}{K:List (Nat×Obj)}{q:Nat}{l:List Bool}(h:z2U W K w q l):Below W.heap.size W w:=by
 obtain ⟨a,m,c,b,h⟩:=h;exact h.low
theorem y7h{v k:Nat}(hk:k≤8):IntKind.u64.wrap ((v:Int)*2^(8 - k))%256=((z6y v k k:Nat):Int):=by
 unfold z6y;rw [IntKind.wrap_u64,Nat.sub_self,Nat.pow_zero,Nat.div_one,Nat.mod_mul_mod];have e:((v:Int)*2^(8 - k))=((v*2^(8 - k):Nat):Int):=by simp
 rw [e];omega
theorem y7D{v k:Nat}:IntKind.u64.wrap ((v:Int)/2^(k - 8))%256=((z6y v k 8:Nat):Int):=by
 unfold z6y;have e:((v:Int)/2^(k - 8))=((v/2^(k - 8):Nat):Int):=by simp
 rw [e,IntKind.wrap_u64];omega
theorem y7S(q v width:Nat)(l:List Bool)(W:World)(K:List (Nat×Obj))(w:World)(h:z2U W K w q l)(hv:v<18446744073709551616)(hw:width≤64)(hl:l.length≤549755813888):
  Calls Tryz.prog 210 #[.pointer (some ⟨q,0,none⟩), .int .u64 (v:Nat), .int .i64 (width:Nat)] w fun e w'=>e= .returned (.tuple #[])∧z2U W K w' q (l++z2L v width):=by
 have H:=z7 h;clear h;go_enter Tryz.func210,Tryz.ntmps210;go_wp2_with fail;go_loopw [2] (fun iv wr=>∃k:Nat,iv= .int .i64 k∧k≤width∧Hid (∃l',z2U W K wr q l'∧l'++z2L v k=l++z2L v width)) (fun iv _=>match iv with | .int _ j=>j.toNat | _=>0)
 case atStart=>exact ⟨width,rfl,Nat.le_refl _,z7 ⟨l,H.out,rfl⟩⟩
 case round=>
  obtain ⟨k,rfl,hk,hr⟩:=hrel;obtain ⟨l',hb,he⟩:=hr.out;have HB:=z7 hb;have HE:=z7 he;have hll:l'.length≤1099511627776:=by have:=congrArg List.length he;simp [z0P] at this;omega
  clear hr hb he;by_cases h0:k=0
  ·subst h0;go_wp2
   go_end0
   have h9:=HE.out;rw [y7R,List.append_nil] at h9;rw [←h9];exact ⟨rfl,HB.out⟩
  ·have d0:(0:Int)<k:=by omega
   obtain ⟨n,hn⟩:∃n,n=min k 8:=⟨_,rfl⟩;have hn8:n≤8:=by omega
   have hnk:n≤k:=by omega
   have hn0:0<n:=by omega
   have hfin:Hid (∀wx,z2U W K wx q (l'++z5h (z6y v k n) n)→∃l',z2U W K wx q l'∧l'++z2L v (k - n)=l++z2L v width):=z7 fun wx hb=>⟨_,hb,by rw [List.append_assoc,←y4U hnk hn8];exact HE.out⟩;by_cases h8:k≤8
   ·obtain rfl:n=k:=by omega
    have h8':(n:Int)≤8:=by omega
    have hhv:=y7h (v:=v) h8;obtain ⟨y,hy⟩:∃y,y=z6y v n n:=⟨_,rfl⟩;rw [←hy] at hhv hfin;have hy256:y<256:=by rw [hy];exact (y1q hnk hn8).1
    have hw2:IntKind.i64.wrap (8 - (n:Int))=8 - (n:Int):=z0n (by omega) (by omega);clear hy hn;go_wp2_with fail;refine (z8U q y n l' W K wr HB.out hy256 hn8 hll).mono ?_;rintro e w2 ⟨rfl,hb2⟩;have HF:=z7 (hfin.out w2 hb2);rw [Nat.sub_self] at HF;clear hb2;go_wp2;exact ⟨⟨0,rfl,Nat.zero_le _,HF⟩,by show (0:Int).toNat<(n:Int).toNat;omega⟩
   ·obtain rfl:n=8:=by omega
    have h8':¬(k:Int)≤8:=by omega
    have h8'':decide ((k:Int)≤8)=false:=decide_eq_false h8';have hhv:=y7D (v:=v) (k:=k);obtain ⟨y,hy⟩:∃y,y=z6y v k 8:=⟨_,rfl⟩;rw [←hy] at hhv hfin;have hy256:y<256:=by rw [hy];exact (y1q hnk hn8).1
    have hw1:IntKind.i64.wrap ((k:Int) - 8)=((k - 8:Nat):Int):=by rw [z0n (by omega) (by omega)];omega
    have hdl:v/2^(k - 8)<18446744073709551616:=Nat.lt_of_le_of_lt (Nat.div_le_self _ _) hv;clear hy hn;go_wp2_with fail;refine (z8U q y 8 l' W K wr HB.out hy256 hn8 hll).mono ?_;rintro e w2 ⟨rfl,hb2⟩;have HF:=z7 (hfin.out w2 hb2);clear hb2;go_wp2;exact ⟨⟨k - 8,rfl,by omega,HF⟩,by show ((k - 8:Nat):Int).toNat<(k:Int).toNat;omega⟩
structure z0o (w:World) (a:Option Addr) (n c:Nat) (l:List Bool) (b:List UInt8):Prop where
 rd:RdB w (.slice a n c) b
 len:n=b.length
 bits:z0U b l
theorem z0o.low{w w':World}{a:Option Addr}{n c:Nat}{l:List Bool}{b:List UInt8}(h:z0o w a n c l b)(hb:Below w.heap.size w w'):z0o w' a n c l b:=⟨h.rd.low hb,h.len,h.bits⟩
theorem z0o.cell{w:World}{a:Option Addr}{n c:Nat}{l:List Bool}{b:List UInt8}(h:z0o w a n c l b){j:Nat}(hj:j<n):∃g off,a=some ⟨g,off,none⟩∧w.cell? ⟨g,off+j,none⟩=some (.int .u8 ((b.getD j 0).toNat:Int))∧g<w.heap.size:=by
 obtain ⟨b0,off,c0,he,hc,hb0⟩:=h.rd.at (by rw [←h.len];exact hj:j<b.length);simp only [Value.slice.injEq] at he;refine ⟨b0,off,he.1,?_,hb0⟩;rw [hc];have:j<b.length:=by rw [←h.len];exact hj
 simp [List.getD_eq_getElem?_getD,this]
theorem q3B(a:Option Addr)(n c:Nat)(l:List Bool)(b:List UInt8)(i:Nat)(w:World)(h:z0o w a n c l b)(hi:i<l.length)(hl:l.length≤1099511627776):
  Calls Tryz.prog 101 #[.agg #[.slice a n c, .int .i64 l.length], .int .i64 (i:Nat)] w fun e w'=>∃y,e= .returned (.int .u8 (y:Nat))∧y<256∧(∀j,j<8→y.testBit (7 - j)=l.getD (i+j) false)∧Below w.heap.size w w':=by
 have hlen:=h.bits.len;have hln:=h.len;obtain ⟨g,off,rfl,cz,hg⟩:=h.cell (j:=i/8) (by omega);obtain ⟨z,hz⟩:∃z,z=(b.getD (i/8) 0).toNat:=⟨_,rfl⟩;have hz8:z<256:=by rw [hz];exact (b.getD (i/8) 0).toNat_lt
 rw [←hz] at cz;obtain ⟨k,hk⟩:∃k,k=i%8:=⟨_,rfl⟩;obtain ⟨q,hq⟩:∃q,q=i/8:=⟨_,rfl⟩;have hk8:k<8:=by omega
 have hqn:q<n:=by omega
 have hmod:(i:Int).tmod 8=(k:Int):=by rw [hk];exact Int.ofNat_tmod i 8
 have hdiv:(i:Int).tdiv 8=(q:Int):=by rw [hq];exact Int.ofNat_tdiv i 8
 have hdv2:(i:Int)/8=(q:Int):=by omega
 rw [←hq] at cz hz;obtain ⟨N,hN⟩:∃N,N=l.length:=⟨_,rfl⟩;rw [←hN];obtain ⟨W1,hW1⟩:∃W1,W1=w.alloc (.cells #[.slice (some ⟨g,off,none⟩) n c, .int .i64 (N:Nat)] 48):=⟨_,rfl⟩;have hb1:Below w.heap.size w W1:=by rw [hW1];exact q5 _ _
 have hg1:=j8 w (.cells #[.slice (some ⟨g,off,none⟩) n c, .int .i64 (N:Nat)] 48);rw [←hW1] at hg1;have x0:W1.cell? ⟨w.heap.size,0,none⟩=some (.slice (some ⟨g,off,none⟩) n c):=by rw [cell_of_row W1 w.heap.size 0 _ _ (0,0) hg1];rfl
 have cz1:=(hb1.cell (p:=⟨g,off+q,none⟩) hg).trans cz;have HW:=z7 hW1;have H:=z7 h;have HK:=z7 hk;have HQ:=z7 hq;have HZ:=z7 hz;have HN:=z7 hN;have HB1:=z7 hb1;have hbn:n≤137438953473:=by omega
 clear hW1 h hk hq hz hN hg1 hlen hln cz hb1;have hy0:z*2^k%256<256:=Nat.mod_lt _ (by decide);have hfin:Hid (∀z',(b.getD (q+1) 0).toNat=z'→∀j,j<8→((z*2^k%256) ||| (if 0<k∧q+1<n then z'/2^(8 - k) else 0)).testBit (7 - j)=l.getD (i+j) false):=z7 fun z' hz'=>by
  have:=y9I H.out.bits hi z z' (by rw [HZ.out,HQ.out]) (by rw [←HQ.out];exact hz');rw [←HK.out,←HQ.out,←H.out.len] at this;exact this
 have HIL:=z7 hi;clear hi hl;by_cases hc:0<k∧q+1<n
 ·obtain ⟨hc1,hc2⟩:=hc;obtain ⟨g',off',e1,cz2,_⟩:=H.out.cell hc2;simp only [Option.some.injEq,Addr.mk.injEq,and_true] at e1;obtain ⟨rfl,rfl⟩:=e1;obtain ⟨z',hz'⟩:∃z',z'=(b.getD (q+1) 0).toNat:=⟨_,rfl⟩;have hz'8:z'<256:=by rw [hz'];exact (b.getD (q+1) 0).toNat_lt
  rw [←hz'] at cz2;have hf:=hfin.out z' hz'.symm;rw [if_pos ⟨hc1,hc2⟩] at hf;obtain ⟨y,hy⟩:∃y,y=(z*2^k%256) ||| z'/2^(8 - k):=⟨_,rfl⟩;have hd8:z'/2^(8 - k)<256:=Nat.lt_of_le_of_lt (Nat.div_le_self _ _) hz'8;have hor:bits .or .u8 ((z:Int)*2^k%256) ((z':Int)/2^(8 - k))=(y:Int):=by
   rw [hy,show ((z:Int)*2^k%256)=((z*2^k%256:Nat):Int) by simp,show ((z':Int)/2^(8 - k))=((z'/2^(8 - k):Nat):Int) by simp];exact u8_or_nat _ _ hy0 hd8
  have hy8:y<256:=by rw [hy];exact Nat.or_lt_two_pow (n:=8) hy0 hd8
  rw [←hy] at hf;have HF:=z7 hf;have cz3:=(HB1.out.cell (p:=⟨g,off+(q+1),none⟩) hg).trans cz2;have d1:(0:Int)<k:=by omega
  have d2:(q:Int)+1<n:=by omega
  have hw7:IntKind.i64.wrap (8 - (k:Int))=8 - (k:Int):=z0n (by omega) (by omega);have hw9:IntKind.i64.wrap ((q:Int)+1)=((q+1:Nat):Int):=z0n (by omega) (by omega);clear hz' hf hy cz2 hfin;go_enter Tryz.func101,Tryz.ntmps101;go_upto_region 1 with fail
  rw [←HW.out];go_wp2;go_ret;exact ⟨y,rfl,hy8,HF.out,HB1.out⟩
 ·have hf:=hfin.out _ rfl;rw [if_neg hc,Nat.or_zero] at hf;obtain ⟨y,hy⟩:∃y,y=z*2^k%256:=⟨_,rfl⟩;rw [←hy] at hf hy0;have hyv:(z:Int)*2^k%256=(y:Int):=by rw [hy];simp
  have HF:=z7 hf;have hw9:IntKind.i64.wrap ((q:Int)+1)=((q+1:Nat):Int):=z0n (by omega) (by omega);clear hy hf hfin;by_cases hk0:k=0
  ·subst hk0;obtain rfl:y=z:=by rw [Int.pow_zero] at hyv;omega
   clear hyv;go_enter Tryz.func101,Tryz.ntmps101;go_upto_region 1 with fail
   rw [←HW.out];go_wp2;go_ret;exact ⟨y,rfl,hy0,HF.out,HB1.out⟩
  ·have d1:(0:Int)<k:=by omega
   have d2:decide ((q:Int)+1<n)=false:=decide_eq_false (by omega);go_enter Tryz.func101,Tryz.ntmps101;go_upto_region 1 with fail
   rw [←HW.out];go_wp2;go_ret;exact ⟨y,rfl,hy0,HF.out,HB1.out⟩
theorem q0c(a:Option Addr)(n c:Nat)(b:List UInt8)(w:World)(hx:RdB w (.slice a n c) b)(hn:n=b.length)(hl:n≤70368744177664):
  Calls Tryz.prog 109 #[.slice a n c] w fun e w'=>∃a c,e= .returned (.slice a n c)∧w'.ownsRow w.heap.size 5 1 (.slice a n c) n (z0b b)∧Below w.heap.size w w':=by
 cases a with
 | some ad=>
  subst hn;exact y4K ad b c w hx hl
 | none=>
  obtain ⟨rfl,rfl⟩:n=0∧c=0:=by
   rcases hx.2 with ⟨h1,h2⟩ | ⟨ad,c',h1,h2⟩
   ·simp only [Value.slice.injEq] at h1;exact ⟨h1.2.1,h1.2.2⟩
   ·simp at h1
  obtain rfl:b= []:=List.eq_nil_of_length_eq_zero hn.symm;have hnn:=fun (w:World)=>Lib.run_eql_slice_nil (P:=Tryz.prog) w 46 5 none 0 0 0 0 Tryz.underlying46;clear hx hn hl;go_enter Tryz.func109,Tryz.ntmps109;go_wp2;go_ret;exact ⟨none,0,rfl,World.ownsRow_nil _ _ _ _,by first | exact Below.refl _ _ | exact q5 _ _⟩
theorem y9q(a:Option Addr)(n c:Nat)(l:List Bool)(b:List UInt8)(W w:World)(hW:Below W.heap.size W w)(h:z0o w a n c l b)(hl:l.length≤1099511627776):
  Calls Tryz.prog 209 #[.agg #[.slice a n c, .int .i64 l.length]] w fun e w'=>∃q,e= .returned (.pointer (some ⟨q,0,none⟩))∧z2U W [] w' q l:=by
 obtain ⟨N,hN⟩:∃N,N=l.length:=⟨_,rfl⟩;rw [←hN];obtain ⟨W1,hW1⟩:∃W1,W1=w.alloc (.cells #[.slice a n c, .int .i64 (N:Nat)] 48):=⟨_,rfl⟩;have hb1:Below w.heap.size w W1:=by rw [hW1];exact q5 _ _
 have hg1:=j8 w (.cells #[.slice a n c, .int .i64 (N:Nat)] 48);rw [←hW1] at hg1;have hlt1:w.heap.size<W1.heap.size:=(Array.getElem?_eq_some_iff.1 hg1).1;have hcl:Hid (∀w',Below W1.heap.size W1 w'→w'.cell? ⟨w.heap.size,0,none⟩=some (.slice a n c)∧w'.cell? ⟨w.heap.size,1,none⟩=some (.int .i64 (N:Nat))):=z7 fun w' hw=>by
  have h1:=(hw.block w.heap.size hlt1).trans hg1;constructor<;>simp [World.cell?,h1]
 have HW:=z7 hW1;have H:=z7 h;have HN:=z7 hN;have HB1:=z7 (hW.trans (hb1.mono hW.size));have HX:=z7 (h.low hb1);have hn70:n≤70368744177664:=by have:=h.bits.len;have:=h.len;omega
 have hWs:=hW.size;obtain ⟨x0,x1⟩:=hcl.out W1 (Below.refl _ _);clear hW1 h hN hb1 hg1 hW;go_enter Tryz.func209,Tryz.ntmps209;go_upto_region 1 with fail
 rw [←HW.out];clear x0 x1;refine q6 5 11 (by kernel_rfl) (by kernel_rfl) rfl (by kernel_rfl) (fun D v w'=>Below W1.heap.size W1 w'∧(D 2=true→∃a' c',v 2= .slice a' n c'∧w'.ownsRow W1.heap.size 5 1 (.slice a' n c') n (z0b b))) (fun _=>undef) ⟨(Below.refl _ _).drew,fun h=>by cases h⟩ ?_;simp only [List.take_succ_cons,List.take_zero,List.drop_succ_cons,List.drop_zero];iterate 2 (refine q8.rd (e:=?_) (fun D v w' hD hS=>?_) ?_;rotate_left;(obtain ⟨x0,x1⟩:=hcl.out w' hS.1;clear hS hD;first | (go_simp;done) | (go_simp;with_reducible rfl));go_simp)
 refine q8.rel (fun v=>by rfl) (fun D v w' hD hS=>?_) ?_
 ·have HS:=z7 hS.1;clear hS hD;go_simp;go_at_call 109;refine (q0c a n c b w' (HX.out.rd.low HS.out) HX.out.len hn70).mono ?_;rintro e w'' ⟨a',c',rfl,hown,hb⟩;exact ⟨HS.out.trans (hb.mono HS.out.size),fun _=>⟨a',c',rfl,z0i hown HS.out.size⟩⟩
 go_simp;iterate 2 (refine q8.rd (e:=?_) (fun D v w' hD hS=>?_) ?_;rotate_left;(obtain ⟨x0,x1⟩:=hcl.out w' hS.1;clear hS hD;first | (go_simp;done) | (go_simp;with_reducible rfl));go_simp)
 refine q8.fin (fun v w5 hS=>?_);obtain ⟨a',c',hv,hown⟩:=hS.2 rfl;rw [hv];have HS:=z7 hS.1;have HO:=z7 hown;clear hS hv hown;go_wp2;go_ret;have hal:=q5 w5 (.cells #[.slice a' n c', .int .i64 (N:Nat)] 225);have hs5:=HS.out.size;have hsb:=HB1.out.size;refine ⟨w5.heap.size,rfl,a',n,c',b,?_,z0i (ownsRow_below HO.out hal (Nat.le_refl _)) hsb,HX.out.len,HX.out.bits,fun e=>?_,by omega,?_,fun p hp=>by cases hp⟩
 ·rw [←HN.out];exact j8 _ _
 ·have:=(HO.out.lt _ e).2;omega
 ·exact (HB1.out.trans (HS.out.mono hsb)).trans (hal.mono (by omega))
theorem z6l{fn:Func}{t u:Tmp}(h:fn.results= #[.cell t 48, .tmp u])(tmps:Array Value)(w:World)(r:Nat)(x y:Value)(h1:tmps.getD t undef= .pointer (some ⟨r,0,none⟩))(hg:w.heap[r]? =some (.cells #[x,y] 48 (0,0)))(hx:x.oneCell'=true)(hy:y.oneCell'=true):
  (results fn tmps).run Tryz.prog w= .ok (.tuple #[.agg #[x,y],tmps.getD u undef]) w:=by
 have c0:w.cell? ⟨r,0,none⟩=some x:=by simp [World.cell?,hg]
 have c1:w.cell? ⟨r,1,none⟩=some y:=by simp [World.cell?,hg]
 simp only [Array.getD_eq_getD_getElem?] at h1;simp [results,h,go_sem,h1,c0,c1]
def z6X(W:World)(l:List Bool)(e:Ending)(w':World):Prop:=
 ∃a n c b,e= .returned (.tuple #[.agg #[.slice a n c, .int .i64 l.length], .int .u16 0])∧w'.ownsRow W.heap.size 5 1 (.slice a n c) n (z0b b)∧n=b.length∧z0U b l∧Below W.heap.size W w'
theorem y2B(a:Option Addr)(n c:Nat)(l:List Bool)(b:List UInt8)(v width:Nat)(w:World)(h:z0o w a n c l b)(hl:l.length≤549755813888)(hv:v<18446744073709551616)(hw:width≤64):
  Calls Tryz.prog 151 #[.agg #[.slice a n c, .int .i64 l.length], .int .u64 (v:Nat), .int .i64 (width:Nat)] w (z6X w (l++z2L v width)):=by
 obtain ⟨N,hN⟩:∃N,N=l.length:=⟨_,rfl⟩;rw [←hN];obtain ⟨w1,hw1⟩:∃w1,w1=w.alloc (.cells #[.slice a n c, .int .i64 (N:Nat)] 48):=⟨_,rfl⟩;obtain ⟨W1,hW1⟩:∃W1,W1=w1.alloc (.cells #[.slice none 0 0, .int .i64 0] 48):=⟨_,rfl⟩;have hb1:Below w.heap.size w w1:=by rw [hw1];exact q5 _ _
 have hb2:Below w1.heap.size w1 W1:=by rw [hW1];exact q5 _ _
 have hs1:w1.heap.size=w.heap.size+1:=by rw [hw1];simp
 have hs2:W1.heap.size=w.heap.size+2:=by rw [hW1];simp [hs1]
 have hg1:W1.heap[w.heap.size]? =some (.cells #[.slice a n c, .int .i64 (N:Nat)] 48 (0,0)):=(hb2.block _ (by omega)).trans (by rw [hw1];exact j8 _ _);have hg2:W1.heap[w.heap.size+1]? =some (.cells #[.slice none 0 0, .int .i64 0] 48 (0,0)):=by rw [hW1,←hs1];exact j8 _ _
 have hbW:Below w.heap.size w W1:=hb1.trans (hb2.mono hb1.size);have hcl:Hid (∀w',Below W1.heap.size W1 w'→w'.cell? ⟨w.heap.size,0,none⟩=some (.slice a n c)∧w'.cell? ⟨w.heap.size,1,none⟩=some (.int .i64 (N:Nat))):=z7 fun w' hw=>by
  have h1:=(hw.block w.heap.size (by omega)).trans hg1;constructor<;>simp [World.cell?,h1]
 have HW:Hid ((w.alloc (.cells #[.slice a n c, .int .i64 (N:Nat)] 48)).alloc (.cells #[.slice none 0 0, .int .i64 0] 48)=W1):=z7 (by rw [hW1,hw1]);have H:=z7 h;have HN:=z7 hN;have HBW:=z7 hbW;have HG2:=z7 hg2;have hX:=h.low hbW;have HX:=z7 hX;obtain ⟨x0,x1⟩:=hcl.out W1 (Below.refl _ _);have hlen:=h.len;have HS:=z7 hs2;have hsnd:=z2s h.bits;rw [←hN] at hsnd;have HSND:=z7 hsnd;have hnl:n≤137438953473:=by have:=h.bits.len;omega
 have HLEN:=z7 hlen;clear hw1 hW1 hb1 hb2 hs1 hs2 hg1 hg2 hbW h hN hX hlen hsnd;have hwl:decide ((width:Int)<0)=false:=decide_eq_false (by omega);have hwg:decide ((64:Int)<width)=false:=decide_eq_false (by omega);go_enter Tryz.func151,Tryz.ntmps151;go_upto_region 1 with fail
 rw [HW.out];go_wp2_with fail;have hsn:=z2x a c b N W1 (by have:=HX.out.rd;rw [HLEN.out] at this;exact this) (by have:=HLEN.out;omega) (by omega) (by have:=HN.out;omega);rw [←HLEN.out,HSND.out] at hsn;refine hsn.mono ?_;rintro e w2 ⟨rfl,hb2⟩;obtain ⟨y0,y1⟩:=hcl.out w2 hb2;have HB2:=z7 hb2;clear hsn hb2 x0 x1;go_wp2_with fail;have hbg:=y9q a n c l b W1 w2 HB2.out (HX.out.low HB2.out) (by omega);rw [←HN.out] at hbg;refine hbg.mono ?_;rintro e w3 ⟨q,rfl,hq⟩;clear hbg y0 y1;go_wp2_with fail;refine (y7S q v width l W1 [] w3 hq hv hw hl).mono ?_;rintro e w4 ⟨rfl,a4,m4,c4,b4,h4⟩;have H4:=z7 h4;obtain ⟨c0,c1,cf⟩:=h4.cells w4 rfl;obtain ⟨M,hM⟩:∃M,M=(l++z2L v width).length:=⟨_,rfl⟩;rw [←hM] at c1;have hg4:=(h4.low.block (w.heap.size+1) (by have:=HS.out;omega)).trans HG2.out;have d0:w4.cell? ⟨w.heap.size+1,0,none⟩=some (.slice none 0 0):=by simp [World.cell?,hg4]
 have d1:w4.cell? ⟨w.heap.size+1,1,none⟩=some (.int .i64 0):=by simp [World.cell?,hg4]
 have df:∀j,w4.frozen? ⟨w.heap.size+1,j,none⟩=false:=by simp [World.frozen?,hg4]
 have HM:=z7 hM;have HG4:=z7 hg4;clear h4 hq hM hg4;go_wp2_with fail;have hst:((w4.setCell ⟨w.heap.size+1,0,none⟩ (.slice a4 m4 c4)).setCell ⟨w.heap.size+1,1,none⟩ (.int .i64 (M:Nat))).heap[w.heap.size+1]? =some (.cells #[.slice a4 m4 c4, .int .i64 (M:Nat)] 48 (0,0)):=by
  have:=j9 (j9 HG4.out 0 (.slice a4 m4 c4)) 1 (.int .i64 (M:Nat));simpa using this
 refine bodyPost_ret (z6l rfl _ _ (w.heap.size+1) (.slice a4 m4 c4) (.int .i64 (M:Nat)) rfl hst rfl rfl) rfl ?_;have hs:=HS.out;have hbs:=HBW.out.size;have hne:∀k,(Value.slice a4 m4 c4).ownBlock=some k→k≠w.heap.size+1:=fun k hk e=>by have:=(H4.out.row.lt k hk).1;omega
 refine ⟨a4,m4,c4,b4,by rw [←HM.out];rfl,?_,H4.out.len,H4.out.bits,?_⟩
 ·refine z0i (j7 (j7 H4.out.row fun k hk=>q7 (hne k hk)) fun k hk=>q7 (hne k hk)) hbs
 ·exact ((HBW.out.trans (H4.out.low.mono hbs)).setCell (by show w.heap.size≤w.heap.size+1;omega) _).setCell (by show w.heap.size≤w.heap.size+1;omega) _
def z5b(l:List Bool)(i:Nat):Nat:=z2C ((List.range 8).map fun j=>l.getD (i+j) false)
theorem z3H(l:List Bool)(i:Nat):z5b l i<256∧∀j,j<8→(z5b l i).testBit (7 - j)=l.getD (i+j) false:=by
 have h1:=z5m ((List.range 8).map fun j=>l.getD (i+j) false);refine ⟨by unfold z5b;simpa using h1,fun j hj=>?_⟩;have h2:=z8f ((List.range 8).map fun j=>l.getD (i+j) false) j (by simpa using hj);simp only [List.length_map,List.length_range] at h2;rw [show 8 - 1 - j=7 - j by omega] at h2;unfold z5b;rw [h2];simp [List.getD_eq_getElem?_getD,hj]
theorem y2o{y:Nat}{l:List Bool}{i:Nat}(hy:y<256)(h:∀j,j<8→y.testBit (7 - j)=l.getD (i+j) false):y=z5b l i:=by
 obtain ⟨g1,g2⟩:=z3H l i;apply Nat.eq_of_testBit_eq;intro k;by_cases hk:k<8
 ·have:=(h (7 - k) (by omega)).trans (g2 (7 - k) (by omega)).symm
  rwa [show 7 - (7 - k)=k by omega] at this
 ·have h3:(256:Nat)≤2^k:=by rw [show (256:Nat)=2^8 from rfl];exact Nat.pow_le_pow_right (by decide) (by omega)
  rw [Nat.testBit_lt_two_pow (Nat.lt_of_lt_of_le hy h3),Nat.testBit_lt_two_pow (Nat.lt_of_lt_of_le g1 h3)]
theorem y2q(a:Option Addr)(n c:Nat)(l:List Bool)(b:List UInt8)(i:Nat)(w:World)(h:z0o w a n c l b)(hi:i<l.length)(hl:l.length≤1099511627776):
  Calls Tryz.prog 101 #[.agg #[.slice a n c, .int .i64 l.length], .int .i64 (i:Nat)] w fun e w'=>e= .returned (.int .u8 (z5b l i:Nat))∧Below w.heap.size w w':=by
 refine (q3B a n c l b i w h hi hl).mono ?_;rintro e w' ⟨y,rfl,hy,hb,hw⟩;exact ⟨by rw [y2o hy hb],hw⟩
def z2r(l:List Bool)(i width:Nat):Nat:=if i+width≤l.length then z2C ((l.drop i).take width) else 0
def z1S(l:List Bool)(i width:Nat):Nat:=if i+width≤l.length then 0 else 10
theorem y9K{a b n:Nat}(h:b<2^n):a*2^n ||| b=a*2^n+b:=by
 rw [Nat.mul_comm];exact (Nat.two_pow_add_eq_or_of_lt h a).symm
theorem q0y{l:List Bool}{i d n:Nat}(hn:n≤8)(h:i+(d+n)≤l.length):z2C ((l.drop i).take d)*2^n+z5b l (i+d)/2^(8 - n)=z2C ((l.drop i).take (d+n)):=by
 obtain ⟨g1,g2⟩:=z3H l (i+d);rw [y7a g1 g2 hn (by omega),List.take_add,z6I,List.drop_drop];simp only [List.length_take,List.length_drop];rw [Nat.min_eq_left (by omega)]
theorem y0B(a:Option Addr)(n c:Nat)(l:List Bool)(b:List UInt8)(i width:Nat)(w:World)(h:z0o w a n c l b)(hl:l.length≤549755813888)(hi:i≤1099511627776)(hw:width≤64):
  Calls Tryz.prog 275 #[.agg #[.slice a n c, .int .i64 l.length], .int .i64 (i:Nat), .int .i64 (width:Nat)] w fun e w'=>e= .returned (.tuple #[.int .u64 (z2r l i width:Nat), .int .u16 (z1S l i width:Nat)])∧Below w.heap.size w w':=by
 obtain ⟨N,hN⟩:∃N,N=l.length:=⟨_,rfl⟩;rw [←hN];obtain ⟨W1,hW1⟩:∃W1,W1=w.alloc (.cells #[.slice a n c, .int .i64 (N:Nat)] 48):=⟨_,rfl⟩;have hb1:Below w.heap.size w W1:=by rw [hW1];exact q5 _ _
 have hg1:=j8 w (.cells #[.slice a n c, .int .i64 (N:Nat)] 48);rw [←hW1] at hg1;have hlt1:w.heap.size<W1.heap.size:=(Array.getElem?_eq_some_iff.1 hg1).1;have hcl:Hid (∀w',Below W1.heap.size W1 w'→w'.cell? ⟨w.heap.size,0,none⟩=some (.slice a n c)∧w'.cell? ⟨w.heap.size,1,none⟩=some (.int .i64 (N:Nat))):=z7 fun w' hw=>by
  have h1:=(hw.block w.heap.size hlt1).trans hg1;constructor<;>simp [World.cell?,h1]
 have HW:=z7 hW1;have HN:=z7 hN;have HB1:=z7 hb1;have HX:=z7 (h.low hb1);have hlen:=h.len;have hsnd:=z2s h.bits;rw [←hN] at hsnd;have HSND:=z7 hsnd;have hnl:n≤137438953473:=by have:=h.bits.len;omega
 have hNl:N≤549755813888:=by omega
 have HLEN:=z7 hlen;obtain ⟨x0,x1⟩:=hcl.out W1 (Below.refl _ _);clear hW1 h hN hb1 hg1 hlen hsnd hl;have hwl:decide ((width:Int)<0)=false:=decide_eq_false (by omega);have hwg:decide ((64:Int)<width)=false:=decide_eq_false (by omega);have hil:decide ((i:Int)<0)=false:=decide_eq_false (by omega);go_enter Tryz.func275,Tryz.ntmps275;go_upto_region 1 with fail
 rw [←HW.out];go_wp2_with fail;have hsn:=z2x a c b N W1 (by have:=HX.out.rd;rw [HLEN.out] at this;exact this) (by have:=HLEN.out;omega) (by omega) (by omega);rw [←HLEN.out,HSND.out] at hsn;refine hsn.mono ?_;rintro e w2 ⟨rfl,hb2⟩;obtain ⟨y0,y1⟩:=hcl.out w2 hb2;have HB2:=z7 hb2;have hwN:IntKind.i64.wrap ((N:Int) - i)=(N:Int) - i:=z0n (by omega) (by omega);clear hsn hb2 x0 x1;by_cases hN1:N<i
 ·have d1:decide ((N:Int)<i)=true:=decide_eq_true (by omega);have HG:Hid (z2r l i width=0∧z1S l i width=10):=z7 (by unfold z2r z1S;have:=HN.out;rw [if_neg (by omega),if_neg (by omega)];exact ⟨rfl,rfl⟩);go_wp2;go_ret2;rw [HG.out.1,HG.out.2];exact ⟨rfl,HB1.out.trans (HB2.out.mono HB1.out.size)⟩
 have d1:decide ((N:Int)<i)=false:=decide_eq_false (by omega);by_cases hN2:N<i+width
 ·have d2:decide ((N:Int) - i<width)=true:=decide_eq_true (by omega);have HG:Hid (z2r l i width=0∧z1S l i width=10):=z7 (by unfold z2r z1S;have:=HN.out;rw [if_neg (by omega),if_neg (by omega)];exact ⟨rfl,rfl⟩);go_wp2;go_ret2;rw [HG.out.1,HG.out.2];exact ⟨rfl,HB1.out.trans (HB2.out.mono HB1.out.size)⟩
 have d2:decide ((N:Int) - i<width)=false:=decide_eq_false (by omega);have HG:Hid (z2r l i width=z2C ((l.drop i).take width)∧z1S l i width=0):=z7 (by unfold z2r z1S;have:=HN.out;rw [if_pos (by omega),if_pos (by omega)];exact ⟨rfl,rfl⟩);obtain ⟨iw,hiw⟩:∃x,x=i+width:=⟨_,rfl⟩;have hiN:i+width≤N:=by omega
 go_wp2_with fail;clear d1 d2 hil hwl hwg hwN y0 y1 hN1 hN2;go_loopw [1,2,8] (fun fv kv vv wr=>∃k d:Nat,fv= .int .i64 ((i+d:Nat):Int)∧kv= .int .i64 (k:Nat)∧vv= .int .u64 ((z2C ((l.drop i).take d):Nat):Int)∧d+k=width∧Hid (Below W1.heap.size W1 wr)) (fun _ kv _ _=>match kv with | .int _ j=>j.toNat | _=>0)
 case atStart=>exact ⟨width,0,rfl,rfl,by simp [z2C],by omega,HB2⟩
 case round=>
  obtain ⟨k,d,rfl,rfl,rfl,hdk,hb⟩:=hrel;obtain ⟨V,hV⟩:∃V,V=z2C ((l.drop i).take d):=⟨_,rfl⟩;rw [←hV];by_cases h0:k=0
  ·subst h0;obtain rfl:d=width:=by omega
   have HV:=z7 hV;clear hV;go_wp2;go_ret2;rw [HG.out.1,HG.out.2,HV.out];exact ⟨rfl,HB1.out.trans (hb.out.mono HB1.out.size)⟩
  ·have d0:(0:Int)<k:=by omega
   have hV2:V<2^d:=by
    have:=z5m ((l.drop i).take d);rw [←hV] at this;exact Nat.lt_of_lt_of_le this (Nat.pow_le_pow_right (by decide) (by simp;omega))
   obtain ⟨y,hy⟩:∃y,y=z5b l (i+d):=⟨_,rfl⟩;have hy8:y<256:=by rw [hy];exact (z3H l (i+d)).1
   have hstep:Hid (∀m,m≤8→m≤k→bits .or .u64 (IntKind.u64.wrap ((V:Int)*2^m)) ((y:Int)/2^(8 - m))=((z2C ((l.drop i).take (d+m)):Nat):Int)):=z7 fun m hm hmk=>by
    have hym:y/2^(8 - m)<2^m:=by
     rw [Nat.div_lt_iff_lt_mul (Nat.two_pow_pos _),←Nat.pow_add,show m+(8 - m)=8 by omega];exact hy8
    have hVm:V*2^m<2^64:=by
     have:V*2^m<2^d*2^m:=Nat.mul_lt_mul_of_pos_right hV2 (Nat.two_pow_pos _);rw [←Nat.pow_add] at this;exact Nat.lt_of_lt_of_le this (Nat.pow_le_pow_right (by decide) (by omega))
    have e1:IntKind.u64.wrap ((V:Int)*2^m)=((V*2^m:Nat):Int):=by
     rw [IntKind.wrap_u64,show ((V:Int)*2^m)=((V*2^m:Nat):Int) by simp];omega
    have e2:((y:Int)/2^(8 - m))=((y/2^(8 - m):Nat):Int):=by simp
    rw [e1,e2,u64_or_nat _ _ hVm (Nat.lt_of_lt_of_le hym (Nat.pow_le_pow_right (by decide) (by omega):2^m≤2^64)),y9K hym,hV,hy,q0y hm (by have:=HN.out;omega)]
   have HY:=z7 hy;have HV:=z7 hV;have hid:i+d<l.length:=by have:=HN.out;omega
   clear hy hV;have hcm:Hid (∀w',Below wr.heap.size wr w'→w'.cell? ⟨w.heap.size,0,none⟩=some (.slice a n c)∧w'.cell? ⟨w.heap.size,1,none⟩=some (.int .i64 (N:Nat))):=z7 fun w' hw'=>hcl.out w' (hb.out.trans (hw'.mono hb.out.size));obtain ⟨m,hm⟩:∃m,m=min k 8:=⟨_,rfl⟩;have hm8:m≤8:=by omega
   have hmk:m≤k:=by omega
   have hst2:=hstep.out m hm8 hmk;have hwi:IntKind.i64.wrap (((i+d:Nat):Int)+m)=((i+(d+m):Nat):Int):=by rw [z0n (by omega) (by omega)];omega
   have hwk:IntKind.i64.wrap ((k:Int) - m)=((k - m:Nat):Int):=by rw [z0n (by omega) (by omega)];omega
   have hw8:IntKind.i64.wrap (8 - (m:Int))=8 - (m:Int):=z0n (by omega) (by omega);obtain ⟨wb,hwb⟩:∃wb,wb=wr:=⟨_,rfl⟩;clear hwb;obtain ⟨R,hR⟩:∃R,R=z2C ((l.drop i).take (d+m)):=⟨_,rfl⟩;rw [←hR] at hst2;have HR:=z7 hR;have HM:=z7 hm;clear hR hstep;have hy9:y/2^(8 - m)<256:=Nat.lt_of_le_of_lt (Nat.div_le_self _ _) hy8;have he3:IntKind.u64.wrap ((y:Int)/2^(8 - m))=(y:Int)/2^(8 - m):=by
    have e:((y:Int)/2^(8 - m))=((y/2^(8 - m):Nat):Int):=by simp
    rw [IntKind.wrap_u64,e]
    generalize y/2^(8 - m)=t at hy9 ⊢
    omega
   by_cases h8:k≤8
   ·obtain rfl:m=k:=by omega
    have h8':(m:Int)≤8:=by omega
    clear hm;go_wp2_with fail;refine q6 12 54 (by kernel_rfl) (by kernel_rfl) rfl (by kernel_rfl) (fun D v w'=>Below wr.heap.size wr w') (fun _=>undef) (Below.refl _ _).drew ?_;simp only [List.take_succ_cons,List.take_zero,List.drop_succ_cons,List.drop_zero];iterate 5 (refine q8.rd (e:=?_) (fun D v w' hD hS=>?_) ?_;rotate_left;(obtain ⟨x0,x1⟩:=hcm.out w' hS;clear hS hD;first | (go_simp;done) | (go_simp;with_reducible rfl));go_simp)
    refine q8.call (.int .u8 (y:Nat)) (fun v=>by rfl) (fun D v w' hD hS=>?_) ?_
    ·have HS:=z7 hS;clear hS hD;go_simp;go_at_call 101;have hat:=y2q a n c l b (i+d) w' (HX.out.low (hb.out.trans (HS.out.mono hb.out.size))) hid (by have:=HN.out;omega);rw [←HN.out,←HY.out] at hat;refine hat.mono ?_;rintro e w'' ⟨rfl,hb'⟩;exact ⟨rfl,HS.out.trans (hb'.mono HS.out.size)⟩
    go_simp;iterate 6 (refine q8.rd (e:=?_) (fun D v w' hD hS=>?_) ?_;rotate_left;(skip;clear hS hD;first | (go_simp;done) | (go_simp;with_reducible rfl));go_simp)
    refine q8.fin (fun v w5 hS=>?_);have HS:=z7 (hb.out.trans (hS.mono hb.out.size));clear hS;go_wp2;exact ⟨⟨0,d+m,by first | trivial | (congr 1;omega),by trivial,by rw [HR.out],by omega,HS⟩,by show (0:Int).toNat<(m:Int).toNat;omega⟩
   ·obtain rfl:m=8:=by omega
    have h8':decide ((k:Int)≤8)=false:=decide_eq_false (by omega);have hz0:IntKind.i64.wrap 0=0:=by rw [IntKind.wrap_i64];rfl
    have hst3:bits .or .u64 (IntKind.u64.wrap ((V:Int)*256)) (y:Int)=(R:Int):=by simpa using hst2
    have he4:IntKind.u64.wrap (y:Int)=(y:Int):=by rw [IntKind.wrap_u64];omega
    clear hm;go_wp2_with fail;refine q6 12 54 (by kernel_rfl) (by kernel_rfl) rfl (by kernel_rfl) (fun D v w'=>Below wr.heap.size wr w') (fun _=>undef) (Below.refl _ _).drew ?_;simp only [List.take_succ_cons,List.take_zero,List.drop_succ_cons,List.drop_zero];iterate 5 (refine q8.rd (e:=?_) (fun D v w' hD hS=>?_) ?_;rotate_left;(obtain ⟨x0,x1⟩:=hcm.out w' hS;clear hS hD;first | (go_simp;done) | (go_simp;with_reducible rfl));go_simp)
    refine q8.call (.int .u8 (y:Nat)) (fun v=>by rfl) (fun D v w' hD hS=>?_) ?_
    ·have HS:=z7 hS;clear hS hD;go_simp;go_at_call 101;have hat:=y2q a n c l b (i+d) w' (HX.out.low (hb.out.trans (HS.out.mono hb.out.size))) hid (by have:=HN.out;omega);rw [←HN.out,←HY.out] at hat;refine hat.mono ?_;rintro e w'' ⟨rfl,hb'⟩;exact ⟨rfl,HS.out.trans (hb'.mono HS.out.size)⟩
    go_simp;iterate 6 (refine q8.rd (e:=?_) (fun D v w' hD hS=>?_) ?_;rotate_left;(skip;clear hS hD;first | (go_simp;done) | (go_simp;with_reducible rfl));go_simp)
    refine q8.fin (fun v w5 hS=>?_);have HS:=z7 (hb.out.trans (hS.mono hb.out.size));clear hS;go_wp2;exact ⟨⟨k - 8,d+8,by first | trivial | (congr 1;omega),by first | trivial | (congr 1;omega),by rw [HR.out],by omega,HS⟩,by first | (show ((k - 8:Nat):Int).toNat<(k:Int).toNat;omega) | (show ((k:Int) - 8).toNat<(k:Int).toNat;omega)⟩
theorem y1Q{l:List Bool}{i n:Nat}(hn:n≤8)(h:i+n≤l.length):z5h (z5b l i) n=(l.drop i).take n:=y7n (z3H l i).2 hn h
theorem y9i{W w4:World}{K:List (Nat×Obj)}{w:World}{q r:Nat}{l:List Bool}{a4:Option Addr}{m4 c4:Nat}{b4:List UInt8}(H4:z8T W K w4 q l a4 m4 c4 b4)(hbw:Below w.heap.size w W)(hr1:w.heap.size≤r)(hr2:r<W.heap.size)(hg:W.heap[r]? =some (.cells #[.slice none 0 0, .int .i64 0] 48 (0,0))){fn:Func}{t u:Tmp}(hf:fn.results= #[.cell t 48, .tmp u]){tmps:Array Value}(h1:tmps.getD t undef= .pointer (some ⟨r,0,none⟩))(h2:tmps.getD u undef= .int .u16 0):
  bodyPost Tryz.prog fn (z6X w l) .ret ⟨tmps, []⟩ ((w4.setCell ⟨r,0,none⟩ (.slice a4 m4 c4)).setCell ⟨r,1,none⟩ (.int .i64 l.length)):=by
 have hg4:=(H4.low.block r hr2).trans hg;have hst:((w4.setCell ⟨r,0,none⟩ (.slice a4 m4 c4)).setCell ⟨r,1,none⟩ (.int .i64 l.length)).heap[r]? =some (.cells #[.slice a4 m4 c4, .int .i64 l.length] 48 (0,0)):=by
  have:=j9 (j9 hg4 0 (.slice a4 m4 c4)) 1 (.int .i64 l.length);simpa using this
 have hne:∀k,(Value.slice a4 m4 c4).ownBlock=some k→k≠r:=fun k hk e=>by have:=(H4.row.lt k hk).1;omega
 refine bodyPost_ret (z6l hf tmps _ r (.slice a4 m4 c4) (.int .i64 l.length) h1 hst rfl rfl) rfl ?_;rw [h2];refine ⟨a4,m4,c4,b4,rfl,?_,H4.len,H4.bits,?_⟩
 ·exact z0i (j7 (j7 H4.row fun k hk=>q7 (hne k hk)) fun k hk=>q7 (hne k hk)) hbw.size
 ·exact ((hbw.trans (H4.low.mono hbw.size)).setCell (by show w.heap.size≤r;omega) _).setCell (by show w.heap.size≤r;omega) _
theorem z2U.then{W w w':World}{K:List (Nat×Obj)}{q:Nat}{l:List Bool}(h:z2U W K w q l)(hb:Below w.heap.size w w'):z2U W K w' q l:=by
 obtain ⟨a,m,c,b,h⟩:=h;exact ⟨a,m,c,b,h.then hb⟩
theorem y9T{W w:World}(h:Below W.heap.size W w):z2U W [] (w.alloc (.cells #[.slice none 0 0, .int .i64 0] 225)) w.heap.size []:=
 ⟨none,0,0, [],j8 _ _,World.ownsRow_nil _ _ _ _,rfl,z0U.nil,(fun e=>by cases e),h.size,h.trans ((q5 w _).mono h.size),fun p hp=>by cases hp⟩
theorem q0m(a:Option Addr)(n c:Nat)(l:List Bool)(b:List UInt8)(i j:Nat)(w:World)(h:z0o w a n c l b)(hl:l.length≤549755813888)(hij:i≤j)(hj:j≤l.length):
  Calls Tryz.prog 48 #[.agg #[.slice a n c, .int .i64 l.length], .int .i64 (i:Nat), .int .i64 (j:Nat)] w (z6X w ((l.drop i).take (j - i))):=by
 obtain ⟨N,hN⟩:∃N,N=l.length:=⟨_,rfl⟩;rw [←hN];obtain ⟨w1,hw1⟩:∃w1,w1=w.alloc (.cells #[.slice a n c, .int .i64 (N:Nat)] 48):=⟨_,rfl⟩;obtain ⟨W1,hW1⟩:∃W1,W1=w1.alloc (.cells #[.slice none 0 0, .int .i64 0] 48):=⟨_,rfl⟩;have hb1:Below w.heap.size w w1:=by rw [hw1];exact q5 _ _
 have hb2:Below w1.heap.size w1 W1:=by rw [hW1];exact q5 _ _
 have hs1:w1.heap.size=w.heap.size+1:=by rw [hw1];simp
 have hs2:W1.heap.size=w.heap.size+2:=by rw [hW1];simp [hs1]
 have hg1:W1.heap[w.heap.size]? =some (.cells #[.slice a n c, .int .i64 (N:Nat)] 48 (0,0)):=(hb2.block _ (by omega)).trans (by rw [hw1];exact j8 _ _);have hg2:W1.heap[w.heap.size+1]? =some (.cells #[.slice none 0 0, .int .i64 0] 48 (0,0)):=by rw [hW1,←hs1];exact j8 _ _
 have hbW:Below w.heap.size w W1:=hb1.trans (hb2.mono hb1.size);have hcl:Hid (∀w',Below W1.heap.size W1 w'→w'.cell? ⟨w.heap.size,0,none⟩=some (.slice a n c)∧w'.cell? ⟨w.heap.size,1,none⟩=some (.int .i64 (N:Nat))):=z7 fun w' hw=>by
  have h1:=(hw.block w.heap.size (by omega)).trans hg1;constructor<;>simp [World.cell?,h1]
 have HW:Hid ((w.alloc (.cells #[.slice a n c, .int .i64 (N:Nat)] 48)).alloc (.cells #[.slice none 0 0, .int .i64 0] 48)=W1):=z7 (by rw [hW1,hw1]);have HN:=z7 hN;have HBW:=z7 hbW;have HG2:=z7 hg2;have hX:=h.low hbW;have HX:=z7 hX;obtain ⟨x0,x1⟩:=hcl.out W1 (Below.refl _ _);have hlen:=h.len;have HS:=z7 hs2;have hsnd:=z2s h.bits;rw [←hN] at hsnd;have HSND:=z7 hsnd;have hnl:n≤137438953473:=by have:=h.bits.len;omega
 have hNl:N≤549755813888:=by omega
 have hjN:j≤N:=by omega
 have HLEN:=z7 hlen;clear hw1 hW1 hb1 hb2 hs1 hs2 hg1 hg2 hbW h hN hX hlen hsnd hl hj;have d1:decide ((i:Int)<0)=false:=decide_eq_false (by omega);have d2:decide ((j:Int)<i)=false:=decide_eq_false (by omega);have d3:decide ((N:Int)<j)=false:=decide_eq_false (by omega);have d2n:decide (j<i)=false:=decide_eq_false (by omega);have d3n:decide (N<j)=false:=decide_eq_false (by omega);go_enter Tryz.func48,Tryz.ntmps48;go_upto_region 1 with fail
 rw [HW.out];go_wp2_with fail;have hsn:=z2x a c b N W1 (by have:=HX.out.rd;rw [HLEN.out] at this;exact this) (by have:=HLEN.out;omega) (by omega) (by omega);rw [←HLEN.out,HSND.out] at hsn;refine hsn.mono ?_;rintro e w2 ⟨rfl,hb2⟩;obtain ⟨y0,y1⟩:=hcl.out w2 hb2;have HQ:=z7 (y9T hb2);clear hsn x0 x1;obtain ⟨q,hq⟩:∃q,q=w2.heap.size:=⟨_,rfl⟩;rw [←hq] at HQ;have HQE:=z7 hq;clear hq hb2;go_wp2_with fail;rw [←HQE.out];clear y0 y1;go_loopw [1] (fun fv wr=>∃p:Nat,fv= .int .i64 (p:Nat)∧i≤p∧p≤j∧Hid (z2U W1 [] wr q ((l.drop i).take (p - i)))) (fun fv _=>match fv with | .int _ x=>j - x.toNat | _=>0)
 case atStart=>exact ⟨i,rfl,Nat.le_refl _,hij,by simpa using HQ⟩
 case round=>
  obtain ⟨p,rfl,hp1,hp2,hb⟩:=hrel;clear HQ;by_cases h0:p<j
  ·have d0:(p:Int)<j:=by omega
   obtain ⟨r,hr⟩:∃r,r=j - p:=⟨_,rfl⟩;obtain ⟨m,hm⟩:∃m,m=min r 8:=⟨_,rfl⟩;have hm8:m≤8:=by omega
   have hm0:0<m:=by omega
   have hmj:p+m≤j:=by omega
   have hwj:IntKind.i64.wrap ((j:Int) - p)=(r:Int):=by rw [z0n (by omega) (by omega)];omega
   obtain ⟨p',hp'⟩:∃p',p'=p+m:=⟨_,rfl⟩;have hp'l:p<p'∧p'≤j∧i≤p':=by omega
   have hwi:IntKind.i64.wrap ((p:Int)+m)=(p':Int):=by rw [z0n (by omega) (by omega)];omega
   obtain ⟨y0,y1⟩:=hcl.out wr hb.out.low;obtain ⟨y,hy⟩:∃y,y=z5b l p:=⟨_,rfl⟩;have hy8:y<256:=by rw [hy];exact (z3H l p).1
   have hat:Hid (∀w',Below W1.heap.size W1 w'→Calls Tryz.prog 101 #[.agg #[.slice a n c, .int .i64 (N:Nat)], .int .i64 (p:Nat)] w' fun e w''=>e= .returned (.int .u8 (y:Nat))∧Below w'.heap.size w' w''):=z7 fun w' hw'=>by
    have:=y2q a n c l b p w' (HX.out.low hw') (by have:=HN.out;omega) (by have:=HN.out;omega);rw [←HN.out,←hy] at this;exact this
   have hfin:Hid (∀w',z2U W1 [] w' q ((l.drop i).take (p - i)++z5h y m)→z2U W1 [] w' q ((l.drop i).take (p' - i))):=z7 fun w' h=>by
    have e:l.drop p=(l.drop i).drop (p - i):=by rw [List.drop_drop];congr 1;omega
    rw [hy,y1Q hm8 (by have:=HN.out;omega),e,←List.take_add,show p - i+m=p' - i by omega] at h;exact h
   have hll:((l.drop i).take (p - i)).length≤1099511627776:=by simp;have:=HN.out;omega
   have HM:=z7 hm;have HR:=z7 hr;obtain ⟨l',hl'⟩:∃l',l'=(l.drop i).take (p - i):=⟨_,rfl⟩;rw [←hl'] at hfin hll hb;clear hy hl' hr hp';by_cases h8:r≤8
   ·obtain rfl:m=r:=by omega
    have h8':(m:Int)≤8:=by omega
    clear hm;go_wp2_with fail;refine (hat.out wr hb.out.low).mono ?_;rintro e w3 ⟨rfl,hb3⟩;have HB3:=z7 (z2U.then hb.out hb3);clear hb3 y0 y1;go_wp2_with fail;refine (z8U q y m l' W1 [] w3 HB3.out hy8 hm8 hll).mono ?_;rintro e w4 ⟨rfl,h4⟩;have HF:=z7 (hfin.out w4 h4);clear h4;go_wp2;exact ⟨⟨p',rfl,hp'l.2.2,hp'l.2.1,HF⟩,by show j - (p':Int).toNat<j - (p:Int).toNat;omega⟩
   ·obtain rfl:m=8:=by omega
    have h8':decide ((r:Int)≤8)=false:=decide_eq_false (by omega);have hwi8:IntKind.i64.wrap ((p:Int)+8)=(p':Int):=by simpa using hwi
    clear hm;go_wp2_with fail;refine (hat.out wr hb.out.low).mono ?_;rintro e w3 ⟨rfl,hb3⟩;have HB3:=z7 (z2U.then hb.out hb3);clear hb3 y0 y1;go_wp2_with fail;refine (z8U q y 8 l' W1 [] w3 HB3.out hy8 hm8 hll).mono ?_;rintro e w4 ⟨rfl,h4⟩;have HF:=z7 (hfin.out w4 h4);clear h4;go_wp2;exact ⟨⟨p',rfl,hp'l.2.2,hp'l.2.1,HF⟩,by show j - (p':Int).toNat<j - (p:Int).toNat;omega⟩
  ·have d0:decide ((p:Int)<j)=false:=decide_eq_false (by omega);obtain rfl:p=j:=by omega
   obtain ⟨a4,m4,c4,b4,h4⟩:=hb.out;have H4:=z7 h4;obtain ⟨c0,c1,cf⟩:=h4.cells wr rfl;have hg4:=(h4.low.block (w.heap.size+1) (by have:=HS.out;omega)).trans HG2.out;have e0:wr.cell? ⟨w.heap.size+1,0,none⟩=some (.slice none 0 0):=by simp [World.cell?,hg4]
   have e1:wr.cell? ⟨w.heap.size+1,1,none⟩=some (.int .i64 0):=by simp [World.cell?,hg4]
   have ef:∀j,wr.frozen? ⟨w.heap.size+1,j,none⟩=false:=by simp [World.frozen?,hg4]
   obtain ⟨l',hl'⟩:∃l',l'=(l.drop i).take (p - i):=⟨_,rfl⟩;rw [←hl'] at c1 H4;have HLE:=z7 hl';clear h4 hb hg4 hl';go_wp2_with fail;change bodyPost Tryz.prog Tryz.f48 _ .ret _ _;rw [←HLE.out];exact y9i (r:=w.heap.size+1) (fn:=Tryz.f48) (t:=6) (u:=7) H4.out HBW.out (by omega) (by have:=HS.out;omega) HG2.out rfl rfl rfl
end Go.Proofs.YtfcnapnopdomhaaGreatDoor

/-
  A block of a call's own written whole, or from a place on; rows that lie elsewhere stay.
-/
import Derived.Test.YtfcnapnopdomhaaGreatDoorZXoF
namespace Go.Proofs.YtfcnapnopdomhaaGreatDoor
set_option linter.unusedSimpArgs false
set_option linter.unusedVariables false
set_option maxRecDepth 100000
set_option maxHeartbeats 12800000
open Go.RowKit
theorem z0x{w:World}{base e size n b j:Nat}{v u:Value}{xs:List Value}(h:w.ownsRow base e size v n xs)(hb:b<base):(w.setCell ⟨b,j,none⟩ u).ownsRow base e size v n xs:=
 j7 h fun q hq=>q7 (by have:=(h.lt q hq).1;omega)
theorem z1f{α:Type}(l:List α)(i:Nat)(a b:α):(l.set i a).set i b=l.set i b:=by simp
theorem z3Z{K:List (Nat×Obj)}{i b:Nat}{o o':Obj}(hi:K[i]? =some (b,o)):(K.set i (b,o'))[i]? =some (b,o'):=List.getElem?_set_self (List.getElem?_eq_some_iff.1 hi).1
theorem Loc.set2{w0 w:World}{K:List (Nat×Obj)}(h:Loc w0 K w)(i:Nat){b:Nat}{t:TypeId}{fr:Nat×Nat}{y0 y1:Value}(hi:K[i]? =some (b, .cells #[y0,y1] t fr))(x0 x1:Value):
  Loc w0 (K.set i (b, .cells #[x0,x1] t fr)) ((w.setCell ⟨b,0,none⟩ x0).setCell ⟨b,1,none⟩ x1):=by
 have h0:=h.set i hi 0 x0;have h1:=h0.set i (z3Z hi) 1 x1;rw [z1f] at h1;simpa using h1
theorem z4L{w:World}{base e size n b:Nat}{v x0 x1:Value}{xs:List Value}(h:w.ownsRow base e size v n xs)(hb:b<base):((w.setCell ⟨b,0,none⟩ x0).setCell ⟨b,1,none⟩ x1).ownsRow base e size v n xs:=z0x (z0x h hb) hb
theorem Loc.set3{w0 w:World}{K:List (Nat×Obj)}(h:Loc w0 K w)(i:Nat){b:Nat}{t:TypeId}{fr:Nat×Nat}{y0 y1 y2:Value}(hi:K[i]? =some (b, .cells #[y0,y1,y2] t fr))(x0 x1 x2:Value):
  Loc w0 (K.set i (b, .cells #[x0,x1,x2] t fr)) (((w.setCell ⟨b,0,none⟩ x0).setCell ⟨b,1,none⟩ x1).setCell ⟨b,2,none⟩ x2):=by
 have h0:=h.set i hi 0 x0;have h1:=h0.set i (z3Z hi) 1 x1;rw [z1f] at h1;have h2:=h1.set i (z3Z hi) 2 x2;rw [z1f] at h2;simpa using h2
theorem Loc.set7{w0 w:World}{K:List (Nat×Obj)}(h:Loc w0 K w)(i:Nat){b:Nat}{t:TypeId}{fr:Nat×Nat}{y0 y1 y2 y3 y4 y5 y6:Value}(hi:K[i]? =some (b, .cells #[y0,y1,y2,y3,y4,y5,y6] t fr))(x0 x1 x2 x3 x4 x5 x6:Value):
  Loc w0 (K.set i (b, .cells #[x0,x1,x2,x3,x4,x5,x6] t fr)) (((((((w.setCell ⟨b,0,none⟩ x0).setCell ⟨b,1,none⟩ x1).setCell ⟨b,2,none⟩ x2).setCell ⟨b,3,none⟩ x3).setCell ⟨b,4,none⟩ x4).setCell ⟨b,5,none⟩ x5).setCell ⟨b,6,none⟩ x6):=by
 have h0:=h.set i hi 0 x0;have h1:=h0.set i (z3Z hi) 1 x1;rw [z1f] at h1;have h2:=h1.set i (z3Z hi) 2 x2;rw [z1f] at h2;have h3:=h2.set i (z3Z hi) 3 x3;rw [z1f] at h3;have h4:=h3.set i (z3Z hi) 4 x4;rw [z1f] at h4;have h5:=h4.set i (z3Z hi) 5 x5;rw [z1f] at h5;have h6:=h5.set i (z3Z hi) 6 x6;rw [z1f] at h6;simpa using h6
theorem z4K{w:World}{base e size n b:Nat}{v x0 x1 x2 x3 x4 x5 x6:Value}{xs:List Value}(h:w.ownsRow base e size v n xs)(hb:b<base):(((((((w.setCell ⟨b,0,none⟩ x0).setCell ⟨b,1,none⟩ x1).setCell ⟨b,2,none⟩ x2).setCell ⟨b,3,none⟩ x3).setCell ⟨b,4,none⟩ x4).setCell ⟨b,5,none⟩ x5).setCell ⟨b,6,none⟩ x6).ownsRow base e size v n xs:=z0x (z0x (z0x (z0x (z0x (z0x (z0x h hb) hb) hb) hb) hb) hb) hb
theorem Loc.set7_3_4{w0 w:World}{K:List (Nat×Obj)}(h:Loc w0 K w)(i:Nat){b:Nat}{t:TypeId}{fr:Nat×Nat}{y0 y1 y2 y3 y4 y5 y6:Value}(hi:K[i]? =some (b, .cells #[y0,y1,y2,y3,y4,y5,y6] t fr))(x0 x1 x2 x3:Value):
  Loc w0 (K.set i (b, .cells #[y0,y1,y2,x0,x1,x2,x3] t fr)) ((((w.setCell ⟨b,3,none⟩ x0).setCell ⟨b,4,none⟩ x1).setCell ⟨b,5,none⟩ x2).setCell ⟨b,6,none⟩ x3):=by
 have h0:=h.set i hi 3 x0;have h1:=h0.set i (z3Z hi) 4 x1;rw [z1f] at h1;have h2:=h1.set i (z3Z hi) 5 x2;rw [z1f] at h2;have h3:=h2.set i (z3Z hi) 6 x3;rw [z1f] at h3;simpa using h3
theorem z5S{w:World}{base e size n b:Nat}{v x0 x1 x2 x3:Value}{xs:List Value}(h:w.ownsRow base e size v n xs)(hb:b<base):((((w.setCell ⟨b,3,none⟩ x0).setCell ⟨b,4,none⟩ x1).setCell ⟨b,5,none⟩ x2).setCell ⟨b,6,none⟩ x3).ownsRow base e size v n xs:=z0x (z0x (z0x (z0x h hb) hb) hb) hb
theorem y6b(n low high:Int)(w:World):
  Calls Tryz.prog 85 #[.int .i64 n, .int .i64 low, .int .i64 high] w fun e w'=>e= .returned (.bool (decide (low≤n)&&decide (n≤high)))∧w'=w:=by
 cases h1:decide (low≤n) with
 | false=>
  go_enter Tryz.func85,Tryz.ntmps85;go_wp2;go_ret;exact ⟨rfl,rfl⟩
 | true=>
  cases h2:decide (n≤high) with
  | false=>
   go_enter Tryz.func85,Tryz.ntmps85;go_wp2;go_ret;exact ⟨rfl,rfl⟩
  | true=>
   go_enter Tryz.func85,Tryz.ntmps85;go_wp2;go_ret;exact ⟨rfl,rfl⟩
structure y5z (s b c wi t d:Int):Prop where
 s:1≤s∧s≤64
 b:1≤b∧b≤1073741824
 c:1≤c∧c≤24
 w:1≤wi∧wi≤1048576
 t:1≤t∧t≤1000
 d:0≤d∧d≤1048576
theorem z9b{n low high:Int}(h:low≤n∧n≤high)(w:World):Calls Tryz.prog 85 #[.int .i64 n, .int .i64 low, .int .i64 high] w fun e w'=>e= .returned (.bool true)∧w'=w:=by
 refine (y6b n low high w).mono ?_;rintro e w' ⟨rfl,rfl⟩;rw [decide_eq_true h.1,decide_eq_true h.2];exact ⟨rfl,rfl⟩
theorem q0U(s b c wi t d:Int)(h:y5z s b c wi t d)(w:World):
  Calls Tryz.prog 39 #[.agg #[.int .i64 s, .int .i64 b, .int .i64 c, .int .i64 wi, .int .i64 t, .int .i64 d]] w fun e w'=>e= .returned (.bool true)∧Below w.heap.size w w':=by
 have HB:=z7 (q5 w (.cells #[.int .i64 s, .int .i64 b, .int .i64 c, .int .i64 wi, .int .i64 t, .int .i64 d] 30));have Y1:=z7 (z9b h.s);have Y2:=z7 (z9b h.b);have Y3:=z7 (z9b h.c);have Y4:=z7 (z9b h.w);have Y5:=z7 (z9b h.t);have Y6:=z7 (z9b h.d);clear h;go_enter Tryz.func39,Tryz.ntmps39;go_wp2_with fail;refine (Y1.out _).mono ?_;rintro e w1 ⟨rfl,rfl⟩;go_wp2_with fail;refine (Y2.out _).mono ?_;rintro e w1 ⟨rfl,rfl⟩;go_wp2_with fail;refine (Y3.out _).mono ?_;rintro e w1 ⟨rfl,rfl⟩;go_wp2_with fail;refine (Y4.out _).mono ?_;rintro e w1 ⟨rfl,rfl⟩;go_wp2_with fail;refine (Y5.out _).mono ?_;rintro e w1 ⟨rfl,rfl⟩;go_wp2_with fail;refine (Y6.out _).mono ?_;rintro e w1 ⟨rfl,rfl⟩;go_wp2;go_ret;exact ⟨rfl,HB.out⟩
theorem y9k(series ck pb pc cnt:Nat)(closed:Bool)(a:Option Addr)(n c:Nat)(l:List Bool)(b:List UInt8)(w:World)(h:z0o w a n c l b)(hl:l.length≤549755813888):
  Calls Tryz.prog 94 #[.agg #[.int .u8 4, .int .u32 0, .int .u32 (series:Nat), .int .i64 0, .int .u64 0, .int .u32 (ck:Nat), .int .u32 (pb:Nat), .int .u32 (pc:Nat), .int .u32 (cnt:Nat), .bool closed, .slice a n c, .int .i64 l.length]] w fun e w'=>e= .returned (.bool (decide (pc<cnt∧0<l.length∧n≤500)))∧Below w.heap.size w w':=by
 obtain ⟨N,hN⟩:∃N,N=l.length:=⟨_,rfl⟩;rw [←hN];have HSB:=z7 (z2s h.bits);have HLEN:=z7 h.len;have hnl:n≤70368744177665:=by have:=h.bits.len;have:=h.len;omega
 have hNl:N≤549755813888:=by omega
 have H:=z7 h;have HN:=z7 hN;clear h hN hl;have HL0:=z7 (((Loc.start w).new (.cells #[.int .u8 4, .int .u32 0, .int .u32 (series:Nat), .int .i64 0, .int .u64 0, .int .u32 (ck:Nat), .int .u32 (pb:Nat), .int .u32 (pc:Nat), .int .u32 (cnt:Nat), .bool closed, .slice a n c, .int .i64 (N:Nat)] 125)).new' (.cells #[.int .i64 0, .int .u64 0] 113) (n:=w.heap.size+1) (by simp));by_cases h1:pc<cnt
 ·have d1:decide ((pc:Int)<cnt)=true:=decide_eq_true (by omega);have n1:decide (pc<cnt)=true:=decide_eq_true h1;by_cases h2:0<N
  ·have d2:decide ((0:Int)<N)=true:=decide_eq_true (by omega);have n2:decide (0<N)=true:=decide_eq_true h2;by_cases h3:n≤500
   ·have d3:decide ((n:Int)≤500)=true:=decide_eq_true (by omega);have n3:decide (n≤500)=true:=decide_eq_true h3;have hr:decide (pc<cnt∧0<N∧n≤500)=true:=decide_eq_true ⟨h1,h2,h3⟩;rw [hr];clear hr h1 h2 h3;go_enter Tryz.func94,Tryz.ntmps94;go_wp2_with fail;have hsn:=z2x a c b N _ (by have:=(H.out.low HL0.out.low).rd;rw [HLEN.out] at this;exact this) (by have:=HLEN.out;omega) (by omega) (by omega);rw [←HLEN.out,HN.out,HSB.out,←HN.out] at hsn;refine hsn.mono ?_;rintro e w2 ⟨rfl,hb2⟩;have HL2:=z7 (HL0.out.call hb2);clear hb2 hsn;go_wp2;go_ret;exact ⟨rfl,HL2.out.low⟩
   ·have d3:decide ((n:Int)≤500)=false:=decide_eq_false (by omega);have n3:decide (n≤500)=false:=decide_eq_false h3;have hr:decide (pc<cnt∧0<N∧n≤500)=false:=decide_eq_false (by omega);rw [hr];clear hr h1 h2 h3;go_enter Tryz.func94,Tryz.ntmps94;go_wp2;go_ret;exact ⟨rfl,HL0.out.low⟩
  ·have d2:decide ((0:Int)<N)=false:=decide_eq_false (by omega);have n2:decide (0<N)=false:=decide_eq_false h2;have hr:decide (pc<cnt∧0<N∧n≤500)=false:=decide_eq_false (by omega);rw [hr];clear hr h1 h2;go_enter Tryz.func94,Tryz.ntmps94;go_wp2;go_ret;exact ⟨rfl,HL0.out.low⟩
 ·have d1:decide ((pc:Int)<cnt)=false:=decide_eq_false (by omega);have n1:decide (pc<cnt)=false:=decide_eq_false h1;have hr:decide (pc<cnt∧0<N∧n≤500)=false:=decide_eq_false (by omega);rw [hr];clear hr h1;go_enter Tryz.func94,Tryz.ntmps94;go_wp2;go_ret;exact ⟨rfl,HL0.out.low⟩
def beN(n width:Nat):List UInt8:=(List.range width).map fun j=>UInt8.ofNat (n/2^(8*(width - 1 - j)))
theorem z3i(n width:Nat):(beN n width).length=width:=by simp [beN]
theorem y8H{n W k:Nat}(hk:k<W):(beN n W).take (W - k)=(beN n W).take (W - (k+1))++ [UInt8.ofNat (n/2^(8*k))]:=by
 rw [show W - k=W - (k+1)+1 by omega,List.take_add_one]
 congr 1
 unfold beN;rw [List.getElem?_map,List.getElem?_range (by omega)];simp only [Option.map_some,Option.toList_some];rw [show W - 1 - (W - (k+1))=k by omega]
structure q3P (w0:World) (K:List (Nat×Obj)) (w:World) (q:Nat) (bs:List UInt8) (a:Option Addr) (m c:Nat):Prop where
 blk:w.heap[q]? =some (.cells #[.slice a m c] 266 (0,0))
 row:w.ownsRow w0.heap.size 5 1 (.slice a m c) m (z0b bs)
 len:m=bs.length
 far:(Value.slice a m c).ownBlock≠some q
 up:w0.heap.size≤q
 low:Below w0.heap.size w0 w
 kept:∀p∈K,w.heap[p.1]? =some p.2∧p.1≠q∧(Value.slice a m c).ownBlock≠some p.1
def y1l(w0:World)(K:List (Nat×Obj))(w:World)(q:Nat)(bs:List UInt8):Prop:=∃a m c,q3P w0 K w q bs a m c
theorem z5I(q n W:Nat)(bs:List UInt8)(w0:World)(K:List (Nat×Obj))(w:World)(h:y1l w0 K w q bs)(hn:n<18446744073709551616)(hW:W≤8)(hl:bs.length≤1000000):
  Calls Tryz.prog 145 #[.pointer (some ⟨q,0,none⟩), .int .u64 (n:Nat), .int .i64 (W:Nat)] w fun e w'=>e= .returned (.tuple #[])∧y1l w0 K w' q (bs++beN n W):=by
 obtain ⟨i0,hi0,hz0,hz1,hz2⟩:=info_parts z8l;have H:=z7 h;clear h;go_enter Tryz.func145,Tryz.ntmps145;go_wp2_with fail;go_loopw [2] (fun kv wr=>∃k:Nat,kv= .int .i64 (k:Nat)∧k≤W∧Hid (y1l w0 K wr q (bs++(beN n W).take (W - k)))) (fun kv _=>match kv with | .int _ x=>x.toNat | _=>0)
 case atStart=>exact ⟨W,rfl,Nat.le_refl _,by simpa using H⟩
 case round=>
  obtain ⟨k,rfl,hk,hat⟩:=hrel;clear H;by_cases h0:k=0
  ·subst h0;have HF:Hid (y1l w0 K wr q (bs++beN n W)):=z7 (by
    have:=hat.out
    rwa [Nat.sub_zero,List.take_of_length_le (by rw [z3i];exact Nat.le_refl _)] at this)
   go_wp2
   go_end0
   exact ⟨rfl,HF.out⟩
  ·have d0:decide ((0:Int)<k)=true:=decide_eq_true (by omega);have n0:decide (0<k)=true:=decide_eq_true (by omega);obtain ⟨k',hk'⟩:∃k',k=k'+1:=⟨k - 1,by omega⟩;have hwk:IntKind.i64.wrap ((k:Int) - 1)=(k':Int):=by rw [z0n (by omega) (by omega)];omega
   obtain ⟨S,hS⟩:∃S,S=8*k':=⟨_,rfl⟩;have hwS:IntKind.i64.wrap (8*(k':Int))=(S:Int):=by rw [z0n (by omega) (by omega)];omega
   have hS64:S≤64:=by omega
   obtain ⟨V,hV⟩:∃V,V=n/2^S:=⟨_,rfl⟩;have hV1:(n:Int)/2^S=(V:Int):=by rw [hV];simp
   obtain ⟨y,hy⟩:∃y,y=V%256:=⟨_,rfl⟩;have hy8:y<256:=by omega
   have hy1:(V:Int)%256=(y:Int):=by omega
   have hy2:IntKind.u8.wrap (V:Int)=(y:Int):=by rw [IntKind.wrap_u8];exact hy1
   have htk:Hid ((beN n W).take (W - k')=(beN n W).take (W - k)++ [UInt8.ofNat y]):=z7 (by
    have h1:=y8H (n:=n) (W:=W) (k:=k') (by omega);have hob:UInt8.ofNat V=UInt8.ofNat (V%256):=by apply UInt8.toNat_inj.1;simp
    rw [h1,hk',←hS,←hV,hob,hy])
   obtain ⟨cs,hcs⟩:∃cs,cs=bs++(beN n W).take (W - k):=⟨_,rfl⟩;have hcl:cs.length≤1000008:=by rw [hcs];simp [z3i];omega
   rw [←hcs] at hat;have HCS:=z7 hcs;obtain ⟨a,m,c,hin⟩:=hat.out;have HIN:=z7 hin;have hml:m≤1000008:=by have:=hin.len;omega
   have hqlt:=(Array.getElem?_eq_some_iff.1 hin.blk).1;have hsz:=hin.low.size;have hcell:Hid (∀w',wr.grownBy w' (Value.slice a m c).ownBlock→w'.heap[q]? =some (.cells #[.slice a m c] 266 (0,0))):=z7 fun w' hg=>(hg.block q hqlt (fun e=>HIN.out.far e.symm)).trans HIN.out.blk;have hms:k'<k∧k'≤W:=by omega
   obtain ⟨x0,xf,xl⟩:=z0t hin.blk;have HY1:=z7 hy1;have HY2:=z7 hy2;clear hin hcs hS hV hy hat hk';go_wp2_with fail;clear x0 xf;refine q6 14 24 (by kernel_rfl) (by kernel_rfl) rfl (by kernel_rfl) (fun D v w'=>z6a w0.heap.size 5 1 10 11 wr (.slice a m c) m (z0b cs) [.int .u8 (y:Int)] D v w') (fun _=>undef) (z6a.start HIN.out.row) ?_;simp only [List.take_succ_cons,List.take_zero,List.drop_succ_cons,List.drop_zero];iterate 10 (refine q8.read (e:=?_) (fun v=>by rfl) (fun D v w h=>h.read _ (by omega) (by omega)) (fun D v w' hD hS=>?_) ?_;rotate_left;(obtain ⟨x0,xf,xl⟩:=z0t (hcell.out w' hS.g);clear hS hD;first | (go_simp;done) | (go_simp;with_reducible rfl));go_simp)
   refine q8.rel (fun v=>by rfl) (fun D v w' hD hS=>?_) ?_
   ·have dj:D 11=false:=hD.post 11 _ rfl (by kernel_rfl);have HS3:=z7 (z6a.made (cs:= #[.int .u8 (y:Int)]) (e:=5) (by decide) hS dj rfl);clear hS hD;go_simp;exact HS3.out
   go_simp;refine q8.rel (fun v=>by rfl) (fun D v w' hD hS=>?_) ?_
   ·have di:D 10=true:=hD.pre 10 (by kernel_rfl);obtain ⟨g',h9,hrd,hge⟩:=hS.s di;have hq:=z7 (hS.q hD.self);have hsz:=hS.g.size;have HS3:=z7 hS;rw [h9] at hrd;have HRD:=z7 hrd;rw [h9];clear hS hD h9;refine z3o _ _ 46 rfl w0.heap.size 5 i0 (.int .u8 0) 1 1 Tryz.underlying46 hi0 hz0 hz1 hz2 rfl (by decide) _ m (z0b cs) rfl hq.out _ 1 [.int .u8 (y:Int)] rfl HRD.out (by simp [Value.oneCell']) (by unfold maxLen;omega) (by omega) (by omega) ?_;intro v' w'' h1 h2 h3 h4;exact ⟨v',rfl,z6a.appended (by decide) HS3.out di HIN.out.row h1 h2 h4,trivial⟩
   go_simp;iterate 2 (refine q8.read (e:=?_) (fun v=>by rfl) (fun D v w h=>h.read _ (by omega) (by omega)) (fun D v w' hD hS=>?_) ?_;rotate_left;(obtain ⟨x0,xf,xl⟩:=z0t (hcell.out w' hS.g);clear hS hD;first | (go_simp;done) | (go_simp;with_reducible rfl));go_simp)
   refine q8.fin (fun v w7 hS=>?_);obtain ⟨-,a7,c7,h7,hrow7,hblk7⟩:=hS.a rfl;rw [h7] at hrow7 hblk7 ⊢;have hq7:=hcell.out w7 hS.g;have hfin:Hid (y1l w0 K (w7.setCell ⟨q,0,none⟩ (.slice a7 (m+1) c7)) q (bs++(beN n W).take (W - k'))):=z7 (by
    have hne:∀j,(Value.slice a7 (m+1) c7).ownBlock=some j→(some j=(Value.slice a m c).ownBlock∨wr.heap.size≤j):=fun j hj=>by
     rcases hblk7 with e | ⟨g,e,hg⟩
     ·exact .inl (by rw [←e];exact hj.symm)
     ·rw [hj] at e;simp only [Option.some.injEq] at e;exact .inr (by omega)
    have hnq:∀j,(Value.slice a7 (m+1) c7).ownBlock=some j→j≠q:=fun j hj e=>by
     rcases hne j hj with e1 | e1
     ·exact HIN.out.far (by rw [←e1,e])
     ·omega
    refine ⟨a7,m+1,c7,?_,?_,?_,fun e=>hnq q e rfl,HIN.out.up,?_,fun p hp=>?_⟩
    ·have:=j9 hq7 0 (.slice a7 (m+1) c7);simpa using this
    ·rw [htk.out,←List.append_assoc,←HCS.out];have e:z0b (cs++ [UInt8.ofNat y])=z0b cs++ [.int .u8 (y:Int)]:=by rw [z2X,y5s y hy8]
     rw [e];exact j7 hrow7 fun j hj=>q7 (hnq j hj)
    ·rw [htk.out,←List.append_assoc,←HCS.out,List.length_append,HIN.out.len];rfl
    ·exact ((HIN.out.low).grown hS.g HIN.out.low.size (fun j hj=>(HIN.out.row.lt j hj).1)).setCell HIN.out.up _
    ·obtain ⟨k1,k2,k3⟩:=HIN.out.kept p hp;have k4:=(Array.getElem?_eq_some_iff.1 k1).1;refine ⟨(q7 k2).trans ((hS.g.block p.1 k4 (fun e=>k3 e.symm)).trans k1),k2,fun e=>?_⟩;rcases hne _ e with e1 | e1
     ·exact k3 e1.symm
     ·omega)
   obtain ⟨x0,xf,xl⟩:=z0t hq7;clear hS h7 hrow7 hblk7 hq7;go_wp2;exact ⟨⟨k',rfl,hms.2,hfin⟩,by show (k':Int).toNat<(k:Int).toNat;omega⟩
def q0l(xs:List Nat):Array Value:=(xs.map fun x=>Value.int .u32 (x:Nat)).toArray
def z7V(xs:List Nat):List UInt8:=xs.flatMap fun x=>beN x 4
theorem y7m{xs:List Nat}{k x:Nat}(h:xs[k]? =some x):z7V (xs.take (k+1))=z7V (xs.take k)++beN x 4:=by
 unfold z7V;rw [List.take_add_one,h];simp
theorem z2E(xs:List Nat):(z7V xs).length=4*xs.length:=by
 induction xs with
 | nil=>rfl
 | cons x xs ih=>
  unfold z7V at ih ⊢;rw [List.flatMap_cons,List.length_append,ih,z3i,List.length_cons];omega
theorem y5q(q g:Nat)(xs:List Nat)(bs:List UInt8)(w0:World)(K:List (Nat×Obj))(w:World)(h:y1l w0 K w q bs)(hg:(g, .cells (q0l xs) 37 (0,0))∈K)(hx:∀x∈xs,x<4294967296)(hn:xs.length≤100)(hl:bs.length≤10000):
  Calls Tryz.prog 144 #[.pointer (some ⟨q,0,none⟩), .slice (some ⟨g,0,none⟩) xs.length xs.length] w fun e w'=>e= .returned (.tuple #[])∧y1l w0 K w' q (bs++z7V xs):=by
 obtain ⟨n,hnn⟩:∃n,n=xs.length:=⟨_,rfl⟩;rw [←hnn];have H:=z7 h;have HX:=z7 hx;have HG:=z7 hg;have HNN:=z7 hnn;have hn100:n≤100:=by omega
 clear h hx hg hnn hn;go_enter Tryz.func144,Tryz.ntmps144;go_wp2_with fail;go_loopw [8] (fun kv wr=>∃k:Nat,kv= .int .i64 (k:Nat)∧k≤n∧Hid (y1l w0 K wr q (bs++z7V (xs.take k)))) (fun kv _=>match kv with | .int _ x=>n - x.toNat | _=>0)
 case atStart=>exact ⟨0,rfl,Nat.zero_le _,by simpa [z7V] using H⟩
 case round=>
  obtain ⟨k,rfl,hk,hat⟩:=hrel;clear H;by_cases hkn:k<n
  ·have d0:decide ((k:Int)<n)=true:=decide_eq_true (by omega);have n0:decide (k<n)=true:=decide_eq_true hkn;have hkl:k<xs.length:=by have:=HNN.out;omega
   obtain ⟨x,hxk⟩:∃x,xs[k]? =some x:=⟨_,List.getElem?_eq_getElem hkl⟩;have hx32:x<4294967296:=HX.out x (List.mem_of_getElem? hxk);have hgc:wr.cell? ⟨g,k,none⟩=some (.int .u32 (x:Nat)):=by
    obtain ⟨a,m,c,hin⟩:=hat.out;have hb:=(hin.kept _ HG.out).1;rw [cell_of_row wr g k _ _ (0,0) hb];simp [q0l,hxk]
   have hxu:IntKind.u64.wrap (x:Int)=(x:Int):=by rw [IntKind.wrap_u64];omega
   have hwk:IntKind.i64.wrap ((k:Int)+1)=((k+1:Nat):Int):=z0n (by omega) (by omega);obtain ⟨k',hk'⟩:∃k',k'=k+1:=⟨_,rfl⟩;rw [←hk'] at hwk;have htk:Hid (bs++z7V (xs.take k')=(bs++z7V (xs.take k))++beN x 4):=z7 (by rw [hk',y7m hxk,List.append_assoc]);have HNB:=z7 (z5I q x 4 (bs++z7V (xs.take k)) w0 K wr hat.out (by omega) (by decide) (by rw [List.length_append,z2E,List.length_take];omega));have hms:k'≤n∧k<k':=by omega
   clear hk' hxk hkl;go_wp2_with fail;refine HNB.out.mono ?_;rintro e w2 ⟨rfl,hat2⟩;rw [←htk.out] at hat2;have HAT2:=z7 hat2;clear hat2 hgc;go_wp2;exact ⟨⟨k',rfl,hms.1,HAT2⟩,by show n - (k':Int).toNat<n - (k:Int).toNat;omega⟩
  ·have d0:decide ((k:Int)<n)=false:=decide_eq_false (by omega);have n0:decide (k<n)=false:=decide_eq_false hkn;have HF:Hid (y1l w0 K wr q (bs++z7V xs)):=z7 (by
    have:=hat.out
    rwa [List.take_of_length_le (by have:=HNN.out;omega)] at this)
   go_wp2
   go_end0
   exact ⟨rfl,HF.out⟩
structure ApN (B:Nat) (w0:World) (ov:Value) (n m:Nat) (xs ys:List Value) (j:Nat) (D:Nat→Bool) (v:Nat→Value) (w':World):Prop where
 g:w0.grownBy w' ov.ownBlock
 q:D j=false→w'.ownsRow B 5 1 ov n xs
 a:D j=true→∃a c,v j= .slice a (n+m) c∧w'.ownsRow B 5 1 (v j) (n+m) (xs++ys)∧((v j).ownBlock=ov.ownBlock∨∃g,(v j).ownBlock=some g∧w0.heap.size≤g)
theorem ApN.start{B n m j:Nat}{w0:World}{ov:Value}{xs ys:List Value}(h:w0.ownsRow B 5 1 ov n xs):ApN B w0 ov n m xs ys j (fun _=>false) (fun _=>undef) w0.drew:=
 ⟨⟨rfl,rfl,rfl,Nat.le_refl _,fun _ _ _=>rfl⟩,fun _=>h,fun h=>by cases h⟩
def z5Z(series ck pb pc cnt:Nat)(closed:Bool)(N:Nat)(b:List UInt8):List UInt8:=
 [4]++z7V [series,ck,pb,pc,cnt]++beN (if closed then 1 else 0) 1++beN N 2++b
theorem y8u(series ck pb pc cnt:Nat)(closed:Bool)(a:Option Addr)(n c:Nat)(l:List Bool)(b:List UInt8)(hs:series<4294967296)(hck:ck<4294967296)(hpb:pb<4294967296)(hpc:pc<4294967296)(hcnt:cnt<4294967296)(hm:pc<cnt∧0<l.length∧n≤500)(w:World)(h:z0o w a n c l b):
  Calls Tryz.prog 76 #[.agg #[.int .u8 4, .int .u32 0, .int .u32 (series:Nat), .int .i64 0, .int .u64 0, .int .u32 (ck:Nat), .int .u32 (pb:Nat), .int .u32 (pc:Nat), .int .u32 (cnt:Nat), .bool closed, .slice a n c, .int .i64 l.length]] w fun e w'=>
   ∃a' m' c',e= .returned (.tuple #[.slice a' m' c', .int .u16 0])∧w'.ownsRow w.heap.size 5 1 (.slice a' m' c') m' (z0b (z5Z series ck pb pc cnt closed l.length b))∧m'=(z5Z series ck pb pc cnt closed l.length b).length∧Below w.heap.size w w':=by
 obtain ⟨i0,hi0,hz0,hz1,hz2⟩:=info_parts z8l;have hlen4:l.length≤4000:=by have:=h.bits.len;have:=h.len;omega
 have HMY:=z7 (fun w' (h':z0o w' a n c l b)=>y9k series ck pb pc cnt closed a n c l b w' h' (by omega));rw [decide_eq_true hm] at HMY;obtain ⟨N,hN⟩:∃N,N=l.length:=⟨_,rfl⟩;rw [←hN] at HMY hlen4 ⊢;have hn500:n≤500:=hm.2.2;have H:=z7 h;have HN:=z7 hN;have HL0:=z7 ((Loc.start w).new (.cells #[.int .u8 4, .int .u32 0, .int .u32 (series:Nat), .int .i64 0, .int .u64 0, .int .u32 (ck:Nat), .int .u32 (pb:Nat), .int .u32 (pc:Nat), .int .u32 (cnt:Nat), .bool closed, .slice a n c, .int .i64 (N:Nat)] 125));clear h hN hm;go_enter Tryz.func76,Tryz.ntmps76;go_wp2_with fail;refine (HMY.out _ (H.out.low HL0.out.low)).mono ?_;rintro e w2 ⟨rfl,hb2⟩;have HL2:=z7 (HL0.out.call hb2);clear hb2;have hnc:Hid (∀w':World,w'.heap[w.heap.size]? =w2.heap[w.heap.size]? →w'.cell? ⟨w.heap.size,0,none⟩=some (.int .u8 4)∧w'.cell? ⟨w.heap.size,1,none⟩=some (.int .u32 0)∧w'.cell? ⟨w.heap.size,2,none⟩=some (.int .u32 (series:Nat))∧w'.cell? ⟨w.heap.size,3,none⟩=some (.int .i64 0)∧w'.cell? ⟨w.heap.size,4,none⟩=some (.int .u64 0)∧w'.cell? ⟨w.heap.size,5,none⟩=some (.int .u32 (ck:Nat))∧w'.cell? ⟨w.heap.size,6,none⟩=some (.int .u32 (pb:Nat))∧w'.cell? ⟨w.heap.size,7,none⟩=some (.int .u32 (pc:Nat))∧w'.cell? ⟨w.heap.size,8,none⟩=some (.int .u32 (cnt:Nat))∧w'.cell? ⟨w.heap.size,9,none⟩=some (.bool closed)∧w'.cell? ⟨w.heap.size,10,none⟩=some (.slice a n c)∧w'.cell? ⟨w.heap.size,11,none⟩=some (.int .i64 (N:Nat))):=z7 fun w' e=>by
  have hg:=e.trans (HL2.out.get 0 rfl);refine ⟨?_,?_,?_,?_,?_,?_,?_,?_,?_,?_,?_,?_⟩<;>simp [World.cell?,hg]
 obtain ⟨c0,c1,c2,c3,c4,c5,c6,c7,c8,c9,c10,c11⟩:=hnc.out w2 rfl;have l0:=HL2.out.lt 0 rfl;go_upto_region 5 with fail
 obtain ⟨W3,hW3,hL3⟩:=(((HL2.out.new (.cells #[.int .u8 4] 5)).new' (.cells #[.slice (some ⟨w2.heap.size,0,none⟩) 1 1] 266) (n:=w2.heap.size+1) (by simp)).new' (.cells #[.int .u32 (ck:Nat), .int .u32 (pb:Nat), .int .u32 (pc:Nat)] 42) (n:=w2.heap.size+1+1) (by simp)).named;rw [←hW3];have HL3:=z7 hL3;clear hL3 hW3 c0 c1 c2 c3 c4 c5 c6 c7 c8 c9 c10 c11;obtain ⟨q,hq⟩:∃q,q=w2.heap.size+1:=⟨_,rfl⟩;have hnote:Hid (∀w':World,w'.heap[w.heap.size]? =W3.heap[w.heap.size]? →w'.heap[w.heap.size]? =w2.heap[w.heap.size]?):=z7 fun w' e=>e.trans ((HL3.out.get 3 rfl).trans (HL2.out.get 0 rfl).symm);obtain ⟨c0,c1,c2,c3,c4,c5,c6,c7,c8,c9,c10,c11⟩:=hnc.out W3 (hnote.out W3 rfl);obtain ⟨p0,p1,p2,pf⟩:=cells3 (HL3.out.get 0 rfl);have l1:=HL3.out.lt 3 rfl;have l2:=HL3.out.lt 0 rfl;have l3:=HL3.out.lt 1 rfl;have hNW:Hid (y1l w [(w.heap.size, .cells #[.int .u8 4, .int .u32 0, .int .u32 (series:Nat), .int .i64 0, .int .u64 0, .int .u32 (ck:Nat), .int .u32 (pb:Nat), .int .u32 (pc:Nat), .int .u32 (cnt:Nat), .bool closed, .slice a n c, .int .i64 (N:Nat)] 125 (0,0)),(W3.heap.size, .cells (q0l [series,ck,pb,pc,cnt]) 37 (0,0))] (W3.alloc (.cells (q0l [series,ck,pb,pc,cnt]) 37)) (w2.heap.size+1) [4]):=z7 (by
  have hL4:=HL3.out.new (.cells (q0l [series,ck,pb,pc,cnt]) 37);have hge:=HL3.out.ge 2 rfl;refine ⟨some ⟨w2.heap.size,0,none⟩,1,1,hL4.get 2 rfl,⟨rfl, .inr ⟨w2.heap.size,1, #[.int .u8 4],rfl,hge,hL4.get 3 rfl,Nat.le_refl _,by decide,rfl,rfl⟩⟩,rfl,fun e=>?_,by omega,hL4.low,fun p hp=>?_⟩
  ·simp only [Value.ownBlock,Option.some.injEq] at e;omega
  ·simp only [List.mem_cons,List.not_mem_nil,or_false] at hp;rcases hp with rfl | rfl
   ·exact ⟨hL4.get 4 rfl,by simp only;omega,fun e=>by simp only [Value.ownBlock,Option.some.injEq] at e;omega⟩
   ·exact ⟨hL4.get 0 rfl,by simp only;omega,fun e=>by simp only [Value.ownBlock,Option.some.injEq] at e;omega⟩)
 have hxs:∀x∈ [series,ck,pb,pc,cnt],x<4294967296:=fun x hx=>by
  simp only [List.mem_cons,List.not_mem_nil,or_false] at hx;rcases hx with rfl | rfl | rfl | rfl | rfl<;>assumption
 have HNS:=z7 (y5q (w2.heap.size+1) W3.heap.size [series,ck,pb,pc,cnt] [4] w _ _ hNW.out (by simp) hxs (by simp) (by simp));clear hq hxs;go_wp2_with fail;refine HNS.out.mono ?_;rintro e w5 ⟨rfl,h5⟩;have H5:=z7 h5;obtain ⟨a5,m5,cc5,hin5⟩:=h5;have hk5:=(hin5.kept _ List.mem_cons_self).1;clear c0 c1 c2 c3 c4 c5 c6 c7 c8 c9 c10 c11 p0 p1 p2 pf;obtain ⟨c0,c1,c2,c3,c4,c5,c6,c7,c8,c9,c10,c11⟩:=hnc.out w5 (hk5.trans (HL2.out.get 0 rfl).symm);clear hk5 hin5;have hwN:IntKind.u64.wrap (N:Int)=(N:Int):=by rw [IntKind.wrap_u64];omega
 have hw1:IntKind.u64.wrap 1=1:=by rw [IntKind.wrap_u64];rfl
 cases closed with
 | true=>
  have HN1:=z7 (z5I (w2.heap.size+1) 1 1 _ w _ w5 H5.out (by decide) (by decide) (by simp [z2E]));go_wp2_with fail;refine HN1.out.mono ?_;rintro e w6 ⟨rfl,h6⟩;have H6:=z7 h6;obtain ⟨a6,m6,cc6,hin6⟩:=h6;have hk6:=(hin6.kept _ List.mem_cons_self).1;clear c0 c1 c2 c3 c4 c5 c6 c7 c8 c9 c10 c11 hin6;obtain ⟨c0,c1,c2,c3,c4,c5,c6,c7,c8,c9,c10,c11⟩:=hnc.out w6 (hk6.trans (HL2.out.get 0 rfl).symm);have HN2:=z7 (z5I (w2.heap.size+1) N 2 _ w _ w6 H6.out (by omega) (by decide) (by simp [z2E,z3i]));clear hk6;go_wp2_with fail;refine HN2.out.mono ?_;rintro e w7 ⟨rfl,h7⟩;have H7:=z7 h7;obtain ⟨a7,m7,cc7,hin7⟩:=h7;have hk7:=(hin7.kept _ List.mem_cons_self).1;have HIN7:=z7 hin7;clear c0 c1 c2 c3 c4 c5 c6 c7 c8 c9 c10 c11;obtain ⟨c0,c1,c2,c3,c4,c5,c6,c7,c8,c9,c10,c11⟩:=hnc.out w7 (hk7.trans (HL2.out.get 0 rfl).symm);go_wp2_with fail;obtain ⟨B7,hB7⟩:∃B7,B7= [4]++z7V [series,ck,pb,pc,cnt]++beN 1 1++beN N 2:=⟨_,rfl⟩;have HIN:=HIN7;rw [←hB7] at HIN;have hpB:Hid (z5Z series ck pb pc cnt true N b=B7++b):=z7 (by unfold z5Z;rw [hB7];rfl);have hB7l:B7.length≤100:=by rw [hB7];simp [z2E,z3i]
  have hm7:m7≤100:=by have:=HIN.out.len;omega
  have hql:=(Array.getElem?_eq_some_iff.1 HIN.out.blk).1;have hwl:=(Array.getElem?_eq_some_iff.1 hk7).1;have hsz7:=HIN.out.low.size;have hbl:b.length≤500:=by have:=H.out.len;omega
  have hcell:Hid (∀w',w7.grownBy w' (Value.slice a7 m7 cc7).ownBlock→w'.heap[w2.heap.size+1]? =some (.cells #[.slice a7 m7 cc7] 266 (0,0))):=z7 fun w' hg=>(hg.block _ hql (fun e=>HIN.out.far e.symm)).trans HIN.out.blk;have hnt:Hid (∀w',w7.grownBy w' (Value.slice a7 m7 cc7).ownBlock→w'.heap[w.heap.size]? =w2.heap[w.heap.size]?):=z7 fun w' hg=>(hg.block _ hwl (fun e=>(HIN.out.kept _ List.mem_cons_self).2.2 e.symm)).trans (hk7.trans (HL2.out.get 0 rfl).symm);have hrdb:Hid (∀w',w7.grownBy w' (Value.slice a7 m7 cc7).ownBlock→Rd w' (.slice a n c) 1 b.length (z0b b)):=z7 fun w' hg=>by
   have h1:=(H.out.low HIN.out.low).rd;by_cases h0:0<b.length
   ·obtain ⟨g,off,hae,_,hgl⟩:=H.out.cell (j:=0) (by rw [H.out.len];exact h0);refine h1.keep fun k hk=>?_;rw [hae] at hk;simp only [Value.ownBlock,Option.some.injEq] at hk;subst hk;exact hg.block _ (by omega) (fun e=>by have:=(HIN.out.row.lt _ e.symm).1;omega)
   ·have:b= []:=List.eq_nil_of_length_eq_zero (by omega);subst this;refine ⟨h1.1,h1.2.imp id ?_⟩;rintro ⟨ad,c',e1,e2⟩;exact ⟨ad,c',e1,fun j u hu=>by simp [z0b] at hu⟩
  clear hin7 HIN7 hB7 c0 c1 c2 c3 c4 c5 c6 c7 c8 c9 c10 c11 hk7;refine q6 11 100 (by kernel_rfl) (by kernel_rfl) rfl (by kernel_rfl) (fun D v w'=>ApN w.heap.size w7 (.slice a7 m7 cc7) m7 b.length (z0b B7) (z0b b) 8 D v w') (fun _=>undef) (ApN.start HIN.out.row) ?_;simp only [List.take_succ_cons,List.take_zero,List.drop_succ_cons,List.drop_zero];iterate 8 (refine q8.read (e:=?_) (fun v=>by rfl) (fun D v w h=>⟨h.g,h.q,h.a⟩) (fun D v w' hD hS=>?_) ?_;rotate_left;(obtain ⟨x0,xf,xl⟩:=z0t (hcell.out w' hS.g);obtain ⟨c0,c1,c2,c3,c4,c5,c6,c7,c8,c9,c10,c11⟩:=hnc.out w' (hnt.out w' hS.g);clear hS hD;first | (go_simp;done) | (go_simp;with_reducible rfl));go_simp)
  refine q8.rel (fun v=>by rfl) (fun D v w' hD hS=>?_) ?_
  ·have hq:=z7 (hS.q hD.self);have hg:=z7 hS.g;have hsz:=hS.g.size;have HRD:=z7 (hrdb.out w' hS.g);clear hS hD;refine z3o _ _ 46 rfl w.heap.size 5 i0 (.int .u8 0) 1 1 Tryz.underlying46 hi0 hz0 hz1 hz2 rfl (by decide) _ m7 (z0b B7) rfl hq.out _ b.length (z0b b) rfl HRD.out (z3Y b) (by unfold maxLen;omega) (by omega) (by omega) ?_;intro v' w'' h1 h2 h3 h4;obtain ⟨aa,ac,rfl⟩:=z2c h1;refine ⟨_,rfl,⟨hg.out.trans h2,(fun e=>by rw [z1z] at e;cases e),fun _=>⟨aa,ac,z0p _ _ _,by rw [z0p];exact h1,by rw [z0p];exact h4.imp id fun e=>⟨_,e,hg.out.size⟩⟩⟩,trivial⟩
  go_simp;iterate 2 (refine q8.read (e:=?_) (fun v=>by rfl) (fun D v w h=>⟨h.g,h.q,h.a⟩) (fun D v w' hD hS=>?_) ?_;rotate_left;(obtain ⟨x0,xf,xl⟩:=z0t (hcell.out w' hS.g);clear hS hD;first | (go_simp;done) | (go_simp;with_reducible rfl));go_simp)
  refine q8.fin (fun v w8 hS=>?_);obtain ⟨aa,ac,hv,hrow,hblk⟩:=hS.a rfl;rw [hv] at hrow hblk ⊢;have hq8:=hcell.out w8 hS.g;obtain ⟨x0,xf,xl⟩:=z0t hq8;have hnq:Hid (∀j,(Value.slice aa (m7+b.length) ac).ownBlock=some j→j≠w2.heap.size+1):=z7 fun j hj e=>by
   rcases hblk with e1 | ⟨g,e1,hg⟩
   ·exact HIN.out.far (by rw [←e1,hj,e])
   ·rw [hj] at e1;simp only [Option.some.injEq] at e1;omega
  have HROW:=z7 hrow;have hlow8:Hid (Below w.heap.size w w8):=z7 (HIN.out.low.grown hS.g HIN.out.low.size (fun j hj=>(HIN.out.row.lt j hj).1));clear hS hv hrow hblk hq8;go_wp2;go_ret2;refine ⟨aa,m7+b.length,ac,rfl,?_,?_,hlow8.out.setCell HIN.out.up _⟩
  ·rw [hpB.out,z2X];exact j7 HROW.out fun j hj=>q7 (hnq.out j hj)
  ·rw [hpB.out,List.length_append,HIN.out.len]
 | false=>
  have HN1:=z7 (z5I (w2.heap.size+1) 0 1 _ w _ w5 H5.out (by decide) (by decide) (by simp [z2E]));go_wp2_with fail;refine HN1.out.mono ?_;rintro e w6 ⟨rfl,h6⟩;have H6:=z7 h6;obtain ⟨a6,m6,cc6,hin6⟩:=h6;have hk6:=(hin6.kept _ List.mem_cons_self).1;clear c0 c1 c2 c3 c4 c5 c6 c7 c8 c9 c10 c11 hin6;obtain ⟨c0,c1,c2,c3,c4,c5,c6,c7,c8,c9,c10,c11⟩:=hnc.out w6 (hk6.trans (HL2.out.get 0 rfl).symm);have HN2:=z7 (z5I (w2.heap.size+1) N 2 _ w _ w6 H6.out (by omega) (by decide) (by simp [z2E,z3i]));clear hk6;go_wp2_with fail;refine HN2.out.mono ?_;rintro e w7 ⟨rfl,h7⟩;have H7:=z7 h7;obtain ⟨a7,m7,cc7,hin7⟩:=h7;have hk7:=(hin7.kept _ List.mem_cons_self).1;have HIN7:=z7 hin7;clear c0 c1 c2 c3 c4 c5 c6 c7 c8 c9 c10 c11;obtain ⟨c0,c1,c2,c3,c4,c5,c6,c7,c8,c9,c10,c11⟩:=hnc.out w7 (hk7.trans (HL2.out.get 0 rfl).symm);go_wp2_with fail;obtain ⟨B7,hB7⟩:∃B7,B7= [4]++z7V [series,ck,pb,pc,cnt]++beN 0 1++beN N 2:=⟨_,rfl⟩;have HIN:=HIN7;rw [←hB7] at HIN;have hpB:Hid (z5Z series ck pb pc cnt false N b=B7++b):=z7 (by unfold z5Z;rw [hB7];rfl);have hB7l:B7.length≤100:=by rw [hB7];simp [z2E,z3i]
  have hm7:m7≤100:=by have:=HIN.out.len;omega
  have hql:=(Array.getElem?_eq_some_iff.1 HIN.out.blk).1;have hwl:=(Array.getElem?_eq_some_iff.1 hk7).1;have hsz7:=HIN.out.low.size;have hbl:b.length≤500:=by have:=H.out.len;omega
  have hcell:Hid (∀w',w7.grownBy w' (Value.slice a7 m7 cc7).ownBlock→w'.heap[w2.heap.size+1]? =some (.cells #[.slice a7 m7 cc7] 266 (0,0))):=z7 fun w' hg=>(hg.block _ hql (fun e=>HIN.out.far e.symm)).trans HIN.out.blk;have hnt:Hid (∀w',w7.grownBy w' (Value.slice a7 m7 cc7).ownBlock→w'.heap[w.heap.size]? =w2.heap[w.heap.size]?):=z7 fun w' hg=>(hg.block _ hwl (fun e=>(HIN.out.kept _ List.mem_cons_self).2.2 e.symm)).trans (hk7.trans (HL2.out.get 0 rfl).symm);have hrdb:Hid (∀w',w7.grownBy w' (Value.slice a7 m7 cc7).ownBlock→Rd w' (.slice a n c) 1 b.length (z0b b)):=z7 fun w' hg=>by
   have h1:=(H.out.low HIN.out.low).rd;by_cases h0:0<b.length
   ·obtain ⟨g,off,hae,_,hgl⟩:=H.out.cell (j:=0) (by rw [H.out.len];exact h0);refine h1.keep fun k hk=>?_;rw [hae] at hk;simp only [Value.ownBlock,Option.some.injEq] at hk;subst hk;exact hg.block _ (by omega) (fun e=>by have:=(HIN.out.row.lt _ e.symm).1;omega)
   ·have:b= []:=List.eq_nil_of_length_eq_zero (by omega);subst this;refine ⟨h1.1,h1.2.imp id ?_⟩;rintro ⟨ad,c',e1,e2⟩;exact ⟨ad,c',e1,fun j u hu=>by simp [z0b] at hu⟩
  clear hin7 HIN7 hB7 c0 c1 c2 c3 c4 c5 c6 c7 c8 c9 c10 c11 hk7;refine q6 11 100 (by kernel_rfl) (by kernel_rfl) rfl (by kernel_rfl) (fun D v w'=>ApN w.heap.size w7 (.slice a7 m7 cc7) m7 b.length (z0b B7) (z0b b) 8 D v w') (fun _=>undef) (ApN.start HIN.out.row) ?_;simp only [List.take_succ_cons,List.take_zero,List.drop_succ_cons,List.drop_zero];iterate 8 (refine q8.read (e:=?_) (fun v=>by rfl) (fun D v w h=>⟨h.g,h.q,h.a⟩) (fun D v w' hD hS=>?_) ?_;rotate_left;(obtain ⟨x0,xf,xl⟩:=z0t (hcell.out w' hS.g);obtain ⟨c0,c1,c2,c3,c4,c5,c6,c7,c8,c9,c10,c11⟩:=hnc.out w' (hnt.out w' hS.g);clear hS hD;first | (go_simp;done) | (go_simp;with_reducible rfl));go_simp)
  refine q8.rel (fun v=>by rfl) (fun D v w' hD hS=>?_) ?_
  ·have hq:=z7 (hS.q hD.self);have hg:=z7 hS.g;have hsz:=hS.g.size;have HRD:=z7 (hrdb.out w' hS.g);clear hS hD;refine z3o _ _ 46 rfl w.heap.size 5 i0 (.int .u8 0) 1 1 Tryz.underlying46 hi0 hz0 hz1 hz2 rfl (by decide) _ m7 (z0b B7) rfl hq.out _ b.length (z0b b) rfl HRD.out (z3Y b) (by unfold maxLen;omega) (by omega) (by omega) ?_;intro v' w'' h1 h2 h3 h4;obtain ⟨aa,ac,rfl⟩:=z2c h1;refine ⟨_,rfl,⟨hg.out.trans h2,(fun e=>by rw [z1z] at e;cases e),fun _=>⟨aa,ac,z0p _ _ _,by rw [z0p];exact h1,by rw [z0p];exact h4.imp id fun e=>⟨_,e,hg.out.size⟩⟩⟩,trivial⟩
  go_simp;iterate 2 (refine q8.read (e:=?_) (fun v=>by rfl) (fun D v w h=>⟨h.g,h.q,h.a⟩) (fun D v w' hD hS=>?_) ?_;rotate_left;(obtain ⟨x0,xf,xl⟩:=z0t (hcell.out w' hS.g);clear hS hD;first | (go_simp;done) | (go_simp;with_reducible rfl));go_simp)
  refine q8.fin (fun v w8 hS=>?_);obtain ⟨aa,ac,hv,hrow,hblk⟩:=hS.a rfl;rw [hv] at hrow hblk ⊢;have hq8:=hcell.out w8 hS.g;obtain ⟨x0,xf,xl⟩:=z0t hq8;have hnq:Hid (∀j,(Value.slice aa (m7+b.length) ac).ownBlock=some j→j≠w2.heap.size+1):=z7 fun j hj e=>by
   rcases hblk with e1 | ⟨g,e1,hg⟩
   ·exact HIN.out.far (by rw [←e1,hj,e])
   ·rw [hj] at e1;simp only [Option.some.injEq] at e1;omega
  have HROW:=z7 hrow;have hlow8:Hid (Below w.heap.size w w8):=z7 (HIN.out.low.grown hS.g HIN.out.low.size (fun j hj=>(HIN.out.row.lt j hj).1));clear hS hv hrow hblk hq8;go_wp2;go_ret2;refine ⟨aa,m7+b.length,ac,rfl,?_,?_,hlow8.out.setCell HIN.out.up _⟩
  ·rw [hpB.out,z2X];exact j7 HROW.out fun j hj=>q7 (hnq.out j hj)
  ·rw [hpB.out,List.length_append,HIN.out.len]
end Go.Proofs.YtfcnapnopdomhaaGreatDoor

/-
  The walk of bit.Join.
-/
import Derived.Test.YtfcnapnopdomhaaGreatDoorZBiBBiCBiDBiE
namespace Go.Proofs.YtfcnapnopdomhaaGreatDoor
set_option linter.unusedSimpArgs false
set_option linter.unusedVariables false
set_option maxRecDepth 100000
set_option maxHeartbeats 12800000
open Go.RowKit
theorem z2U.add{W w w':World}{K:List (Nat×Obj)}{q x:Nat}{o:Obj}{l:List Bool}(h:z2U W K w q l)(hb:Below w.heap.size w w')(hx:w.heap.size≤x)(hg:w'.heap[x]? =some o):z2U W ((x,o)::K) w' q l:=by
 obtain ⟨a,m,c,b,h⟩:=h;have h':=h.then hb
 refine ⟨a,m,c,b,h'.blk,h'.row,h'.len,h'.bits,h'.far,h'.up,h'.low,fun p hp=>?_⟩;rcases List.mem_cons.1 hp with rfl | hp
 ·exact ⟨hg,by have:=h.lt;show x≠q;omega,fun e=>by have:=(h.row.lt x e).2;omega⟩
 ·exact h'.kept p hp
theorem z2U.less{W w:World}{K:List (Nat×Obj)}{q:Nat}{p:Nat×Obj}{l:List Bool}(h:z2U W (p::K) w q l):z2U W K w q l:=by
 obtain ⟨a,m,c,b,h⟩:=h;exact ⟨a,m,c,b,h.blk,h.row,h.len,h.bits,h.far,h.up,h.low,fun p hp=>h.kept p (List.mem_cons_of_mem _ hp)⟩
theorem z2U.got{W w:World}{K:List (Nat×Obj)}{q x:Nat}{o:Obj}{l:List Bool}(h:z2U W ((x,o)::K) w q l):w.heap[x]? =some o:=by
 obtain ⟨a,m,c,b,h⟩:=h;exact (h.kept _ List.mem_cons_self).1
structure BIt where
 a:Option Addr
 n:Nat
 c:Nat
 l:List Bool
 b:List UInt8
def BIt.cells(x:BIt):List Value:= [.slice x.a x.n x.c, .int .i64 x.l.length]
def z7U(w:World)(v:Value)(xs:List BIt):Prop:=Rd w v 2 xs.length (xs.flatMap BIt.cells)∧∀x∈xs,z0o w x.a x.n x.c x.l x.b∧x.l.length≤4294967296
theorem z7U.low{w w':World}{v:Value}{xs:List BIt}(h:z7U w v xs)(hb:Below w.heap.size w w'):z7U w' v xs:=⟨Rd.low h.1 hb,fun x hx=>⟨(h.2 x hx).1.low hb,(h.2 x hx).2⟩⟩
theorem y9s:∀(xs:List BIt) (i:Nat) (hi:i<xs.length) (j:Nat),j<2→(xs.flatMap BIt.cells)[i*2+j]? =(xs[i].cells)[j]?
 | [],i,hi,j,hj=>by simp at hi
 | x::xs,0,hi,j,hj=>by
  rw [List.flatMap_cons,List.getElem?_append_left (by simp [BIt.cells];omega),Nat.zero_mul,Nat.zero_add];rfl
 | x::xs,i+1,hi,j,hj=>by
  rw [List.flatMap_cons,List.getElem?_append_right (by simp [BIt.cells];omega)];have e:(i+1)*2+j - x.cells.length=i*2+j:=by simp [BIt.cells];omega
  rw [e,y9s xs i (by simpa using hi) j hj];rfl
theorem z7U.at{w:World}{v:Value}{xs:List BIt}(h:z7U w v xs){i:Nat}(hi:i<xs.length):∃bb off c x,v= .slice (some ⟨bb,off,none⟩) xs.length c∧xs[i]? =some x∧bb<w.heap.size∧z0o w x.a x.n x.c x.l x.b∧x.l.length≤4294967296∧w.cell? ⟨bb,off+i*2,none⟩=some (.slice x.a x.n x.c)∧w.cell? ⟨bb,off+i*2+1,none⟩=some (.int .i64 x.l.length):=by
 obtain ⟨bb,off,c,rfl,hc,hb⟩:=Rd.addr h.1 (by omega) (by omega);have hx:=h.2 xs[i] (List.getElem_mem hi);refine ⟨bb,off,c,xs[i],rfl,List.getElem?_eq_getElem hi,hb,hx.1,hx.2,?_,?_⟩
 ·have:=hc (i*2) _ (by rw [show i*2=i*2+0 by omega,y9s xs i hi 0 (by omega)];rfl);exact this
 ·have:=hc (i*2+1) _ (by rw [y9s xs i hi 1 (by omega)];rfl);rw [←Nat.add_assoc] at this;exact this
def joinL(xs:List BIt):List Bool:=xs.flatMap BIt.l
theorem y4A:∀ys:List BIt,(∀y∈ys,y.l.length≤4294967296)→(joinL ys).length≤ys.length*4294967296
 | [],_=>by simp [joinL]
 | y::ys,h=>by
  have h1:=h y (by simp);have h2:=y4A ys fun z hz=>h z (by simp [hz]);unfold joinL at h2 ⊢;rw [List.flatMap_cons,List.length_append,List.length_cons,Nat.add_mul];omega
theorem q1Y(a:Option Addr)(n c:Nat)(xs:List BIt)(w:World)(h:z7U w (.slice a n c) xs)(hn:n=xs.length)(hn8:n≤8):
  Calls Tryz.prog 219 #[.slice a n c] w (z6X w (joinL xs)):=by
 have H:=z7 h;have HN:=z7 hn;obtain ⟨W1,hW1⟩:∃W1,W1=w.alloc (.cells #[.slice none 0 0, .int .i64 0] 48):=⟨_,rfl⟩;have hbW:Below w.heap.size w W1:=by rw [hW1];exact q5 _ _
 have hg2:W1.heap[w.heap.size]? =some (.cells #[.slice none 0 0, .int .i64 0] 48 (0,0)):=by rw [hW1];exact j8 _ _
 have hlt:=(Array.getElem?_eq_some_iff.1 hg2).1;have HW:=z7 hW1;have HBW:=z7 hbW;have HG2:=z7 hg2;have HLT:=z7 hlt;have HQ:=z7 (y9T (Below.refl W1.heap.size W1));obtain ⟨q,hq⟩:∃q,q=W1.heap.size:=⟨_,rfl⟩;rw [←hq] at HQ;have HQE:=z7 hq;clear h hn hW1 hbW hg2 hlt hq;go_enter Tryz.func219,Tryz.ntmps219;go_upto_region 1 with fail
 rw [←HW.out];go_wp2_with fail;rw [←HQE.out];go_loopw [12] (fun kv wr=>∃k:Nat,kv= .int .i64 (k:Nat)∧k≤n∧Hid (z2U W1 [] wr q (joinL (xs.take k)))) (fun kv _=>match kv with | .int _ x=>n - x.toNat | _=>0)
 case atStart=>exact ⟨0,rfl,Nat.zero_le _,by simpa [joinL] using HQ⟩
 case round=>
  obtain ⟨k,rfl,hk,hb⟩:=hrel;clear HQ;by_cases h0:k<n
  ·have d0:(k:Int)<n:=by omega
   have hlow0:=HBW.out.trans (hb.out.low.mono HBW.out.size);obtain ⟨bb,off,cc,x,he,hx,hbb,hxi,hxl,e0,e1⟩:=(H.out.low hlow0).at (i:=k) (by have:=HN.out;omega);simp only [Value.slice.injEq] at he;obtain ⟨rfl, -,rfl⟩:=he;have hwk:IntKind.i64.wrap ((k:Int)+1)=((k+1:Nat):Int):=z0n (by omega) (by omega);obtain ⟨xa,xn,xc,xl,xb⟩:=x;simp only at hxi hxl e0 e1;obtain ⟨N,hN⟩:∃N,N=xl.length:=⟨_,rfl⟩;rw [←hN] at e1;have HX:=z7 hxi;have HXE:=z7 hx;have HNN:=z7 hN;have hNl:N≤4294967296:=by omega
   have hx0:=(H.out.2 _ (List.mem_of_getElem? hx)).1;have hxin:Hid (∀w' K' L',z2U W1 K' w' q L'→z0o w' xa xn xc xl xb):=z7 fun w' K' L' h'=>hx0.low (HBW.out.trans (h'.low.mono HBW.out.size));clear hxi hx hN hxl hx0;obtain ⟨xob,hxob⟩:∃o:Obj,o= .cells #[.slice xa xn xc, .int .i64 (N:Nat)] 48:=⟨_,rfl⟩;obtain ⟨w1,hw1⟩:∃w1,w1=wr.alloc (.cells #[.slice xa xn xc, .int .i64 (N:Nat)] 48):=⟨_,rfl⟩;obtain ⟨xo,hxo⟩:∃xo,xo=wr.heap.size:=⟨_,rfl⟩;obtain ⟨L,hL⟩:∃L,L=joinL (xs.take k):=⟨_,rfl⟩;rw [←hL] at hb;have hbl1:Below wr.heap.size wr w1:=by rw [hw1];exact q5 _ _
   have HK:=z7 (hb.out.add hbl1 (by rw [hxo];exact Nat.le_refl _:wr.heap.size≤xo) (by rw [hxob,hw1,hxo];exact j8 _ _:w1.heap[xo]? =some xob));have hcells:Hid (∀w' L',z2U W1 [(xo,xob)] w' q L'→w'.cell? ⟨xo,0,none⟩=some (.slice xa xn xc)∧w'.cell? ⟨xo,1,none⟩=some (.int .i64 (N:Nat))):=z7 fun w' L' h'=>by
    have:=h'.got;rw [hxob] at this;constructor<;>simp [World.cell?,this]
   have HW1:=z7 hw1;have HXO:=z7 hxo;have HL:=z7 hL;have hX1:=HX.out.low hbl1;have HX1:=z7 hX1;have hLl:L.length≤34359738368:=by
    rw [hL];have h1:=y4A (xs.take k) fun y hy=>(H.out.2 y (List.mem_of_mem_take hy)).2;rw [List.length_take] at h1;have h2:min k xs.length*4294967296≤8*4294967296:=Nat.mul_le_mul_right _ (by omega);omega
   obtain ⟨x0,x1⟩:=hcells.out _ _ HK.out;clear hw1 hxo hL hbl1 hX1 hxob;go_upto_region 5 with fail
   rw [←HW1.out,←HXO.out];clear e0 e1;have hsnd:=z2s HX1.out.bits;rw [←HNN.out] at hsnd;have hlen:=HX1.out.len;have HSND:=z7 hsnd;have HLEN:=z7 hlen;have hxnl:xn≤536870913:=by have:=HX1.out.bits.len;have:=HNN.out;omega
   clear hsnd hlen;go_wp2_with fail;have hsn:=z2x xa xc xb N w1 (by have:=HX1.out.rd;rw [HLEN.out] at this;exact this) (by have:=HLEN.out;omega) (by omega) (by omega);rw [←HLEN.out,HSND.out] at hsn;refine hsn.mono ?_;rintro e w2 ⟨rfl,hb2⟩;have HK2:=z7 (HK.out.then hb2);have HX2:=z7 (HX1.out.low hb2);clear hsn hb2 x0 x1;go_wp2_with fail;go_loopw [7] (fun pv wi=>∃p:Nat,pv= .int .i64 (p:Nat)∧p≤N+8∧Hid (z2U W1 [(xo,xob)] wi q (L++xl.take p))) (fun pv _=>match pv with | .int _ x=>N+8 - x.toNat | _=>0)
   case atStart=>exact ⟨0,rfl,Nat.zero_le _,by simpa using HK2⟩
   case round=>
    obtain ⟨p,rfl,hp,hbx⟩:=hrel;clear HK2 HX2;have hbi:=hbx;have hxi:=z7 (hxin.out _ _ _ hbx.out);have hcl:Hid (∀w',Below wr.heap.size wr w'→w'.cell? ⟨xo,0,none⟩=some (.slice xa xn xc)∧w'.cell? ⟨xo,1,none⟩=some (.int .i64 (N:Nat))):=z7 fun w' hw'=>hcells.out _ _ (hbi.out.then hw');obtain ⟨y0,y1⟩:=hcl.out wr (Below.refl _ _);clear hbx;by_cases hpN:p<N
    ·have d1:(p:Int)<N:=by omega
     obtain ⟨r,hr⟩:∃r,r=N - p:=⟨_,rfl⟩;obtain ⟨m,hm⟩:∃m,m=min r 8:=⟨_,rfl⟩;obtain ⟨p',hp'⟩:∃p',p'=p+8:=⟨_,rfl⟩;have hp'l:p'≤N+8:=by omega
     have hpp:p<p':=by omega
     have hm8:m≤8:=by omega
     have hwr:IntKind.i64.wrap ((N:Int) - p)=(r:Int):=by rw [z0n (by omega) (by omega)];omega
     have hwp:IntKind.i64.wrap ((p:Int)+8)=(p':Int):=by rw [z0n (by omega) (by omega)];omega
     obtain ⟨y,hy⟩:∃y,y=z5b xl p:=⟨_,rfl⟩;have hy8:y<256:=by rw [hy];exact (z3H xl p).1
     have hat:Hid (∀w',Below wr.heap.size wr w'→Calls Tryz.prog 101 #[.agg #[.slice xa xn xc, .int .i64 (N:Nat)], .int .i64 (p:Nat)] w' fun e w''=>e= .returned (.int .u8 (y:Nat))∧Below w'.heap.size w' w''):=z7 fun w' hw'=>by
      have:=y2q xa xn xc xl xb p w' (hxi.out.low hw') (by have:=HNN.out;omega) (by have:=HNN.out;omega);rw [←HNN.out,←hy] at this;exact this
     have hfin:Hid (∀w',z2U W1 [(xo,xob)] w' q ((L++xl.take p)++z5h y m)→z2U W1 [(xo,xob)] w' q (L++xl.take p')):=z7 fun w' h'=>by
      have e:(xl.drop p).take m=(xl.drop p).take 8:=by
       by_cases h9:r≤8
       ·rw [List.take_of_length_le (by simp;have:=HNN.out;omega),List.take_of_length_le (by simp;have:=HNN.out;omega)]
       ·rw [show m=8 by omega]
      rw [hy,y1Q hm8 (by have:=HNN.out;omega),e,List.append_assoc,←List.take_add,←hp'] at h';exact h'
     have hll:(L++xl.take p).length≤1099511627776:=by simp;omega
     obtain ⟨L',hL'⟩:∃L',L'=L++xl.take p:=⟨_,rfl⟩;rw [←hL'] at hfin hll hbi;have HM:=z7 hm;have HR:=z7 hr;clear hy hL' hr hp';by_cases h8:r≤8
     ·obtain rfl:m=r:=by omega
      have h8':(m:Int)≤8:=by omega
      clear hm;go_wp2_with fail;refine q6 9 41 (by kernel_rfl) (by kernel_rfl) rfl (by kernel_rfl) (fun D v w'=>Below wr.heap.size wr w') (fun _=>undef) (Below.refl _ _).drew ?_;simp only [List.take_succ_cons,List.take_zero,List.drop_succ_cons,List.drop_zero];iterate 3 (refine q8.rd (e:=?_) (fun D v w' hD hS=>?_) ?_;rotate_left;(obtain ⟨y0,y1⟩:=hcl.out w' hS;clear hS hD;first | (go_simp;done) | (go_simp;with_reducible rfl));go_simp)
      refine q8.call (.int .u8 (y:Nat)) (fun v=>by rfl) (fun D v w' hD hS=>?_) ?_
      ·have HSS:=z7 hS;clear hS hD;go_simp;go_at_call 101;refine (hat.out w' HSS.out).mono ?_;rintro e w'' ⟨rfl,hb'⟩;exact ⟨rfl,HSS.out.trans (hb'.mono HSS.out.size)⟩
      go_simp;iterate 5 (refine q8.rd (e:=?_) (fun D v w' hD hS=>?_) ?_;rotate_left;(obtain ⟨y0,y1⟩:=hcl.out w' hS;clear hS hD;first | (go_simp;done) | (go_simp;with_reducible rfl));go_simp)
      refine q8.fin (fun v w5 hS=>?_);have HB5:=z7 (hbi.out.then hS);clear hS;go_wp2_with fail;refine (z8U q y m L' W1 [(xo,xob)] w5 HB5.out hy8 hm8 hll).mono ?_;rintro e w6 ⟨rfl,h6⟩;have HF:=z7 (hfin.out w6 h6);clear h6;go_wp2;exact ⟨⟨p',rfl,hp'l,HF⟩,by show N+8 - (p':Int).toNat<N+8 - (p:Int).toNat;omega⟩
     ·obtain rfl:m=8:=by omega
      have h8':decide ((r:Int)≤8)=false:=decide_eq_false (by omega);clear hm;go_wp2_with fail;refine q6 9 41 (by kernel_rfl) (by kernel_rfl) rfl (by kernel_rfl) (fun D v w'=>Below wr.heap.size wr w') (fun _=>undef) (Below.refl _ _).drew ?_;simp only [List.take_succ_cons,List.take_zero,List.drop_succ_cons,List.drop_zero];iterate 3 (refine q8.rd (e:=?_) (fun D v w' hD hS=>?_) ?_;rotate_left;(obtain ⟨y0,y1⟩:=hcl.out w' hS;clear hS hD;first | (go_simp;done) | (go_simp;with_reducible rfl));go_simp)
      refine q8.call (.int .u8 (y:Nat)) (fun v=>by rfl) (fun D v w' hD hS=>?_) ?_
      ·have HSS:=z7 hS;clear hS hD;go_simp;go_at_call 101;refine (hat.out w' HSS.out).mono ?_;rintro e w'' ⟨rfl,hb'⟩;exact ⟨rfl,HSS.out.trans (hb'.mono HSS.out.size)⟩
      go_simp;iterate 5 (refine q8.rd (e:=?_) (fun D v w' hD hS=>?_) ?_;rotate_left;(obtain ⟨y0,y1⟩:=hcl.out w' hS;clear hS hD;first | (go_simp;done) | (go_simp;with_reducible rfl));go_simp)
      refine q8.fin (fun v w5 hS=>?_);have HB5:=z7 (hbi.out.then hS);clear hS;go_wp2_with fail;refine (z8U q y 8 L' W1 [(xo,xob)] w5 HB5.out hy8 hm8 hll).mono ?_;rintro e w6 ⟨rfl,h6⟩;have HF:=z7 (hfin.out w6 h6);clear h6;go_wp2;exact ⟨⟨p',rfl,hp'l,HF⟩,by show N+8 - (p':Int).toNat<N+8 - (p:Int).toNat;omega⟩
    ·have d1:decide ((p:Int)<N)=false:=decide_eq_false (by omega);have hnx:Hid (z2U W1 [] wr q (joinL (xs.take (k+1)))):=z7 (by
      have h9:=hbi.out.less;rw [List.take_of_length_le (by have:=HNN.out;omega),HL.out] at h9;rw [List.take_add_one,HXE.out];unfold joinL at h9 ⊢;rw [List.flatMap_append];simpa using h9)
     have hkn:k+1≤n:=h0;obtain ⟨k',hk'⟩:∃k',k'=k+1:=⟨_,rfl⟩;rw [←hk'] at hnx hkn hwk;have hkk:k<k':=by omega
     clear hk';go_wp2;exact ⟨⟨k',rfl,hkn,hnx⟩,by show n - (k':Int).toNat<n - (k:Int).toNat;omega⟩
  ·have d0:decide ((k:Int)<n)=false:=decide_eq_false (by omega);obtain rfl:k=n:=by omega
   obtain ⟨a4,m4,c4,b4,h4⟩:=hb.out;have H4:=z7 h4;obtain ⟨c0,c1,cf⟩:=h4.cells wr rfl;have hg4:=(h4.low.block w.heap.size HLT.out).trans HG2.out;have e0:wr.cell? ⟨w.heap.size,0,none⟩=some (.slice none 0 0):=by simp [World.cell?,hg4]
   have e1:wr.cell? ⟨w.heap.size,1,none⟩=some (.int .i64 0):=by simp [World.cell?,hg4]
   have ef:∀j,wr.frozen? ⟨w.heap.size,j,none⟩=false:=by simp [World.frozen?,hg4]
   have hLL:joinL (xs.take k)=joinL xs:=by rw [List.take_of_length_le (by have:=HN.out;omega)]
   rw [hLL] at c1 H4;obtain ⟨L,hL⟩:∃L,L=joinL xs:=⟨_,rfl⟩;rw [←hL] at c1 H4;have HLE:=z7 hL;clear h4 hb hg4 hL hLL;go_wp2_with fail;change bodyPost Tryz.prog Tryz.f219 _ .ret _ _;rw [←HLE.out];exact y9i (r:=w.heap.size) (fn:=Tryz.f219) (t:=2) (u:=3) H4.out HBW.out (Nat.le_refl _) HLT.out HG2.out rfl rfl rfl
structure Loc (w0:World) (K:List (Nat×Obj)) (w:World):Prop where
 low:Below w0.heap.size w0 w
 blk:∀p∈K,w.heap[p.1]? =some p.2∧w0.heap.size≤p.1
 nodup:(K.map Prod.fst).Nodup
theorem Loc.start(w:World):Loc w [] w:=⟨Below.refl _ _,(fun p hp=>by cases hp),List.nodup_nil⟩
theorem Loc.lts{w0 w:World}{K:List (Nat×Obj)}(h:Loc w0 K w){p:Nat×Obj}(hp:p∈K):p.1<w.heap.size:=(Array.getElem?_eq_some_iff.1 (h.blk p hp).1).1
theorem Loc.new{w0 w:World}{K:List (Nat×Obj)}(h:Loc w0 K w)(o:Obj):Loc w0 ((w.heap.size,o)::K) (w.alloc o):=by
 have ha:=q5 w o;refine ⟨h.low.trans (ha.mono h.low.size),fun p hp=>?_,?_⟩
 ·rcases List.mem_cons.1 hp with rfl | hp
  ·exact ⟨j8 _ _,h.low.size⟩
  ·exact ⟨(ha.block p.1 (h.lts hp)).trans (h.blk p hp).1,(h.blk p hp).2⟩
 ·rw [List.map_cons,List.nodup_cons];refine ⟨fun hm=>?_,h.nodup⟩;obtain ⟨p,hp,he⟩:=List.mem_map.1 hm;have:=h.lts hp;omega
theorem Loc.new'{w0 w:World}{K:List (Nat×Obj)}(h:Loc w0 K w)(o:Obj){n:Nat}(hn:n=w.heap.size):Loc w0 ((n,o)::K) (w.alloc o):=by
 subst hn;exact h.new o
theorem Loc.call{w0 w w':World}{K:List (Nat×Obj)}(h:Loc w0 K w)(hb:Below w.heap.size w w'):Loc w0 K w':=
 ⟨h.low.trans (hb.mono h.low.size),fun p hp=>⟨(hb.block p.1 (h.lts hp)).trans (h.blk p hp).1,(h.blk p hp).2⟩,h.nodup⟩
theorem Loc.add{w0 w w':World}{K:List (Nat×Obj)}(h:Loc w0 K w)(hb:Below w.heap.size w w'){g:Nat}{o:Obj}(hg:w'.heap[g]? =some o)(hge:w.heap.size≤g):Loc w0 ((g,o)::K) w':=by
 have h2:=h.call hb;refine ⟨h2.low,fun p hp=>?_,?_⟩
 ·rcases List.mem_cons.1 hp with rfl | hp
  ·exact ⟨hg,Nat.le_trans h.low.size hge⟩
  ·exact h2.blk p hp
 ·rw [List.map_cons,List.nodup_cons];refine ⟨fun hm=>?_,h.nodup⟩;obtain ⟨p,hp,he⟩:=List.mem_map.1 hm;have:=h.lts hp;omega
theorem Loc.named{w0 w:World}{K:List (Nat×Obj)}(h:Loc w0 K w):∃W,W=w∧Loc w0 K W:=⟨w,rfl,h⟩
theorem Loc.drew{w0 w:World}{K:List (Nat×Obj)}(h:Loc w0 K w):Loc w0 K w.drew:=⟨h.low.drew,h.blk,h.nodup⟩
theorem Loc.less{w0 w:World}{p:Nat×Obj}{K:List (Nat×Obj)}(h:Loc w0 (p::K) w):Loc w0 K w:=
 ⟨h.low,fun q hq=>h.blk q (List.mem_cons_of_mem _ hq),by have:=h.nodup;rw [List.map_cons,List.nodup_cons] at this;exact this.2⟩
theorem Loc.get{w0 w:World}{K:List (Nat×Obj)}(h:Loc w0 K w)(i:Nat){b:Nat}{o:Obj}(hi:K[i]? =some (b,o)):w.heap[b]? =some o:=(h.blk _ (List.mem_of_getElem? hi)).1
theorem Loc.lt{w0 w:World}{K:List (Nat×Obj)}(h:Loc w0 K w)(i:Nat){b:Nat}{o:Obj}(hi:K[i]? =some (b,o)):b<w.heap.size:=h.lts (List.mem_of_getElem? hi)
theorem Loc.ge{w0 w:World}{K:List (Nat×Obj)}(h:Loc w0 K w)(i:Nat){b:Nat}{o:Obj}(hi:K[i]? =some (b,o)):w0.heap.size≤b:=(h.blk _ (List.mem_of_getElem? hi)).2
theorem Loc.set{w0 w:World}{K:List (Nat×Obj)}(h:Loc w0 K w)(i:Nat){b:Nat}{cs:Array Value}{t:TypeId}{fr:Nat×Nat}(hi:K[i]? =some (b, .cells cs t fr))(j:Nat)(v:Value):
  Loc w0 (K.set i (b, .cells (cs.setIfInBounds j v) t fr)) (w.setCell ⟨b,j,none⟩ v):=by
 have hm:=List.mem_of_getElem? hi;have hlt:i<K.length:=(List.getElem?_eq_some_iff.1 hi).1;have hk:K[i]=(b,Obj.cells cs t fr):=(List.getElem?_eq_some_iff.1 hi).2;have hmap:(K.set i (b,Obj.cells (cs.setIfInBounds j v) t fr)).map Prod.fst=K.map Prod.fst:=by
  rw [List.map_set];have:(K.map Prod.fst)[i]'(by simpa using hlt)=b:=by rw [List.getElem_map,hk]
  simp only [←this,List.set_getElem_self]
 refine ⟨h.low.setCell (h.blk _ hm).2 _,fun p hp=>?_,by rw [hmap];exact h.nodup⟩;obtain ⟨n,hn,hp'⟩:=List.getElem_of_mem hp;rw [List.length_set] at hn;rw [List.getElem_set] at hp';split at hp'
 ·subst hp';exact ⟨j9 (h.blk _ hm).1 j v,(h.blk _ hm).2⟩
 ·rename_i hne;subst hp';have hpk:K[n]∈K:=List.getElem_mem hn;have hb:K[n].1≠b:=fun e=>by
   have h1:=(List.getElem_inj (i:=n) (j:=i) (h₀:=by simpa using hn) (h₁:=by simpa using hlt) h.nodup).1 (by rw [List.getElem_map,List.getElem_map,hk];exact e);omega
  exact ⟨(q7 hb).trans (h.blk _ hpk).1,(h.blk _ hpk).2⟩
theorem Loc.far{w0 w:World}{K:List (Nat×Obj)}{b:Nat}{j:Nat}{v:Value}(h:Loc w0 K w)(hb:w0.heap.size≤b)(hk:∀p∈K,p.1≠b):Loc w0 K (w.setCell ⟨b,j,none⟩ v):=
 ⟨h.low.setCell hb _,fun p hp=>⟨(q7 (hk p hp)).trans (h.blk p hp).1,(h.blk p hp).2⟩,h.nodup⟩
structure SlS (W:World) (t:TypeId) (n i j:Nat) (cs:Array Value) (D:Nat→Bool) (v:Nat→Value) (w':World):Prop where
 low:Below W.heap.size W w'
 made:D i=true→∃g,v i= .slice (some ⟨g,0,none⟩) n n∧W.heap.size≤g∧w'.heap[g]? =some (.cells cs t (0,0))
 asg:D j=true→D i=true∧v j=v i
section
variable {W w' w'':World} {t n i j:Nat} {cs:Array Value} {D:Nat→Bool} {v:Nat→Value}
theorem SlS.start(W:World)(t n i j:Nat)(cs:Array Value):SlS W t n i j cs (fun _=>false) (fun _=>undef) W.drew:=⟨(Below.refl _ _).drew,(fun h=>by cases h),fun h=>by cases h⟩
theorem SlS.call(h:SlS W t n i j cs D v w')(k:Nat)(hk:k≠i)(hj:k≠j)(hb:Below w'.heap.size w' w''):SlS W t n i j cs (mark D k) v w'':=
 ⟨h.low.trans (hb.mono h.low.size),(fun e=>by
  rw [q9 hk] at e;obtain ⟨g,h1,h2,h3⟩:=h.made e;exact ⟨g,h1,h2,(hb.block g (Array.getElem?_eq_some_iff.1 h3).1).trans h3⟩),fun e=>by rw [q9 hj] at e;rw [q9 hk];exact h.asg e⟩
theorem SlS.make(hij:i≠j)(h:SlS W t n i j cs D v w')(dj:D j=false):SlS W t n i j cs (mark D i) (z2P v i (.slice (some ⟨w'.heap.size,0,none⟩) n n)) (w'.alloc (.cells cs t)):=
 ⟨h.low.trans ((q5 w' _).mono h.low.size),(fun _=>⟨w'.heap.size,z0p _ _ _,h.low.size,j8 _ _⟩),fun e=>by rw [q9 hij,dj] at e;cases e⟩
theorem SlS.assign(hij:i≠j)(h:SlS W t n i j cs D v w')(di:D i=true):SlS W t n i j cs (mark D j) (z2P v j (v i)) w':=
 ⟨h.low,(fun e=>by
  obtain ⟨g,h1,h2,h3⟩:=h.made di;exact ⟨g,(by rw [z0c (Ne.symm hij)];exact h1),h2,h3⟩),fun _=>⟨by rw [q9 (Ne.symm hij)];exact di,by rw [z0p,z0c (Ne.symm hij)]⟩⟩
end
theorem y2y(w:World)(cs:Array Value)(e:TypeId)(n m size:Nat)(hn:n=w.heap.size)(hs:0<m)(h:cs.size=m*size):Rd (w.alloc (.cells cs e)) (.slice (some ⟨n,0,none⟩) m m) size m cs.toList:=by
 subst hn;exact z3C w cs e m size hs h
theorem z4O{w:World}{B:Nat}{l:List Bool}{a:Option Addr}{n c:Nat}{b:List UInt8}(hrow:w.ownsRow B 5 1 (.slice a n c) n (z0b b))(hn:n=b.length)(hb:z0U b l):z0o w a n c l b:=
 ⟨by subst hn;exact z0d hrow,hn,hb⟩
theorem q0C{w w6 w':World}{B:Nat}{l:List Bool}{a:Option Addr}{n c:Nat}{b:List UInt8}(hrow:w6.ownsRow B 5 1 (.slice a n c) n (z0b b))(hB:w.heap.size≤B)(hn:n=b.length)(hb:z0U b l)(hlow:Below w.heap.size w w')
  (hs:∀k,B≤k→k<w6.heap.size→w'.heap[k]? =w6.heap[k]?):z6X w l (.returned (.tuple #[.agg #[.slice a n c, .int .i64 l.length], .int .u16 0])) w':=
 ⟨a,n,c,b,rfl,z0i (j7 hrow fun k hk=>hs k (hrow.lt k hk).1 (hrow.lt k hk).2) hB,hn,hb,hlow⟩
theorem z0g{w:World}{b:Nat}{x0 x1:Value}{t:TypeId}(h:w.heap[b]? =some (.cells #[x0,x1] t (0,0))):w.cell? ⟨b,0,none⟩=some x0∧w.cell? ⟨b,1,none⟩=some x1∧∀j,w.frozen? ⟨b,j,none⟩=false:=by
 refine ⟨?_,?_,?_⟩<;>simp [World.cell?,World.frozen?,h]
theorem cells3{w:World}{b:Nat}{x0 x1 x2:Value}{t:TypeId}(h:w.heap[b]? =some (.cells #[x0,x1,x2] t (0,0))):w.cell? ⟨b,0,none⟩=some x0∧w.cell? ⟨b,1,none⟩=some x1∧w.cell? ⟨b,2,none⟩=some x2∧∀j,w.frozen? ⟨b,j,none⟩=false:=by
 refine ⟨?_,?_,?_,?_⟩<;>simp [World.cell?,World.frozen?,h]
theorem z0u{w:World}{b:Nat}{x0 x1 x2 x3:Value}{t:TypeId}(h:w.heap[b]? =some (.cells #[x0,x1,x2,x3] t (0,0))):w.cell? ⟨b,0,none⟩=some x0∧w.cell? ⟨b,1,none⟩=some x1∧w.cell? ⟨b,2,none⟩=some x2∧w.cell? ⟨b,3,none⟩=some x3∧∀j,w.frozen? ⟨b,j,none⟩=false:=by
 refine ⟨?_,?_,?_,?_,?_⟩<;>simp [World.cell?,World.frozen?,h]
theorem y0k{w:World}{b:Nat}{x0 x1 x2 x3 x4 x5:Value}{t:TypeId}(h:w.heap[b]? =some (.cells #[x0,x1,x2,x3,x4,x5] t (0,0))):w.cell? ⟨b,0,none⟩=some x0∧w.cell? ⟨b,1,none⟩=some x1∧w.cell? ⟨b,2,none⟩=some x2∧w.cell? ⟨b,3,none⟩=some x3∧w.cell? ⟨b,4,none⟩=some x4∧w.cell? ⟨b,5,none⟩=some x5∧∀j,w.frozen? ⟨b,j,none⟩=false:=by
 refine ⟨?_,?_,?_,?_,?_,?_,?_⟩<;>simp [World.cell?,World.frozen?,h]
theorem z2G{w:World}{b:Nat}{x0 x1 x2 x3 x4 x5 x6:Value}{t:TypeId}(h:w.heap[b]? =some (.cells #[x0,x1,x2,x3,x4,x5,x6] t (0,0))):w.cell? ⟨b,0,none⟩=some x0∧w.cell? ⟨b,1,none⟩=some x1∧w.cell? ⟨b,2,none⟩=some x2∧w.cell? ⟨b,3,none⟩=some x3∧w.cell? ⟨b,4,none⟩=some x4∧w.cell? ⟨b,5,none⟩=some x5∧w.cell? ⟨b,6,none⟩=some x6∧∀j,w.frozen? ⟨b,j,none⟩=false:=by
 refine ⟨?_,?_,?_,?_,?_,?_,?_,?_⟩<;>simp [World.cell?,World.frozen?,h]
theorem z0q{w:World}{b:Nat}{x0 x1 x2 x3 x4 x5 x6 x7 x8 x9 x10:Value}{t:TypeId}(h:w.heap[b]? =some (.cells #[x0,x1,x2,x3,x4,x5,x6,x7,x8,x9,x10] t (0,0))):w.cell? ⟨b,0,none⟩=some x0∧w.cell? ⟨b,1,none⟩=some x1∧w.cell? ⟨b,2,none⟩=some x2∧w.cell? ⟨b,3,none⟩=some x3∧w.cell? ⟨b,4,none⟩=some x4∧w.cell? ⟨b,5,none⟩=some x5∧w.cell? ⟨b,6,none⟩=some x6∧w.cell? ⟨b,7,none⟩=some x7∧w.cell? ⟨b,8,none⟩=some x8∧w.cell? ⟨b,9,none⟩=some x9∧w.cell? ⟨b,10,none⟩=some x10∧∀j,w.frozen? ⟨b,j,none⟩=false:=by
 refine ⟨?_,?_,?_,?_,?_,?_,?_,?_,?_,?_,?_,?_⟩<;>simp [World.cell?,World.frozen?,h]
end Go.Proofs.YtfcnapnopdomhaaGreatDoor

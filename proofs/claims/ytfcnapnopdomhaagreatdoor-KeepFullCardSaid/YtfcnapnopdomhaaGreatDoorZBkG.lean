/-
  The walk of a book's Put.
-/
import Derived.Test.YtfcnapnopdomhaaGreatDoorZBkEBkF
namespace Go.Proofs.YtfcnapnopdomhaaGreatDoor
set_option linter.unusedSimpArgs false
set_option linter.unusedVariables false
set_option maxRecDepth 100000
set_option maxHeartbeats 12800000
open Go.RowKit Go.Maps
theorem q1A(a:Option Addr)(n c:Nat)(ha:a=none→n=0∧c=0)(hn:n≤1000000)(hc:n≤c)(w:World):
  Calls Tryz.prog 83 #[.slice a n c] w fun e w'=>e= .returned (.slice a n n)∧Below w.heap.size w w':=by
 cases a with
 | none=>
  obtain ⟨rfl,rfl⟩:=ha rfl;go_enter Tryz.func83,Tryz.ntmps83;go_wp2;go_ret;exact ⟨rfl,Below.refl _ _⟩
 | some ad=>
  have d1:(n:Int)≤c:=by omega
  go_enter Tryz.func83,Tryz.ntmps83;go_wp2;go_ret;exact ⟨rfl,Below.refl _ _⟩
structure ClS (W:World) (N n:Nat) (xs:List Value) (D:Nat→Bool) (v:Nat→Value) (w':World):Prop where
 low:Below W.heap.size W w'
 made:D 6=true→∃g,v 6= .slice (some ⟨g,0,none⟩) 1 1∧W.heap.size≤g∧w'.heap[g]? =some (.cells #[.int .i64 (N:Nat)] 3 (0,0))
 app:D 7=true→∃g c,v 7= .slice (some ⟨g,0,none⟩) (n+1) c∧W.heap.size≤g∧w'.ownsRow W.heap.size 3 1 (.slice (some ⟨g,0,none⟩) (n+1) c) (n+1) (xs++ [.int .i64 (N:Nat)])
theorem ClS.call{W w' w'':World}{N n:Nat}{xs:List Value}{D:Nat→Bool}{v:Nat→Value}(h:ClS W N n xs D v w')(k:Nat)(h6:k≠6)(h7:k≠7)(hb:Below w'.heap.size w' w''):ClS W N n xs (mark D k) v w'':=
 ⟨h.low.trans (hb.mono h.low.size),(fun e=>by
  rw [q9 h6] at e;obtain ⟨g,h1,h2,h3⟩:=h.made e;exact ⟨g,h1,h2,(hb.block g (Array.getElem?_eq_some_iff.1 h3).1).trans h3⟩),fun e=>by
  rw [q9 h7] at e;obtain ⟨g,c,h1,h2,h3⟩:=h.app e;exact ⟨g,c,h1,h2,ownsRow_below h3 hb (Nat.le_refl _)⟩⟩
theorem ClS.make{W w':World}{N n:Nat}{xs:List Value}{D:Nat→Bool}{v:Nat→Value}(h:ClS W N n xs D v w')(d7:D 7=false):ClS W N n xs (mark D 6) (z2P v 6 (.slice (some ⟨w'.heap.size,0,none⟩) 1 1)) (w'.alloc (.cells #[.int .i64 (N:Nat)] 3)):=
 ⟨h.low.trans ((q5 w' _).mono h.low.size),(fun _=>⟨w'.heap.size,z0p _ _ _,h.low.size,j8 _ _⟩),fun e=>by rw [q9 (by decide),d7] at e;cases e⟩
theorem z0s.toBelow{w w':World}(h:z0s (fun _=>False) w w'):Below w.heap.size w w':=⟨h.os,h.tape,h.output,h.size,fun k hk=>h.block k hk fun e=>e⟩
theorem y4s{b:z0m}{id:Nat}{t:Int}(h:z5Y b id t=0)(hc:0<(z0f b id).cur.st.length):z9X (z0f b id).cur<t:=by
 unfold z5Y at h;split at h
 ·split at h
  ·cases h
  ·rename_i hn;unfold z5T at hn;rw [if_pos hc] at hn;simp only [true_and] at hn;omega
 ·contradiction
theorem y4t{b:z0m}{id:Nat}{t:Int}(h:z5Y b id t=0):z3q b id=0:=by
 unfold z5Y at h;split at h
 ·assumption
 ·contradiction
theorem y5f(st:List z0V)(x:z0V):z0l z0e (st++ [x])=x.e:=by simp [z0l]
def z9y(b:z0m)(id:Nat)(s:z1K):z0m:=b.set id (z6E (z0f b id) (z3e (z0f b id).cur s) (decide ((z0f b id).cur.st.length+1=b.size)))
def y6u(bb mb B:Nat)(S:Nat→Prop)(b:z0m)(id:Nat)(s:z1K)(w:World)(e:Ending)(w':World):Prop:=
 (z5Y b id s.t≠0∧e= .returned (.int .u16 (z5Y b id s.t:Nat))∧Below w.heap.size w w')∨
 (z5Y b id s.t=0∧e= .returned (.int .u16 0)∧∃E' S',z0r w' bb mb E' (z9y b id s) B S'∧z0s S w w'∧∀k,S' k→S k∨w.heap.size≤k)
theorem q2Z(bb mb B:Nat)(E:List (Int×z0C))(b:z0m)(S:Nat→Prop)(id:Nat)(hid:id<4294967296)(t:Int)(v:Nat)(hs:z1K.Ok ⟨t,v⟩)(hfew:(z0f b id).done.length≤1000000000)(hlt:(z0f b id).cur.st.length<b.size)(w:World)(h:z0r w bb mb E b B S)(hT:z1m w):
  Calls Tryz.prog 38 #[.pointer (some ⟨bb,0,none⟩), .int .u32 id, .agg #[.int .i64 t, .int .u64 (v:Nat)]] w (y6u bb mb B S b id ⟨t,v⟩ w):=by
 have HL0:=z7 ((Loc.start w).new (.cells #[.int .i64 t, .int .u64 (v:Nat)] 113));have H:=z7 h;have HM:=z7 (q2L bb mb B E b S id hid t v hfew _ (h.low HL0.out.low));have HT:=z7 hT;by_cases hm:z5Y b id t=0
 ·rw [hm] at HM;have HAT:=z7 (fun w1 (hb:z0r w1 bb mb E b B S)=>z9q bb mb B E b S id hid w1 hb);have HMM:=z7 hm;have HS:=z7 hs;have HLT:=z7 hlt;have HFEW:=z7 hfew;clear h hT hm hs hlt hfew;go_enter Tryz.func38,Tryz.ntmps38;go_wp2_with fail;refine HM.out.mono ?_;rintro e w1 ⟨rfl,hb⟩;have HL1:=z7 (HL0.out.call hb);clear hb;go_wp2_with fail;refine (HAT.out _ (H.out.low HL1.out.low)).mono ?_;rintro e w2 ⟨X,rfl,hX,hXs,hb,hw⟩;have HL2:=z7 (HL1.out.call hb);have HXR:=z7 hX;have HXS:=z7 hXs;have HWH:=z7 hw;have HLA:=z7 (z7h X (by have:=HFEW.out;rw [←hXs,X.done_len] at this;exact this) w2 hX);clear hb hX hXs hw;go_wp2_with fail;refine HLA.out.mono ?_;rintro e w3 ⟨rfl,hb⟩;have HL3:=z7 (HL2.out.call hb);have HX3:=z7 (HXR.out.low hb);clear hb;obtain ⟨o,ho⟩:∃o,o=X.done.length*11:=⟨_,rfl⟩;rw [←ho];have HO:=z7 ho;clear ho;have lg:=HX3.out.lts X.g (.inr (.inl rfl));obtain ⟨en,el,ed,has,prev,lead,width,hE⟩:∃en el ed has prev lead width,(⟨en,el,ed,⟨has,prev,lead,width⟩⟩:z1A)=z0l z0e X.cur.p.st:=⟨_,_,_,_,_,_,_,rfl⟩;obtain ⟨pn,hpn⟩:∃pn,pn=X.cur.p.st.length:=⟨_,rfl⟩;obtain ⟨bl,hbl⟩:∃bl,bl=X.cur.b.length:=⟨_,rfl⟩;obtain ⟨N,hN⟩:∃N,N=X.cur.p.l.length:=⟨_,rfl⟩;have hv:(X.cur.vals false).toArray= #[.slice X.cur.a bl X.cur.c, .int .i64 (N:Nat), .slice X.cur.ea pn X.cur.ec, .int .i64 (en:Nat), .int .i64 el, .int .i64 ed, .bool has, .int .u64 (prev:Nat), .int .u8 (lead:Nat), .int .u8 (width:Nat), .bool false]:=by
   unfold z1g.vals;rw [←hE,←hpn,←hbl,←hN]
  have hla:=HX3.out.lastAt HO.out;rw [hv] at hla;have HLAT:=z7 hla;have HE:=z7 hE;have HPN:=z7 hpn;have HBL:=z7 hbl;have HNN:=z7 hN;clear hla hE hpn hbl hN hv;go_upto_region 6 with (refine z0N rfl 141 _ rfl X.g o rfl _ HLAT.out z3k z0Q ?_)
  obtain ⟨W4,hW4,hL4⟩:=((z0E.of (S:=fun _=>False) HL3.out).new (.cells #[.slice X.cur.a bl X.cur.c, .int .i64 (N:Nat), .slice X.cur.ea pn X.cur.ec, .int .i64 (en:Nat), .int .i64 el, .int .i64 ed, .bool has, .int .u64 (prev:Nat), .int .u8 (lead:Nat), .int .u8 (width:Nat), .bool false] 141)).named;rw [←hW4];have HX4:Hid (z0v W4 X):=z7 (by rw [hW4];exact HX3.out.low (q5 _ _));have HL4:=z7 hL4;obtain ⟨p,hp⟩:∃p,p=w3.heap.size:=⟨_,rfl⟩;rw [←hp] at HL4 ⊢;have HT4:Hid (z1m W4):=z7 (by rw [hW4];exact (HT.out.low HL3.out.low).low (q5 _ _));have hpg:Hid (∀k,X.In k→k<p):=z7 fun k hk=>by rw [hp];exact HX3.out.lts k hk
  clear hL4 hW4 hp;have hcP:=HX4.out.cur;have hen:en≤1099511627776:=by
   have h2:=hcP.n;rw [←HE.out] at h2;have h3:=hcP.ok.len;have h4:en=X.cur.p.st.length:=h2;omega
  have hbef:0<en→el<t:=fun h0=>by
   have h2:=hcP.n;rw [←HE.out] at h2;have h3:=y4s HMM.out (by rw [←HXS.out];show 0<X.cur.p.st.length;have h4:en=X.cur.p.st.length:=h2;omega);rw [←HXS.out] at h3;unfold z9X at h3;have h5:X.ser.cur=X.cur.p:=rfl;rw [h5,←HE.out] at h3;exact h3
  have hput:=z7 (q3q X.cur.a bl X.cur.c X.cur.p.l X.cur.b en el ed has prev lead width t v (by rw [HE.out];exact (z3n hcP.ok.rd).1) HS.out hbef hen W4 (by rw [HBL.out];exact hcP.rd.now) (by have:=hcP.ok.bits;omega) HT4.out);rw [←HNN.out] at hput;obtain ⟨y0,y1,y2,y3,y4,y5,y6,y7,y8,y9,y10,yf⟩:=z0q (HL4.out.get 0 rfl);obtain ⟨z0,z1,zf⟩:=z0g (HL4.out.get 1 rfl);have l0:=HL4.out.lt 0 rfl;have l1:=HL4.out.lt 1 rfl;obtain ⟨CW,hCW⟩:∃CW,CW=z2O ⟨en,el,ed,⟨has,prev,lead,width⟩⟩ ⟨t,v⟩:=⟨_,rfl⟩;rw [←hCW] at hput;obtain ⟨cl,⟨en',el',ed',⟨has',prev',lead',width'⟩⟩⟩:=CW;obtain ⟨l',hl'⟩:∃l',l'=X.cur.p.l++cl:=⟨_,rfl⟩;unfold y0p at hput;simp only at hput;rw [←hl'] at hput;have HCW:=z7 hCW;have HL':=z7 hl';clear hcP hCW hl';go_wp2_with fail;refine hput.out.mono ?_;rintro e w5 ⟨a',n',c',b',rfl,hrow,rfl,hbits,hb⟩;have HL5:=z7 (HL4.out.call hb);have HX5:=z7 (HX4.out.low hb);have HROW:=z7 hrow;have HBITS:=z7 hbits;obtain ⟨y0,y1,y2,y3,y4,y5,y6,y7,y8,y9,y10,yf⟩:=z0q (HL5.out.get 0 rfl);have l0:=HL5.out.lt 0 rfl;clear hput hb hrow hbits z0 z1 zf;go_upto_region 7 with fail
  have hL6:z0E (fun _=>False) w [(p, .cells #[.slice a' b'.length c', .int .i64 (l'.length:Nat), .slice X.cur.ea pn X.cur.ec, .int .i64 (en':Nat), .int .i64 el', .int .i64 ed', .bool has', .int .u64 (prev':Nat), .int .u8 (lead':Nat), .int .u8 (width':Nat), .bool false] 141 (0,0)),(w.heap.size, .cells #[.int .i64 t, .int .u64 (v:Nat)] 113 (0,0))] ((w5.setCells p 0 [.slice a' b'.length c', .int .i64 (l'.length:Nat)]).setCells p 3 [.int .i64 (en':Nat), .int .i64 el', .int .i64 ed', .bool has', .int .u64 (prev':Nat), .int .u8 (lead':Nat), .int .u8 (width':Nat)]):=
   z0E.lay 0 (z0E.lay 0 HL5.out 0 [.slice a' b'.length c', .int .i64 (l'.length:Nat)] rfl rfl rfl rfl) 3 _ rfl rfl rfl rfl
  obtain ⟨W6,hW6,hL6⟩:=hL6.named;have e6:z0s (fun k=>k=p) w5 W6:=by
   rw [hW6];exact (z0s.setCells (S:=fun k=>k=p) rfl _ _ _).trans (z0s.setCells (S:=fun k=>k=p) rfl _ _ _) fun k h=> .inl h
  refine z0D hW6 ?_;have HL6:=z7 hL6;have HX6:=z7 (HX5.out.keep (fun k hk=>e6.block k (HX5.out.lts k hk) (by have:=hpg.out k hk;omega)) e6.size);have HROW6:=z7 (j7 HROW.out fun k hk=>e6.block k (HROW.out.lt k hk).2 (by have:=(HROW.out.lt k hk).1;have:=HL4.out.lt 0 rfl;omega));have HE6:=z7 e6;clear hL6 hW6 e6 y0 y1 y2 y3 y4 y5 y6 y7 y8 y9 y10 yf l0 l1;have hends:Hid (∀w',Below W6.heap.size W6 w'→Rd w' (.slice X.cur.ea pn pn) 1 pn (z2h (z1i X.cur.p.st))):=z7 fun w' hb=>by
   have h1:=(HX6.out.low hb).cur.ends.now;rw [←HPN.out] at h1;refine ⟨h1.1,?_⟩;rcases h1.2 with ⟨h2,h3⟩ | ⟨ad,cp,h2,h3⟩
   ·simp only [Value.slice.injEq] at h2;exact .inl ⟨by rw [h2.1,h2.2.1],h3⟩
   ·simp only [Value.slice.injEq,true_and] at h2;exact .inr ⟨ad,pn,by rw [h2.1],h3⟩
  obtain ⟨iS,hiS,hyS0,hyS1,hyS2⟩:=info_parts y4b;have hpn:pn≤24:=by rw [HPN.out];exact HX6.out.cur.ok.len
  have hcl1:X.cur.ea=none→pn=0∧X.cur.ec=0:=fun e=>by
   have h1:=HX6.out.cur.ends.now.2;rw [←HPN.out,e] at h1;rcases h1 with ⟨h1,h2⟩ | ⟨ad,c,h1, -⟩
   ·simp only [Value.slice.injEq,true_and] at h1;exact h1
   ·simp at h1
  have hcl2:pn≤X.cur.ec:=by rw [HPN.out];exact HX6.out.cur.cap
  have hclip:=z7 (q1A X.cur.ea pn X.cur.ec hcl1 (by omega) hcl2);refine q6 9 63 (by kernel_rfl) (by kernel_rfl) rfl (by kernel_rfl) (fun D v w'=>ClS W6 l'.length pn (z2h (z1i X.cur.p.st)) D v w') (fun _=>undef) ⟨(Below.refl _ _).drew,(fun e=>by cases e),fun e=>by cases e⟩ ?_;simp only [List.take_succ_cons,List.take_zero,List.drop_succ_cons,List.drop_zero];have hcl:Hid (∀w',Below W6.heap.size W6 w'→p<w'.heap.size∧w'.cell? ⟨p,1,none⟩=some (.int .i64 (l'.length:Nat))∧w'.cell? ⟨p,2,none⟩=some (.slice X.cur.ea pn X.cur.ec)):=z7 fun w' hb=>by
   have h1:=(HL6.out.call hb).get 0 rfl;obtain ⟨y0,y1,y2,y3,y4,y5,y6,y7,y8,y9,y10,yf⟩:=z0q h1;exact ⟨(HL6.out.call hb).lt 0 rfl,y1,y2⟩
  iterate 2 (refine q8.read (e:=?_) (fun v=>by rfl) (fun D v w h=>⟨h.low,h.made,h.app⟩) (fun D v w' hD hS=>?_) ?_;rotate_left;(obtain ⟨lp,q1,q2⟩:=hcl.out w' hS.low;clear hS hD;first | (go_simp;done) | (go_simp;with_reducible rfl));go_simp)
  refine q8.call (.slice X.cur.ea pn pn) (fun v=>by rfl) (fun D v w' hD hS=>?_) ?_
  ·have HZ:=z7 hS;clear hS hD;go_simp;go_at_call 83;refine (hclip.out w').mono ?_;rintro e w'' ⟨rfl,hb⟩;exact ⟨rfl,HZ.out.call 2 (by decide) (by decide) hb⟩
  go_simp;iterate 3 (refine q8.read (e:=?_) (fun v=>by rfl) (fun D v w h=>⟨h.low,h.made,h.app⟩) (fun D v w' hD hS=>?_) ?_;rotate_left;(obtain ⟨lp,q1,q2⟩:=hcl.out w' hS.low;clear hS hD;first | (go_simp;done) | (go_simp;with_reducible rfl));go_simp)
  refine q8.rel (fun v=>by rfl) (fun D v w' hD hS=>?_) ?_
  ·have HS3:=z7 (hS.make (hD.post 7 _ rfl (by kernel_rfl)));clear hS hD;go_simp;exact HS3.out
  go_simp;refine q8.rel (fun v=>by rfl) (fun D v w' hD hS=>?_) ?_
  ·obtain ⟨g,e6,hge,hcell⟩:=hS.made (hD.pre 6 (by kernel_rfl));have HZ:=z7 hS;have hrd:=hends.out w' hS.low;clear hS hD;refine y0r _ _ 135 rfl 3 iS _ 1 8 Tryz.underlying135 hiS hyS0 hyS1 hyS2 rfl X.cur.ea pn _ rfl hrd ⟨g,0,none⟩ 1 1 [.int .i64 (l'.length:Nat)] e6 rfl (fun j u hu=>?_) (by decide) (by unfold maxLen;omega) (by omega) ?_
   ·rw [z9O,Nat.zero_add,cell_of_row w' g j _ _ _ hcell];simpa using hu
   ·intro c' w'' h1 h2;refine ⟨_,rfl,⟨HZ.out.low.trans (h2.mono HZ.out.low.size),(fun e=>?_),fun e=>⟨_,c',z0p _ _ _,HZ.out.low.size,z0i h1 HZ.out.low.size⟩⟩,trivial⟩;exact ⟨g,by rw [z0c (by decide)];exact e6,hge,(h2.block g (Array.getElem?_eq_some_iff.1 hcell).1).trans hcell⟩
  go_simp;iterate 1 (refine q8.read (e:=?_) (fun v=>by rfl) (fun D v w h=>⟨h.low,h.made,h.app⟩) (fun D v w' hD hS=>?_) ?_;rotate_left;(obtain ⟨lp,q1,q2⟩:=hcl.out w' hS.low;clear hS hD;first | (go_simp;done) | (go_simp;with_reducible rfl));go_simp)
  refine q8.fin (fun vv w7 hS=>?_);obtain ⟨g7,c7,hv7,hg7,hrow7⟩:=hS.app rfl;rw [hv7];have HL7:=z7 (HL6.out.call hS.low);have HX7:=z7 (HX6.out.low hS.low);have HROW7:=z7 (ownsRow_below HROW6.out hS.low (Nat.le_refl _));have HENDS:=z7 hrow7;obtain ⟨y0,y1,y2,y3,y4,y5,y6,y7,y8,y9,y10,yf⟩:=z0q (HL7.out.get 0 rfl);have l0:=HL7.out.lt 0 rfl;have HG7:=z7 hg7;clear hS hv7 hrow7 hg7;go_upto_region 8 with fail
  have hL8:z0E (fun _=>False) w [(p, .cells #[.slice a' b'.length c', .int .i64 (l'.length:Nat), .slice (some ⟨g7,0,none⟩) (pn+1) c7, .int .i64 (en':Nat), .int .i64 el', .int .i64 ed', .bool has', .int .u64 (prev':Nat), .int .u8 (lead':Nat), .int .u8 (width':Nat), .bool false] 141 (0,0)),(w.heap.size, .cells #[.int .i64 t, .int .u64 (v:Nat)] 113 (0,0))] (w7.setCells p 2 [.slice (some ⟨g7,0,none⟩) (pn+1) c7]):=
   z0E.lay 0 HL7.out 2 _ rfl rfl rfl rfl
  obtain ⟨W8,hW8,hL8⟩:=hL8.named;refine z0D hW8 ?_;have e8:z0s (fun k=>k=p) w7 W8:=by rw [hW8];exact z0s.setCells (S:=fun k=>k=p) rfl _ _ _
  have hx8:Hid (∀k,w3.heap.size≤k→k≠p→True):=z7 fun _ _ _=>trivial;have HL8:=z7 hL8;have HX8:=z7 (HX7.out.keep (fun k hk=>e8.block k (HX7.out.lts k hk) (by have:=hpg.out k hk;omega)) e8.size);have hlp4:=HL4.out.lt 0 rfl;have HROW8:=z7 (j7 HROW7.out fun k hk=>e8.block k (HROW7.out.lt k hk).2 (by have:=(HROW7.out.lt k hk).1;omega));have hlp6:=HL6.out.lt 0 rfl;have HENDS8:=z7 (j7 HENDS.out fun k hk=>e8.block k (HENDS.out.lt k hk).2 (by have:=(HENDS.out.lt k hk).1;omega));have HE8:=z7 e8;have HBK8:Hid (∀w',Below W8.heap.size W8 w'→z0r w' bb mb E b B S):=z7 fun w' hb=>H.out.low (HL8.out.low.toBelow.trans (hb.mono HL8.out.low.size));clear hL8 hW8 e8 y0 y1 y2 y3 y4 y5 y6 y7 y8 y9 y10 yf l0;obtain ⟨cld,hcld⟩:∃cld,cld=decide (pn+1=b.size):=⟨_,rfl⟩;have hdc:((pn:Int)+1==(b.size:Int))=cld:=by
   rw [hcld];by_cases h:pn+1=b.size
   ·rw [decide_eq_true h,beq_iff_eq];omega
   ·rw [decide_eq_false h];exact beq_false_of_ne (by omega)
  have HCLD:=z7 hcld;clear hcld;refine q6 9 63 (by kernel_rfl) (by kernel_rfl) rfl (by kernel_rfl) (fun D v w'=>Below W8.heap.size W8 w') (fun _=>undef) (Below.refl _ _).drew ?_;simp only [List.take_succ_cons,List.take_zero,List.drop_succ_cons,List.drop_zero];iterate 9 (refine q8.rd (e:=?_) (fun D v w' hD hS=>?_) ?_;rotate_left;(obtain ⟨y0,y1,y2,y3,y4,y5,y6,y7,y8,y9,y10,yf⟩:=z0q ((HL8.out.call hS).get 0 rfl);have l0:=(HL8.out.call hS).lt 0 rfl;have hbk:=HBK8.out w' hS;obtain ⟨b0,b1,b2,bf⟩:=hbk.cells;have lb:=(hbk.lo bb hbk.own.1).2;clear hS hD;first | (go_simp;done) | (go_simp;with_reducible rfl));go_simp)
  refine q8.fin (fun vv w9 hS=>?_);have HL9:=z7 (HL8.out.call hS);have HX9:=z7 (HX8.out.low hS);have HROW9:=z7 (ownsRow_below HROW8.out hS (Nat.le_refl _));have HENDS9:=z7 (ownsRow_below HENDS8.out hS (Nat.le_refl _));have HBK9:Hid (∀w',Below w9.heap.size w9 w'→z0r w' bb mb E b B S):=z7 fun w' hb=>HBK8.out w' (hS.trans (hb.mono hS.size));obtain ⟨y0,y1,y2,y3,y4,y5,y6,y7,y8,y9,y10,yf⟩:=z0q (HL9.out.get 0 rfl);have l0:=HL9.out.lt 0 rfl;clear hS;go_upto_region 9 with fail
  have hL10:z0E (fun _=>False) w [(p, .cells #[.slice a' b'.length c', .int .i64 (l'.length:Nat), .slice (some ⟨g7,0,none⟩) (pn+1) c7, .int .i64 (en':Nat), .int .i64 el', .int .i64 ed', .bool has', .int .u64 (prev':Nat), .int .u8 (lead':Nat), .int .u8 (width':Nat), .bool cld] 141 (0,0)),(w.heap.size, .cells #[.int .i64 t, .int .u64 (v:Nat)] 113 (0,0))] (w9.setCells p 10 [.bool cld]):=
   z0E.lay 0 HL9.out 10 _ rfl rfl rfl rfl
  obtain ⟨W10,hW10,hL10⟩:=hL10.named;refine z0D hW10 ?_;have e10:z0s (fun k=>k=p) w9 W10:=by rw [hW10];exact z0s.setCells (S:=fun k=>k=p) rfl _ _ _
  have hX10:=HX9.out.keep (fun k hk=>e10.block k (HX9.out.lts k hk) (by have:=hpg.out k hk;omega)) e10.size;have hrow10:=j7 HROW9.out fun k hk=>e10.block k (HROW9.out.lt k hk).2 (by have:=(HROW9.out.lt k hk).1;omega);have hends10:=j7 HENDS9.out fun k hk=>e10.block k (HENDS9.out.lt k hk).2 (by have:=(HENDS9.out.lt k hk).1;omega);have hser:X.ser.cur=X.cur.p:=rfl;have hcw:z2O (z0l z0e X.cur.p.st) ⟨t,v⟩=(cl,⟨en',el',ed',⟨has',prev',lead',width'⟩⟩):=by rw [←HE.out];exact HCW.out.symm
  have hpl:(z3e X.cur.p ⟨t,v⟩).l=l':=by unfold z3e;simp only [hcw];exact HL'.out.symm
  have hpe:z0l z0e (z3e X.cur.p ⟨t,v⟩).st=⟨en',el',ed',⟨has',prev',lead',width'⟩⟩:=by unfold z3e;simp only [hcw,y5f]
  have hpst:(z3e X.cur.p ⟨t,v⟩).st.length=pn+1:=by unfold z3e;rw [HPN.out];simp
  have hpends:z2h (z1i (z3e X.cur.p ⟨t,v⟩).st)=z2h (z1i X.cur.p.st)++ [.int .i64 (l'.length:Nat)]:=by
   unfold z3e z2h z1i;simp only [hcw,HL'.out,List.map_append,List.map_cons,List.map_nil,List.length_append]
  have hvals:((⟨a',c',b',some ⟨g7,0,none⟩,c7,z3e X.cur.p ⟨t,v⟩⟩:z1g).vals cld).toArray= #[.slice a' b'.length c', .int .i64 (l'.length:Nat), .slice (some ⟨g7,0,none⟩) (pn+1) c7, .int .i64 (en':Nat), .int .i64 el', .int .i64 ed', .bool has', .int .u64 (prev':Nat), .int .u8 (lead':Nat), .int .u8 (width':Nat), .bool cld]:=by
   unfold z1g.vals;simp only [hpl,hpe,hpst]
  have hpok:(z3e X.cur.p ⟨t,v⟩).Ok:=q1O hX10.cur.ok (by
   have h1:=HLT.out;rw [←HXS.out,hser] at h1;have h2:=H.out.size.2;omega) HS.out (fun h0=>by
   have h3:=y4s HMM.out (by rw [←HXS.out];exact h0);rw [←HXS.out] at h3;exact h3)
  have hxok:z1g.Ok (fun k=>(Value.slice a' b'.length c').ownBlock=some k∨k=g7) W10 ⟨a',c',b',some ⟨g7,0,none⟩,c7,z3e X.cur.p ⟨t,v⟩⟩:=by
   refine ⟨fun w' hk=>?_,fun w' hk=>?_,hpok,by show (z3e X.cur.p ⟨t,v⟩).st.length≤c7;rw [hpst];exact (z1C hends10).1⟩
   ·show z0o w' a' b'.length c' (z3e X.cur.p ⟨t,v⟩).l b';rw [hpl];exact z4O (j7 hrow10 fun k h=>hk k (.inl h)) rfl HBITS.out
   ·show Rd w' (.slice (some ⟨g7,0,none⟩) (z3e X.cur.p ⟨t,v⟩).st.length c7) 1 (z3e X.cur.p ⟨t,v⟩).st.length (z2h (z1i (z3e X.cur.p ⟨t,v⟩).st));rw [hpst,hpends];exact z0d (j7 hends10 fun k h=>hk k (.inr (by simp only [Value.ownBlock,Option.some.injEq] at h;exact h.symm)))
  have hT':∀k,((Value.slice a' b'.length c').ownBlock=some k∨k=g7)→p<k∧k<W10.heap.size:=fun k hk=>by
   rcases hk with hk | rfl
   ·have h1:=(HROW.out.lt k hk).1;have h2:=HL4.out.lt 0 rfl;exact ⟨by omega,(hrow10.lt k hk).2⟩
   ·have h2:=HL6.out.lt 0 rfl;exact ⟨by have:=HG7.out;omega,(hends10.lt k rfl).2⟩
  have hgr:=z7 (y6T X ⟨a',c',b',some ⟨g7,0,none⟩,c7,z3e X.cur.p ⟨t,v⟩⟩ cld _ (by have:=HFEW.out;rw [←HXS.out,X.done_len] at this;exact this) W10 hX10 hxok (fun k hk=>⟨(hT' k hk).2,by have:=hpg.out X.sb (.inl rfl);have:=(hT' k hk).1;omega,by have:=hpg.out X.g (.inr (.inl rfl));have:=(hT' k hk).1;omega⟩) (by show 0<(z3e X.cur.p ⟨t,v⟩).st.length;omega));rw [hvals] at hgr;have HL10:=z7 hL10;have HT':=z7 hT';have HBK10:=z7 (H.out.low HL10.out.low.toBelow);clear hL10 hW10 e10 hX10 hrow10 hends10 hser hcw hpl hpe hpst hpends hvals hpok hxok hT' y0 y1 y2 y3 y4 y5 y6 y7 y8 y9 y10 yf;have hl10:=HL10.out.get 0 rfl;go_wp2_with (refine z0N rfl 141 _ rfl p 0 rfl _ (z2a hl10) z3k z0Q ?_);refine hgr.out.mono ?_;rintro e w11 ⟨rfl,X',hsb',hser',hX',ho11,hin11⟩;have HX':=z7 hX';have HSER':=z7 hser';have HIN:=z7 hin11;have HO11:=z7 ho11;have hblk:∀k,S k→(∀Y,z0H (id:Int) E=some Y→¬Y.In k)→w11.heap[k]? =w.heap[k]? :=fun k hk hn=>by
   have hkl:=(H.out.lo k hk).2;have hkl10:=HL10.out.low.size;refine (ho11.block k (by omega) fun e=>?_).trans (HL10.out.low.block k hkl fun e=>e);have hXk:X.In k:=by
    rcases e with rfl | rfl
    ·exact .inr (.inl rfl)
    ·exact .inl rfl
   rcases HWH.out with hw | ⟨-,hw⟩
   ·exact hn X hw hXk
   ·have:=hw k hXk;have:=HL1.out.low.size;omega
  have HBLK:=z7 hblk;have hnb:∀Y,z0H (id:Int) E=some Y→¬Y.In bb∧¬Y.In mb:=fun Y hY=>⟨fun hk=>((H.out.each _ (z1w hY)).2 bb hk).2.1 rfl,fun hk=>((H.out.each _ (z1w hY)).2 mb hk).2.2 rfl⟩;have hbb11:=(hblk bb H.out.own.1 fun Y hY=>(hnb Y hY).1).trans H.out.blk;have hmb11:y5d w11 mb E:=H.out.map.same (hblk mb H.out.own.2 fun Y hY=>(hnb Y hY).2);obtain ⟨b0,b1,b2,bf⟩:=cells3 hbb11;have lb:=(Array.getElem?_eq_some_iff.1 hbb11).1;have HMB:=z7 hmb11;rw [←hsb'];have hel:E.length<maxLen:=by have:=H.out.few;unfold maxLen;omega
  clear hX' hser' hin11 ho11 hblk hbb11 hmb11 hsb';go_wp2_with (at_mapUpdate;refine z3K z6j rfl _ _ _ 165 rfl 130 Tryz.underlying165 rfl HMB.out hel (id:Int) rfl (z7S hid) X' rfl rfl ?_;intro w12 hm12 hg12 hs12;have HM12:=z7 hm12;have HG12:=z7 hg12;have HS12:=z7 hs12;clear hm12 hg12 hs12);go_ret;have hmbX:∀k,X'.In k→k≠mb:=fun k hk e=>by
   subst e;have hml:=(H.out.lo k H.out.own.2).2;rcases HIN.out k hk with h1 | h1 | h1
   ·rcases HWH.out with hw | ⟨-,hw⟩
    ·exact (hnb X hw).2 h1
    ·have:=hw k h1;have:=HL1.out.low.size;omega
   ·have:=(HT'.out k h1).1;have:=HL4.out.ge 0 rfl;omega
   ·have:=HL10.out.low.size;omega
  have hX12:z0v w12 X':=HX'.out.keep (fun k hk=>HG12.out.block k (HX'.out.lts k hk) fun e=>hmbX k hk (by simpa using e)) HG12.out.size;have hw11:=HO11.out.size;have hw10:=HL10.out.low.size;have hw12:=HG12.out.size;obtain ⟨S',hB',hS'⟩:=H.out.upd id X' hX12 HM12.out (by omega) (fun k hk=>by
   rcases HIN.out k hk with h1 | h1 | h1
   ·rcases HWH.out with hw | ⟨-,hw⟩
    ·exact .inl ⟨X,hw,h1⟩
    ·have:=hw k h1;have:=HL1.out.low.size;exact .inr (by omega)
   ·have:=(HT'.out k h1).1;have:=HL4.out.ge 0 rfl;exact .inr (by omega)
   ·exact .inr (by omega)) (fun k hk hkm hn=>(HG12.out.block k (by have:=(H.out.lo k hk).2;omega) fun e=>hkm (by simpa using e)).trans (HBLK.out k hk hn)) (fun hn=>by
   have h1:=y4t HMM.out;unfold z3q at h1;split at h1
   ·cases h1
   ·rename_i hr;have hall:b.all.length=E.length:=by rw [H.out.all];simp
    have hget:z0H (id:Int) b.all=none:=by rw [H.out.all,z8m,hn];rfl
    have:¬b.most≤b.all.length:=fun h=>hr ⟨hget,h⟩;omega)
  refine .inr ⟨HMM.out,rfl,z1r z4A (id:Int) X' E,S',?_,?_,hS'⟩
  ·have:z9y b id ⟨t,v⟩=b.set id X'.ser:=by
    unfold z9y;rw [HSER'.out,←HXS.out,HCLD.out,HPN.out];rfl
   rw [this];exact hB'
  ·refine ⟨HG12.out.os.trans (HO11.out.os.trans HL10.out.low.os),HG12.out.tape.trans (HO11.out.tape.trans HL10.out.low.tape),HG12.out.output.trans (HO11.out.output.trans HL10.out.low.output),by omega,fun k hk hn=>?_⟩;refine (HG12.out.block k (by omega) fun e=>hn (by rw [show k=mb by simpa using e];exact H.out.own.2)).trans ((HO11.out.block k (by omega) fun e=>?_).trans (HL10.out.low.block k hk fun e=>e));have hXk:X.In k:=by
    rcases e with rfl | rfl
    ·exact .inr (.inl rfl)
    ·exact .inl rfl
   rcases HWH.out with hw | ⟨-,hw⟩
   ·exact hn ((H.out.each _ (z1w hw)).2 k hXk).1
   ·have:=hw k hXk;have:=HL1.out.low.size;omega
 ·have HMM:=z7 hm;have hne:((z5Y b id t:Int) !=0)=true:=by rw [bne_iff_ne];omega
  clear h hT hm hs hlt hfew;go_enter Tryz.func38,Tryz.ntmps38;go_wp2_with fail;refine HM.out.mono ?_;rintro e w1 ⟨rfl,hb⟩;have HL1:=z7 (HL0.out.call hb);clear hb;go_wp2;go_ret;exact .inl ⟨HMM.out,rfl,HL1.out.low⟩
end Go.Proofs.YtfcnapnopdomhaaGreatDoor

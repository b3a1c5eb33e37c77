/-
  The walks of a book's Take, Fits, End.
-/
import Derived.Test.YtfcnapnopdomhaaGreatDoorZBkH
namespace Go.Proofs.YtfcnapnopdomhaaGreatDoor
set_option linter.unusedSimpArgs false
set_option linter.unusedVariables false
set_option maxRecDepth 100000
set_option maxHeartbeats 12800000
open Go.RowKit Go.Maps
structure Grown (w w11:World) (bb mb B:Nat) (E:List (Int×z0C)) (b:z0m) (S:Nat→Prop) (id:Nat) (X':z0C):Prop where
 blk:w11.heap[bb]? =w.heap[bb]?
 map:y5d w11 mb E
 then_:∀w12,y5d w12 mb (z1r z4A (id:Int) X' E)→w11.grownBy w12 (some mb)→∃S',z0r w12 bb mb (z1r z4A (id:Int) X' E) (b.set id X'.ser) B S'∧z0s S w w12∧∀k,S' k→S k∨w.heap.size≤k
theorem z0r.grown{w w10 w11:World}{bb mb B:Nat}{E:List (Int×z0C)}{b:z0m}{S:Nat→Prop}(h:z0r w bb mb E b B S)(id:Nat)(X X':z0C)(hWH:z0H (id:Int) E=some X∨(z0H (id:Int) E=none∧∀k,X.In k→w.heap.size≤k))
  (h10:Below w.heap.size w w10) {T':Nat→Prop} (hT':∀k,T' k→w.heap.size≤k) (ho11:z0s (fun k=>k=X.g∨k=X.sb) w10 w11) (hin11:∀k,X'.In k→X.In k∨T' k∨w10.heap.size≤k) (hX':z0v w11 X') (hroom:z3q b id=0):Grown w w11 bb mb B E b S id X':=by
 have hXk:∀k,(k=X.g∨k=X.sb)→X.In k:=fun k e=>by
  rcases e with rfl | rfl
  ·exact .inr (.inl rfl)
  ·exact .inl rfl
 have hblk:∀k,S k→(∀Y,z0H (id:Int) E=some Y→¬Y.In k)→w11.heap[k]? =w.heap[k]? :=fun k hk hn=>by
  have hkl:=(h.lo k hk).2;have hkl10:=h10.size;refine (ho11.block k (by omega) fun e=>?_).trans (h10.block k hkl);rcases hWH with hw | ⟨-,hw⟩
  ·exact hn X hw (hXk k e)
  ·have:=hw k (hXk k e);omega
 have hnb:∀Y,z0H (id:Int) E=some Y→¬Y.In bb∧¬Y.In mb:=fun Y hY=>⟨fun hk=>((h.each _ (z1w hY)).2 bb hk).2.1 rfl,fun hk=>((h.each _ (z1w hY)).2 mb hk).2.2 rfl⟩;have hbb11:=hblk bb h.own.1 fun Y hY=>(hnb Y hY).1;have hmb11:y5d w11 mb E:=h.map.same (hblk mb h.own.2 fun Y hY=>(hnb Y hY).2);refine ⟨hbb11,hmb11,fun w12 hm12 hg12=>?_⟩;have hw11:=ho11.size;have hw10:=h10.size;have hw12:=hg12.size;have hml:=(h.lo mb h.own.2).2;have hmbX:∀k,X'.In k→k≠mb:=fun k hk e=>by
  subst e;rcases hin11 k hk with h1 | h1 | h1
  ·rcases hWH with hw | ⟨-,hw⟩
   ·exact (hnb X hw).2 h1
   ·have:=hw k h1;omega
  ·have:=hT' k h1;omega
  ·omega
 have hX12:z0v w12 X':=hX'.keep (fun k hk=>hg12.block k (hX'.lts k hk) fun e=>hmbX k hk (by simpa using e)) hg12.size;obtain ⟨S',hB',hS'⟩:=h.upd id X' hX12 hm12 (by omega) (fun k hk=>by
  rcases hin11 k hk with h1 | h1 | h1
  ·rcases hWH with hw | ⟨-,hw⟩
   ·exact .inl ⟨X,hw,h1⟩
   ·exact .inr (hw k h1)
  ·exact .inr (hT' k h1)
  ·exact .inr (by omega)) (fun k hk hkm hn=>(hg12.block k (by have:=(h.lo k hk).2;omega) fun e=>hkm (by simpa using e)).trans (hblk k hk hn)) (fun hn=>by
  have h1:=hroom;unfold z3q at h1;split at h1
  ·cases h1
  ·rename_i hr;have hall:b.all.length=E.length:=by rw [h.all];simp
   have hget:z0H (id:Int) b.all=none:=by rw [h.all,z8m,hn];rfl
   have:¬b.most≤b.all.length:=fun h=>hr ⟨hget,h⟩;omega)
 refine ⟨S',hB',⟨hg12.os.trans (ho11.os.trans h10.os),hg12.tape.trans (ho11.tape.trans h10.tape),hg12.output.trans (ho11.output.trans h10.output),by omega,fun k hk hn=>?_⟩,hS'⟩;refine (hg12.block k (by omega) fun e=>hn (by rw [show k=mb by simpa using e];exact h.own.2)).trans ((ho11.block k (by omega) fun e=>?_).trans (h10.block k hk));rcases hWH with hw | ⟨-,hw⟩
 ·exact hn ((h.each _ (z1w hw)).2 k (hXk k e)).1
 ·have:=hw k (hXk k e);omega
theorem y2u{b:z0m}{x:z1o}{f:Fr}{l:List Bool}(h:(z0Z b x f l).1=0):z3q b f.series=0:=by
 unfold z0Z at h;split at h
 ·contradiction
 ·rename_i h2;simpa using h2
def takeB(b:z0m)(f:Fr)(l:List Bool):z0m:=b.set f.series (z6E (z0f b f.series) (z0Z b (z0f b f.series) f l).2 f.closed)
def z3G(b:z0m)(f:Fr)(l:List Bool):Nat:=(z0Z b (z0f b f.series) f l).1
def y3b(bb mb B:Nat)(S:Nat→Prop)(b:z0m)(f:Fr)(l:List Bool)(w:World)(e:Ending)(w':World):Prop:=
 e= .returned (.int .u16 (z3G b f l:Nat))∧((z3G b f l≠0∧Below w.heap.size w w')∨(z3G b f l=0∧∃E' S',z0r w' bb mb E' (takeB b f l) B S'∧z0s S w w'∧∀k,S' k→S k∨w.heap.size≤k))
theorem q1N(bb mb B:Nat)(E:List (Int×z0C))(b:z0m)(S:Nat→Prop)(f:Fr)(a:Option Addr)(n c:Nat)(l:List Bool)(hf:f.Ok)(hfn:f.n=(l.length:Nat))(hfb:n=f.b.length)(hl:l.length≤1000000)(hfew:(z0f b f.series).done.length≤1000000000)(w:World)(h:z0r w bb mb E b B S)(hl':z0o w a n c l f.b)(hT:z1m w):
  Calls Tryz.prog 95 #[.pointer (some ⟨bb,0,none⟩),frV f (.slice a n c)] w (y3b bb mb B S b f l w):=by
 have HL0:=z7 ((Loc.start w).new (.cells (z0a f (.slice a n c)) 50));have H:=z7 h;have HBT:=z7 hl';have HT:=z7 hT;have HFEW:=z7 hfew;have HAT:=z7 (z9q bb mb B E b S f.series hf.series _ (h.low HL0.out.low));have HBR:=z7 (fun X (hfew:X.done.length≤1000000000) w' h1 h2 h3 h4=>y0i bb mb B E b S X f a n c l hf hfn hfb hl hfew w' h1 h2 h3 h4);have hser:=hf.series;obtain ⟨F,hF⟩:∃F,F=f:=⟨_,rfl⟩;have HFF:=z7 hF;rw [←hF] at HL0 HAT HBR HBT hser HFEW ⊢;obtain ⟨kind,epoch,series,ck,pb,pc,cnt,closed,sum,fb,fn⟩:=F;unfold frV z0a at HBR ⊢;unfold z0a at HL0 HAT;simp only at HL0 HAT HBR hser ⊢;clear h hl' hT hfew hF hf hfn hfb;go_enter Tryz.func95,Tryz.ntmps95;obtain ⟨f0,f1,f2,f3,f4,f5,f6,f7,f8,f9,f10,ff⟩:=z0q (HL0.out.get 0 rfl);go_wp2_with fail;refine HAT.out.mono ?_;rintro e w2 ⟨X,rfl,hX,hXs,hb,hw⟩;have HL2:=z7 (HL0.out.call hb);have hbr:=HBR.out X (by have:=HFEW.out;rw [←hXs,X.done_len] at this;exact this) w2 (H.out.low HL2.out.low) hX (HBT.out.low HL2.out.low) (HT.out.low HL2.out.low);rw [hXs] at hbr;have HB:=z7 hbr;have HXR:=z7 hX;have HXS:=z7 hXs;have HWH:=z7 hw;have HB2:=z7 hb;clear hX hXs hb hw hbr f0 f1 f2 f3 f4 f5 f6 f7 f8 f9 f10 ff;obtain ⟨f0,f1,f2,f3,f4,f5,f6,f7,f8,f9,f10,ff⟩:=z0q (HL2.out.get 0 rfl);have l1:=HL2.out.lt 0 rfl;obtain ⟨BR,hBR⟩:∃r,r=z0Z b (z0f b series) ⟨kind,epoch,series,ck,pb,pc,cnt,closed,sum,fb,fn⟩ l:=⟨_,rfl⟩;have HBRE:=z7 hBR;unfold z6U at HB;rw [←hBR] at HB;obtain ⟨er,P⟩:=BR;simp only at HB;clear hBR;go_wp2_with fail;refine HB.out.mono ?_
 rintro e w3 ⟨hb3,⟨hne,rfl⟩ | ⟨he0,y,T',rfl,hyp,hyo,hy0,hyT⟩⟩
 ·have HL3:=z7 (HL2.out.call hb3);have hd:((er:Int)==0)=false:=beq_false_of_ne (by omega);have HNE:=z7 hne;clear hne hb3 HB;go_wp2_with (refine z0h rfl _ _ _ rfl w3.heap.size 0 rfl (z1y.vals false).toArray rfl (by exact z0y (j8 w3 _) rfl) (by exact z0B (j8 w3 _)) z0Q (z1y.one false) ?_;rw [z5e _ _ _ _ (by rfl)]);go_ret;have hte:z3G b ⟨kind,epoch,series,ck,pb,pc,cnt,closed,sum,fb,fn⟩ l=er:=by unfold z3G;rw [←HBRE.out]
  exact ⟨by rw [hte];rfl, .inl ⟨by rw [hte];exact HNE.out,(HL3.out.call (q5 _ _)).low⟩⟩
 ·have HL3:=z7 (HL2.out.call hb3);have hd:((er:Int)==0)=true:=by rw [he0];rfl
  have HE0:=z7 he0;have HYP:=z7 hyp;have HYO:=z7 hyo;have HY0:=z7 hy0;have HYT:=z7 hyT;have HX3:=z7 (HXR.out.low hb3);clear he0 hyp hyo hy0 hyT hb3 HB;obtain ⟨W4,hW4,hL4⟩:=(HL3.out.new (.cells (y.vals closed).toArray 141)).named;have hX4:z0v W4 X:=by rw [hW4];exact HX3.out.low (q5 _ _)
  have hyo4:y.Ok T' W4:=HYO.out.next fun k hk=>by rw [hW4];exact (q5 w3 _).block k (HYT.out k hk).2
  have hXlt:∀k,X.In k→k<w2.heap.size:=fun k hk=>HXR.out.lts k hk;have HW4:=z7 hW4;have HL4:=z7 hL4;have hgr:=z7 (y6T X y closed T' (by have:=HFEW.out;rw [←HXS.out,X.done_len] at this;exact this) W4 hX4 hyo4 (fun k hk=>⟨by have:=(HYT.out k hk).2;rw [hW4];simp;omega,by have:=(HYT.out k hk).1;have:=hXlt X.sb (.inl rfl);omega,by have:=(HYT.out k hk).1;have:=hXlt X.g (.inr (.inl rfl));omega⟩) HY0.out);obtain ⟨f0',f1',f2', -⟩:=z0q (HL3.out.get 0 rfl);have l1':=HL3.out.lt 0 rfl;clear hW4 hL4 hX4 hyo4 hXlt f0 f1 f2 f3 f4 f5 f6 f7 f8 f9 f10 ff;go_upto_region 3 with (refine z0h rfl _ _ _ rfl w3.heap.size 0 rfl (y.vals closed).toArray rfl (by exact z0y (j8 w3 _) rfl) (by exact z0B (j8 w3 _)) z0Q (y.one closed) ?_;rw [z5e _ _ _ _ (by rfl)])
  refine z0D HW4.out ?_;obtain ⟨p0,hp0⟩:∃p,p=w3.heap.size:=⟨_,rfl⟩;rw [←hp0] at HL4 ⊢;clear hp0 f0' f1' f2' l1' l1;have hpb:=HL4.out.get 0 rfl;go_wp2_with (refine z0N rfl 141 _ rfl p0 0 rfl _ (z2a hpb) z3k z0Q ?_);refine hgr.out.mono ?_;rintro e w5 ⟨rfl,X',hsb',hser',hX',ho5,hin5⟩;have HG:=z7 (H.out.grown series X X' (by
   rcases HWH.out with h | ⟨h1,h2⟩
   ·exact .inl h
   ·exact .inr ⟨h1,fun k hk=>by have:=h2 k hk;have:=HL0.out.low.size;omega⟩) HL4.out.low (fun k hk=>by have:=(HYT.out k hk).1;have:=HL2.out.low.size;omega) ho5 hin5 hX' (by
   have h1:=y2u (b:=b) (x:=z0f b series) (f:=⟨kind,epoch,series,ck,pb,pc,cnt,closed,sum,fb,fn⟩) (l:=l) (by rw [←HBRE.out];exact HE0.out);exact h1))
  have HX':=z7 hX';have HSER:=z7 hser';have hX2k:∀k,(k=X.g∨k=X.sb)→k<w2.heap.size:=fun k hk=>by
   rcases hk with rfl | rfl
   ·exact HXR.out.lts _ (.inr (.inl rfl))
   ·exact HXR.out.lts _ (.inl rfl)
  have hfr5:w5.heap[w.heap.size]? =some (.cells #[.int .u8 kind, .int .u32 epoch, .int .u32 series, .int .u32 ck, .int .u32 pb, .int .u32 pc, .int .u32 cnt, .bool closed, .int .u64 sum, .slice a n c, .int .i64 fn] 50 (0,0)):=(ho5.block _ (HL4.out.lt 1 rfl) (fun e=>by
   have hk:X.In w.heap.size:=by
    rcases e with e | e
    ·exact .inr (.inl e)
    ·exact .inl e
   rcases HWH.out with h | ⟨h1,h2⟩
   ·have:=(H.out.lo _ ((H.out.each _ (z1w h)).2 _ hk).1).2;omega
   ·have:=h2 _ hk;have:=HL0.out.lt 0 rfl;omega)).trans (HL4.out.get 1 rfl)
  have HFR:=z7 hfr5;have HB5:=z7 (HG.out.blk.trans H.out.blk);have hel:E.length<maxLen:=by have:=H.out.few;unfold maxLen;omega
  rw [←hsb'];clear hsb' hser' hX' ho5 hin5 hgr hpb hfr5 hX2k;go_wp2_with fail;refine q6 7 32 (by kernel_rfl) (by kernel_rfl) rfl (by kernel_rfl) (fun D v w'=>Below w5.heap.size w5 w') (fun _=>undef) (Below.refl _ _).drew ?_;simp only [List.take_succ_cons,List.take_zero,List.drop_succ_cons,List.drop_zero];iterate 7 (refine q8.rd (e:=?_) (fun D v w' hD hS=>?_) ?_;rotate_left;(have hb5:=(hS.block _ (Array.getElem?_eq_some_iff.1 HB5.out).1).trans HB5.out;obtain ⟨b0,b1,b2,bf⟩:=cells3 hb5;have lb:=(Array.getElem?_eq_some_iff.1 hb5).1;have hf5:=(hS.block _ (Array.getElem?_eq_some_iff.1 HFR.out).1).trans HFR.out;obtain ⟨f0,f1,f2,f3,f4,f5,f6,f7,f8,f9,f10,ff⟩:=z0q hf5;have lf:=(Array.getElem?_eq_some_iff.1 hf5).1;clear hS hD;first | (go_simp;done) | (go_simp;with_reducible rfl));go_simp)
  refine q8.fin (fun vv w6 hS=>?_);have HM6:=z7 (HG.out.map.low hS);have HS6:=z7 hS;clear hS;go_wp2_with (at_mapUpdate;refine z3K z6j rfl _ _ _ 165 rfl 130 Tryz.underlying165 rfl HM6.out hel (series:Int) rfl (z7S hser) X' rfl rfl ?_;intro w7 hm7 hg7 hs7;have HM7:=z7 hm7;have HG7:=z7 hg7;clear hm7 hg7 hs7);go_ret;have hte:z3G b ⟨kind,epoch,series,ck,pb,pc,cnt,closed,sum,fb,fn⟩ l=er:=by unfold z3G;rw [←HBRE.out]
  have htb:takeB b ⟨kind,epoch,series,ck,pb,pc,cnt,closed,sum,fb,fn⟩ l=b.set series X'.ser:=by
   unfold takeB;rw [←HBRE.out,HSER.out,HYP.out,HXS.out]
  obtain ⟨S',h1,h2,h3⟩:=HG.out.then_ w7 HM7.out ⟨HG7.out.os.trans HS6.out.os,HG7.out.tape.trans HS6.out.tape,HG7.out.output.trans HS6.out.output,Nat.le_trans HS6.out.size HG7.out.size,fun k hk hn=>(HG7.out.block k (Nat.lt_of_lt_of_le hk HS6.out.size) hn).trans (HS6.out.block k hk)⟩;refine ⟨by rw [hte,HE0.out];rfl, .inr ⟨by rw [hte];exact HE0.out,z1r z4A (series:Int) X' E,S',?_,h2,h3⟩⟩;rw [htb];exact h1
structure FiS (W:World) (n m:Nat) (g:Option z0C) (s:z1o) (sz:Nat) (ty:TypeId) (y:Value) (R:Array Value→World→Prop) (D:Nat→Bool) (v:Nat→Value) (w':World):Prop where
 cs:CsS W n sz ty y R D v w'
 at_:D m=true→D n=false→∃X,v m= .pointer (some ⟨X.sb,0,none⟩)∧z0v w' X∧X.ser=s
theorem FiS.other{W w' w'':World}{n m sz:Nat}{g:Option z0C}{s:z1o}{ty:TypeId}{y:Value}{R:Array Value→World→Prop}{D:Nat→Bool}{v:Nat→Value}(h:FiS W n m g s sz ty y R D v w')(k:Nat)(h0:k≠n)(h1:k≠n+1)(h2:k≠n+2)(h4:k≠n+4)(h5:k≠n+5)(hm:k≠m)(hb:Below w'.heap.size w' w''):FiS W n m g s sz ty y R (mark D k) v w'':=
 ⟨h.cs.other k h0 h1 h2 h4 h5 hb,fun e e'=>by
  rw [q9 hm] at e;rw [q9 h0] at e';obtain ⟨X,g1,g2,g3⟩:=h.at_ e e';exact ⟨X,g1,g2.low hb,g3⟩⟩
theorem q2j(bb mb B:Nat)(E:List (Int×z0C))(b:z0m)(S:Nat→Prop)(f:Fr)(a:Option Addr)(n c:Nat)(l:List Bool)(hf:f.Ok)(hfn:f.n=(l.length:Nat))(hfb:n=f.b.length)(hl:l.length≤1000000)(hfew:(z0f b f.series).done.length≤1000000000)(w:World)(h:z0r w bb mb E b B S)(hl':z0o w a n c l f.b)(hT:z1m w):
  Calls Tryz.prog 115 #[.pointer (some ⟨bb,0,none⟩),frV f (.slice a n c)] w fun e w'=>e= .returned (.int .u16 (z3G b f l:Nat))∧Below w.heap.size w w':=by
 have HL0:=z7 ((Loc.start w).new (.cells (z0a f (.slice a n c)) 50));have H:=z7 h;have HBT:=z7 hl';have HT:=z7 hT;have HFEW:=z7 hfew;have HAT:=z7 (fun w' h=>z9q bb mb B E b S f.series hf.series w' h);have HBR:=z7 (fun X (hfew:X.done.length≤1000000000) w' h1 h2 h3 h4=>y0i bb mb B E b S X f a n c l hf hfn hfb hl hfew w' h1 h2 h3 h4);have hser:=hf.series;obtain ⟨F,hF⟩:∃F,F=f:=⟨_,rfl⟩;have HFF:=z7 hF;rw [←hF] at HL0 HAT HBR HBT hser HFEW ⊢;obtain ⟨kind,epoch,series,ck,pb,pc,cnt,closed,sum,fb,fn⟩:=F;unfold frV z0a at HBR ⊢;unfold z0a at HL0;simp only at HL0 HAT HBR hser ⊢;clear h hl' hT hfew hF hf hfn hfb;obtain ⟨er,her⟩:∃er,er=z3G b ⟨kind,epoch,series,ck,pb,pc,cnt,closed,sum,fb,fn⟩ l:=⟨_,rfl⟩;have HER:Hid (er=(z0Z b (z0f b series) ⟨kind,epoch,series,ck,pb,pc,cnt,closed,sum,fb,fn⟩ l).1):=z7 her;rw [←her];clear her;go_enter Tryz.func115,Tryz.ntmps115;go_upto_region 1 with fail
 obtain ⟨W,hW,hL⟩:=HL0.out.named;refine z0D hW ?_;have HL:=z7 hL;clear hL hW;refine q6 13 18 (by kernel_rfl) (by kernel_rfl) rfl (by kernel_rfl) (fun D v w'=>FiS W 6 4 (z0H (series:Int) E) (z0f b series) 11 141 (.int .u16 (er:Nat)) (fun _ _=>True) D v w') (fun _=>undef) ⟨CsS.start _ _ _ _ _ _,fun e=>by cases e⟩ ?_;simp only [List.take_succ_cons,List.take_zero,List.drop_succ_cons,List.drop_zero];iterate 4 (refine q8.read (e:=?_) (fun v=>by rfl) (fun D v w h=>⟨h.cs.other _ (by decide) (by decide) (by decide) (by decide) (by decide) (Below.refl _ _),h.at_⟩) (fun D v w' hD hS=>?_) ?_;rotate_left;(obtain ⟨f0,f1,f2,f3,f4,f5,f6,f7,f8,f9,f10,ff⟩:=z0q ((HL.out.call hS.cs.low).get 0 rfl);have l1:=(HL.out.call hS.cs.low).lt 0 rfl;clear hS hD;first | (go_simp;done) | (go_simp;with_reducible rfl));go_simp)
 refine q8.rel (fun v=>by rfl) (fun D v w' hD hS=>?_) ?_
 ·have HZ:=z7 hS;clear hS hD;go_simp;go_at_call 44;refine (HAT.out w' (H.out.low (HL.out.call HZ.out.cs.low).low)).mono ?_;rintro e w'' ⟨X,rfl,hX,hXs,hb, -⟩;exact ⟨(HZ.out.cs.other 4 (by decide) (by decide) (by decide) (by decide) (by decide) hb).value 4 _ (by decide) (by decide) (by decide) (by decide),fun _ _=>⟨X,z0p _ _ _,hX,hXs⟩⟩
 go_simp;iterate 1 (refine q8.read (e:=?_) (fun v=>by rfl) (fun D v w h=>⟨h.cs.other _ (by decide) (by decide) (by decide) (by decide) (by decide) (Below.refl _ _),h.at_⟩) (fun D v w' hD hS=>?_) ?_;rotate_left;(obtain ⟨f0,f1,f2,f3,f4,f5,f6,f7,f8,f9,f10,ff⟩:=z0q ((HL.out.call hS.cs.low).get 0 rfl);have l1:=(HL.out.call hS.cs.low).lt 0 rfl;clear hS hD;first | (go_simp;done) | (go_simp;with_reducible rfl));go_simp)
 refine q8.rel (fun v=>by rfl) (fun D v w' hD hS=>?_) ?_
 ·obtain ⟨X,hv4,hX,hXs⟩:=hS.at_ (hD.pre 4 (by kernel_rfl)) hD.self;have hlow:=(HL.out.call hS.cs.low).low;have hbr:=HBR.out X (by have:=HFEW.out;rw [←hXs,X.done_len] at this;exact this) w' (H.out.low hlow) hX (HBT.out.low hlow) (HT.out.low hlow);rw [hXs] at hbr;unfold z6U at hbr;rw [←HER.out] at hbr;have HB:=z7 hbr;have HZ:=z7 hS;have d6:=z7 hD.self;clear hS hD hX hXs hlow hbr;go_simp;go_at_call 166;refine HB.out.mono ?_;rintro e w'' ⟨hb3,⟨hne,rfl⟩ | ⟨he0,y,T',rfl,hyp,hyo,hy0,hyT⟩⟩
  ·exact ⟨HZ.out.cs.call d6.out hb3 (z1y.vals false).toArray (fun _=>False) rfl (z1y.one false) (fun _ _=>trivial) (fun k hk=>hk.elim),fun _ e=>by rw [z1z] at e;cases e⟩
  ·have h9:=HZ.out.cs.call d6.out hb3 (y.vals closed).toArray (fun _=>False) rfl (y.one closed) (fun _ _=>trivial) (fun k hk=>hk.elim);have e9:Value.int .u16 (er:Int)= .int .u16 0:=by rw [he0];rfl
   rw [e9] at h9 ⊢;exact ⟨h9,fun _ e=>by rw [z1z] at e;cases e⟩
 go_simp;refine q8.rel (fun v=>by rfl) (fun D v w' hD hS=>?_) ?_
 ·have d:=hD.pre 6 (by kernel_rfl);have HS2:=z7 (hS.cs.move d);clear hS hD;go_simp;exact ⟨HS2.out,fun _ e=>by rw [q9 (by decide),d] at e;cases e⟩
 go_simp;refine q8.rel (fun v=>by rfl) (fun D v w' hD hS=>?_) ?_
 ·obtain ⟨d,hm⟩:=hS.cs.m (hD.pre 7 (by kernel_rfl));obtain ⟨p,F,hp, -⟩:=hS.cs.c d;have d11:D 11=false:=hD.post 11 _ rfl (by kernel_rfl);have HS2:=z7 (hS.cs.ext d hp d11);rw [hp] at hm;clear hS hD hp;go_simp;exact ⟨HS2.out,fun _ e=>by rw [q9 (by decide),d] at e;cases e⟩
 go_simp;refine q8.read (.int .u16 (er:Nat)) (fun v=>by rfl) (fun D v w h=>⟨h.cs.other 9 (by decide) (by decide) (by decide) (by decide) (by decide) (Below.refl _ _),h.at_⟩) (fun D v w' hD hS=>?_) ?_
 ·obtain ⟨d,hm⟩:=hS.cs.m (hD.pre 7 (by kernel_rfl));obtain ⟨p,F,hp, -⟩:=hS.cs.c d;rw [hp] at hm;clear hS hD hp;go_simp
 go_simp;refine q8.rel (fun v=>by rfl) (fun D v w' hD hS=>?_) ?_
 ·have d11:D 11=false:=hD.post 11 _ rfl (by kernel_rfl);have HS2:=z7 (hS.cs.make d11 (Z:= #[.slice none 0 0, .int .i64 0, .slice none 0 0, .int .i64 0, .int .i64 0, .int .i64 0, .bool false, .int .u64 0, .int .u8 0, .int .u8 0, .bool false]) rfl);have HA:=z7 hS.at_;clear hS hD;go_simp;refine ⟨HS2.out,fun e e'=>?_⟩;rw [q9 (by decide)] at e e';obtain ⟨X,h1,h2,h3⟩:=HA.out e e';exact ⟨X,by rw [z0c (by decide)];exact h1,h2.low (q5 _ _),h3⟩
 go_simp;refine q8.call undef (fun v=>by rfl) (fun D v w' hD hS=>?_) ?_
 ·have d8:=hD.pre 8 (by kernel_rfl);have d10:=hD.pre 10 (by kernel_rfl);obtain ⟨d,he⟩:=hS.cs.e d8;obtain ⟨p,F,hp,hps,hpo, -⟩:=hS.cs.c d;have hv8:=he p hp;obtain ⟨g,cs,hg, -,hgc,hcs, -⟩:=hS.cs.al d10;refine z1N _ _ _ rfl g 0 hg p hv8 (z0y hgc (by omega)) (z0B hgc) (by rw [hps];exact z0Q) hpo ?_;exact ⟨undef,rfl,rfl,⟨hS.cs.store d8 d10 hg hv8 hps,fun _ e=>by rw [q9 (by decide),d] at e;cases e⟩⟩
 go_simp;iterate 1 (refine q8.read (e:=?_) (fun v=>by rfl) (fun D v w h=>⟨h.cs.other _ (by decide) (by decide) (by decide) (by decide) (by decide) (Below.refl _ _),h.at_⟩) (fun D v w' hD hS=>?_) ?_;rotate_left;(skip;clear hS hD;first | (go_simp;done) | (go_simp;with_reducible rfl));go_simp)
 refine q8.fin (fun v w9 hS=>?_);have hb:=hS.cs.low;clear hS;go_wp2;go_ret;exact ⟨rfl,(HL.out.call hb).low⟩
def z0C.parts(X:z0C):List (z1g×Bool):=X.done.map (fun x=>(x,true))++ [(X.cur,false)]
def z1o.parts(s:z1o):List (z1h×Bool):=s.done.map (fun x=>(x,true))++ [(s.cur,false)]
theorem z0C.parts_ser(X:z0C):X.ser.parts=X.parts.map fun x=>(x.1.p,x.2):=by simp [z0C.parts,z1o.parts,z0C.ser]
theorem z0C.parts_len(X:z0C):X.parts.length=X.done.length+1:=by simp [z0C.parts]
theorem z1o.parts_len(s:z1o):s.parts.length=s.done.length+1:=by simp [z1o.parts]
theorem z0C.parts_cells(X:z0C):X.cells=X.parts.flatMap fun x=>x.1.vals x.2:=by simp [z0C.parts,z0C.cells,List.flatMap_append,List.flatMap_map]
theorem z9H{α:Type}(f:α→List Value)(m:Nat)(hf:∀a,(f a).length=m):∀(l:List α) (k:Nat) (a:α),l[k]? =some a→∀j,j<m→(l.flatMap f)[k*m+j]? =(f a)[j]?
 | [],k,a,h,j,hj=>by simp at h
 | x::l,0,a,h,j,hj=>by
  simp only [List.getElem?_cons_zero,Option.some.injEq] at h;subst h;rw [List.flatMap_cons,List.getElem?_append_left (by rw [hf];omega),Nat.zero_mul,Nat.zero_add]
 | x::l,k+1,a,h,j,hj=>by
  simp only [List.getElem?_cons_succ] at h;rw [List.flatMap_cons,List.getElem?_append_right (by rw [hf,Nat.succ_mul];omega),hf,←z9H f m hf l k a h j hj]
  congr 1
  rw [Nat.succ_mul];omega
theorem z0v.partAt{w:World}{X:z0C}(h:z0v w X){k:Nat}{x:z1g}{cl:Bool}(hk:X.parts[k]? =some (x,cl)){o:Nat}(ho:o=k*11):∀j v,(x.vals cl).toArray[j]? =some v→w.cell? ⟨X.g,o+j,none⟩=some v:=fun j v hv=>by
 subst ho;have hj:j<11:=by
  have:=(Array.getElem?_eq_some_iff.1 hv).1;simpa [z1g.vals_len] using this
 have h1:=(z0d h.row).2;rcases h1 with h1 | ⟨ad,cp,h1,h2⟩
 ·exact absurd h1.2 (by omega)
 ·have h3:=h2 (k*11+j) v (by rw [X.parts_cells,z9H _ 11 (fun a=>z1g.vals_len _ _) _ _ _ hk j hj];simpa using hv);simp only [Value.slice.injEq,Option.some.injEq] at h1;rw [←h1.1,z9O,Nat.zero_add] at h3;exact h3
theorem z0v.partOk{w:World}{X:z0C}(h:z0v w X){k:Nat}{x:z1g}{cl:Bool}(hk:X.parts[k]? =some (x,cl)):x.Ok X.T w∧(cl=true→0<x.p.st.length):=by
 have hm:=List.mem_of_getElem? hk;unfold z0C.parts at hm;rw [List.mem_append,List.mem_map,List.mem_singleton] at hm;rcases hm with ⟨y,hy,e⟩ | e
 ·simp only [Prod.mk.injEq] at e;obtain ⟨rfl,rfl⟩:=e;exact ⟨(h.done _ hy).1,fun _=>(h.done _ hy).2⟩
 ·simp only [Prod.mk.injEq] at e;obtain ⟨rfl,rfl⟩:=e;exact ⟨h.cur,fun e=>by cases e⟩
theorem y2L(bb mb B:Nat)(E:List (Int×z0C))(b:z0m)(S:Nat→Prop)(id:Nat)(hid:id<4294967296)(hfew:(z0f b id).done.length≤1000000000)(w:World)(h:z0r w bb mb E b B S):
  Calls Tryz.prog 14 #[.pointer (some ⟨bb,0,none⟩), .int .u32 id] w fun e w'=>e= .returned (z3D (z1U (z0f b id)))∧Below w.heap.size w w':=by
 have HL0:=z7 ((Loc.start w).new (.cells #[.int .u32 0, .int .u32 0, .int .u32 0] 42));have HAT:=z7 (z9q bb mb B E b S id hid _ (h.low HL0.out.low));obtain ⟨⟨D,EB,EC⟩,hDE⟩:∃e,e=z1U (z0f b id):=⟨_,rfl⟩;have HDE:=z7 hDE;rw [←hDE];have HFEW:=z7 hfew;clear h hDE hfew;go_enter Tryz.func14,Tryz.ntmps14;go_wp2_with fail;refine HAT.out.mono ?_;rintro e w1 ⟨X,rfl,hX,hXs,hb,hw⟩;have HL1:=z7 (HL0.out.call hb);have hend:=y5n X (by have:=HFEW.out;rw [←hXs,X.done_len] at this;exact this) w1 hX;rw [hXs,←HDE.out] at hend;have HEN:=z7 hend;clear hX hXs hb hw hend;go_wp2_with fail;refine HEN.out.mono ?_;rintro e w2 ⟨rfl,hb⟩;have HL2:=z7 (HL1.out.call hb);clear hb;obtain ⟨p0,p1,p2,pf⟩:=cells3 (HL2.out.get 0 rfl);have l0:=HL2.out.lt 0 rfl;go_wp2;have HLF:=(z0E.of (S:=fun _=>False) HL2.out).lay (K':= [(w.heap.size, .cells #[.int .u32 (D:Nat), .int .u32 (EB:Nat), .int .u32 (EC:Nat)] 42 (0,0))]) 0 0 [.int .u32 (D:Nat), .int .u32 (EB:Nat), .int .u32 (EC:Nat)] rfl rfl rfl rfl;refine bodyPost_ret (y2j rfl _ _ w.heap.size _ _ _ rfl (HLF.get 0 rfl) rfl) rfl ?_;exact ⟨rfl,HLF.low.toBelow⟩
def toP(p:z1h)(n:Nat):Nat:=if n=0 then 0 else ((z1i p.st)[n - 1]?).getD 0
theorem q2u(X:z0C)(k:Nat)(x:z1g)(cl:Bool)(hk:X.parts[k]? =some (x,cl))(o:Nat)(ho:o=k*11)(n:Nat)(hn:n≤x.p.st.length)(w:World)(h:z0v w X):
  Calls Tryz.prog 49 #[.pointer (some ⟨X.g,o,none⟩), .int .i64 (n:Nat)] w fun e w'=>e= .returned (.int .i64 (toP x.p n:Nat))∧w=w':=by
 by_cases h0:n=0
 ·subst h0;have ht:toP x.p 0=0:=rfl;rw [ht];clear h hk hn ht;go_enter Tryz.func49,Tryz.ntmps49;go_wp2;go_ret;exact ⟨rfl,rfl⟩
 ·have hlt:n - 1<(z1i x.p.st).length:=by unfold z1i;rw [List.length_map];omega
  obtain ⟨T,hT⟩:∃T,T=toP x.p n:=⟨_,rfl⟩;have hT2:(z1i x.p.st)[n - 1]? =some T:=by rw [hT];unfold toP;rw [if_neg h0,List.getElem?_eq_getElem hlt];rfl
  rw [←hT];have hc:=h.partAt hk ho 2 (.slice x.ea x.p.st.length x.ec) rfl;have hrd:=(h.partOk hk).1.ends.now;have lg:=h.lts X.g (.inr (.inl rfl));have hlen:=(h.partOk hk).1.ok.len;obtain ⟨pn,hpn⟩:∃pn,pn=x.p.st.length:=⟨_,rfl⟩;rw [←hpn] at hc hrd hn hlen;rcases hrd.2 with ⟨-,h2⟩ | ⟨ad,cp,h1,h2⟩
  ·omega
  ·simp only [Value.slice.injEq,true_and] at h1;have h3:=h2 (n - 1) (.int .i64 (T:Nat)) (by unfold z2h;rw [List.getElem?_map,hT2];rfl);have lad:=World.block_lt_of_cell? _ _ h3;rw [h1.1] at hc;obtain ⟨m,hm⟩:∃m,n=m+1:=⟨n - 1,by omega⟩;subst hm;simp only [Nat.add_sub_cancel] at h3;have hw1:IntKind.i64.wrap (m:Int)=(m:Int):=by rw [IntKind.wrap_i64];omega
   have hin:(0:Int)≤m∧(m:Int)<pn:=by omega
   have hne:((m:Int)+1==0)=false:=beq_false_of_ne (by omega);clear h hk hn hT hT2 hrd h1 h2 hpn hlt h0 hlen ho;go_enter Tryz.func49,Tryz.ntmps49;go_wp2;go_ret;exact ⟨rfl,rfl⟩
theorem q0I{p:z1h}(h:p.Ok)(n:Nat):toP p n≤3504:=by
 unfold toP;split
 ·omega
 ·cases hg:(z1i p.st)[n - 1]? with
  | none=>exact Nat.zero_le _
  | some e=>
   unfold z1i at hg;rw [List.getElem?_map,Option.map_eq_some_iff] at hg;obtain ⟨x,hx,rfl⟩:=hg;have h1:=((z3n h.rd).2.2.2.1 x (List.mem_of_getElem? hx)).2.2.2.1;have h2:=h.bits;show x.at_≤3504;omega
def z4n(s:z1o)(p:Nat×Nat×Nat):Option (z1h×Bool):=
 match s.parts[p.1]? with
 | none=>none
 | some (x,cl)=>if x.st.length<p.2.2∨(cl=true∧p.2.2=x.st.length)∨toP x p.2.2≠p.2.1 then none else some (x,cl)
def y4k(X:z0C)(p:Nat×Nat×Nat)(e:Ending):Prop:=
 (z4n X.ser p=none∧e= .returned (.pointer none))∨(∃x cl,X.parts[p.1]? =some (x,cl)∧z4n X.ser p=some (x.p,cl)∧p.2.2≤x.p.st.length∧e= .returned (.pointer (some ⟨X.g,p.1*11,none⟩)))
theorem y6R(X:z0C)(hfew:X.done.length≤1000000000)(ck pb pc:Nat)(h1:ck<4294967296)(h2:pb<4294967296)(h3:pc<4294967296)(w:World)(h:z0v w X):
  Calls Tryz.prog 46 #[.pointer (some ⟨X.sb,0,none⟩),z3D (ck,pb,pc)] w fun e w'=>y4k X (ck,pb,pc) e∧Below w.heap.size w w':=by
 have HL0:=z7 ((Loc.start w).new (.cells #[.int .u32 ck, .int .u32 pb, .int .u32 pc] 42));have HX:=z7 h;have hw1:IntKind.u64.wrap (ck:Int)=(ck:Int):=by rw [IntKind.wrap_u64];omega
 have hw2:IntKind.u64.wrap ((X.done.length:Int)+1)=((X.done.length:Int)+1):=by rw [IntKind.wrap_u64];omega
 have hpl:=X.parts_len;obtain ⟨n,hn⟩:∃n,n=X.done.length:=⟨_,rfl⟩;rw [←hn] at hw2 hpl hfew;have HN:=z7 hn;by_cases hc:ck≤n
 ·obtain ⟨⟨x,cl⟩,hxc⟩:∃y,X.parts[ck]? =some y:=⟨_,List.getElem?_eq_getElem (by omega)⟩;have HTO:=z7 (fun (hn:pc≤x.p.st.length) w' h'=>q2u X ck x cl hxc _ rfl pc hn w' h');have hxl:=((h.partOk hxc).1).ok.len;have hPS:z4n X.ser (ck,pb,pc)=if x.p.st.length<pc∨(cl=true∧pc=x.p.st.length)∨toP x.p pc≠pb then none else some (x.p,cl):=by
   unfold z4n;rw [X.parts_ser,List.getElem?_map,hxc];rfl
  obtain ⟨pn,hpn⟩:∃pn,pn=x.p.st.length:=⟨_,rfl⟩;obtain ⟨T,hT⟩:∃T,T=toP x.p pc:=⟨_,rfl⟩;rw [←hpn,←hT] at HTO;rw [←hpn,←hT] at hPS;rw [←hpn] at hxl;obtain ⟨BAD,hBAD⟩:∃BAD,BAD=decide (pn<pc∨(cl=true∧pc=pn)∨T≠pb):=⟨_,rfl⟩;have hT24:T≤3504:=by rw [hT];exact q0I ((h.partOk hxc).1).ok pc
  have d1:decide ((n:Int)+1≤(ck:Int))=false:=decide_eq_false (by omega);have hin:(ck:Int)<n+1:=by omega
  have hw3:IntKind.u64.wrap (pn:Int)=(pn:Int):=by rw [IntKind.wrap_u64];omega
  have hw4:IntKind.u64.wrap (pc:Int)=(pc:Int):=by rw [IntKind.wrap_u64];omega
  have hw5:IntKind.i64.wrap (pc:Int)=(pc:Int):=by rw [IntKind.wrap_i64];omega
  have hw6:IntKind.u64.wrap (T:Int)=(T:Int):=by rw [IntKind.wrap_u64];omega
  have hw7:IntKind.u64.wrap (pb:Int)=(pb:Int):=by rw [IntKind.wrap_u64];omega
  have HXC:=z7 hxc;have HPS:=z7 hPS;have HPN:=z7 hpn;have HBAD:=z7 hBAD;clear h hpl hn hc hxc hPS hpn hT hBAD;go_enter Tryz.func46,Tryz.ntmps46;go_upto_region 1 with fail
  obtain ⟨W,hW,hL⟩:=HL0.out.named;refine z0D hW ?_;have HL:=z7 hL;clear hL hW;obtain ⟨p0,p1,p2,pf⟩:=cells3 (HL.out.get 0 rfl);have l0:=HL.out.lt 0 rfl;have hX:=HX.out.low HL.out.low;obtain ⟨s0,s1,s2,sf⟩:=hX.cells;rw [←HN.out] at s0;have ls:=hX.lts X.sb (.inl rfl);have lg:=hX.lts X.g (.inr (.inl rfl));have c2:=hX.partAt HXC.out rfl 2 (.slice x.ea x.p.st.length x.ec) rfl;have c10:=hX.partAt HXC.out rfl 10 (.bool cl) rfl;rw [←HPN.out] at c2;clear hX;go_quiet (fail)
  go_wp2_with fail;go_quiet (fail)
  go_upto_region 5 with fail
  refine q1X (w0:=W) (z0k (Below.refl _ _)) (fun W2 hb2=>?_);have HL2:=z7 (HL.out.call hb2);clear p0 p1 p2 pf l0 s0 s1 s2 sf ls lg c2 c10 hb2;obtain ⟨p0,p1,p2,pf⟩:=cells3 (HL2.out.get 0 rfl);have l0:=HL2.out.lt 0 rfl;have hX:=HX.out.low HL2.out.low;have lg:=hX.lts X.g (.inr (.inl rfl));have c10:=hX.partAt HXC.out rfl 10 (.bool cl) rfl;have HX2:=z7 hX;clear hX
  go_cut [59] (fun v wx=>v= .bool BAD∧Hid (Below W2.heap.size W2 wx))
  case first=>
   by_cases t1:pn<pc
   ·have e1:decide ((pn:Int)<(pc:Int))=true:=decide_eq_true (by omega);have hr:BAD=true:=by rw [HBAD.out];exact decide_eq_true (.inl t1)
    go_quiet (fail)
    go_wp2;go_meet
    exact ⟨by rw [hr],z7 (z0k (Below.refl _ _))⟩
   ·have e1:decide ((pn:Int)<(pc:Int))=false:=decide_eq_false (by omega);by_cases t2:cl=true∧pc=pn
    ·obtain ⟨rfl,t2'⟩:=t2;have e2:((pc:Int)==(pn:Int))=true:=by rw [t2'];simp
     have HT2:=z7 t2';clear t2';have hr:BAD=true:=by rw [HBAD.out];exact decide_eq_true (.inr (.inl ⟨rfl,HT2.out⟩))
     go_quiet (fail)
     go_wp2;go_meet
     exact ⟨by rw [hr],z7 (z0k (Below.refl _ _))⟩
    ·have HT2:=z7 t2;have hto:=z7 (fun w' (hb:Below W2.heap.size W2 w')=>HTO.out (by omega) w' (HX2.out.low hb));have hge:¬pn<pc:=t1;clear t2;cases cl with
     | true=>
      have e2:((pc:Int)==(pn:Int))=false:=beq_false_of_ne (fun h=>HT2.out ⟨rfl,by omega⟩);by_cases t3:T=pb
      ·have e3:((T:Int) !=(pb:Int))=false:=by rw [t3];simp
       have HT3:=z7 t3;clear t3;have hr:BAD=false:=by rw [HBAD.out];exact decide_eq_false (fun h=>by rcases h with h | h | h<;>first | omega | exact absurd h HT2.out | exact absurd HT3.out h)
       go_quiet ((go_at_call 49;exact Calls.quiet_of_same ((hto.out _ (z0k (Below.refl _ _))).mono fun e w' h=>⟨h.1,h.2.symm⟩)))
       go_wp2;go_meet
       exact ⟨by rw [hr],z7 (z0k (Below.refl _ _))⟩
      ·have e3:((T:Int) !=(pb:Int))=true:=by rw [bne_iff_ne];omega
       have hr:BAD=true:=by rw [HBAD.out];exact decide_eq_true (.inr (.inr t3))
       go_quiet ((go_at_call 49;exact Calls.quiet_of_same ((hto.out _ (z0k (Below.refl _ _))).mono fun e w' h=>⟨h.1,h.2.symm⟩)))
       go_wp2;go_meet
       exact ⟨by rw [hr],z7 (z0k (Below.refl _ _))⟩
     | false=>
      by_cases t3:T=pb
      ·have e3:((T:Int) !=(pb:Int))=false:=by rw [t3];simp
       have HT3:=z7 t3;clear t3;have hr:BAD=false:=by rw [HBAD.out];exact decide_eq_false (fun h=>by rcases h with h | h | h<;>first | omega | exact absurd h HT2.out | exact absurd HT3.out h)
       go_quiet ((go_at_call 49;exact Calls.quiet_of_same ((hto.out _ (z0k (Below.refl _ _))).mono fun e w' h=>⟨h.1,h.2.symm⟩)))
       go_wp2;go_meet
       exact ⟨by rw [hr],z7 (z0k (Below.refl _ _))⟩
      ·have e3:((T:Int) !=(pb:Int))=true:=by rw [bne_iff_ne];omega
       have hr:BAD=true:=by rw [HBAD.out];exact decide_eq_true (.inr (.inr t3))
       go_quiet ((go_at_call 49;exact Calls.quiet_of_same ((hto.out _ (z0k (Below.refl _ _))).mono fun e w' h=>⟨h.1,h.2.symm⟩)))
       go_wp2;go_meet
       exact ⟨by rw [hr],z7 (z0k (Below.refl _ _))⟩
  case rest=>
   obtain ⟨rfl,hb3⟩:=hcut;have hlow:=(HL2.out.call hb3.out).low;cases BAD with
   | true=>
    have HNO:Hid (z4n X.ser (ck,pb,pc)=none):=z7 (by rw [HPS.out,if_pos (of_decide_eq_true HBAD.out.symm)]);clear hb3;go_wp2;go_ret;exact ⟨.inl ⟨HNO.out,rfl⟩,hlow⟩
   | false=>
    have hn:=of_decide_eq_false HBAD.out.symm;have HYES:Hid (z4n X.ser (ck,pb,pc)=some (x.p,cl)):=z7 (by rw [HPS.out,if_neg hn]);have hle:Hid (pc≤x.p.st.length):=z7 (by rw [←HPN.out];exact Nat.le_of_not_lt fun h=>hn (.inl h));clear hb3 hn;go_wp2;go_ret;exact ⟨.inr ⟨x,cl,HXC.out,HYES.out,hle.out,rfl⟩,hlow⟩
 ·have HNO:Hid (z4n X.ser (ck,pb,pc)=none):=z7 (by
   unfold z4n;rw [X.parts_ser,List.getElem?_map,List.getElem?_eq_none (by simp only;omega)];rfl)
  have d1:decide ((n:Int)+1≤(ck:Int))=true:=decide_eq_true (by omega);clear h hpl hn hc;go_enter Tryz.func46,Tryz.ntmps46;go_upto_region 1 with fail
  obtain ⟨W,hW,hL⟩:=HL0.out.named;refine z0D hW ?_;have HL:=z7 hL;clear hL hW;obtain ⟨p0,p1,p2,pf⟩:=cells3 (HL.out.get 0 rfl);have l0:=HL.out.lt 0 rfl;have hX:=HX.out.low HL.out.low;obtain ⟨s0,s1,s2,sf⟩:=hX.cells;rw [←HN.out] at s0;have ls:=hX.lts X.sb (.inl rfl);clear hX;go_quiet (fail)
  go_wp2;go_ret;exact ⟨.inl ⟨HNO.out,rfl⟩,z0k HL.out.low⟩
end Go.Proofs.YtfcnapnopdomhaaGreatDoor

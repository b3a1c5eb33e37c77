/-
  The walks of a file system's Sync, Cut, Remove.
-/
import Derived.Test.YtfcnapnopdomhaaGreatDoorZFsFFsG
import Derived.Lib.AppendZeros
import Derived.Deep.DeepCutAuto
import Derived.Deep.CutBlock
import Derived.Deep.OwnRows
namespace Go.Proofs.YtfcnapnopdomhaaGreatDoor
set_option linter.unusedSimpArgs false
set_option linter.unusedVariables false
set_option maxRecDepth 100000
set_option maxHeartbeats 12800000
open Go.RowKit Go.Maps
theorem z2D.mapChg{w0 w w':World}{sb mb:Nat}{s s':FsS}{wv:Value}{lp:Option Nat}{E E' L:List (Bs×Ent)}{F0:List Nat}(h:z2D w sb s mb wv lp E L)(hC:Chg F0 (z8F (z1l sb mb wv lp) (E++L)) w0 w)(hm:y6N w' mb E')(hg:w.grownBy w' (some mb))
  (hr:s'.room=s.room) (hh:s'.halted=s.halted) (hl:s'.left=s.left) (hf:s'.files=E'.map ct) (hw:s'.waits=s.waits) (he:∀p∈E',p∈E∨(z4u w (z1l sb mb wv lp) p.2∧∀k,p.2.v.ownBlock=some k→k∈F0∨w0.heap.size≤k)):
  z2v w0 sb F0 s' w':=by
 have h':=h.mapTo hm hg hr hh hl hf hw fun p hp=>(he p hp).imp id (·.1);have hmb:mb∈z8F (z1l sb mb wv lp) (E++L):=z1X.2 (.inl (by simp [z1l]));refine ⟨_,⟨mb,wv,lp,E',L,h',rfl⟩,hg.os.trans hC.os,hg.tape.trans hC.tape,hg.output.trans hC.output,Nat.le_trans hC.size hg.size,fun k hk hn=>?_,fun k hk=>?_⟩
 ·rw [hg.block k (Nat.lt_of_lt_of_le hk hC.size) fun e=>?_,hC.block k hk hn];simp only [Option.some.injEq] at e;have e2:k=mb:=by first | exact e | exact e.symm
  rw [e2] at hn hk;rcases hC.fresh mb hmb with h1 | h1
  ·exact hn h1
  ·omega
 ·rcases z1X.1 hk with hk | ⟨p,hp,hk⟩
  ·exact hC.fresh k (z1X.2 (.inl hk))
  ·rcases List.mem_append.1 hp with hp | hp
   ·rcases he p hp with h2 | h2
    ·exact hC.fresh k (z1X.2 (.inr ⟨p,List.mem_append_left _ h2,hk⟩))
    ·exact h2.2 k hk
   ·exact hC.fresh k (z1X.2 (.inr ⟨p,List.mem_append_right _ hp,hk⟩))
theorem z5t.stays{w w1 w2:World}{F F2:List Nat}{a:Option Addr}{n c:Nat}{b:Bs}(h:z5t w w1 a n c b)(hF:∀k∈F,k<w.heap.size)(hC:Chg F F2 w1 w2){M:List Nat}(hM:∀k∈M,k∈F2):
  z4u w2 M ⟨b,a,n,c⟩∧∀k,(Value.slice a n c).ownBlock=some k→w.heap.size≤k:=by
 have hb:∀k,(Value.slice a n c).ownBlock=some k→w2.heap[k]? =w1.heap[k]? :=fun k hk=>hC.block k (h.ge k hk).2 fun hm=>by have:=hF k hm;have:=(h.ge k hk).1;omega
 refine ⟨⟨h.rd.keep hb,h.2.1,h.cap.1,h.cap.2,fun k hk=>⟨fun hm=>?_,Nat.lt_of_lt_of_le (h.ge k hk).2 hC.size⟩⟩,fun k hk=>(h.ge k hk).1⟩;have h1:=h.ge k hk;rcases hC.fresh k (hM k hm) with h2 | h2
 ·have:=hF k h2;omega
 ·omega
theorem q1f(sb:Nat)(s:FsS)(F:List Nat)(k:Bs)(hk:k.length≤maxLen)(w:World)(h:z1p w sb s F)(ok:s.Ok):
  Calls Tryz.prog 177 #[.pointer (some ⟨sb,0,none⟩), .string ⟨k.toArray⟩] w fun e w'=>e= .returned (.int .u16 (z2f s k).1)∧z2v w sb F (z2f s k).2 w':=by
 have H:=z7 h;have OK:=z7 ok;clear h ok;cases hh:s.has k with
 | false=>
  have e:z2f s k=(80,s):=by simp [z2f,hh]
  rw [e];clear e;go_enter Tryz.func177,Tryz.ntmps177;go_wp2_with fail;refine (z4l sb s F k hk w H.out OK.out).mono ?_;rintro e w1 hr;unfold z1V at hr;rw [hh,if_neg (by simp)] at hr;obtain ⟨rfl,rfl⟩:=hr;go_wp2;go_ret;exact ⟨rfl,z2v.refl H.out⟩
 | true=>
  cases hg:s.go with
  | false=>
   have e:z2f s k=(0,s.went):=by simp [z2f,hh,hg]
   rw [e];clear e;go_enter Tryz.func177,Tryz.ntmps177;go_wp2_with fail;refine (z4l sb s F k hk w H.out OK.out).mono ?_;rintro e w1 hr;unfold z1V at hr;rw [hh,if_pos rfl] at hr;obtain ⟨a,n,c,rfl,hf⟩:=hr;have HF:=z7 hf;clear hf;go_wp2_with fail;refine (z4h sb s F w1 (H.out.low HF.out.2.2) OK.out.left0).mono ?_;rintro e w2 ⟨rfl,ht⟩;rw [hg];have HT:=z7 ht;clear ht hg;go_wp2;go_ret;obtain ⟨F2,hF2,hC2⟩:=HT.out;exact ⟨rfl,F2,hF2,(Chg.of_below HF.out.2.2).trans hC2⟩
  | true=>
   have e:z2f s k=(0,{s.went with files:=z1r z2N k (s.get k) s.files,waits:=z0R k s.waits}):=by simp [z2f,hh,hg]
   rw [e];obtain ⟨s3,hs3⟩:∃s3,s3=({s.went with files:=z1r z2N k (s.get k) s.files}:FsS):=⟨_,rfl⟩;obtain ⟨e1,e2,e3⟩:=z2J s;have hs4:({s.went with files:=z1r z2N k (s.get k) s.files,waits:=z0R k s.waits}:FsS)={s3 with waits:=z0R k s3.waits}:=by rw [hs3,e3]
   rw [hs4];have HS3:=z7 hs3;have E2:=z7 e2;have E3:=z7 e3;clear e hs4 hs3 e1 e2 e3;go_enter Tryz.func177,Tryz.ntmps177;go_wp2_with fail;refine (z4l sb s F k hk w H.out OK.out).mono ?_;rintro e w1 hr;unfold z1V at hr;rw [hh,if_pos rfl] at hr;obtain ⟨a,n,c,rfl,hf⟩:=hr;have HF:=z7 hf;clear hf;go_wp2_with fail;refine (z4h sb s F w1 (H.out.low HF.out.2.2) OK.out.left0).mono ?_;rintro e w2 ⟨rfl,ht⟩;rw [hg];obtain ⟨F2,hr2,hC2⟩:=ht;have HC2:=z7 hC2;obtain ⟨mb,wv,lp,E,L,h2,rfl⟩:=hr2;obtain ⟨c0,c1,c2,c3,c4,fz⟩:=z2y h2.blk;have hent:=HF.out.stays H.out.lt hC2 (M:=z1l sb mb wv lp) fun k hk=>z1X.2 (.inl hk);have hE1:E.length<maxLen:=by
    have h3:=z7e h2;rw [E2.out] at h3;have:=OK.out.few;unfold maxLen;omega
   have H2:=z7 h2;have hm2:=z7 h2.map;have HENT:=z7 hent;clear hC2 h2 c0 c2 c3 c4 fz hent hg;go_wp2_with (at_mapUpdate;refine z3K z3P rfl _ _ _ 116 rfl 46 Tryz.underlying116 rfl hm2.out hE1 k rfl hk ⟨s.get k,a,n,c⟩ rfl rfl ?_;intro w3 hm3 hg3 hs4;have HM3:=z7 hm3;have HG3:=z7 hg3;clear hm3 hg3 hs4 c1);have h3:=H2.out.mapChg (s':=s3) ((Chg.of_below HF.out.2.2).trans HC2.out) HM3.out HG3.out (by rw [HS3.out]) (by rw [HS3.out]) (by rw [HS3.out]) (by rw [HS3.out,←E2.out];exact z6c H2.out k ⟨s.get k,a,n,c⟩) (by rw [HS3.out]) (fun p hp=>by
    rcases (z3m _ _ _ _ _).1 hp with rfl | hp
    ·exact .inr ⟨HENT.out.1,fun k hk=> .inr (HENT.out.2 k hk)⟩
    ·exact .inl hp.1)
   obtain ⟨F3,hF3,hC3⟩:=h3;have HC3:=z7 hC3;refine (z7l sb s3 F3 k w3 hF3 (by rw [HS3.out];show s.went.waits.length≤1048576;rw [E3.out];exact OK.out.waits_le)).mono ?_;rintro e w4 ⟨rfl,ht4⟩;have HT4:=z7 ht4;clear ht4 hF3 hC3;go_wp2;go_ret;obtain ⟨F4,hF4,hC4⟩:=HT4.out;exact ⟨rfl,F4,hF4,HC3.out.trans hC4⟩
theorem y7A(sb:Nat)(s:FsS)(F:List Nat)(k:Bs)(hk:k.length≤maxLen)(w:World)(h:z1p w sb s F)(ok:s.Ok):
  Calls Tryz.prog 155 #[.pointer (some ⟨sb,0,none⟩), .string ⟨k.toArray⟩] w fun e w'=>e= .returned (.int .u16 (z2Q s k).1)∧z2v w sb F (z2Q s k).2 w':=by
 have H:=z7 h;have OK:=z7 ok;clear h ok;cases hh:s.has k with
 | false=>
  have e:z2Q s k=(80,s):=by simp [z2Q,hh]
  rw [e];clear e;go_enter Tryz.func155,Tryz.ntmps155;go_wp2_with (refine (z2q sb s F k hk _ H.out).mono ?_;rintro e w' ⟨rfl,rfl⟩;rw [hh]);go_ret;exact ⟨rfl,z2v.refl H.out⟩
 | true=>
  cases hg:s.go with
  | false=>
   have e:z2Q s k=(0,s.went):=by simp [z2Q,hh,hg]
   rw [e];clear e;go_enter Tryz.func155,Tryz.ntmps155;go_wp2_with (refine (z2q sb s F k hk _ H.out).mono ?_;rintro e w' ⟨rfl,rfl⟩;rw [hh]);refine (z4h sb s F w H.out OK.out.left0).mono ?_;rintro e w2 ⟨rfl,ht⟩;rw [hg];have HT:=z7 ht;clear ht hg;go_wp2;go_ret;exact ⟨rfl,HT.out⟩
  | true=>
   have e:z2Q s k=(0,{s.went with files:=z1Z k s.files,waits:=z0R k s.waits}):=by simp [z2Q,hh,hg]
   rw [e];obtain ⟨s3,hs3⟩:∃s3,s3=({s.went with files:=z1Z k s.files}:FsS):=⟨_,rfl⟩;obtain ⟨e1,e2,e3⟩:=z2J s;have hs4:({s.went with files:=z1Z k s.files,waits:=z0R k s.waits}:FsS)={s3 with waits:=z0R k s3.waits}:=by rw [hs3,e3]
   rw [hs4];have HS3:=z7 hs3;have E2:=z7 e2;have E3:=z7 e3;clear e hs4 hs3 e1 e2 e3;go_enter Tryz.func155,Tryz.ntmps155;go_wp2_with (refine (z2q sb s F k hk _ H.out).mono ?_;rintro e w' ⟨rfl,rfl⟩;rw [hh]);refine (z4h sb s F w H.out OK.out.left0).mono ?_;rintro e w2 ⟨rfl,ht⟩;rw [hg];obtain ⟨F2,hr2,hC2⟩:=ht;have HC2:=z7 hC2;obtain ⟨mb,wv,lp,E,L,h2,rfl⟩:=hr2;obtain ⟨c0,c1,c2,c3,c4,fz⟩:=z2y h2.blk;have H2:=z7 h2;have hm2:=z7 h2.map;clear hC2 h2 c0 c2 c3 c4 fz hg;go_wp2_with (at_delete;refine y3h z3P rfl _ _ 116 rfl 46 Tryz.underlying116 rfl hm2.out k rfl hk ?_;intro w3 hm3 hg3 hs4;have HM3:=z7 hm3;have HG3:=z7 hg3;clear hm3 hg3 hs4 c1);have h3:=H2.out.mapChg (s':=s3) HC2.out HM3.out HG3.out (by rw [HS3.out]) (by rw [HS3.out]) (by rw [HS3.out]) (by rw [HS3.out,←E2.out];exact y4Z H2.out k) (by rw [HS3.out]) (fun p hp=> .inl ((z4o _ _ _).1 hp).1);obtain ⟨F3,hF3,hC3⟩:=h3;have HC3:=z7 hC3;refine (z7l sb s3 F3 k w3 hF3 (by rw [HS3.out];show s.went.waits.length≤1048576;rw [E3.out];exact OK.out.waits_le)).mono ?_;rintro e w4 ⟨rfl,ht4⟩;have HT4:=z7 ht4;clear ht4 hF3 hC3;go_wp2;go_ret;obtain ⟨F4,hF4,hC4⟩:=HT4.out;exact ⟨rfl,F4,hF4,HC3.out.trans hC4⟩
def q0u(K:List Bool)(i:Nat):Bool:=(K[i]?).getD false
def y4d(K:List Bool):Nat→Int
 | 0=> -1
 | n+1=>if q0u K n then n else y4d K n
def y4B(torn last:Int)(i:Nat)(b:Bs):Bs:=if (i:Int)=last∧0≤torn∧torn<b.length then b.take torn.toNat else b
def z9o(k:Bs)(G:List (Bs×Int)):Int:=(z0H k G).getD 0
def y1x(K:List Bool)(torn last:Int)(i:Nat)(p:Bs×Bs)(st:List (Bs×Bs)×List (Bs×Int)):List (Bs×Bs)×List (Bs×Int):=
 if q0u K i then (z1r z2N p.1 ((z0H p.1 st.1).getD []++List.replicate (z9o p.1 st.2).toNat 0++y4B torn last i p.2) st.1,z1r z2N p.1 0 st.2)
 else (st.1,z1r z2N p.1 (z9o p.1 st.2+p.2.length) st.2)
def z9L(K:List Bool)(torn last:Int)(L:List (Bs×Bs))(F:List (Bs×Bs)):Nat→List (Bs×Bs)×List (Bs×Int)
 | 0=>(F, [])
 | n+1=>match L[n]? with
  | some p=>y1x K torn last n p (z9L K torn last L F n)
  | none=>z9L K torn last L F n
def RdK(w:World)(x:Value)(K:List Bool):Prop:=Rd w x 1 K.length (K.map Value.bool)
theorem RdK.low{w w':World}{x:Value}{K:List Bool}(h:RdK w x K)(hb:Below w.heap.size w w'):RdK w' x K:=Rd.low h hb
theorem RdK.at{w:World}{x:Value}{K:List Bool}(h:RdK w x K){k:Nat}(hk:k<K.length):∃b off c,x= .slice (some ⟨b,off,none⟩) K.length c∧w.cell? ⟨b,off+k,none⟩=some (.bool K[k])∧b<w.heap.size:=by
 obtain ⟨b,off,c,rfl,hc,hb⟩:=Rd.addr h (by omega) (by omega);exact ⟨b,off,c,rfl,hc k _ (by simp [hk]),hb⟩
def isInt:Value→Bool
 | .int .i64 _=>true
 | _=>false
abbrev q3n (w:World) (mb:Nat) (G:List (Bs×Int)):Prop:=z3u w Tryz.prog 9 z2N isInt (fun n:Int=> .int .i64 n) mb G
theorem y9M{L R:List Int}(h:L.Perm R):L.sum=R.sum:=by
 induction h with
 | nil=>rfl
 | cons x _ ih=>simp [ih]
 | swap x y l=>simp only [List.sum_cons];omega
 | trans _ _ h1 h2=>exact h1.trans h2
def y5r(G:List (Bs×Int)):Int:=(G.map (·.2)).sum
theorem y7v(k:Bs)(v:Int)(G:List (Bs×Int)):y5r (z1r z2N k v G)=v+y5r (z1Z k G):=by
 unfold y5r z1r;rw [y9M ((z9c z2N (k,v) (z1Z k G)).map (·.2))];simp
theorem y7e{G:List (Bs×Int)}(h:∀p∈G,0≤p.2)(k:Bs):z9o k G+y5r (z1Z k G)≤y5r G:=by
 unfold z9o y5r z0H z1Z
 induction G with
 | nil=>simp
 | cons p G ih=>
  have h1:=ih fun q hq=>h q (by simp [hq]);have h2:=h p (by simp);rw [List.find?_cons,List.filter_cons];by_cases e:p.1=k
  ·simp only [e,decide_true,Option.map_some,Option.getD_some,ne_eq,not_true,decide_false,Bool.false_eq_true,if_false,List.map_cons,List.sum_cons];have h3:∀M:List (Bs×Int),(∀q∈M,0≤q.2)→((M.filter fun q=>!decide (q.1=k)).map (·.2)).sum≤(M.map (·.2)).sum:=by
    intro M
    induction M with
    | nil=>intro _;simp
    | cons q M ih2=>
     intro hM;have g1:=ih2 fun r hr=>hM r (by simp [hr]);have g2:=hM q (by simp);rw [List.filter_cons];split
     ·simp only [List.map_cons,List.sum_cons];omega
     ·simp only [List.map_cons,List.sum_cons];omega
   have h4:=h3 G fun q hq=>h q (by simp [hq]);simp only [ne_eq,decide_not] at h4 ⊢;omega
  ·simp only [e,decide_false,ne_eq,not_false_eq_true,decide_true,if_true,List.map_cons,List.sum_cons];simp only [ne_eq] at h1;omega
theorem y2A{G:List (Bs×Int)}(h:∀p∈G,0≤p.2)(k:Bs):0≤z9o k G:=by
 unfold z9o;cases hg:z0H k G with
 | none=>simp
 | some v=>simpa using h _ (z1w hg)
theorem q0d(torn last:Int)(i:Nat)(b:Bs):(y4B torn last i b).length≤b.length:=by
 unfold y4B;split
 ·rw [List.length_take];omega
 ·exact Nat.le_refl _
structure y0y (s:FsS) (sb:Nat) (F:List Nat) (w wB:World) (mb:Nat) (wv:Value) (lp:Option Nat) (L:List (Bs×Ent)) (mg:Nat) (E:List (Bs×Ent)) (G:List (Bs×Int)) (wr:World):Prop where
 fs:z2D wr sb {s with files:=E.map ct} mb wv lp E L
 gap:q3n wr mg G
 chg:Chg F (z8F (z1l sb mb wv lp) (E++L)) w wr
 nmg:mg∉z8F (z1l sb mb wv lp) (E++L)
 box:wr.heap[w.heap.size]? =wB.heap[w.heap.size]?
 nbox:w.heap.size∉z8F (z1l sb mb wv lp) (E++L)
 mgb:w.heap.size<mg
structure q2Q (s:FsS) (K:List Bool) (torn:Int) (i:Nat) (F:List (Bs×Bs)) (G:List (Bs×Int)):Prop where
 eq:(F,G)=z9L K torn (y4d K s.waits.length) s.waits s.files i
 pos:∀p∈G,0≤p.2
 sum:y5r G+total F≤total s.files+total (s.waits.take i)
 gl:G.length≤i
 el:F.length≤s.files.length+i
theorem y0y.low{s:FsS}{sb:Nat}{F:List Nat}{w wB:World}{mb:Nat}{wv:Value}{lp:Option Nat}{L:List (Bs×Ent)}{mg:Nat}{E:List (Bs×Ent)}{G:List (Bs×Int)}{wr wr':World}
  (h:y0y s sb F w wB mb wv lp L mg E G wr) (hb:Below wr.heap.size wr wr'):y0y s sb F w wB mb wv lp L mg E G wr':=by
 have hlt:w.heap.size<wr.heap.size:=Nat.lt_trans h.mgb h.gap.lt;exact ⟨h.fs.low hb,h.gap.low hb,h.chg.trans (Chg.of_below hb),h.nmg,(hb.block _ hlt).trans h.box,h.nbox,h.mgb⟩
theorem y0y.other{s:FsS}{sb:Nat}{F:List Nat}{w wB:World}{mb:Nat}{wv:Value}{lp:Option Nat}{L:List (Bs×Ent)}{mg:Nat}{E:List (Bs×Ent)}{G:List (Bs×Int)}{w0 wr:World}(h0:y0y s sb F w wB mb wv lp L mg E G w0)(h:y0y s sb F w wB mb wv lp L mg E G wr){ob:Nat}(hob:w0.heap.size≤ob)(j:Nat)(u:Value):y0y s sb F w wB mb wv lp L mg E G (wr.setCell ⟨ob,j,none⟩ u):=by
 have hb:∀k,k≠ob→(wr.setCell ⟨ob,j,none⟩ u).heap[k]? =wr.heap[k]? :=fun k hk=>q7 hk;have hsz:(wr.setCell ⟨ob,j,none⟩ u).heap.size=wr.heap.size:=by simp [World.setCell]
 have h1:=h0.gap.lt;have h2:=h0.mgb;have h3:=h0.chg.size;refine ⟨h.fs.same (fun k hk=>hb k (by have:=h0.fs.fp_lt k hk;omega)) (by rw [hsz];exact Nat.le_refl _),h.gap.same (hb mg (by omega)),⟨h.chg.os,h.chg.tape,h.chg.output,by rw [hsz];exact h.chg.size,fun k hk hn=>?_,h.chg.fresh⟩,h.nmg,(hb _ (by omega)).trans h.box,h.nbox,h.mgb⟩;rw [hb k (by omega)];exact h.chg.block k hk hn
theorem y8z{κ ν:Type} [DecidableEq κ](kl:κ→Lit)(k k':κ)(v:ν)(E:List (κ×ν))(h:(z0H k' E).isSome=true):(z0H k' (z1r kl k v E)).isSome=true:=by
 by_cases e:k'=k
 ·subst e;rw [z5B];rfl
 ·rw [z3Q kl e];exact h
theorem q2Q.keeps{s:FsS}{K:List Bool}{torn:Int}{i:Nat}{F:List (Bs×Bs)}{G:List (Bs×Int)}(h:q2Q s K torn i F G){p:Bs×Bs}(hp:s.waits[i]? =some p)(hk:q0u K i=true):
  q2Q s K torn (i+1) (z1r z2N p.1 ((z0H p.1 F).getD []++List.replicate (z9o p.1 G).toNat 0++y4B torn (y4d K s.waits.length) i p.2) F) (z1r z2N p.1 0 G):=by
 have h0:=y2A h.pos p.1;refine ⟨?_,fun q hq=>?_,?_,?_,?_⟩
 ·rw [z9L,hp];simp only;rw [←h.eq,y1x,hk];simp
 ·rcases (z3m _ _ _ _ _).1 hq with rfl | hq
  ·exact Int.le_refl 0
  ·exact h.pos q hq.1
 ·have h1:=y7e h.pos p.1;have h2:=h.sum;have h3:total (s.waits.take (i+1))=total (s.waits.take i)+p.2.length:=by rw [List.take_add_one,hp,z6h];simp [total]
  have h4:=q0d torn (y4d K s.waits.length) i p.2;have h5:((z0H p.1 F).getD []).length+total (z1Z p.1 F)≤total F:=by
   cases hg:z0H p.1 F with
   | none=>have:=z7Z p.1 F;simpa using this
   | some v=>simpa using y0a hg
  rw [y7v,z4X,h3];simp only [List.length_append,List.length_replicate];omega
 ·have:=z6F z2N p.1 (0:Int) G;have:=h.gl;omega
 ·have:=z6F z2N p.1 ((z0H p.1 F).getD []++List.replicate (z9o p.1 G).toNat 0++y4B torn (y4d K s.waits.length) i p.2) F;have:=h.el;omega
theorem y3H{room:Int}(h0:0≤room)(h1:room≤1048576):(z6q room).Ok:=
 ⟨h0,h1,by show ((0:Nat):Int)≤room;simpa using h0,by simp [z6q],(fun p hp=>by cases hp),(fun p hp=>by cases hp),(fun n hn=>by cases hn)⟩
theorem z7E{s:FsS}(h:s.Ok){k:Bs}(hk:named k=true)(v:Bs):∀p∈z1r z2N k v s.files,named p.1=true:=fun p hp=>by
 rcases (z3m _ _ _ _ _).1 hp with rfl | hp
 ·exact hk
 ·exact h.names p hp.1
theorem y2f{s:FsS}(h:s.Ok){k:Bs}(hk:s.has k=true):named k=true:=by
 obtain ⟨v,hv⟩:=Option.isSome_iff_exists.1 hk;exact h.names (k,v) (z1w hv)
theorem z8D{s:FsS}(h:s.Ok){k:Bs}(hk:s.has k=true)(v:Bs):(z1r z2N k v s.files).length≤8:=by
 unfold z1r;rw [z5x];have:=z9D (k:=k) (E:=s.files) hk;have:=h.few;omega
theorem z4z{s:FsS}(h:s.Ok)(k:Bs)(F:List (Bs×Bs))(hF:∀j,j≠k→(z0H j s.files).isSome=true→(z0H j F).isSome=true):∀p∈z0R k s.waits,p.2≠ []∧(z0H p.1 F).isSome=true:=fun p hp=>by
 unfold z0R at hp;obtain ⟨h1,h2⟩:=List.mem_filter.1 hp;obtain ⟨h3,h4⟩:=h.piece p h1;exact ⟨h3,hF p.1 (by simpa using h2) h4⟩
theorem z9j{s:FsS}(h:s.Ok)(k:Bs):(z1R s k).2.Ok:=by
 unfold z1R;split
 ·exact h
 ·rename_i hn;split
  ·exact h
  ·rename_i hh;split
   ·exact h
   ·rename_i h8;have hk:named k=true:=by simpa using hn
    split
    ·have e:({s.went with files:=z1r z2N k [] s.files}:FsS)={s.went with files:=z1r z2N k [] s.files,waits:=s.waits}:=by rw [←(z2J s).2.2]
     rw [e];refine z9N h _ _ ?_ ?_ (z7E h hk []) fun p hp=>⟨(h.piece p hp).1,y8z _ _ _ _ _ (h.piece p hp).2⟩
     ·rw [z4X];have:=z7Z k s.files;unfold FsS.used;simp;omega
     ·have:=z6F z2N k [] s.files;omega
    ·exact h.went
theorem y3Q{s:FsS}(h:s.Ok)(k b:Bs):(z1j s k b).2.Ok:=by
 unfold z1j;split
 ·exact h
 ·rename_i hh;split
  ·exact h
  ·rename_i hb;split
   ·exact h
   ·rename_i hr;split
    ·have h1:=h.went;obtain ⟨e1,e2,e3⟩:=z2J s;refine ⟨h1.room0,h1.room1,?_,h1.few,h1.names,fun p hp=>?_,h1.left0⟩
     ·show ((total s.went.files+total (s.waits++ [(k,b)]):Nat):Int)≤s.went.room;rw [e1,e2,z6h];have:total [(k,b)]=b.length:=by simp [total]
      unfold FsS.used at hr;omega
     ·rcases List.mem_append.1 hp with hp | hp
      ·have h2:=h.piece p hp;refine ⟨h2.1,?_⟩;show (z0H p.1 s.went.files).isSome=true;rw [e2];exact h2.2
      ·simp only [List.mem_singleton] at hp;subst hp;refine ⟨fun e=>hb (by rw [show b= [] from e];rfl),?_⟩;show (z0H k s.went.files).isSome=true;rw [e2];have h9:s.has k=true:=by cases e:s.has k with
        | true=>rfl
        | false=>exact absurd e hh
       exact h9
    ·exact h.went
theorem y7B{s:FsS}(h:s.Ok)(k:Bs):(z2f s k).2.Ok:=by
 unfold z2f;split
 ·exact h
 ·rename_i hh;have hk:s.has k=true:=by simpa using hh
  split
  ·refine z9N h _ _ ?_ (z8D h hk _) (z7E h (y2f h hk) _) (z4z h k _ fun j hj hs=>by rw [z3Q z2N hj];exact hs);rw [z4X];have:=z5Q s k;omega
  ·exact h.went
theorem y9h{s:FsS}(h:s.Ok)(k:Bs)(n:Int):(z5a s k n).2.Ok:=by
 unfold z5a;split
 ·exact h
 ·rename_i hh;have hk:s.has k=true:=by simpa using hh
  split
  ·exact h
  ·split
   ·refine z9N h _ _ ?_ (z8D h hk _) (z7E h (y2f h hk) _) (z4z h k _ fun j hj hs=>by rw [z3Q z2N hj];exact hs);rw [z4X,List.length_take];have:=z5Q s k;omega
   ·exact h.went
theorem y3W{s:FsS}(h:s.Ok)(k:Bs):(z2Q s k).2.Ok:=by
 unfold z2Q;split
 ·exact h
 ·split
  ·refine z9N h _ _ ?_ ?_ (fun p hp=>h.names p ((z4o _ _ _).1 hp).1) (z4z h k _ fun j hj hs=>by rw [y0m hj];exact hs)
   ·have:=z5Q s k;omega
   ·have:=z9m k s.files;have:=h.few;omega
  ·exact h.went
structure y1C (W w:World) (sb:Nat) (s:FsS) (F:List Nat):Prop where
 rep:z1p w sb s F
 up:∀k∈F,W.heap.size≤k
 low:Below W.heap.size W w
 ok:s.Ok
theorem y1C.step{W w w':World}{sb:Nat}{s s':FsS}{F:List Nat}(h:y1C W w sb s F)(ht:z2v w sb F s' w')(ok:s'.Ok):∃F',y1C W w' sb s' F'∧Chg F F' w w':=by
 obtain ⟨F',h1,h2⟩:=ht;exact ⟨F',⟨h1,h2.up h.low.size h.up,h.low.trans (h2.below h.low.size h.up),ok⟩,h2⟩
theorem y1C.then{W w w':World}{sb:Nat}{s:FsS}{F:List Nat}(h:y1C W w sb s F)(hb:Below w.heap.size w w'):y1C W w' sb s F:=⟨h.rep.low hb,h.up,h.low.trans (hb.mono h.low.size),h.ok⟩
end Go.Proofs.YtfcnapnopdomhaaGreatDoor

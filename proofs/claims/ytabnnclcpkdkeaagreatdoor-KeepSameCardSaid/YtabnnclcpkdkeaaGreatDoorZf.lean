/- The walk of a file system's Crash. -/
import Derived.Test.YtabnnclcpkdkeaaGreatDoorZe
import Derived.Deep.DeepCutAuto
import Derived.Deep.CutBlock
import Derived.Deep.OwnRows
namespace Go.Proofs.YtabnnclcpkdkeaaGreatDoor
open Go.Proofs.Tryz
set_option linter.all false
set_option maxRecDepth 100000
set_option maxHeartbeats 0
open Go.RowKit Go.Maps
def isInt:Value->Bool
 | .int .i64 _=>true
 | _=>false
abbrev q4i (w:World) (mb:Nat) (G:List (Bs×Int)):Prop:=z3X w prog 9 z1O isInt (fun n:Int=> .int .i64 n) mb G
theorem y7m(w:World):(zeroValue 3).run prog w= .ok (.int .i64 0) w:=by kernel_rfl
theorem q4V{L R:List Int}(h:L.Perm R):L.sum=R.sum:=by
 induction h with
 | nil=>rfl
 | cons x _ ih=>simp[ih]
 | swap x y l=>simp only[oK];omega
 | trans _ _ h1 h2=>exact h1.trans h2
def y1n(G:List (Bs×Int)):Int:=(G.map (·.2)).sum
theorem y1g{G:List (Bs×Int)}(h:∀p∈G,0<=p.2):0<=y1n G:=by
 unfold y1n
 induction G with
 | nil=>simp
 | cons p G ih=>
  have I:=ih fun q A=>h q (by simp[A]);have J:=h p wH;simp only[uI,oK];omega
theorem y0A(k:Bs)(v:Int)(G:List (Bs×Int)):y1n (z1d z1O k v G)=v+y1n (z2x k G):=by
 unfold y1n z1d;rw[q4V ((y0B z1O (k,v) (z2x k G)).map (·.2))];simp
theorem y4z{G:List (Bs×Int)}(h:∀p∈G,0<=p.2)(k:Bs):z3N k G+y1n (z2x k G)<=y1n G:=by
 unfold z3N y1n z0J z2x
 induction G with
 | nil=>simp
 | cons p G ih=>
  have J:=ih fun q A=>h q (by simp[A]);rw[dt,ot];by_cases e:p.1=k
  .simp only[e,rO,pK,ki,ne_eq,not_true,qu,po,ei,uI,oK];have L:∀M:List (Bs×Int),(∀q∈M,0<=q.2)->((M.filter fun q=>!decide (q.1=k)).map (·.2)).sum<=(M.map (·.2)).sum:=by
    intro M
    induction M with
    | nil=>intro _;simp
    | cons q M ih2=>
     intro I;have R:=ih2 fun r O=>I r (by simp[O]);have U:=I q wH;rw[ot];split
     .simp only[uI,oK];omega
     simp only[uI,oK];omega
   have N:=L G fun q A=>h q (by simp[A]);simp only[ne_eq,tT]at N ⊢;omega
  simp only[e,qu,ne_eq,not_false_eq_true,rO,de,uI,oK];simp only[ne_eq]at J;omega
theorem z5H{G:List (Bs×Int)}(h:∀p∈G,0<=p.2)(k:Bs):0<=z3N k G:=by
 unfold z3N;cases hg:z0J k G with
 | none=>simp
 | some v=>simpa using h _ (z1q hg)
theorem q3m(I A:Int)(i:Nat)(b:Bs):(y0Y I A i b).length<=b.length:=by
 unfold y0Y;split
 .rw[uR];omega
 exact wJ _
structure z5z (s:FsS) (sb:Nat) (F:List Nat) (w wB:World) (mb:Nat) (wv:Value) (lp:Option Nat) (L:List (Bs×Ent)) (mg:Nat) (E:List (Bs×Ent)) (G:List (Bs×Int)) (wr:World):Prop where
 fs:z2j wr sb {s with files:=E.map ct} mb wv lp E L
 gap:q4i wr mg G
 chg:Chg F (z4c (z0P sb mb wv lp) (E++L)) w wr
 nmg:mg∉z4c (z0P sb mb wv lp) (E++L)
 box:wr.heap[w.heap.size]? =wB.heap[w.heap.size]?
 nbox:w.heap.size∉z4c (z0P sb mb wv lp) (E++L)
 mgb:w.heap.size<mg
structure y4Q (s:FsS) (K:List Bool) (torn:Int) (i:Nat) (F:List (Bs×Bs)) (G:List (Bs×Int)):Prop where
 eq:(F,G)=z5L K torn (z2S K s.waits.length) s.waits s.files i
 pos:∀p∈G,0<=p.2
 sum:y1n G+total F<=total s.files+total (s.waits.take i)
 gl:G.length<=i
 el:F.length<=s.files.length+i
def q8d(s:FsS)(K:List Bool)(torn:Int)(sb:Nat)(F:List Nat)(w wB:World)(mb:Nat)(wv:Value)(lp:Option Nat)(L:List (Bs×Ent))(mg:Nat)(i:Nat)(E:List (Bs×Ent))(G:List (Bs×Int))(wr:World):Prop:=
 z5z s sb F w wB mb wv lp L mg E G wr/\y4Q s K torn i (E.map ct) G
theorem z5z.low{s:FsS}{R:Nat}{F:List Nat}{w U:World}{N:Nat}{Y:Value}{J:Option Nat}{L:List (Bs×Ent)}{O:Nat}{E:List (Bs×Ent)}{G:List (Bs×Int)}{wr A:World}
  (h:z5z s R F w U N Y J L O E G wr) (hb:Below wr.heap.size wr A):z5z s R F w U N Y J L O E G A:=by
 have I:w.heap.size<wr.heap.size:=gQ h.mgb h.gap.lt;exact⟨h.fs.low hb,h.gap.low hb,h.chg.trans (Chg.of_below hb),h.nmg,(hb.block _ I).trans h.box,h.nbox,h.mgb⟩
theorem z5z.gapPut{s:FsS}{sb:Nat}{F:List Nat}{w wB:World}{mb:Nat}{wv:Value}{Y:Option Nat}{L:List (Bs×Ent)}{N:Nat}{E:List (Bs×Ent)}{G U:List (Bs×Int)}{wr A:World}
  (h:z5z s sb F w wB mb wv Y L N E G wr) (hm:q4i A N U) (J:wr.grownBy A (some N)):z5z s sb F w wB mb wv Y L N E U A:=by
 have O:w.heap.size<wr.heap.size:=gQ h.mgb h.gap.lt;have hb:∀k,k<wr.heap.size->k≠N->A.heap[k]? =wr.heap[k]? :=fun k I R=>J.block k I fun e=>R (by simp only[wK]at e;first|exact e|exact e.symm);refine⟨h.fs.same (fun k I=>hb k (h.fs.fp_lt k I) fun e=>h.nmg (by rw[<-e];exact I)) J.size,hm,⟨J.os.trans h.chg.os,J.tape.trans h.chg.tape,J.output.trans h.chg.output,wV h.chg.size J.size,fun k I R=>?_,h.chg.fresh⟩,h.nmg,(hb _ O (by have:=h.mgb;omega)).trans h.box,h.nbox,h.mgb⟩;rw[hb k (wS I h.chg.size) (by have:=h.mgb;omega)];exact h.chg.block k I R
theorem z5z.filePut{s:FsS}{sb:Nat}{F:List Nat}{w wB:World}{J:Nat}{wv:Value}{lp:Option Nat}{L:List (Bs×Ent)}{mg:Nat}{E E':List (Bs×Ent)}{G:List (Bs×Int)}{wr N:World}
  (h:z5z s sb F w wB J wv lp L mg E G wr) (hm:y1k N J E') (Y:wr.grownBy N (some J)) {B:Nat} (hB:mg<B) (he:∀p∈E',p∈E\/(z3M wr (z0P sb J wv lp) p.2/\∀k,p.2.v.ownBlock=some k->B<=k)):z5z s sb F w wB J wv lp L mg E' G N:=by
 have a0:w.heap.size<wr.heap.size:=gQ h.mgb h.gap.lt;have a1:=h.mgb;have hb:∀k,k<wr.heap.size->k≠J->N.heap[k]? =wr.heap[k]? :=fun k I hn=>Y.block k I fun e=>hn (by simp only[wK]at e;first|exact e|exact e.symm);have R:J∈z4c (z0P sb J wv lp) (E++L):=z0F.2 (.inl (by simp[z0P]));have O:∀k,k∈z4c (z0P sb J wv lp) (E'++L)->k∈z4c (z0P sb J wv lp) (E++L)\/B<=k:=fun k I=>by
  rcases z0F.1 I with A|⟨p,U,A⟩
  .exact .inl (z0F.2 (.inl A))
  rcases uB.1 U with U|U
  .rcases he p U with h2|h2
   .exact .inl (z0F.2 (.inr ⟨p,uQ _ h2,A⟩))
   exact .inr (h2.2 k A)
  exact .inl (z0F.2 (.inr ⟨p,uT _ U,A⟩))
 refine⟨h.fs.mapTo (s':={s with files:=E'.map ct}) hm Y rfl rfl rfl rfl rfl (fun p U=>(he p U).imp id (·.1)),h.gap.same (hb mg h.gap.lt fun e=>h.nmg (by rw[e];exact R)),⟨Y.os.trans h.chg.os,Y.tape.trans h.chg.tape,Y.output.trans h.chg.output,wV h.chg.size Y.size,fun k I hn=>?_,fun k I=>?_⟩,fun I=>?_,(hb _ a0 fun e=>h.nbox (by rw[e];exact R)).trans h.box,fun I=>?_,h.mgb⟩
 .rw[hb k (wS I h.chg.size) fun e=>?_]
  .exact h.chg.block k I hn
  rcases h.chg.fresh J R with A|A
  .exact hn (by rw[e];exact A)
  omega
 .rcases O k I with A|A
  .exact h.chg.fresh k A
  exact .inr wF
 .rcases O mg I with A|A
  .exact h.nmg A
  omega
 rcases O _ I with A|A
 .exact h.nbox A
 omega
theorem z5z.other{s:FsS}{Y:Nat}{F:List Nat}{w wB:World}{U:Nat}{wv:Value}{R:Option Nat}{L:List (Bs×Ent)}{O:Nat}{E:List (Bs×Ent)}{G:List (Bs×Int)}{w0 wr:World}(N:z5z s Y F w wB U wv R L O E G w0)(h:z5z s Y F w wB U wv R L O E G wr){J:Nat}(a0:w0.heap.size<=J)(j:Nat)(u:Value):z5z s Y F w wB U wv R L O E G (wr.setCell ⟨J,j,none⟩ u):=by
 have hb:∀k,k≠J->(wr.setCell ⟨J,j,none⟩ u).heap[k]? =wr.heap[k]? :=fun k A=>q7 A;have I:(wr.setCell ⟨J,j,none⟩ u).heap.size=wr.heap.size:=by simp[World.setCell]
 have h1:=N.gap.lt;have h2:=N.mgb;have h3:=N.chg.size;refine⟨h.fs.same (fun k A=>hb k (by have:=N.fs.fp_lt k A;omega)) (by rw[I];exact wJ _),h.gap.same (hb O wF),⟨h.chg.os,h.chg.tape,h.chg.output,by rw[I];exact h.chg.size,fun k A hn=>?_,h.chg.fresh⟩,h.nmg,(hb _ wF).trans h.box,h.nbox,h.mgb⟩;rw[hb k wF];exact h.chg.block k A hn
theorem y2h(n:Nat):madeCells #[.int .u8 0] n=(z0c (List.replicate n 0)).toArray:=by
 apply Array.ext
 .simp[madeCells,z0c]
 intro i A I;simp[madeCells,z0c,Nat.mod_one]
theorem q6h(w:World)(n:Nat)(J:n<=1048576):RdB (w.alloc (.cells (madeCells #[.int .u8 0] n) 5)) (.slice (some ⟨w.heap.size,0,none⟩) n n) (List.replicate n 0):=by
 by_cases A:n=0
 .subst A;exact⟨by simp[z0c],.inr ⟨_,_,rfl,fun j u I=>by simp[z0c]at I⟩⟩
 have h:=z3t w (madeCells #[.int .u8 0] n) 5 n 1 wF (by rw[y2h];simp[z0c]);unfold RdB;rw[y2h]at h ⊢;simpa using h
theorem y7k{κ ν:Type} [DecidableEq κ](I:κ->Lit)(k A:κ)(v:ν)(E:List (κ×ν))(h:(z0J A E).isSome=true):(z0J A (z1d I k v E)).isSome=true:=by
 by_cases e:A=k
 .subst e;rw[z6L];rfl
 rw[z2Y I e];exact h
theorem y3N(K:List Bool)(I A:Int)(L F:List (Bs×Bs))(k:Bs)(h:(z0J k F).isSome=true):∀i,(z0J k (z5L K I A L F i).1).isSome=true
 | 0=>h
 | i+1=>by
  have J:=y3N K I A L F k h i;rw[z5L];split
  .unfold z8D;split
   .exact y7k _ _ _ _ _ J
   exact J
  exact J
theorem y4Q.lost{s:FsS}{K:List Bool}{A:Int}{i:Nat}{F:List (Bs×Bs)}{G:List (Bs×Int)}(h:y4Q s K A i F G){p:Bs×Bs}(J:s.waits[i]? =some p)(N:z7S K i=false):y4Q s K A (i+1) F (z1d z1O p.1 (z3N p.1 G+p.2.length) G):=by
 have O:=z5H h.pos p.1;refine⟨?_,fun q I=>?_,?_,?_,by have:=h.el;omega⟩
 .rw[z5L,J];simp only;rw[<-h.eq,z8D,N];simp
 .rcases(z2d _ _ _ _ _).1 I with rfl|I
  .show 0<=z3N p.1 G+p.2.length;omega
  exact h.pos q I.1
 .have R:=y4z h.pos p.1;have U:=h.sum;have L:total (s.waits.take (i+1))=total (s.waits.take i)+p.2.length:=by rw[uG,J,z5P];simp[total]
  rw[y0A,L];omega
 have:=z5j z1O p.1 (z3N p.1 G+p.2.length) G;have:=h.gl;omega
theorem y4Q.keeps{s:FsS}{K:List Bool}{A:Int}{i:Nat}{F:List (Bs×Bs)}{G:List (Bs×Int)}(h:y4Q s K A i F G){p:Bs×Bs}(J:s.waits[i]? =some p)(N:z7S K i=true):
  y4Q s K A (i+1) (z1d z1O p.1 ((z0J p.1 F).getD []++List.replicate (z3N p.1 G).toNat 0++y0Y A (z2S K s.waits.length) i p.2) F) (z1d z1O p.1 0 G):=by
 have O:=z5H h.pos p.1;refine⟨?_,fun q I=>?_,?_,?_,?_⟩
 .rw[z5L,J];simp only;rw[<-h.eq,z8D,N];simp
 .rcases(z2d _ _ _ _ _).1 I with rfl|I
  .exact Int.le_refl 0
  exact h.pos q I.1
 .have R:=y4z h.pos p.1;have U:=h.sum;have L:total (s.waits.take (i+1))=total (s.waits.take i)+p.2.length:=by rw[uG,J,z5P];simp[total]
  have Y:=q3m A (z2S K s.waits.length) i p.2;have h5:((z0J p.1 F).getD []).length+total (z2x p.1 F)<=total F:=by
   cases hg:z0J p.1 F with
   | none=>have:=z7p p.1 F;simpa using this
   | some v=>simpa using z9n hg
  rw[y0A,z4V,L];simp only[wP,ir];omega
 .have:=z5j z1O p.1 (0:Int) G;have:=h.gl;omega
 have:=z5j z1O p.1 ((z0J p.1 F).getD []++List.replicate (z3N p.1 G).toNat 0++y0Y A (z2S K s.waits.length) i p.2) F;have:=h.el;omega
theorem z2j.re{w:World}{J I:Nat}{s:FsS}{N:Value}{A:Option Nat}{E L:List (Bs×Ent)}(h:z2j w J s I N A E L):z2j w J {s with files:=E.map ct} I N A E L:=by
 have e:({s with files:=E.map ct}:FsS)=s:=by rw[<-h.files]
 rw[e];exact h
theorem y7c{w0 w:World}{A U:Nat}{s s':FsS}{wv:Value}{lp:Option Nat}{E L:List (Bs×Ent)}{F0:List Nat}(h:z2j w A s U wv lp E L)(N:Chg F0 (z4c (z0P A U wv lp) (E++L)) w0 w)
  (hr:s'.room=s.room) (hh:s'.halted=false) (hl:s'.left=none) (hf:s'.files=s.files) (hw:s'.waits= []):
  z2e w0 A F0 s' (((w.setCell ⟨A,2,none⟩ (.slice none 0 0)).setCell ⟨A,3,none⟩ (.pointer none)).setCell ⟨A,4,none⟩ (.bool false)):=by
 obtain⟨n1,n2,n3⟩:=h.ne;have hb:∀k,k≠A->(((w.setCell ⟨A,2,none⟩ (.slice none 0 0)).setCell ⟨A,3,none⟩ (.pointer none)).setCell ⟨A,4,none⟩ (.bool false)).heap[k]? =w.heap[k]? :=fun k I=>by rw[q7 I,q7 I,q7 I]
 have a0:(((w.setCell ⟨A,2,none⟩ (.slice none 0 0)).setCell ⟨A,3,none⟩ (.pointer none)).setCell ⟨A,4,none⟩ (.bool false)).heap.size=w.heap.size:=by simp[World.setCell]
 have O:∀k,k∈z0P A U (.slice none 0 0) none->k∈z0P A U wv lp:=fun k I=>by
  simp only[z0P,wy,uB,pR,Value.ownBlock]at I ⊢;rcases I with J|J|J|J
  .exact .inl J
  .exact .inr (.inl J)
  .cases J
  cases J
 have Y:A∈z4c (z0P A U wv lp) (E++L):=z0F.2 (.inl (by simp[z0P]));refine⟨_,⟨U,.slice none 0 0,none,E, [],⟨?_,h.map.same (hb U n1),uN _ _ _ _,by rw[hl];trivial,hf.trans h.files,hw,fun p hp=>?_,by simp[z0P,Value.ownBlock,pz n1]⟩,rfl⟩,N.os,N.tape,N.output,by rw[a0];exact N.size,fun k I hn=>?_,fun k I=>?_⟩
 .have J:=z0a h.blk 2 (.slice none 0 0);have R:=z0a J 3 (.pointer none);have h3:=z0a R 4 (.bool false);rw[hr,hh];simpa using h3
 .have J:=h.ent p (uQ _ (by simpa using hp));have R:=J.same (w':=((w.setCell ⟨A,2,none⟩ (.slice none 0 0)).setCell ⟨A,3,none⟩ (.pointer none)).setCell ⟨A,4,none⟩ (.bool false)) (fun k I=>hb k fun e=>(J.far k I).1 (by simp[z0P,e])) (by rw[a0];exact wJ _);exact⟨R.rd,R.n,R.le,R.cap,fun k I=>⟨fun hm=>(J.far k I).1 (O k hm),(R.far k I).2⟩⟩
 .by_cases e:k=A
  .exfalso
   subst e;rcases N.fresh k Y with J|J
   .exact hn J
   omega
  rw[hb k e];exact N.block k I hn
 rcases z0F.1 I with I|⟨p,hp,I⟩
 .exact N.fresh k (z0F.2 (.inl (O k I)))
 exact N.fresh k (z0F.2 (.inr ⟨p,uQ _ (by simpa using hp),I⟩))
theorem q2n(sb:Nat)(s:FsS)(F:List Nat)(ka:Option Addr)(kn kc:Nat)(A:Int)(K:List Bool)(w:World)(h:z1L w sb s F)(ok:s.Ok)(hx:RdK w (.slice ka kn kc) K)(hn:kn=K.length)(hl:kn<=1048576)(hd:0<kn->∀k,(Value.slice ka kn kc).ownBlock=some k->k∉F)
  (eI: -9223372036854775808<=A) (eJ:A<=9223372036854775807):
  Calls prog 16 #[.pointer (some ⟨sb,0,none⟩),.agg #[.slice ka kn kc,.int .i64 A]] w fun e w'=>e= .returned (.tuple #[])/\z2e w sb F (y5g s K A) w':=by
 have H:=z7 h;have OK:=z7 ok;have HN:=z7 hn;have dE:=z7 hx;have HD:=z7 hd;have e7:=ok.waits_le;obtain⟨mb,wv,lp,E,L,h,rfl⟩:=h;obtain⟨c0,c1,c2,c3,c4,fz⟩:=z1N h.blk;have cX:=(wI.1 h.blk).1;obtain⟨wa,a0,rfl⟩:=(z0d h.row).head;have c9:L.length=s.waits.length:=by rw[h.waits,we]
 have eF:L.length<=1048576:=wF
 obtain⟨wB,aT⟩:=zN (w.alloc (.cells #[.slice ka kn kc,.int .i64 A] 25));have aL:Below w.heap.size w wB:=by rw[aT];exact q5 _ _
 have cD:wB.heap.size=w.heap.size+1:=by rw[aT];simp
 have a8:wB.heap[w.heap.size]? =some (.cells #[.slice ka kn kc,.int .i64 A] 25 (0,0)):=by rw[aT];exact j8 _ _
 have HK:=z7 (hx.low aL);have bV:=z7 aL;have eC:=z7 a8;have eE:=z7 (h.low aL);have aF:=z7 ((aL.cell (p:=⟨sb,2,none⟩) cX).trans c2);have d2:=aF.o;have dC:=z7 cD;have H1:=z7 h;have b9:=z7 c9;have d3:IntKind.i64.wrap ((L.length:Int) - 1)=(L.length:Int) - 1:=wrap64 wF wF;have cA:Hid (∀W,Below wB.heap.size wB W->W.cell? ⟨w.heap.size,0,none⟩=some (.slice ka kn kc)/\W.cell? ⟨w.heap.size,1,none⟩=some (.int .i64 A)):=z7 fun W hW=>by
  have J:W.heap[w.heap.size]? =some (.cells #[.slice ka kn kc,.int .i64 A] 25 (0,0)):=(hW.block _ wF).trans a8;simp[World.cell?,J]
 clear h ok hn hx c0 c1 c2 c3 c4 fz aL a8 e7 c9 cD;go_enter func16,ntmps16;go_upto_region 1 with fail
 rw[<-aT];clear aT
 go_upto_block 0 with fail
 go_cut[4] (fun lv wx=>lv= .int .i64 (z2S K L.length)/\Hid (Below wB.heap.size wB wx))
 case first=>
  go_wp2_with fail;go_loopw[4] (fun lv wr=>∃t:Int,lv= .int .i64 t/\ -1<=t/\t<L.length/\Hid (z2S K (t+1).toNat=z2S K L.length)/\Hid (Below wB.heap.size wB wr)) (fun lv _=>match lv with | .int _ t=>(t+1).toNat|_=>0)
  case atStart=>exact⟨_,rfl,wF,wF,z7 (by rw[show((L.length:Int) - 1+1).toNat=L.length by omega]),z7 wD⟩
  case round=>
   obtain⟨t,rfl,eL,eM,O,N⟩:=hrel;obtain⟨e0,e1⟩:=cA.o wr N.o;clear d2 d3;by_cases eA:t<0
   .have aX:t=z2S K L.length:=by
     rw[<-O.o,show(t+1).toNat=0 by omega];show t= -1;omega
    have d8:=z7 aX;have i0:¬(0<=t):=wF;clear O aX;go_wp2;go_meet
    exact⟨by rw[d8.o],N⟩
   have i0:0<=t:=wF;obtain⟨m,rfl⟩:∃m:Nat,t=m:=⟨t.toNat,wF⟩;have cJ:m<=1048576:=wF;cases hk:z7S K m with
   | false=>
    have aR:Hid (z2S K ((m:Int) - 1+1).toNat=z2S K L.length):=z7 (by
     have J:=O.o;rw[show((m:Int)+1).toNat=m+1 by omega]at J;rw[<-J,show((m:Int) - 1+1).toNat=m by omega];simp[z2S,hk])
    have e6:IntKind.i64.wrap ((m:Int) - 1)=(m:Int) - 1:=wrap64 wF wF;clear O;go_wp2_with fail;refine(y3c ka kn kc A K m wr (HK.o.low N.o) HN.o hl cJ).mono ?_;rintro e w1 ⟨rfl,a3⟩;rw[hk];have b5:=z7 (N.o.trans (a3.mono N.o.size));clear a3 hk;go_wp2;refine⟨⟨(m:Int) - 1,rfl,wF,wF,aR,b5⟩,?_⟩;show((m:Int) - 1+1).toNat<((m:Int)+1).toNat;omega
   | true=>
    have aX:Hid ((m:Int)=z2S K L.length):=z7 (by
     have J:=O.o;rw[show((m:Int)+1).toNat=m+1 by omega]at J;rw[<-J];simp[z2S,hk])
    clear O;go_wp2_with fail;refine(y3c ka kn kc A K m wr (HK.o.low N.o) HN.o hl cJ).mono ?_;rintro e w1 ⟨rfl,a3⟩;rw[hk];have b5:=z7 (N.o.trans (a3.mono N.o.size));clear a3 hk;go_wp2;go_meet
    exact⟨by rw[aX.o],b5⟩
 case rest=>
  obtain⟨rfl,N⟩:=hcut;have dT:= @run_makeMap prog;obtain⟨w1,aH⟩:=zN (wc.alloc (.map #[] 0));have a3:Below w.heap.size w w1:=by rw[aH];exact bV.o.trans ((N.o.trans ((q5 wc _).mono N.o.size)).mono bV.o.size)
  have dH:(wc.alloc (.map #[] 0)).cell? ⟨sb,2,none⟩=some (.slice wa L.length a0):=by rw[<-aH];exact(a3.cell (p:=⟨sb,2,none⟩) cX).trans (z1N H1.o.blk).2.2.1
  have e4:=dC.o;have e5:=N.o.size;have aR:Hid (q8d s K A sb (z4c (z0P sb mb (.slice wa L.length a0) lp) (E++L)) w wB mb (.slice wa L.length a0) lp L wc.heap.size 0 E [] w1):=z7 ⟨⟨(H1.o.low a3).re,by rw[aH];exact y0z wc,Chg.of_below a3,
   fun hm=>by have:=H1.o.fp_lt _ hm;omega,by rw[aH,ub wc _ _ wF];exact N.o.block _ wF,fun hm=>by have:=H1.o.fp_lt _ hm;omega,wF⟩,⟨by show _=(s.files, []);rw[H1.o.files],(fun p hp=>by cases hp),by simp[y1n,H1.o.files,total],wH,by rw[H1.o.files];simp⟩⟩
  have dA:=z7 (show w.heap.size<wc.heap.size by omega);obtain⟨mg,bO⟩:=zN wc.heap.size;rw[<-bO]at aR dA;clear a3 e4 e5 d2 d3;go_upto_region 6 with fail
  rw[<-aH];rw[<-bO];clear aH bO dH dT N;go_loopw[6,7,30] (fun jv pv iv wr=>∃(i:Nat) (E':List (Bs×Ent)) (G:List (Bs×Int)),iv= .int .i64 i/\i<=L.length/\Hid (q8d s K A sb (z4c (z0P sb mb (.slice wa L.length a0) lp) (E++L)) w wB mb (.slice wa L.length a0) lp L mg i E' G wr)) (fun _ _ iv _=>match iv with | .int _ j=>L.length - j.toNat|_=>0)
  case atStart=>exact⟨0,E, [],rfl,uA _,aR⟩
  case round=>
   obtain⟨i,E',G,rfl,hi,hc⟩:=hrel;clear aR;by_cases aN:i<L.length
   .have i0:(i:Int)<L.length:=wF;have a8:Hid (∀W,Below wr.heap.size wr W->W.cell? ⟨w.heap.size,0,none⟩=some (.slice ka kn kc)/\W.cell? ⟨w.heap.size,1,none⟩=some (.int .i64 A)):=z7 fun W hW=>by
     have h2:=hc.o.1.box;have h3:W.heap[w.heap.size]? =wr.heap[w.heap.size]? :=hW.block _ (gQ hc.o.1.mgb hc.o.1.gap.lt);have h4:=cA.o wB wD;rw[<-ud (w:=wB) (w':=W) (a:=⟨w.heap.size,0,none⟩) (h3.trans h2),<-ud (w:=wB) (w':=W) (a:=⟨w.heap.size,1,none⟩) (h3.trans h2)]at h4;exact h4
    have bN:Hid (RdK wr (.slice ka kn kc) K):=z7 (dE.o.chg0 HN.o hc.o.1.chg HD.o);obtain⟨g,I,pb,pa,R,pc,rfl,bR,a1,a2,hg,dN⟩:=hc.o.1.fs.at aN;have cU:z3M wr (z0P sb mb (.slice (some ⟨g,0,none⟩) L.length a0) lp) (⟨pb,pa,R,pc⟩:Ent):=by
     have:=hc.o.1.fs.ent L[i] (uT _ (ug aN));rw[bR]at this;exact this
    have aZ:Hid (s.waits[i]? =some (I,pb)):=z7 (by
     rw[H1.o.waits,uF,wL aN,bR];rfl)
    have aI:=z7 cU;have a4:=z7 (q5 wr (.cells #[.string ⟨I.toArray⟩,.slice pa R pc] 132));have aO:=z7 (j8 wr (.cells #[.string ⟨I.toArray⟩,.slice pa R pc] 132));have aS:(wr.alloc (.cells #[.string ⟨I.toArray⟩,.slice pa R pc] 132)).heap.size=wr.heap.size+1:=wH;have dR:i<=1048576:=wF;obtain⟨e0,e1⟩:=a8.o _ a4.o;have eN:IntKind.i64.wrap ((i:Int)+1)=(i:Int)+1:=wrap64 wF wF;obtain⟨wA,bT⟩:=zN (wr.alloc (.cells #[.string ⟨I.toArray⟩,.slice pa R pc] 132));rw[<-bT]at a4 aO aS e0 e1;have bC:=z7 aS;clear bR cU aS;go_upto_region 8 with fail
    rw[<-bT];clear bT a1 a2 dN hg;go_wp2_with fail;refine(y3c ka kn kc A K i wA (bN.o.low a4.o) HN.o hl dR).mono ?_;rintro e w2 ⟨rfl,aU⟩;have b6:=z7 (a4.o.trans (aU.mono a4.o.size));have aY:w2.heap[wr.heap.size]? =some (.cells #[.string ⟨I.toArray⟩,.slice pa R pc] 132):=(aU.block _ (by have:=bC.o;omega)).trans aO.o;have dD:Hid (wr.heap.size<w2.heap.size):=z7 (by have:=bC.o;have:=aU.size;omega);have aF:=z7 (hc.o.1.low b6.o);have bA:=z7 aY;clear e0 e1 aU a4 aO bC;have b1:w2.cell? ⟨wr.heap.size,0,none⟩=some (.string ⟨I.toArray⟩):=(by simp[World.cell?,aY]);have b2:w2.cell? ⟨wr.heap.size,1,none⟩=some (.slice pa R pc):=(by simp[World.cell?,aY]);clear aY;have aG:I.length<=maxLen:=by
     have J:=(OK.o.piece (I,pb) (wX aZ.o)).2;unfold FsS.has at J;obtain⟨v,hv⟩:=pM.1 J;have h2:=OK.o.names (I,v) (z1q hv);unfold named at h2;simp only[uh,od]at h2;unfold maxLen;omega
    cases hk:z7S K i with
    | false=>
     have eG:=z5H hc.o.2.pos I;have aM:=z7 (hc.o.2.lost aZ.o hk);have a5:Hid (R=pb.length):=z7 aI.o.n;have eB:z3N I G+(R:Int)<=1048576:=by
      have J:=aM.o.sum;have h2:=OK.o.used_le;have h3:=y1Y s.waits (i+1);have h4:=y0A I (z3N I G+(pb.length:Int)) G;have h5:0<=y1n (z2x I G):=y1g fun q hq=>hc.o.2.pos q ((z2L _ _ _).1 hq).1;have h6:=a5.o;unfold FsS.used at h2;simp only at J h4;omega
     have e6:IntKind.i64.wrap (z3N I G+(R:Int))=z3N I G+(R:Int):=wrap64 wF wF;have bJ:G.length<maxLen:=(by have:=hc.o.2.gl;unfold maxLen;omega);have cF:=z7 aF.o.gap;have dO:Hid (((z0J I G).map fun n:Int=>Value.int .i64 n).getD (.int .i64 0)= .int .i64 (z3N I G)):=z7 (by unfold z3N;cases z0J I G<;>rfl);clear hc bN a8;go_wp2_with (first|(at_lookup;refine z5O z2O rfl _ _ 134 rfl 3 underlying134 (y7m _) rfl rfl cF.o I rfl aG (z0J I G) rfl (.int .i64 (z3N I G)) dO.o ?_)|(at_mapUpdate;refine z2I z2O rfl _ _ _ 134 rfl 3 underlying134 rfl cF.o bJ I rfl aG (z3N I G+(R:Int)) rfl rfl ?_;intro w3 cL cC dW;have d9:=z7 cL;have d7:=z7 cC;clear cL cC dW));refine⟨⟨i+1,E',_,wH,aN,z7 ⟨aF.o.gapPut d9.o d7.o,?_⟩⟩,?_⟩
     .have J:=aM.o;rw[<-a5.o]at J;exact J
     show L.length - ((i:Int)+1).toNat<L.length - ((i:Nat):Int).toNat;omega
    | true=>
     have aM:=z7 (hc.o.2.keeps aZ.o hk);have a5:Hid (R=pb.length):=z7 aI.o.n;obtain⟨tb,d0⟩:=zN (y0Y A (z2S K s.waits.length) i pb);have bE:=z7 d0;have b8:=z7 hc.o.1;have d5:=z7 (uS Prod.fst hc.o.2.eq);have bX:=z7 hc.o.2.el;have bY:=z7 hc.o.2.gl;have bS:Hid (RdB w2 (.slice pa R pc) pb):=z7 (RdB.low aI.o.rd b6.o);have b3:w2.frozen? ⟨wr.heap.size,1,none⟩=false:=(by simp[World.frozen?,bA.o]);obtain⟨e0,e1⟩:=a8.o w2 b6.o;have dX:=dD.o;have bW:=z7 (z5H hc.o.2.pos I);clear hc bN a8 d0;go_upto_region 10 with fail
     go_cut[62] (fun v wx=>v= .bool (decide ((i:Int)=z2S K L.length/\0<=A/\A<R))/\w2=wx)
     case first=>
      by_cases t1:(i:Int)=z2S K L.length
      .have e8:((i:Int)==z2S K L.length)=true:=(by simpa using t1);have T1:=z7 t1;clear t1;by_cases t2:0<=A
       .by_cases t3:A<R
        .go_wp2;go_meet
         exact⟨uS Value.bool (wQ (⟨T1.o,t2,t3⟩:(i:Int)=z2S K L.length/\0<=A/\A<R)).symm,rfl⟩
        go_wp2;go_meet
        exact⟨uS Value.bool (wM (p:=(i:Int)=z2S K L.length/\0<=A/\A<R) fun h=>by have:=h.2.2;omega).symm,rfl⟩
       go_wp2;go_meet
       exact⟨uS Value.bool (wM (p:=(i:Int)=z2S K L.length/\0<=A/\A<R) fun h=>by have:=h.2.1;omega).symm,rfl⟩
      have e8:((i:Int)==z2S K L.length)=false:=(by simpa using t1);have T1:=z7 t1;clear t1;go_wp2;go_meet
      exact⟨uS Value.bool (wM (p:=(i:Int)=z2S K L.length/\0<=A/\A<R) fun h=>T1.o h.1).symm,rfl⟩
     case rest=>
      obtain⟨rfl,rfl⟩:=hcut
      go_upto_if 62 with fail
      go_cut[] (fun wx=>∃n':Nat,Hid (z5z s sb (z4c (z0P sb mb (.slice (some ⟨g,0,none⟩) L.length a0) lp) (E++L)) w wB mb (.slice (some ⟨g,0,none⟩) L.length a0) lp L mg E' G wx)/\Hid (wx.heap[wr.heap.size]? =some (.cells #[.string ⟨I.toArray⟩,.slice pa n' pc] 132 (0,0)))/\Hid (RdB wx (.slice pa n' pc) tb)/\Hid (n'=tb.length)/\Hid (w2.heap.size<=wx.heap.size))
      case first=>
       by_cases hT:(i:Int)=z2S K L.length/\0<=A/\A<R
       .obtain⟨t1,t2,t3⟩:=hT;have e:decide ((i:Int)=z2S K L.length/\0<=A/\A<R)=true:=wQ ⟨t1,t2,t3⟩;rw[e];obtain⟨m,rfl⟩:∃m:Nat,A=m:=⟨A.toNat,wF⟩;have ht:Hid (tb=pb.take m):=z7 (by
         rw[bE.o];unfold y0Y;rw[wZ ⟨by rw[<-b9.o];exact t1,t2,by rw[<-a5.o];exact t3⟩];rfl)
        have eH:R<=pc:=aI.o.le;have t4:(m:Int)<=pc:=wF;clear t1 e;obtain⟨bU,rfl⟩:∃bU,pa=some bU:=by
         rcases bS.o.2 with⟨he,hz⟩|⟨dF,c2,he,_⟩
         .simp only[wO]at he;omega
         simp only[wO]at he;exact⟨dF,he.1⟩
        have cZ:=z7 (z0a bA.o 1 (.slice (some bU) m pc));go_wp2;go_meet
        refine⟨m,z7 (b8.o.other aF.o wE 1 _),z7 (by simpa using cZ.o),z7 ?_,z7 (by rw[ht.o,uR,<-a5.o];omega),z7 (by simp[World.setCell])⟩;rw[ht.o];have J:=bS.o.upto a5.o m pc m (by rw[uR,<-a5.o];omega);exact J.keep fun b hb=>q7 fun e=>by have:=(aI.o.far b (by rw[<-hb];rfl)).2;omega
       have e:decide ((i:Int)=z2S K L.length/\0<=A/\A<R)=false:=wM hT;rw[e];have ht:Hid (tb=pb):=z7 (by
        rw[bE.o];unfold y0Y;rw[wR fun h=>hT ⟨by rw[b9.o];exact h.1,h.2.1,by rw[a5.o];exact h.2.2⟩])
       clear hT e;go_wp2;go_meet
       exact⟨R,aF,bA,z7 (by rw[ht.o];exact bS.o),z7 (by rw[ht.o];exact a5.o),z7 wE⟩
      case rest=>
       obtain⟨n',aB,dU,dZ,dV,cW⟩:=hcut;obtain⟨f0,f1,f2,f3,f4,dI⟩:=z1N aB.o.fs.blk;have dY:wr.heap.size<wc.heap.size:=(by have:=cW.o;omega);have cY:=(wI.1 aB.o.fs.blk).1;have d6:=z7 f1;have bB:=z7 dY;clear f0 f1 f2 f3 f4 dI e0 e1 b1 b2 b3 dX;have U:Hid (∀W,Below wc.heap.size wc W->W.cell? ⟨wr.heap.size,0,none⟩=some (.string ⟨I.toArray⟩)/\W.cell? ⟨wr.heap.size,1,none⟩=some (.slice pa n' pc)/\W.cell? ⟨sb,1,none⟩=some (.map (some mb))):=z7 fun W hW=>by
        have J:=(hW.block _ bB.o).trans dU.o;refine⟨by simp[World.cell?,J],by simp[World.cell?,J],(hW.cell (p:=⟨sb,1,none⟩) cY).trans d6.o⟩
       have bM:Hid (((z0J I G).map fun n:Int=>Value.int .i64 n).getD (.int .i64 0)= .int .i64 (z3N I G)):=z7 (by unfold z3N;cases z0J I G<;>rfl);obtain⟨gp,bL⟩:∃gp:Nat,z3N I G=gp:=⟨(z3N I G).toNat,by have:=bW.o;omega⟩;rw[bL]at bM;obtain⟨en,aV⟩:∃en,z0J I E'=some en:=by
        have J:=(OK.o.piece (I,pb) (wX aZ.o)).2;have h2:=y3N K A (z2S K s.waits.length) s.waits s.files I J i;rw[<-d5.o]at h2;have h3:z0J I (E'.map ct)=(z0J I E').map Ent.b:=y1G Ent.b I E';rw[h3,gg]at h2;exact pM.1 h2
       have dM:=z7 aV;have b0:z3M wc _ en:=aB.o.fs.ent (I,en) (uQ _ (z1q aV));have aD:=z7 b0;have a9:Hid (y4Q s K A (i+1) (z1d z1O I (en.b++List.replicate gp 0++tb) (E'.map ct)) (z1d z1O I 0 G)):=z7 (by
        have J:=aM.o;have h3:z0J I (E'.map ct)=(z0J I E').map Ent.b:=y1G Ent.b I E';simp only[h3,aV,bL,<-bE.o]at J;exact J)
       have aC:Hid (en.b.length+gp+tb.length<=1048576):=z7 (by
        have J:=a9.o.sum;rw[z4V]at J;simp only[wP,ir]at J;have h2:=OK.o.used_le;have h3:=y1Y s.waits (i+1);have h5:0<=y1n (z1d z1O I 0 G):=y1g a9.o.pos;unfold FsS.used at h2;omega)
       obtain⟨Y,hY⟩:=zN (en.b++List.replicate gp 0++tb);rw[<-hY]at a9;have HY:=z7 hY;obtain⟨eb,ea,en,ec⟩:=en;dsimp only at aC HY;have cH:Hid (∀W,Below wc.heap.size wc W->(Instr.lookup 82 (.map (some mb)) (.string ⟨I.toArray⟩) false).run prog W= .ok (.slice ea en ec) W):=z7 fun W hW=>
        z5T z2O 82 47 underlying82 (z6f _) rfl (aB.o.fs.map.low hW) I aG _ dM.o _ rfl
       have cG:Hid (∀W,Below wc.heap.size wc W->(Instr.lookup 134 (.map (some mg)) (.string ⟨I.toArray⟩) false).run prog W= .ok (.int .i64 gp) W):=z7 fun W hW=>
        z5T z2O 134 3 underlying134 (y7m _) rfl (aB.o.gap.low hW) I aG _ rfl _ bM.o
       have bJ:gp<=1048576:=(by have:=aC.o;omega);have cR:=z7 (fun W=>run_make_row' (P:=prog) 47 5 (.int .u8 0) 1 underlying47 y2c rfl .i64 .i64 gp wF wF W);clear bL aV b0 bM hY;go_wp2_with fail;refine q6 22 104 (fun D v w'=>Below wc.heap.size wc w'/\(D 17=true->∃a c,v 17= .slice a gp c/\RdB w' (.slice a gp c) (List.replicate gp 0))/\(D 20=true->∃q,v 20= .slice (some ⟨q,0,none⟩) 3 3/\Three w' q eb (List.replicate gp 0) tb)/\(D 21=true->D 20=true/\∃a n c,v 21= .slice a n c/\w'.ownsRow wc.heap.size 5 1 (.slice a n c) n (z0c Y)/\n=Y.length)) ⟨wD.drew,(fun h=>by cases h),(fun h=>by cases h),(fun h=>by cases h)⟩ ?_;simp only[z0C];iterate 17 (refine q8.rd ?_ (fun D v w' hD hS=>?_) ?_;rotate_left;(obtain⟨x0,x1,x2⟩:=U.o w' hS.1;have x3:=cH.o w' hS.1;have x4:=cG.o w' hS.1;clear hS hD;go_simp;try rfl);go_simp)
       refine q8.re (fun D v w' hD hS=>?_) ?_
       .have HS:=z7 hS;have aJ:D 20=false:=hD.post 20 _ rfl (by kernel_rfl);have bF:D 21=false:=by
         cases e:D 21 with
         | false=>rfl
         | true=>have:=(hS.2.2.2 e).1;rw[aJ]at this;cases this
        have e9:=cR.o w';have aA:=z7 (q5 w' (.cells (madeCells #[.int .u8 0] gp) 5));clear hS hD;go_simp;refine⟨HS.o.1.trans (aA.o.mono HS.o.1.size),?_,?_,?_⟩
        .intro _;exact⟨_,_,rfl,q6h w' gp bJ⟩
        .intro e;have:D 20=true:=e;rw[aJ]at this;cases this
        intro e;have:D 21=true:=e;rw[bF]at this;cases this
       go_simp;iterate 2 (refine q8.rd ?_ (fun D v w' hD hS=>?_) ?_;rotate_left;(obtain⟨x0,x1,x2⟩:=U.o w' hS.1;clear hS hD;go_simp;try rfl);go_simp)
       refine q8.re (fun D v w' hD hS=>?_) ?_
       .have HS:=z7 hS;have dG:D 17=true:=hD.pre 17 (by kernel_rfl);have bF:D 21=false:=hD.post 21 _ rfl (by kernel_rfl);obtain⟨a7,c7,h7,aE⟩:=hS.2.1 dG;have c5:=z7 aE;have aA:=z7 (q5 w' (.cells #[.slice ea en ec,.slice a7 gp c7,.slice pa n' pc] 47));rw[h7];have H7:=z7 h7;clear hS hD h7 aE;go_simp;refine⟨HS.o.1.trans (aA.o.mono HS.o.1.size),?_,?_,?_⟩
        .intro _;exact⟨a7,c7,H7.o,c5.o.low aA.o⟩
        .intro _;refine⟨_,rfl,ea,en,ec,a7,gp,c7,pa,n',pc,j8 _ _,(RdB.low aD.o.rd HS.o.1).low aA.o,aD.o.n,c5.o.low aA.o,wH,(RdB.low dZ.o HS.o.1).low aA.o,dV.o⟩
        intro e;have:D 21=true:=e;rw[bF]at this;cases this
       go_simp;refine q8.re (fun D v w' hD hS=>?_) ?_
       .have HS:=z7 hS;have aJ:D 20=true:=hD.pre 20 (by kernel_rfl);obtain⟨q,bG,d1⟩:=hS.2.2.1 aJ;have c6:=z7 d1;rw[bG];have d4:=z7 bG;clear hS hD bG d1;go_simp;go_at_call 45;refine(q1v q eb (List.replicate gp 0) tb w' c6.o (by have:=aC.o;rw[ir];omega)).mono ?_;rintro e eO ⟨a,n,c,rfl,hf⟩;refine⟨HS.o.1.trans (hf.2.2.mono HS.o.1.size),?_,?_,?_⟩
        .intro e;obtain⟨a7,c7,h7,aE⟩:=HS.o.2.1 e;exact⟨a7,c7,h7,aE.low hf.2.2⟩
        .intro _;obtain⟨ax,nx,cx,ay,ny,cy,az,nz,cz,g0,g1,g2,g3,g4,g5,g6⟩:=c6.o;exact⟨q,d4.o,ax,nx,cx,ay,ny,cy,az,nz,cz,(hf.2.2.block q (wI.1 g0).1).trans g0,g1.low hf.2.2,g2,g3.low hf.2.2,g4,g5.low hf.2.2,g6⟩
        intro _;have J:=hf.1;have h2:=hf.2.1;rw[<-HY.o]at J h2;exact⟨aJ,a,n,c,rfl,z0f J HS.o.1.size,h2⟩
       go_simp;refine q8.fin (fun v w4 hS=>?_);obtain⟨_,a,n,c,c8,b4,cT⟩:=hS.2.2.2 rfl;rw[c8];have b7:=z7 hS.1;have a6:=z7 b4;have bZ:=z7 cT;clear hS c8 b4 cT;obtain⟨x0,x1,x2⟩:=U.o w4 b7.o;have dJ:E'.length<maxLen:=by
        have J:=bX.o;rw[we]at J;have:=OK.o.few;unfold maxLen;omega
       have dL:G.length<maxLen:=(by have:=bY.o;unfold maxLen;omega);have cM:=z7 (aB.o.low b7.o);have bH:Hid (z3M w4 (z0P sb mb (.slice (some ⟨g,0,none⟩) L.length a0) lp) ⟨Y,a,n,c⟩/\∀k,(Value.slice a n c).ownBlock=some k->wc.heap.size<=k):=z7 (by
        have aW:=z0Q a6.o;refine⟨⟨?_,bZ.o,aW.1,aW.2,fun k hk=>⟨fun hm=>?_,(a6.o.lt k hk).2⟩⟩,fun k hk=>(a6.o.lt k hk).1⟩
        .have:=z0d a6.o;unfold RdB;rw[<-bZ.o];exact this
        have J:=aB.o.fs.mut_lt k hm;have h2:=(a6.o.lt k hk).1;omega)
       have cS:Hid (some wr.heap.size≠some mb):=z7 fun e=>by
        have:=b8.o.fs.mut_lt mb (by simp[z0P]);simp only[wK]at e;omega
       have cI:Hid (wr.heap.size<w4.heap.size):=z7 (wS bB.o b7.o.size);have X0:=z7 x0;have dS:Hid (mg<wc.heap.size):=z7 (by have:=b8.o.gap.lt;have:=bB.o;omega);have cV:Hid (∀w5,y1k w5 mb (z1d z1O I (⟨Y,a,n,c⟩:Ent) E')->w4.grownBy w5 (some mb)->z5z s sb (z4c (z0P sb mb (.slice (some ⟨g,0,none⟩) L.length a0) lp) (E++L)) w wB mb (.slice (some ⟨g,0,none⟩) L.length a0) lp L mg (z1d z1O I (⟨Y,a,n,c⟩:Ent) E') G w5):=z7 fun w5 J h2=>
        cM.o.filePut J h2 dS.o fun p hp=>by
         rcases(z2d _ _ _ _ _).1 hp with rfl|hp
         .exact .inr bH.o
         exact .inl hp.1
       have cB:Hid (y4Q s K A (i+1) ((z1d z1O I (⟨Y,a,n,c⟩:Ent) E').map ct) (z1d z1O I 0 G)):=z7 (by
        have J:(z1d z1O I (⟨Y,a,n,c⟩:Ent) E').map ct=z1d z1O I Y (E'.map ct):=y9N z1O Ent.b I ⟨Y,a,n,c⟩ E';rw[J];exact a9.o)
       clear cH cG cR x1 x2 U bX bY aM a9;go_wp2_with (first|(at_mapUpdate;refine z2I z2O rfl _ _ _ 82 rfl 47 underlying82 rfl cM.o.fs.map dJ I rfl aG ⟨Y,a,n,c⟩ rfl rfl ?_;intro w5 cN bI e2;have bD:=z7 (cV.o w5 cN bI);have x5:w5.cell? ⟨wr.heap.size,0,none⟩=some (.string ⟨I.toArray⟩):=(ud (w:=w4) (a:=⟨wr.heap.size,0,none⟩) (bI.block _ cI.o cS.o)).trans X0.o;clear cN bI e2 x0)|(at_mapUpdate;refine z2I z2O rfl _ _ _ 134 rfl 3 underlying134 rfl bD.o.gap dL I rfl aG (0:Int) rfl rfl ?_;intro w6 cO cE e3;have dB:=z7 (bD.o.gapPut cO cE);clear cO cE e3 x5));refine⟨⟨i+1,_,_,wH,aN,z7 ⟨dB.o,cB.o⟩⟩,?_⟩;show L.length - ((i:Int)+1).toNat<L.length - ((i:Nat):Int).toNat;omega
   obtain rfl:i=L.length:=wF
   have H3:=z7 hc.o.1.fs;obtain⟨c0,c1,c2,c3,c4,fz⟩:=z1N H3.o.blk;have f2:=fz 2;have f3:=fz 3;have f4:=fz 4;clear c0 c1 fz;go_wp2
   go_end0
   refine⟨rfl,y7c (s':=y5g s K A) hc.o.1.fs hc.o.1.chg rfl rfl rfl ?_ rfl⟩;have J:=hc.o.2.eq;rw[b9.o]at J;show(z5L K A (z2S K s.waits.length) s.waits s.files s.waits.length).1=E'.map ct;rw[<-J]
theorem y6Q{room:Int}(I:0<=room)(J:room<=1048576):(z7F room).Ok:=
 ⟨I,J,by show((0:Nat):Int)<=room;simpa using I,by simp[z7F],(fun p A=>by cases A),(fun p A=>by cases A),(fun n L=>by cases L)⟩
theorem z7z{s:FsS}(h:s.Ok){k:Bs}(I:named k=true)(v:Bs):∀p∈z1d z1O k v s.files,named p.1=true:=fun p A=>by
 rcases(z2d _ _ _ _ _).1 A with rfl|A
 .exact I
 exact h.names p A.1
theorem y4d{s:FsS}(h:s.Ok){k:Bs}(A:s.has k=true):named k=true:=by
 obtain⟨v,I⟩:=pM.1 A;exact h.names (k,v) (z1q I)
theorem z9D{s:FsS}(h:s.Ok){k:Bs}(A:s.has k=true)(v:Bs):(z1d z1O k v s.files).length<=8:=by
 unfold z1d;rw[z6F];have:=z7G (k:=k) (E:=s.files) A;have:=h.few;omega
theorem z5w{s:FsS}(h:s.Ok)(k:Bs)(F:List (Bs×Bs))(O:∀j,j≠k->(z0J j s.files).isSome=true->(z0J j F).isSome=true):∀p∈z0O k s.waits,p.2≠ []/\(z0J p.1 F).isSome=true:=fun p A=>by
 unfold z0O at A;obtain⟨I,J⟩:=ev.1 A;obtain⟨L,N⟩:=h.piece p I;exact⟨L,O p.1 (by simpa using J) N⟩
theorem z4s{s:FsS}(h:s.Ok)(k:Bs):(z1i s k).2.Ok:=by
 unfold z1i;split
 .exact h
 rename_i J;split
 .exact h
 rename_i N;split
 .exact h
 rename_i L;have I:named k=true:=(by simpa using J);split
 .have e:({s.went with files:=z1d z1O k [] s.files}:FsS)={s.went with files:=z1d z1O k [] s.files,waits:=s.waits}:=(by rw[<-(z2T s).2.2]);rw[e];refine y0e h _ _ ?_ ?_ (z7z h I []) fun p A=>⟨(h.piece p A).1,y7k _ _ _ _ _ (h.piece p A).2⟩
  .rw[z4V];have:=z7p k s.files;unfold FsS.used;simp;omega
  have:=z5j z1O k [] s.files;omega
 exact h.went
theorem z6C{s:FsS}(h:s.Ok)(k b:Bs):(z0V s k b).2.Ok:=by
 unfold z0V;split
 .exact h
 rename_i R;split
 .exact h
 rename_i hb;split
 .exact h
 rename_i U;split
 .have I:=h.went;obtain⟨N,J,Y⟩:=z2T s;refine⟨I.room0,I.room1,?_,I.few,I.names,fun p A=>?_,I.left0⟩
  .show((total s.went.files+total (s.waits++ [(k,b)]):Nat):Int)<=s.went.room;rw[N,J,z5P];have:total [(k,b)]=b.length:=(by simp[total]);unfold FsS.used at U;omega
  rcases uB.1 A with A|A
  .have L:=h.piece p A;refine⟨L.1,?_⟩;show(z0J p.1 s.went.files).isSome=true;rw[J];exact L.2
  simp only[uD]at A;subst A;refine⟨fun e=>hb (by rw[show b= []from e];rfl),?_⟩;show(z0J k s.went.files).isSome=true;rw[J];have O:s.has k=true:=by cases e:s.has k with
   | true=>rfl
   | false=>exact absurd e R
  exact O
 exact h.went
theorem z8v{s:FsS}(h:s.Ok)(k:Bs):(z2G s k).2.Ok:=by
 unfold z2G;split
 .exact h
 rename_i I;have A:s.has k=true:=by simpa using I
 split
 .refine y0e h _ _ ?_ (z9D h A _) (z7z h (y4d h A) _) (z5w h k _ fun j J L=>by rw[z2Y z1O J];exact L);rw[z4V];have:=z7k s k;omega
 exact h.went
theorem q3p{s:FsS}(h:s.Ok)(k:Bs)(n:Int):(z5Z s k n).2.Ok:=by
 unfold z5Z;split
 .exact h
 rename_i I;have A:s.has k=true:=by simpa using I
 split
 .exact h
 split
 .refine y0e h _ _ ?_ (z9D h A _) (z7z h (y4d h A) _) (z5w h k _ fun j J L=>by rw[z2Y z1O J];exact L);rw[z4V,uR];have:=z7k s k;omega
 exact h.went
theorem y5U{s:FsS}(h:s.Ok)(k:Bs):(z3v s k).2.Ok:=by
 unfold z3v;split
 .exact h
 split
 .refine y0e h _ _ ?_ ?_ (fun p I=>h.names p ((z2L _ _ _).1 I).1) (z5w h k _ fun j A J=>by rw[z6c A];exact J)
  .have:=z7k s k;omega
  have:=y0T k s.files;have:=h.few;omega
 exact h.went
structure y4q (W w:World) (sb:Nat) (s:FsS) (F:List Nat):Prop where
 rep:z1L w sb s F
 up:∀k∈F,W.heap.size<=k
 low:Below W.heap.size W w
 ok:s.Ok
theorem y4q.step{W w w':World}{J:Nat}{s s':FsS}{F:List Nat}(h:y4q W w J s F)(N:z2e w J F s' w')(ok:s'.Ok):∃A,y4q W w' J s' A/\Chg F A w w':=by
 obtain⟨A,L,I⟩:=N;exact⟨A,⟨L,I.up h.low.size h.up,h.low.trans (I.below h.low.size h.up),ok⟩,I⟩
theorem y4q.then{W w w':World}{A:Nat}{s:FsS}{F:List Nat}(h:y4q W w A s F)(hb:Below w.heap.size w w'):y4q W w' A s F:=⟨h.rep.low hb,h.up,h.low.trans (hb.mono h.low.size),h.ok⟩
theorem y9q(a b:Bs)(L:List (Bs×Bs)):total (L.map fun p=>if p.1=a then(b,p.2)else p)=total L:=by
 unfold total;rw[dy]
 congr 1
 apply kk;intro p _;show(if p.1=a then(b,p.2)else p).2.length=p.2.length;split<;>rfl
theorem y7q{s:FsS}(h:s.Ok)(a b:Bs):(z2p s a b).2.Ok:=by
 unfold z2p;split
 .exact h
 rename_i hh;have ha:s.has a=true:=by simpa using hh
 split
 .exact h
 rename_i hn;have hb:named b=true:=(by simpa using hn);split
 .exact h
 rename_i A;split
 .obtain⟨v,O⟩:∃v,z0J a s.files=some v:=pM.1 ha;have N:z0J a (z1d z1O b v s.files)=some v:=(by rw[z2Y z1O A];exact O);have R:=z9n N;rw[z4V]at R;have h2:=z7p b s.files;have h3:total (z0O b s.waits)<=total s.waits:=z5y _ _;rw[O,ki];refine y0e h _ _ ?_ ?_ (fun p J=>z7z h hb v p ((z2L _ _ _).1 J).1) fun p J=>?_
  .rw[y9q];unfold FsS.used;omega
  .have:=z7G (k:=a) (E:=z1d z1O b v s.files) (by rw[N];rfl);have:=z5j z1O b v s.files;have:=h.few;omega
  obtain⟨q,hq,rfl⟩:=uC.1 J;have I:=hq;unfold z0O at I;obtain⟨U,Y⟩:=ev.1 I;obtain⟨L,h7⟩:=h.piece q U;have h8:q.1≠b:=(by simpa using Y);by_cases e:q.1=a
  .simp only[wZ e];refine⟨L,?_⟩;rw[z6c (pz A),z6L];rfl
  simp only[wR e];refine⟨L,?_⟩;rw[z6c e,z2Y z1O h8];exact h7
 exact h.went

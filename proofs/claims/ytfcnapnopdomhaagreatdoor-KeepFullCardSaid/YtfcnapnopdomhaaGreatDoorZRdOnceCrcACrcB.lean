/-
  What a slice reads as: heads, addresses, and a list of lists of bytes.
-/
import Derived.Test.YtfcnapnopdomhaaGreatDoorZBaseBiMFrMBiN
import Derived.Tactics
import Derived.Tactics2
import Derived.Defers
import Derived.Laws.Pointers
import Derived.Laws.LoneSync
import Derived.RegionTactic
import Derived.RegionCalls
import Derived.Laws.BitsAllLaws
namespace Go.Proofs.YtfcnapnopdomhaaGreatDoor
set_option linter.unusedSimpArgs false
set_option linter.unusedVariables false
set_option maxRecDepth 100000
set_option maxHeartbeats 12800000
open Go.RowKit
theorem Rd.addr{w:World}{x:Value}{size m:Nat}{xs:List Value}(h:Rd w x size m xs)(hp:0<m)(hs:0<size):∃b off c,x= .slice (some ⟨b,off,none⟩) m c∧(∀j u,xs[j]? =some u→w.cell? ⟨b,off+j,none⟩=some u)∧b<w.heap.size:=by
 obtain ⟨hl,⟨_,hz⟩ | ⟨ad,c,rfl,hc⟩⟩:=h
 ·omega
 ·have h0:0<xs.length:=by rw [hl];exact Nat.mul_pos hp hs
  have hc0:=hc 0 _ (List.getElem?_eq_getElem h0);have hadd:ad.add 0=ad:=by unfold Addr.add;simp
  rw [hadd] at hc0;obtain ⟨b,off,spot⟩:=ad;have hsp:spot=none:=by
   obtain ⟨e,n,_,_,hsp⟩:=World.shape?_of_cell? hc0;exact hsp
  subst hsp;refine ⟨b,off,c,rfl,fun j u hu=>?_,World.block_lt_of_cell? _ _ hc0⟩;have h1:=hc j u hu;have hadd:(⟨b,off,none⟩:Addr).add j=⟨b,off+j,none⟩:=by unfold Addr.add;split<;>simp_all
  rw [hadd] at h1;exact h1
theorem Rd.head{w:World}{x:Value}{size m:Nat}{xs:List Value}(h:Rd w x size m xs):∃a c,x= .slice a m c:=by
 obtain ⟨hl,⟨rfl,hz⟩ | ⟨ad,c,rfl,hc⟩⟩:=h
 ·exact ⟨none,0,by rw [hz]⟩
 ·exact ⟨_,_,rfl⟩
theorem Rd.low{w w':World}{x:Value}{size m:Nat}{xs:List Value}(h:Rd w x size m xs)(hb:Below w.heap.size w w'):Rd w' x size m xs:=h.kept fun b _ hlt=>hb.block b hlt
theorem Rd.chg{w w':World}{x:Value}{size m:Nat}{xs:List Value}{F F':List Nat}(h:Rd w x size m xs)(hc:Chg F F' w w')(hx:∀k,x.ownBlock=some k→k∉F):Rd w' x size m xs:=h.kept fun b hb hlt=>hc.block b hlt (hx b hb)
theorem Rd.nil(w:World)(size:Nat):Rd w (.slice none 0 0) size 0 []:=⟨by simp, .inl ⟨rfl,rfl⟩⟩
def RdB(w:World)(x:Value)(l:List UInt8):Prop:=Rd w x 1 l.length (z0b l)
theorem RdB.low{w w':World}{x:Value}{l:List UInt8}(h:RdB w x l)(hb:Below w.heap.size w w'):RdB w' x l:=Rd.low h hb
theorem RdB.chg{w w':World}{x:Value}{l:List UInt8}{F F':List Nat}(h:RdB w x l)(hc:Chg F F' w w')(hx:∀k,x.ownBlock=some k→k∉F):RdB w' x l:=Rd.chg h hc hx
theorem RdB.nil(w:World):RdB w (.slice none 0 0) []:=Rd.nil w 1
theorem RdB.head{w:World}{x:Value}{l:List UInt8}(h:RdB w x l):∃a c,x= .slice a l.length c:=Rd.head h
theorem RdB.at{w:World}{x:Value}{l:List UInt8}(h:RdB w x l){k:Nat}(hk:k<l.length):∃b off c,x= .slice (some ⟨b,off,none⟩) l.length c∧w.cell? ⟨b,off+k,none⟩=some (.int .u8 (l[k].toNat:Nat))∧b<w.heap.size:=by
 obtain ⟨b,off,c,rfl,hc,hb⟩:=Rd.addr h (by omega) (by omega);exact ⟨b,off,c,rfl,hc k _ (by simp [z0b,hk]),hb⟩
theorem RdB.oneCell{w:World}{x:Value}{l:List UInt8}(h:RdB w x l):x.oneCell'=true:=by obtain ⟨a,c,rfl⟩:=h.head;rfl
def z9B(w:World)(x:Value)(ls:List (List UInt8)):Prop:=∃xs:List Value,Rd w x 1 ls.length xs∧xs.length=ls.length∧∀(i:Nat) (v:Value) (l:List UInt8),xs[i]? =some v→ls[i]? =some l→RdB w v l
theorem z9B.low{w w':World}{x:Value}{ls:List (List UInt8)}(h:z9B w x ls)(hb:Below w.heap.size w w'):z9B w' x ls:=by
 obtain ⟨xs,h1,h2,h3⟩:=h;exact ⟨xs,h1.low hb,h2,fun i v l hv hl=>(h3 i v l hv hl).low hb⟩
theorem z9B.head{w:World}{x:Value}{ls:List (List UInt8)}(h:z9B w x ls):∃a c,x= .slice a ls.length c:=by
 obtain ⟨xs,h1,_⟩:=h;exact Rd.head h1
theorem z9B.nil(w:World):z9B w (.slice none 0 0) []:=⟨[],Rd.nil w 1,rfl,fun i v l h=>by simp at h⟩
theorem z9B.at{w:World}{x:Value}{ls:List (List UInt8)}(h:z9B w x ls){k:Nat}(hk:k<ls.length):∃b off c v,x= .slice (some ⟨b,off,none⟩) ls.length c∧w.cell? ⟨b,off+k,none⟩=some v∧RdB w v ls[k]∧b<w.heap.size:=by
 obtain ⟨xs,h1,h2,h3⟩:=h;obtain ⟨b,off,c,rfl,hc,hb⟩:=Rd.addr h1 (by omega) (by omega);have hx:xs[k]? =some (xs[k]'(by omega)):=List.getElem?_eq_getElem (by omega);exact ⟨b,off,c,_,rfl,hc k _ hx,h3 k _ _ hx (List.getElem?_eq_getElem hk),hb⟩
theorem z8i(l:List UInt8):(⟨l.toArray⟩:ByteArray).toList=l:=by
 have key:∀(n i:Nat) (r:List UInt8),l.length - i=n→ByteArray.toList.loop ⟨l.toArray⟩ i r=r.reverse++l.drop i:=by
  intro n
  induction n with
  | zero=>
   intro i r h;unfold ByteArray.toList.loop;have:¬i<(⟨l.toArray⟩:ByteArray).size:=by simp [ByteArray.size];omega
   rw [if_neg this,List.drop_eq_nil_of_le (by omega),List.append_nil]
  | succ n ih=>
   intro i r h;unfold ByteArray.toList.loop;have hi:i<l.length:=by omega
   have:i<(⟨l.toArray⟩:ByteArray).size:=by simpa [ByteArray.size] using hi
   rw [if_pos this,ih (i+1) _ (by omega),List.drop_eq_getElem_cons hi];have e:(⟨l.toArray⟩:ByteArray).get! i=l[i]:=by simp [ByteArray.get!,hi]
   rw [e];simp
 have:=key (l.length - 0) 0 [] rfl;simpa [ByteArray.toList] using this
theorem z6b(b:List UInt8)(x:Value)(w:World)(h:RdB w x b):(convert 46 9 x).run Tryz.prog w= .ok (.string ⟨b.toArray⟩) w:=by
 obtain ⟨hl,⟨rfl,hm⟩ | ⟨a,c,rfl,hc⟩⟩:=h
 ·have:b= []:=List.eq_nil_of_length_eq_zero hm;subst this;exact run_convert_bytes_nil (P:=Tryz.prog) (w:=w) 46 5 Tryz.underlying46 Tryz.underlying5 0 0 9 Tryz.underlying9
 ·exact run_convert_bytes_back (P:=Tryz.prog) w 46 9 5 a c b Tryz.underlying46 Tryz.underlying5 Tryz.underlying9 (fun j hj=>hc j _ (by simp [z0b,List.getElem?_eq_getElem hj]))
theorem y3w(w:World):(callFunc 328 #[]).run Tryz.prog w= .ok (.value (.tuple #[])) w:=run_call_mark0 Tryz.func328 (by kernel_rfl) (by kernel_rfl) (by kernel_rfl) .disable (by kernel_rfl) w
theorem y6w(w:World):(callFunc 330 #[]).run Tryz.prog w= .ok (.value (.tuple #[])) w:=run_call_mark0 Tryz.func330 (by kernel_rfl) (by kernel_rfl) (by kernel_rfl) .enable (by kernel_rfl) w
theorem y8P(a:Addr)(w:World):(callFunc 331 #[.pointer (some a)]).run Tryz.prog w= .ok (.value (.tuple #[])) w:=run_call_marked Tryz.func331 (by kernel_rfl) (by kernel_rfl) (by kernel_rfl) .acquire (by kernel_rfl) a w
theorem q0O(a:Addr)(w:World):(callFunc 333 #[.pointer (some a)]).run Tryz.prog w= .ok (.value (.tuple #[])) w:=run_call_marked Tryz.func333 (by kernel_rfl) (by kernel_rfl) (by kernel_rfl) .releaseMerge (by kernel_rfl) a w
theorem z7p(a:Addr)(x:Value)(u:FrameMode)(w:World)(hc:w.cell? a=some x)(hz:w.frozen? a=false):
  CallsD Tryz.prog 272 #[.pointer (some a), .bool true] u w fun e u' w'=>u'=u∧(e= .returned (.tuple #[])∧w'=w.drew.setCell a (.int .u32 1)):=by
 have hc':w.drew.cell? a=some x:=by go_simp
 have hz':w.drew.frozen? a=false:=by go_simp
 have hst:=run_call_store (P:=Tryz.prog) Tryz.func308 (by kernel_rfl) (by kernel_rfl) (by kernel_rfl) (by kernel_rfl) (k:= .u32) (y:=1) hc' hz'
 go_enter_d Tryz.func272,Tryz.ntmps272
 go_wp2
 go_region_calls
 all_goals (go_end0;exact ⟨rfl,rfl⟩)
theorem z6t(a:Addr)(u:FrameMode)(w:World)(hc:w.cell? a=some (.int .i32 1))(hz:w.frozen? a=false):
  CallsD Tryz.prog 271 #[.pointer (some a)] u w fun e u' w'=>u'=u∧(e= .returned (.tuple #[])∧w'=w.setCell a (.int .i32 0)):=by
 have hd:=y3w;have he:=y6w;have hr:=q0O;have hadd:=run_call_add (P:=Tryz.prog) Tryz.func334 (by kernel_rfl) (by kernel_rfl) (by kernel_rfl) .i32 (by kernel_rfl) (y:= -1) (s:=0) hc hz (by simp [go_sem];rfl);have hcv:=run_convert_to_unsafe (P:=Tryz.prog) (src:=475) (dst:=479) Tryz.underlying475 Tryz.underlying479 (by kernel_rfl) hc
 go_enter_d Tryz.func271,Tryz.ntmps271
 go_wp2
 go_end0
 go_wp2
 go_end0
 exact ⟨rfl,rfl⟩
theorem y5L(a:Addr)(w:World)(hc:w.cell? a=some (.int .i32 0))(hz:w.frozen? a=false):
  Calls Tryz.prog 270 #[.pointer (some a)] w fun e w'=>e= .returned (.tuple #[])∧w'=w.setCell a (.int .i32 1):=by
 have hd:=y3w;have he:=y6w;have ha:=y8P;have hcas:=run_call_cas_hit (P:=Tryz.prog) Tryz.func329 (by kernel_rfl) (by kernel_rfl) (by kernel_rfl) .i32 (by kernel_rfl) (y:=1) hc hz;have hc':(w.setCell a (.int .i32 1)).cell? a=some (.int .i32 1):=World.cell?_setCell_same w a _ hc;have hcv:=run_convert_to_unsafe (P:=Tryz.prog) (src:=475) (dst:=479) Tryz.underlying475 Tryz.underlying479 (by kernel_rfl) hc';go_enter Tryz.func270,Tryz.ntmps270;go_wp2;first | go_end0 | (simp only [Exit.inBlock,Exit.then];refine bodyPost_ret (results_none rfl _ _ _) rfl ?_) | refine bodyPost_ret (results_none rfl _ _ _) rfl ?_
 go_wp2
 go_end0
 exact ⟨rfl,rfl⟩
theorem z4a(a:Addr)(d:Int)(b:Bool)(w:World)(h0:w.cell? a=some (.int .u32 d))(hb:(d !=0)=b):
  Calls Tryz.prog 222 #[.pointer (some a)] w fun e w'=>e= .returned (.bool b)∧w=w':=by
 have hl:=run_call_load (P:=Tryz.prog) Tryz.func269 (by kernel_rfl) (by kernel_rfl) (by kernel_rfl) .u32 (by kernel_rfl) h0;subst hb;go_enter Tryz.func222,Tryz.ntmps222;go_wp2;go_ret;exact ⟨rfl,rfl⟩
theorem y7J(a:Addr)(fv:Value)(w:World)(h0:w.cell? a=some (.int .u32 1)):
  Calls Tryz.prog 170 #[.pointer (some a),fv] w fun e w'=>e= .returned (.tuple #[])∧w=w':=by
 have hnot:∀(x:Bool) (w:World),(Op.unary .not (.bool x)).run Tryz.prog w= .ok (.bool (!x)) w:=fun _ _=>rfl;go_enter Tryz.func170,Tryz.ntmps170;go_wp2_with (go_at_call 222;refine (z4a a 1 true _ h0 rfl).mono ?_;rintro e w' ⟨rfl,rfl⟩)
 go_end0
 exact ⟨rfl,rfl⟩
def y6A(R:World→World→Prop)(b o:Nat)(w1 w2:World):Prop:=
 w2.cell? ⟨b,o,none⟩=w1.cell? ⟨b,o,none⟩∧w2.cell? ⟨b,o+1,none⟩=w1.cell? ⟨b,o+1,none⟩∧w2.frozen? ⟨b,o,none⟩=false∧w2.frozen? ⟨b,o+1,none⟩=false∧R w1 w2
theorem y7r(R:World→World→Prop)(b o f:Nat)(first cap:Array Value)(w:World)
  (h0:w.cell? ⟨b,o,none⟩=some (.int .u32 0)) (h1:w.cell? ⟨b,o+1,none⟩=some (.int .i32 0))
  (f0:w.frozen? ⟨b,o,none⟩=false) (f1:w.frozen? ⟨b,o+1,none⟩=false)
  (hf:Calls Tryz.prog f (first++cap) (w.setCell ⟨b,o+1,none⟩ (.int .i32 1)) fun e w'=>e= .returned (.tuple #[])∧y6A R b o (w.setCell ⟨b,o+1,none⟩ (.int .i32 1)) w')
  (hcall:∀w',(callFunc f (first++cap)).run Tryz.prog w'= .ok (.enter f (first++cap)) w'):
  Calls Tryz.prog 223 #[.pointer (some ⟨b,o,none⟩), .func (.func f) first cap] w fun e w'=>e= .returned (.tuple #[])∧
   ∃w2,R (w.setCell ⟨b,o+1,none⟩ (.int .i32 1)) w2∧w'=(w2.drew.setCell ⟨b,o,none⟩ (.int .u32 1)).setCell ⟨b,o+1,none⟩ (.int .i32 0):=by
 have a0:(w.setCell ⟨b,o+1,none⟩ (.int .i32 1)).cell? ⟨b,o,none⟩=some (.int .u32 0):=(World.cell?_setCell_other _ ⟨b,o+1,none⟩ ⟨b,o,none⟩ _ (by simp)).trans h0;have a1:(w.setCell ⟨b,o+1,none⟩ (.int .i32 1)).cell? ⟨b,o+1,none⟩=some (.int .i32 1):=World.cell?_setCell_same w _ _ h1;have hnot:∀(x:Bool) (w:World),(Op.unary .not (.bool x)).run Tryz.prog w= .ok (.bool (!x)) w:=fun _ _=>rfl;have HF:=z7 hf;clear hf
 go_enter_defers Tryz.func223,Tryz.ntmps223
 go_wp2_with (go_at_call 270;refine (y5L ⟨b,o+1,none⟩ _ h1 f1).mono ?_;rintro e w' ⟨rfl,rfl⟩);go_wp2_with (go_at_call 222;refine (z4a ⟨b,o,none⟩ 0 false _ a0 rfl).mono ?_;rintro e w' ⟨rfl,rfl⟩);refine HF.out.mono ?_;rintro e w2 ⟨rfl,c0,c1,z0,z1,hR⟩;have d0:=c0.trans a0;have d1:=c1.trans a1;clear c0 c1;go_wp2;refine leaves_cons (f:=272) (args:= #[.pointer (some ⟨b,o,none⟩), .bool true]) (by simp) (by simp [go_sem]) ?_;refine (z7p ⟨b,o,none⟩ (.int .u32 0) .returning _ d0 z0).mono ?_;rintro e u' w'' ⟨rfl,rfl,rfl⟩;refine leaves_cons (f:=271) (args:= #[.pointer (some ⟨b,o+1,none⟩)]) (by simp [settle]) (by simp [go_sem]) ?_;refine (z6t ⟨b,o+1,none⟩ _ _ ?_ (by simp [z1])).mono ?_
 ·refine (World.cell?_setCell_other _ ⟨b,o,none⟩ ⟨b,o+1,none⟩ _ (by simp)).trans ?_;rw [World.cell?_drew];exact d1
 rintro e u' w'' ⟨rfl,rfl,rfl⟩;simp [Leaves,settle,results,Tryz.results223];exact ⟨w2,hR,rfl⟩
theorem y4V(R:World→World→Prop)(b o f:Nat)(first cap:Array Value)(w:World)
  (h0:w.cell? ⟨b,o,none⟩=some (.int .u32 0)) (h1:w.cell? ⟨b,o+1,none⟩=some (.int .i32 0))
  (f0:w.frozen? ⟨b,o,none⟩=false) (f1:w.frozen? ⟨b,o+1,none⟩=false)
  (hf:Calls Tryz.prog f (first++cap) (w.setCell ⟨b,o+1,none⟩ (.int .i32 1)) fun e w'=>e= .returned (.tuple #[])∧y6A R b o (w.setCell ⟨b,o+1,none⟩ (.int .i32 1)) w')
  (hcall:∀w',(callFunc f (first++cap)).run Tryz.prog w'= .ok (.enter f (first++cap)) w'):
  Calls Tryz.prog 170 #[.pointer (some ⟨b,o,none⟩), .func (.func f) first cap] w fun e w'=>e= .returned (.tuple #[])∧
   ∃w2,R (w.setCell ⟨b,o+1,none⟩ (.int .i32 1)) w2∧w'=(w2.drew.setCell ⟨b,o,none⟩ (.int .u32 1)).setCell ⟨b,o+1,none⟩ (.int .i32 0):=by
 have HF:=z7 hf;have HC:=z7 hcall;clear hf hcall;have hnot:∀(x:Bool) (w:World),(Op.unary .not (.bool x)).run Tryz.prog w= .ok (.bool (!x)) w:=fun _ _=>rfl;go_enter Tryz.func170,Tryz.ntmps170;go_wp2_with (go_at_call 222;refine (z4a ⟨b,o,none⟩ 0 false _ h0 rfl).mono ?_;rintro e w' ⟨rfl,rfl⟩);refine (y7r R b o f first cap _ h0 h1 f0 f1 HF.out HC.out).mono ?_;rintro e w' ⟨rfl,w2,hR,rfl⟩;go_wp2
 go_end0
 exact ⟨rfl,w2,hR,rfl⟩
def q2e(n:Nat):Value:= .int .u32 n
def y0A:List Value:=List.replicate 256 (.int .u32 0)
def y5w:List Value:=(List.range 256).map fun i=>q2e (z2B 8 i)
def y1i(d st made:Int)(T:List Value):Array Value:=(.int .u32 d:: .int .i32 st:: .int .u32 0:: .int .i64 made::T).toArray
structure z1t (w:World) (tb:Nat) (d st made:Int) (T:List Value):Prop where
 cells:w.heap[tb]? =some (.cells (y1i d st made T) 306 (0,0))
 len:T.length=256
theorem z1t.heads{w:World}{tb:Nat}{d st made:Int}{T:List Value}(h:z1t w tb d st made T):
  w.cell? ⟨tb,0,none⟩=some (.int .u32 d)∧w.cell? ⟨tb,1,none⟩=some (.int .i32 st)∧w.cell? ⟨tb,3,none⟩=some (.int .i64 made)∧(∀o,w.frozen? ⟨tb,o,none⟩=false)∧tb<w.heap.size:=by
 refine ⟨?_,?_,?_,fun o=>by simp [World.frozen?,h.cells],(Array.getElem?_eq_some_iff.1 h.cells).1⟩<;>simp [World.cell?,h.cells,y1i]
theorem z1t.cell{w:World}{tb:Nat}{d st made:Int}{T:List Value}(h:z1t w tb d st made T)(k:Nat):w.cell? ⟨tb,4+k,none⟩=T[k]? :=by
 rw [Nat.add_comm];simp [World.cell?,h.cells,y1i]
theorem z1t.same{w w':World}{tb:Nat}{d st made:Int}{T:List Value}(h:z1t w tb d st made T)(hk:w'.heap[tb]? =w.heap[tb]?):z1t w' tb d st made T:=⟨hk.trans h.cells,h.len⟩
theorem z1t.low{w w':World}{tb:Nat}{d st made:Int}{T:List Value}(h:z1t w tb d st made T)(hb:Below w.heap.size w w'):z1t w' tb d st made T:=h.same (hb.block _ h.heads.2.2.2.2)
theorem z1t.set{w:World}{tb:Nat}{d st made:Int}{T:List Value}(h:z1t w tb d st made T)(k:Nat)(u:Value):z1t (w.setCell ⟨tb,4+k,none⟩ u) tb d st made (T.set k u):=
 ⟨by rw [j9 h.cells,Nat.add_comm];simp [y1i],by simpa using h.len⟩
theorem z1t.set3{w:World}{tb:Nat}{d st made:Int}{T:List Value}(h:z1t w tb d st made T)(m:Int):z1t (w.setCell ⟨tb,3,none⟩ (.int .i64 m)) tb d st m T:=
 ⟨by rw [j9 h.cells];simp [y1i],h.len⟩
theorem z1t.set1{w:World}{tb:Nat}{d st made:Int}{T:List Value}(h:z1t w tb d st made T)(m:Int):z1t (w.setCell ⟨tb,1,none⟩ (.int .i32 m)) tb d m made T:=
 ⟨by rw [j9 h.cells];simp [y1i],h.len⟩
theorem z1t.set0{w:World}{tb:Nat}{d st made:Int}{T:List Value}(h:z1t w tb d st made T)(m:Int):z1t (w.setCell ⟨tb,0,none⟩ (.int .u32 m)) tb m st made T:=
 ⟨by rw [j9 h.cells];simp [y1i],h.len⟩
theorem Chg.set{tb:Nat}(w:World)(o:Nat)(u:Value):Chg [tb] [tb] w (w.setCell ⟨tb,o,none⟩ u):=
 ⟨rfl,rfl,rfl,by simp [World.setCell],fun k _ hk=>q7 (by simpa using hk),fun k hk=> .inl hk⟩
theorem y5K:Tryz.zeroCells306=y1i 0 0 0 y0A:=by kernel_rfl
theorem q1n(w:World):Calls Tryz.prog 106 #[] w fun e w'=>
  e= .returned (.pointer (some ⟨w.heap.size,0,none⟩))∧w'=w.alloc (.cells (y1i 0 0 0 y0A) 306):=by
 rw [←y5K];go_enter Tryz.func106,Tryz.ntmps106;go_wp2;go_ret;exact ⟨rfl,rfl⟩
theorem z1t.made(w:World):z1t (w.alloc (.cells (y1i 0 0 0 y0A) 306)) w.heap.size 0 0 0 y0A:=
 ⟨Array.getElem?_push_size,by rw [y0A,List.length_replicate]⟩
theorem y8q(c:Nat)(h:c<4294967296):bits .xor .u32 ((c:Int)/2) (bits .and .u32 2197175160 (-(bits .and .u32 (c:Int) 1)%4294967296))=((step1 c:Nat):Int):=by
 have h1:bits .and .u32 (c:Int) 1=((c%2:Nat):Int):=by
  have:=u32_and_nat c 1 h (by omega);rw [nat_mask1] at this;exact this
 rw [h1];unfold step1;have hc:=Nat.mod_two_eq_zero_or_one c;rcases hc with hc | hc
 ·rw [hc];have h2:=u32_and_nat 2197175160 0 (by omega) (by omega);have e:(-((0:Nat):Int))%4294967296=((0:Nat):Int):=by omega
  rw [e,show (2197175160:Int)=((2197175160:Nat):Int) from rfl,h2];have h3:=u32_xor_nat (c/2) 0 (by omega) (by omega);simpa using h3
 ·rw [hc];have h2:=u32_and_nat 2197175160 4294967295 (by omega) (by omega);have e:(-((1:Nat):Int))%4294967296=((4294967295:Nat):Int):=by omega
  rw [e,show (2197175160:Int)=((2197175160:Nat):Int) from rfl,h2];have h3:=u32_xor_nat (c/2) 2197175160 (by omega) (by omega);have e2:2197175160&&&4294967295=2197175160:=by decide
  rw [e2];simpa [y3D] using h3
theorem y6f(a:Addr)(x y:Int)(w:World)(hc:w.cell? a=some (.int .i64 x))(hz:w.frozen? a=false)(h0:0≤x)(h1:x≤1000)(h2:0≤y)(h3:y≤1000):
  Calls Tryz.prog 224 #[.pointer (some a), .int .i64 y] w fun e w'=>e= .returned (.int .i64 (x+y))∧w'=w.setCell a (.int .i64 (x+y)):=by
 have hadd:=run_call_add (P:=Tryz.prog) Tryz.func273 (by kernel_rfl) (by kernel_rfl) (by kernel_rfl) .i64 (by kernel_rfl) (y:=y) (s:=x+y) hc hz (by have e:IntKind.i64.wrap (x+y)=x+y:=by {rw [IntKind.wrap_i64];omega};simp [go_sem,Op.intArith,e]);go_enter Tryz.func224,Tryz.ntmps224;go_wp2;go_ret;exact ⟨rfl,rfl⟩
theorem q0k(tb:Nat)(d st made:Int)(T:List Value)(w:World)(h:z1t w tb d st made T)(hm0:0≤made)(hm1:made≤1000):
  Calls Tryz.prog 171 #[.pointer (some ⟨tb,0,none⟩)] w fun e w'=>e= .returned (.tuple #[])∧z1t w' tb d st (made+1) y5w∧Chg [tb] [tb] w w':=by
 have H:=z7 h;clear h;go_enter Tryz.func171,Tryz.ntmps171;go_wp2;go_loopw [4] (fun i wr=>∃(k:Nat),k≤256∧i= .int .i64 k∧Hid (∃T,z1t wr tb d st made T∧(∀j,j<k→T[j]? =some (q2e (z2B 8 j)))∧Chg [tb] [tb] w wr)) (fun i _=>256 - (intOf i).toNat)
 case atStart=>exact ⟨0,Nat.zero_le _,rfl,T,H.out,fun j hj=>absurd hj (Nat.not_lt_zero j),Chg.refl _ _⟩
 case round=>
  obtain ⟨k,hk,rfl,hT⟩:=hrel;by_cases hlt:k<256
  ·have hk0:(0:Int)≤k:=by omega
   have hk1:(k:Int)<256:=by omega
   obtain ⟨wo,rfl⟩:∃wo:World,wo=wr:=⟨_,rfl⟩;go_wp2
   go_loop [3,9] (fun c j=>∃(n m:Nat),m≤8∧n<4294967296∧c= .int .u32 n∧j= .int .i64 m∧Hid (n=z2B m k)) (fun _ j=>8 - (intOf j).toNat)
   case atStart=>exact ⟨k,0,by omega,by omega,rfl,rfl,rfl⟩
   case round=>
    obtain ⟨n,m,hm,hn,rfl,rfl,hnm⟩:=hrel;by_cases hlm:m<8
    ·have hst:=y8q n hn;have hlt2:=y0R (c:=n) hn;obtain ⟨n2,hn2⟩:∃n2,n2=step1 n:=⟨_,rfl⟩;rw [←hn2] at hst hlt2;have HS:=z7 hst;have hnm2:Hid (n2=z2B (m+1) k):=by rw [hn2,hnm.out,z6A];exact rfl
     clear hst hn2;go_wp2;rw [HS.out]
     go_round
     case rel=>exact ⟨n2,m+1,by omega,by omega,rfl,by go_num,hnm2⟩
     case measure=>simp [intOf];omega
    ·obtain rfl:m=8:=by omega
     obtain ⟨T,hT1,hT2,hT3⟩:=hT.out;have z:=hT1.heads.2.2.2.1;have hTk:T[k]? =some (T[k]'(by rw [hT1.len];exact hlt)):=List.getElem?_eq_getElem (by rw [hT1.len];exact hlt);have c1:wo.cell? ⟨tb,4+k,none⟩=some (T[k]'(by rw [hT1.len];exact hlt)):=(hT1.cell k).trans hTk
     generalize T[k]'(by rw [hT1.len];exact hlt)=tk at c1
     have z1:=z (4+k);have hT4:Hid (∃T,z1t (wo.setCell ⟨tb,4+k,none⟩ (.int .u32 n)) tb d st made T∧(∀j,j<k+1→T[j]? =some (q2e (z2B 8 j)))∧Chg [tb] [tb] w (wo.setCell ⟨tb,4+k,none⟩ (.int .u32 n))):=by
      refine ⟨T.set k (.int .u32 n),hT1.set k _,fun j hj=>?_,hT3.trans (Chg.set _ _ _)⟩;rw [List.getElem?_set];by_cases e:k=j
      ·subst e;rw [if_pos rfl,if_pos (by rw [hT1.len];exact hlt),hnm.out];rfl
      ·rw [if_neg e];exact hT2 j (by omega)
     clear hT1 hT2 hT3 hTk z hnm hT;go_wp2
     go_roundw
     case rel=>exact ⟨k+1,by omega,by go_num,hT4⟩
     case measure=>simp [intOf];omega
  ·obtain rfl:k=256:=by omega
   obtain ⟨T,hT1,hT2,hT3⟩:=hT.out;have c3:=hT1.heads.2.2.1;have z3:=hT1.heads.2.2.2.1 3;have hTe:T=y5w:=by
    apply List.ext_getElem?;intro j;by_cases hj:j<256
    ·rw [hT2 j hj];simp [y5w,hj]
    ·rw [List.getElem?_eq_none (by rw [hT1.len];omega),List.getElem?_eq_none (by simp [y5w];omega)]
   subst hTe;have hT4:=z7 (hT1.set3 (made+1));have hT5:=z7 (hT3.trans (Chg.set wr 3 (.int .i64 (made+1))));clear hT1 hT2 hT3 hT;go_wp2_with (go_at_call 224;refine (y6f ⟨tb,3,none⟩ made 1 _ c3 z3 hm0 hm1 (by omega) (by omega)).mono ?_;rintro e w' ⟨rfl,rfl⟩)
   go_end0
   exact ⟨rfl,hT4.out,hT5.out⟩
theorem y8I(n:Nat):((n:Int)%2==1)=decide (n%2=1):=by
 rw [Bool.eq_iff_iff];simp;omega
theorem q0p(c:Nat)(b:UInt8)(w:World)(hc:c<4294967296):
  Calls Tryz.prog 104 #[.int .u32 c, .int .u8 b.toNat] w fun e w'=>e= .returned (.int .u32 (upd c b:Nat))∧w=w':=by
 have hb:=b.toNat_lt;have hx:=u32_xor_nat c b.toNat hc (by omega);have hlt:c^^^b.toNat<4294967296:=Nat.xor_lt_two_pow (n:=32) hc (by omega);obtain ⟨n0,hn0⟩:∃n0,n0=c^^^b.toNat:=⟨_,rfl⟩;rw [←hn0] at hlt hx;have hup:Hid (upd c b=z2B 8 n0):=by rw [hn0];exact rfl
 clear hn0;go_enter Tryz.func104,Tryz.ntmps104;go_wp2
 go_loop [0,5] (fun c j=>∃(n m:Nat),m≤8∧n<4294967296∧c= .int .u32 n∧j= .int .i64 m∧Hid (n=z2B m n0)) (fun _ j=>8 - (intOf j).toNat)
 case atStart=>exact ⟨n0,0,by omega,hlt,rfl,rfl,rfl⟩
 case round=>
  clear hx;obtain ⟨n,m,hm,hn,rfl,rfl,hnm⟩:=hrel;by_cases hlm:m<8
  ·have hlt2:=y0R (c:=n) hn;have hnm2:Hid (step1 n=z2B (m+1) n0):=by rw [hnm.out,z6A];exact rfl
   have ho:=y8I n;by_cases hod:n%2=1
   ·have ho2:((n:Int)%2==1)=true:=by rw [ho];simpa using hod
    have hst:bits .xor .u32 ((n:Int)/2) 2197175160=((step1 n:Nat):Int):=by
     have:=u32_xor_nat (n/2) 2197175160 (by omega) (by omega);unfold step1;rw [if_pos hod];simpa [y3D] using this
    obtain ⟨n2,hn2⟩:∃n2,n2=step1 n:=⟨_,rfl⟩;rw [←hn2] at hst hlt2 hnm2;have HS:=z7 hst;clear hst hn2 ho hod;go_wp2;rw [HS.out]
    go_round
    case rel=>exact ⟨n2,m+1,by omega,by omega,rfl,by go_num,hnm2⟩
    case measure=>simp [intOf];omega
   ·have ho2:((n:Int)%2==1)=false:=by rw [ho];simpa using hod
    have hst:step1 n=n/2:=by unfold step1;rw [if_neg hod,Nat.xor_zero]
    rw [hst] at hlt2 hnm2;clear hst ho hod;go_wp2
    go_round
    case rel=>exact ⟨n/2,m+1,by omega,by omega,by go_num,by go_num,hnm2⟩
    case measure=>simp [intOf];omega
  ·obtain rfl:m=8:=by omega
   go_wp2;go_ret;exact ⟨by rw [hup.out,←hnm.out];rfl,rfl⟩
def Tab(w:World)(tb:Nat)(f:Bool):Prop:=z1t w tb (if f then 1 else 0) 0 (if f then 1 else 0) (if f then y5w else y0A)
theorem Tab.low{w w':World}{tb:Nat}{f:Bool}(h:Tab w tb f)(hb:Below w.heap.size w w'):Tab w' tb f:=z1t.low h hb
theorem y6K(c:Nat)(h:c<4294967296):bits .xor .u32 4294967295 (c:Int)=((4294967295^^^c:Nat):Int):=by
 simpa using u32_xor_nat 4294967295 c (by omega) h
theorem y6F(x:Value)(l:List UInt8)(w:World)(hx:RdB w x l)(hl:l.length≤9223372036854775807):
  Calls Tryz.prog 52 #[x] w fun e w'=>e= .returned (.int .u32 (z2A l:Nat))∧w=w':=by
 obtain ⟨a,c,rfl⟩:=hx.head;have HX:=z7 hx;clear hx;go_enter Tryz.func52,Tryz.ntmps52;go_wp2
 go_loop [3,4] (fun c j=>∃(n m:Nat),m≤l.length∧n<4294967296∧c= .int .u32 n∧j= .int .i64 m∧Hid (n=z3x 4294967295 (l.take m))) (fun _ j=>l.length - (intOf j).toNat)
 case atStart=>exact ⟨4294967295,0,by omega,by omega,rfl,rfl,rfl⟩
 case round=>
  obtain ⟨n,m,hm,hn,rfl,rfl,hnm⟩:=hrel;by_cases hlt:m<l.length
  ·obtain ⟨b,off,c',he,hc,hb⟩:=HX.out.at hlt;simp only [Value.slice.injEq,true_and] at he;obtain ⟨rfl,rfl⟩:=he;have h2:=y6a l[m] (c:=n) hn;have hnm2:Hid (upd n l[m]=z3x 4294967295 (l.take (m+1))):=by
    exact z7 (by rw [hnm.out,List.take_succ_eq_append_getElem hlt,z6H];rfl)
   have i1:(0:Int)≤m:=by omega
   have i2:(m:Int)<l.length:=by omega
   generalize l[m]=y at hc h2 hnm2
   go_wp2_with (go_at_call 104;refine (q0p n y _ hn).mono ?_;rintro e w' ⟨rfl,rfl⟩)
   go_round
   case rel=>exact ⟨_,m+1,by omega,h2,rfl,by go_num,hnm2⟩
   case measure=>simp [intOf];omega
  ·obtain rfl:m=l.length:=by omega
   have hx:=y6K n hn;have HZ:=z7 hx;clear hx;go_wp2;go_ret;rw [List.take_length] at hnm;exact ⟨by unfold z2A;rw [←hnm.out,←HZ.out];rfl,rfl⟩
theorem y9f(c:Nat)(b:UInt8)(h:c<4294967296):
  bits .xor .u8 ((c:Int)%256) (b.toNat:Int)=((c%256^^^b.toNat:Nat):Int)∧c%256^^^b.toNat<256∧bits .xor .u32 ((c:Int)/256) ((z2B 8 (c%256^^^b.toNat):Nat):Int)=((upd c b:Nat):Int):=by
 have hb:=b.toNat_lt;have h1:=u8_xor_nat (c%256) b.toNat (by omega) (by omega);have h2:c%256^^^b.toNat<2^8:=Nat.xor_lt_two_pow (by omega) (by omega);have h3:=y0u 8 (c:=c%256^^^b.toNat) (by omega);have h4:=u32_xor_nat (c/256) (z2B 8 (c%256^^^b.toNat)) (by omega) (by omega);refine ⟨by simpa using h1,by omega,?_⟩;rw [←y7K];simpa using h4
theorem y8e(tb:Nat)(w:World):(callFunc 171 (#[.pointer (some ⟨tb,0,none⟩)]++ #[])).run Tryz.prog w= .ok (.enter 171 (#[.pointer (some ⟨tb,0,none⟩)]++ #[])) w:=by
 kernel_rfl
theorem y7L(tb:Nat)(w:World)(hT:Tab w tb false):
  Calls Tryz.prog 170 #[.pointer (some ⟨tb,0,none⟩), .func (.func 171) #[.pointer (some ⟨tb,0,none⟩)] #[]] w fun e w'=>e= .returned (.tuple #[])∧Tab w' tb true∧Chg [tb] [tb] w w':=by
 have hT1:=z1t.set1 hT 1;obtain ⟨h0,h1,_,hz,_⟩:=z1t.heads hT;refine (y4V (fun w1 w2=>z1t w2 tb 0 1 1 y5w∧Chg [tb] [tb] w1 w2) tb 0 _ _ _ w h0 h1 (hz 0) (hz 1) ?_ (y8e tb)).mono ?_
 ·refine (q0k tb 0 1 0 y0A _ hT1 (by omega) (by omega)).mono ?_;rintro e w' ⟨rfl,h2,h3⟩;obtain ⟨a0,a1,_,az,_⟩:=hT1.heads;obtain ⟨b0,b1,_,bz,_⟩:=h2.heads;exact ⟨rfl,b0.trans a0.symm,b1.trans a1.symm,bz 0,bz 1,h2,h3⟩
 ·rintro e w' ⟨rfl,w2,⟨h2,h3⟩,rfl⟩;refine ⟨rfl,z1t.set1 (z1t.set0 (w:=w2.drew) (h2.same rfl) 1) 0,?_⟩;have h4:Chg [tb] [tb] w2 w2.drew:=⟨rfl,rfl,rfl,Nat.le_refl _,fun _ _ _=>rfl,fun _ h=> .inl h⟩;exact ((((Chg.set w 1 _).trans h3).trans h4).trans (Chg.set _ 0 _)).trans (Chg.set _ 1 _)
theorem y9P(tb:Nat)(f:Bool)(w:World)(hT:Tab w tb f):
  Calls Tryz.prog 170 #[.pointer (some ⟨tb,0,none⟩), .func (.func 171) #[.pointer (some ⟨tb,0,none⟩)] #[]] w fun e w'=>e= .returned (.tuple #[])∧Tab w' tb true∧Chg [tb] [tb] w w':=by
 cases f with
 | false=>exact y7L tb w hT
 | true=>
  refine (y7J ⟨tb,0,none⟩ _ w (z1t.heads hT).1).mono ?_;rintro e w' ⟨rfl,rfl⟩;exact ⟨rfl,hT,Chg.refl _ _⟩
theorem q2g(tb:Nat)(f:Bool)(x:Value)(ls:List (List UInt8))(w0:World)(hT:Tab w0 tb f)(hx:∀w',Chg [tb] [tb] w0 w'→z9B w' x ls)(hl:ls.length≤9223372036854775807)(hls:∀l∈ls,l.length≤9223372036854775807):
  Calls Tryz.prog 107 #[.pointer (some ⟨tb,0,none⟩),x] w0 fun e w'=>e= .returned (.int .u32 (z2A ls.flatten:Nat))∧Tab w' tb true∧Chg [tb] [tb] w0 w':=by
 obtain ⟨a,c,rfl⟩:=(hx w0 (Chg.refl _ _)).head;have HX:=z7 hx;have HT:=z7 hT;have HL:=z7 hls;clear hx hT hls;go_enter Tryz.func107,Tryz.ntmps107;go_wp2_with (go_at_call 170;refine (y9P tb f _ HT.out).mono ?_;rintro e w ⟨rfl,hT1,hc1⟩;replace HX:=z7 (HX.out w hc1);replace HT:=z7 hT1;have HC:=z7 hc1;clear hT1 hc1)
 go_loop [5,18] (fun c j=>∃(n m:Nat),m≤ls.length∧n<4294967296∧c= .int .u32 n∧j= .int .i64 m∧Hid (n=z3x 4294967295 (ls.take m).flatten)) (fun _ j=>ls.length - (intOf j).toNat)
 case atStart=>exact ⟨4294967295,0,by omega,by omega,rfl,rfl,rfl⟩
 case round=>
  obtain ⟨n,m,hm,hn,rfl,rfl,hnm⟩:=hrel;by_cases hlt:m<ls.length
  ·obtain ⟨b,off,c',v,he,hc,hv,hb⟩:=HX.out.at hlt;simp only [Value.slice.injEq,true_and] at he;obtain ⟨rfl,rfl⟩:=he;have hlm:=HL.out _ (List.getElem_mem hlt);obtain ⟨l,hle⟩:∃l,l=ls[m]:=⟨_,rfl⟩;have hfl:Hid ((ls.take (m+1)).flatten=(ls.take m).flatten++l):=by
    exact z7 (by rw [List.take_succ_eq_append_getElem hlt,hle,List.flatten_append];simp)
   rw [←hle] at hv hlm;clear hle;obtain ⟨a2,c2,rfl⟩:=hv.head;have HV:=z7 hv;have i1:(0:Int)≤m:=by omega
   have i2:(m:Int)<ls.length:=by omega
   clear hv;go_wp2
   go_loop [5,24] (fun c j=>∃(n k:Nat),k≤l.length∧n<4294967296∧c= .int .u32 n∧j= .int .i64 k∧Hid (n=z3x 4294967295 ((ls.take m).flatten++l.take k))) (fun _ j=>l.length - (intOf j).toNat)
   case atStart=>exact ⟨n,0,by omega,hn,rfl,rfl,z7 (by rw [hnm.out];simp)⟩
   case round=>
    obtain ⟨n,k,hk,hn,rfl,rfl,hnk⟩:=hrel;by_cases hlk:k<l.length
    ·obtain ⟨b3,off3,c3,he3,hc3,hb3⟩:=HV.out.at hlk;simp only [Value.slice.injEq,true_and] at he3;obtain ⟨rfl,rfl⟩:=he3;obtain ⟨u1,u2,u3⟩:=y9f n l[k] hn;have h2:=y6a l[k] (c:=n) hn;have hnk2:Hid (upd n l[k]=z3x 4294967295 ((ls.take m).flatten++l.take (k+1))):=by
      exact z7 (by rw [hnk.out,List.take_succ_eq_append_getElem hlk,←List.append_assoc,z6H (b:= [_])];rfl)
     have ht:w.cell? ⟨tb,4+(n%256^^^l[k].toNat),none⟩=some (.int .u32 (z2B 8 (n%256^^^l[k].toNat):Nat)):=by
      have:=(z1t.cell HT.out (n%256^^^l[k].toNat)).trans (c:=some (q2e (z2B 8 (n%256^^^l[k].toNat)))) (by simp [y5w,u2]);exact this
     have k1:(0:Int)≤k:=by omega
     have k2:(k:Int)<l.length:=by omega
     obtain ⟨y,hy⟩:∃y,y=l[k]:=⟨_,rfl⟩;rw [←hy] at hc3 u1 u2 u3 h2 hnk2 ht;obtain ⟨q,hq⟩:∃q,q=n%256^^^y.toNat:=⟨_,rfl⟩;rw [←hq] at u1 u2 u3 ht;have q2:(q:Int)<256:=by omega
     clear hy hq;have U3:=z7 u3;clear u3;go_wp2;rw [U3.out]
     go_round
     case rel=>exact ⟨_,k+1,by omega,h2,rfl,by go_num,hnk2⟩
     case measure=>simp [intOf];omega
    ·obtain rfl:k=l.length:=by omega
     have hn2:Hid (n=z3x 4294967295 (ls.take (m+1)).flatten):=z7 (by rw [hfl.out,hnk.out,List.take_length]);go_wp2
     go_round
     case rel=>exact ⟨n,m+1,by omega,hn,rfl,by go_num,hn2⟩
     case measure=>simp [intOf];omega
  ·obtain rfl:m=ls.length:=by omega
   have hx:=y6K n hn;have HZ:=z7 hx;clear hx;rw [List.take_length] at hnm;go_wp2;go_ret;exact ⟨by unfold z2A;rw [←hnm.out,←HZ.out];rfl,HT.out,HC.out⟩
end Go.Proofs.YtfcnapnopdomhaaGreatDoor

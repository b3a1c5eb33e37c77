/-
  A file system in memory.
-/
import Derived.Test.YtfcnapnopdomhaaGreatDoorZRcARcBFsMRcC
import Derived.BigQuiet
namespace Go.Proofs.YtfcnapnopdomhaaGreatDoor
set_option linter.unusedSimpArgs false
set_option linter.unusedVariables false
set_option maxRecDepth 100000
set_option maxHeartbeats 12800000
open Go.RowKit Go.Maps
structure Ent where
 b:Bs
 a:Option Addr
 n:Nat
 c:Nat
def Ent.v(e:Ent):Value:= .slice e.a e.n e.c
def ct(p:Bs×Ent):Bs×Bs:=(p.1,p.2.b)
def z1u(L:List (Bs×Ent)):List Value:=L.flatMap fun p=> [encStr p.1,p.2.v]
theorem y2r(L R:List (Bs×Ent)):z1u (L++R)=z1u L++z1u R:=by simp [z1u]
theorem y2i{L:List (Bs×Ent)}{i:Nat}(h:i<L.length):(z1u L)[2*i]? =some (encStr L[i].1)∧(z1u L)[2*i+1]? =some L[i].2.v:=by
 induction L generalizing i with
 | nil=>simp at h
 | cons p L ih=>
  have e:z1u (p::L)=encStr p.1::p.2.v::z1u L:=by simp [z1u]
  rw [e];cases i with
  | zero=>simp
  | succ i=>
   have:=ih (i:=i) (by simpa using h);rw [show 2*(i+1)=2*i+1+1 by omega];simpa using this
abbrev y6N (w:World) (mb:Nat) (E:List (Bs×Ent)):Prop:=z3u w Tryz.prog 9 z2N q1R Ent.v mb E
theorem z3P:z5j Tryz.prog 9 encStr z2N (fun l:Bs=>l.length≤maxLen):=y7V Tryz.underlying9
def z8Q(w:World):Option Nat→Option Int→Prop
 | none,none=>True
 | some b,some n=>w.heap[b]? =some (.cells #[.int .i64 n] 3 (0,0))
 | _,_=>False
theorem z8Q.cases{w:World}{lp:Option Nat}{l:Option Int}(h:z8Q w lp l):(lp=none∧l=none)∨∃b n,lp=some b∧l=some n∧w.heap[b]? =some (.cells #[.int .i64 n] 3 (0,0)):=by
 cases lp<;>cases l
 ·exact .inl ⟨rfl,rfl⟩
 ·exact h.elim
 ·exact h.elim
 ·exact .inr ⟨_,_,rfl,rfl,h⟩
theorem z8Q.same{w w':World}{lp:Option Nat}{l:Option Int}(h:z8Q w lp l)(hk:∀b,lp=some b→w'.heap[b]? =w.heap[b]?):z8Q w' lp l:=by
 rcases h.cases with ⟨rfl,rfl⟩ | ⟨b,n,rfl,rfl,h1⟩
 ·trivial
 ·exact (hk b rfl).trans h1
def z1l(sb mb:Nat)(wv:Value)(lp:Option Nat):List Nat:=sb::mb::(wv.ownBlock.toList++lp.toList)
def z8F(M:List Nat)(X:List (Bs×Ent)):List Nat:=M++X.flatMap fun p=>p.2.v.ownBlock.toList
theorem z1X{M:List Nat}{X:List (Bs×Ent)}{k:Nat}:k∈z8F M X↔k∈M∨∃p∈X,p.2.v.ownBlock=some k:=by
 unfold z8F;rw [List.mem_append,List.mem_flatMap];simp [Option.mem_toList]
structure z4u (w:World) (M:List Nat) (e:Ent):Prop where
 rd:RdB w e.v e.b
 n:e.n=e.b.length
 le:e.n≤e.c
 cap:e.c≤9223372036854775807
 far:∀k,e.v.ownBlock=some k→k∉M∧k<w.heap.size
theorem z4u.same{w w':World}{M:List Nat}{e:Ent}(h:z4u w M e)(hk:∀k,e.v.ownBlock=some k→w'.heap[k]? =w.heap[k]?)(hs:w.heap.size≤w'.heap.size):z4u w' M e:=
 ⟨h.rd.keep hk,h.n,h.le,h.cap,fun k hk=>⟨(h.far k hk).1,Nat.lt_of_lt_of_le (h.far k hk).2 hs⟩⟩
structure z2D (w:World) (sb:Nat) (s:FsS) (mb:Nat) (wv:Value) (lp:Option Nat) (E L:List (Bs×Ent)):Prop where
 blk:w.heap[sb]? =some (.cells #[.int .i64 s.room, .map (some mb),wv, .pointer (lp.map fun b=>⟨b,0,none⟩), .bool s.halted] 119 (0,0))
 map:y6N w mb E
 row:w.ownsRow 0 85 2 wv L.length (z1u L)
 left:z8Q w lp s.left
 files:s.files=E.map ct
 waits:s.waits=L.map ct
 ent:∀p∈E++L,z4u w (z1l sb mb wv lp) p.2
 nd:(z1l sb mb wv lp).Nodup
def z1p(w:World)(sb:Nat)(s:FsS)(F:List Nat):Prop:=∃mb wv lp E L,z2D w sb s mb wv lp E L∧F=z8F (z1l sb mb wv lp) (E++L)
theorem z2D.mut_lt{w:World}{sb mb:Nat}{s:FsS}{wv:Value}{lp:Option Nat}{E L:List (Bs×Ent)}(h:z2D w sb s mb wv lp E L):∀k∈z1l sb mb wv lp,k<w.heap.size:=by
 intro k hk;unfold z1l at hk;simp only [List.mem_cons,List.mem_append,Option.mem_toList] at hk;rcases hk with rfl | rfl | hk | hk
 ·exact (Array.getElem?_eq_some_iff.1 h.blk).1
 ·exact h.map.lt
 ·exact (h.row.lt k hk).2
 ·rcases h.left.cases with ⟨rfl,_⟩ | ⟨b,n,rfl,_,h1⟩
  ·cases hk
  ·simp only [Option.some.injEq] at hk;subst hk;exact (Array.getElem?_eq_some_iff.1 h1).1
theorem z2D.fp_lt{w:World}{sb mb:Nat}{s:FsS}{wv:Value}{lp:Option Nat}{E L:List (Bs×Ent)}(h:z2D w sb s mb wv lp E L):∀k∈z8F (z1l sb mb wv lp) (E++L),k<w.heap.size:=by
 intro k hk;rcases z1X.1 hk with hk | ⟨p,hp,hk⟩
 ·exact h.mut_lt k hk
 ·exact ((h.ent p hp).far k hk).2
theorem z1p.lt{w:World}{sb:Nat}{s:FsS}{F:List Nat}(h:z1p w sb s F):∀k∈F,k<w.heap.size:=by
 obtain ⟨mb,wv,lp,E,L,h,rfl⟩:=h;exact h.fp_lt
theorem z2D.same{w w':World}{sb mb:Nat}{s:FsS}{wv:Value}{lp:Option Nat}{E L:List (Bs×Ent)}(h:z2D w sb s mb wv lp E L)(hk:∀k∈z8F (z1l sb mb wv lp) (E++L),w'.heap[k]? =w.heap[k]?)(hs:w.heap.size≤w'.heap.size):z2D w' sb s mb wv lp E L:=by
 have hm:∀k∈z1l sb mb wv lp,w'.heap[k]? =w.heap[k]? :=fun k h=>hk k (z1X.2 (.inl h));refine ⟨(hm sb (by simp [z1l])).trans h.blk,h.map.same (hm mb (by simp [z1l])),j7 h.row fun b hb=>hm b (by simp [z1l,hb]),h.left.same fun b hb=>hm b (by simp [z1l,hb]),h.files,h.waits,fun p hp=>(h.ent p hp).same (fun k hk'=>hk k (z1X.2 (.inr ⟨p,hp,hk'⟩))) hs,h.nd⟩
theorem z1p.same{w w':World}{sb:Nat}{s:FsS}{F:List Nat}(h:z1p w sb s F)(hk:∀k∈F,w'.heap[k]? =w.heap[k]?)(hs:w.heap.size≤w'.heap.size):z1p w' sb s F:=by
 obtain ⟨mb,wv,lp,E,L,h,rfl⟩:=h;exact ⟨mb,wv,lp,E,L,h.same hk hs,rfl⟩
theorem z1p.low{w w':World}{sb:Nat}{s:FsS}{F:List Nat}(h:z1p w sb s F)(hb:Below w.heap.size w w'):z1p w' sb s F:=h.same (fun k hk=>hb.block k (h.lt k hk)) hb.size
theorem z1p.chg{w w':World}{sb:Nat}{s:FsS}{F G G':List Nat}(h:z1p w sb s F)(hc:Chg G G' w w')(hd:∀k∈F,k∉G):z1p w' sb s F:=h.same (fun k hk=>hc.block k (h.lt k hk) (hd k hk)) hc.size
def z2v(w:World)(sb:Nat)(F:List Nat)(s:FsS)(w':World):Prop:=∃F',z1p w' sb s F'∧Chg F F' w w'
theorem z2y{w:World}{sb:Nat}{v0 v1 v2 v3 v4:Value}{t:TypeId}(h:w.heap[sb]? =some (.cells #[v0,v1,v2,v3,v4] t (0,0))):
  w.cell? ⟨sb,0,none⟩=some v0∧w.cell? ⟨sb,1,none⟩=some v1∧w.cell? ⟨sb,2,none⟩=some v2∧w.cell? ⟨sb,3,none⟩=some v3∧w.cell? ⟨sb,4,none⟩=some v4∧∀i,w.frozen? ⟨sb,i,none⟩=false:=by
 simp [World.cell?,World.frozen?,h]
theorem z2D.to{w w':World}{sb mb mb':Nat}{s s':FsS}{wv wv':Value}{lp lp':Option Nat}{E L E' L':List (Bs×Ent)}(h:z2D w sb s mb wv lp E L)(h':z2D w' sb s' mb' wv' lp' E' L')
  (hos:w'.os=w.os) (hta:w'.tape=w.tape) (hou:w'.output=w.output) (hsz:w.heap.size≤w'.heap.size) (hb:∀k,k<w.heap.size→k∉z1l sb mb wv lp→w'.heap[k]? =w.heap[k]?)
  (hm:∀k∈z1l sb mb' wv' lp',k∈z1l sb mb wv lp∨w.heap.size≤k) (he:∀p∈E'++L',∀k,p.2.v.ownBlock=some k→(∃q∈E++L,q.2.v.ownBlock=some k)∨w.heap.size≤k):z2v w sb (z8F (z1l sb mb wv lp) (E++L)) s' w':=by
 refine ⟨_,⟨mb',wv',lp',E',L',h',rfl⟩,hos,hta,hou,hsz,fun k hk hn=>hb k hk fun hm=>hn (z1X.2 (.inl hm)),fun k hk=>?_⟩;rcases z1X.1 hk with hk | ⟨p,hp,hk⟩
 ·exact (hm k hk).imp (fun h=>z1X.2 (.inl h)) id
 ·exact (he p hp k hk).imp (fun h=>z1X.2 (.inr h)) id
theorem y9O(room:Int)(h0:0≤room)(h1:room≤1048576)(w:World):Calls Tryz.prog 11 #[.int .i64 room] w fun e w'=>∃sb F,e= .returned (.pointer (some ⟨sb,0,none⟩))∧z1p w' sb (z6q room) F∧(∀k∈F,w.heap.size≤k)∧Below w.heap.size w w':=by
 have i0:¬(room<0):=by omega
 have i1:¬(1048576<room):=by omega
 have hmm:= @run_makeMap Tryz.prog;go_enter Tryz.func11,Tryz.ntmps11;go_wp2;go_ret;have hb1:Below w.heap.size w (w.alloc (.map #[] 0)):=q5 w _;have hb2:=hb1.trans ((q5 (w.alloc (.map #[] 0)) (.cells #[.int .i64 room, .map (some w.heap.size), .slice none 0 0, .pointer none, .bool false] 119)).mono (by simp));refine ⟨w.heap.size+1,rfl,_,⟨w.heap.size, .slice none 0 0,none, [], [],⟨?_,?_,World.ownsRow_nil _ _ _ _,trivial,rfl,rfl,(fun p hp=>by cases hp),?_⟩,rfl⟩,?_,hb2⟩
 ·have:=j8 (w.alloc (.map #[] 0)) (.cells #[.int .i64 room, .map (some w.heap.size), .slice none 0 0, .pointer none, .bool false] 119);simpa [z6q] using this
 ·exact (y1p w).low (q5 _ _)
 ·simp [z1l,Value.ownBlock]
 ·intro k hk;rcases z1X.1 hk with hk | ⟨p,hp,_⟩
  ·simp [z1l,Value.ownBlock] at hk;omega
  ·cases hp
theorem z7J(w:World):(zeroValue 46).run Tryz.prog w= .ok (.slice none 0 0) w:=by kernel_rfl
theorem z6N(k:Bs)(hk:k.length≤maxLen)(w:World):Calls Tryz.prog 69 #[.string ⟨k.toArray⟩] w fun e w'=>e= .returned (.bool (named k))∧w=w':=by
 by_cases h0:k.length=0
 ·have:k= []:=List.eq_nil_of_length_eq_zero h0;subst this;go_enter Tryz.func69,Tryz.ntmps69;go_wp2;go_ret;exact ⟨rfl,rfl⟩
 ·have i0:0<k.length:=by omega
  have i1:(0:Int)<k.length:=by omega
  by_cases h1:k.length≤16
  ·have i2:(k.length:Int)≤16:=by omega
   have hn:named k=true:=by simp [named];omega
   rw [hn];go_enter Tryz.func69,Tryz.ntmps69;go_wp2;go_ret;simp
  ·have i2:¬(k.length:Int)≤16:=by omega
   have hn:named k=false:=by simp [named];omega
   rw [hn];go_enter Tryz.func69,Tryz.ntmps69;go_wp2;go_ret;simp
theorem z2q(sb:Nat)(s:FsS)(F:List Nat)(k:Bs)(hk:k.length≤maxLen)(w:World)(h:z1p w sb s F):
  Calls Tryz.prog 156 #[.pointer (some ⟨sb,0,none⟩), .string ⟨k.toArray⟩] w fun e w'=>e= .returned (.bool (s.has k))∧w=w':=by
 obtain ⟨mb,wv,lp,E,L,h,rfl⟩:=h;obtain ⟨c0,c1,c2,c3,c4,fz⟩:=z2y h.blk;have hm:=z7 h.map;have hh:Hid (s.has k=(z0H k E).isSome):=z7 (by
  unfold FsS.has;rw [h.files,show E.map ct=E.map (fun p=>(p.1,Ent.b p.2)) from rfl,y6P,Option.isSome_map])
 rw [hh.out];clear h c0 c2 c3 c4 fz hh;cases hg:z0H k E with
 | none=>
  have HG:=z7 hg;clear hg;go_enter Tryz.func156,Tryz.ntmps156;go_wp2_with (at_lookup;refine z6p z3P rfl _ _ 116 rfl 46 Tryz.underlying116 (z7J _) rfl rfl hm.out k rfl hk none HG.out (.slice none 0 0) rfl false rfl ?_);go_ret;exact ⟨rfl,rfl⟩
 | some e=>
  have HG:=z7 hg;clear hg;go_enter Tryz.func156,Tryz.ntmps156;go_wp2_with (at_lookup;refine z6p z3P rfl _ _ 116 rfl 46 Tryz.underlying116 (z7J _) rfl rfl hm.out k rfl hk (some e) HG.out (.slice e.a e.n e.c) rfl true rfl ?_);go_ret;exact ⟨rfl,rfl⟩
theorem z2D.ne{w:World}{sb mb:Nat}{s:FsS}{wv:Value}{lp:Option Nat}{E L:List (Bs×Ent)}(h:z2D w sb s mb wv lp E L):
  mb≠sb∧(∀k,wv.ownBlock=some k→k≠sb∧k≠mb)∧(∀k,lp=some k→k≠sb∧k≠mb∧wv.ownBlock≠some k):=by
 have h1:=h.nd;unfold z1l at h1;simp only [List.nodup_cons,List.mem_cons,List.mem_append,Option.mem_toList,not_or,List.nodup_append] at h1;obtain ⟨⟨a1,a2,a3⟩,⟨a4,a5⟩,a6,a7,a8⟩:=h1;refine ⟨Ne.symm a1,fun k hk=>⟨fun e=>a2 (by rw [←e];exact hk),fun e=>a4 (by rw [←e];exact hk)⟩,fun k hk=>⟨fun e=>a3 (by rw [←e];exact hk),fun e=>a5 (by rw [←e];exact hk),fun e=>?_⟩⟩;exact a8 k (by simp [e]) k (by simp [hk]) rfl
theorem z2D.self{w w':World}{sb mb:Nat}{s s':FsS}{wv:Value}{lp:Option Nat}{E L:List (Bs×Ent)}(h:z2D w sb s mb wv lp E L)
  (hblk:w'.heap[sb]? =some (.cells #[.int .i64 s'.room, .map (some mb),wv, .pointer (lp.map fun b=>⟨b,0,none⟩), .bool s'.halted] 119 (0,0))) (hf:s'.files=s.files) (hw:s'.waits=s.waits) (hl:s'.left=s.left)
  (ho:∀k,k≠sb→w'.heap[k]? =w.heap[k]?) (hs:w.heap.size≤w'.heap.size):z2D w' sb s' mb wv lp E L:=by
 obtain ⟨n1,n2,n3⟩:=h.ne;refine ⟨hblk,h.map.same (ho mb n1),j7 h.row fun b hb=>ho b (n2 b hb).1,hl▸h.left.same fun b hb=>ho b (n3 b hb).1,hf.trans h.files,hw.trans h.waits,fun p hp=>(h.ent p hp).same (fun k hk=>ho k fun e=>?_) hs,h.nd⟩;have:=((h.ent p hp).far k hk).1;exact this (by simp [z1l,e])
theorem z2D.leftTo{w w':World}{sb mb lb:Nat}{s s':FsS}{wv:Value}{E L:List (Bs×Ent)}{n':Int}(h:z2D w sb s mb wv (some lb) E L)
  (hblk:w'.heap[lb]? =some (.cells #[.int .i64 n'] 3 (0,0))) (hr:s'.room=s.room) (hh:s'.halted=s.halted) (hf:s'.files=s.files) (hw:s'.waits=s.waits) (hl:s'.left=some n')
  (ho:∀k,k≠lb→w'.heap[k]? =w.heap[k]?) (hs:w.heap.size≤w'.heap.size):z2D w' sb s' mb wv (some lb) E L:=by
 obtain ⟨n1,n2,n3⟩:=h.ne;obtain ⟨n4,n5,n6⟩:=n3 lb rfl;refine ⟨?_,h.map.same (ho mb (Ne.symm n5)),j7 h.row fun b hb=>ho b fun e=>n6 (by rw [←e];exact hb),?_,hf.trans h.files,hw.trans h.waits,fun p hp=>(h.ent p hp).same (fun k hk=>ho k fun e=>?_) hs,h.nd⟩
 ·rw [ho sb (Ne.symm n4),hr,hh];exact h.blk
 ·rw [hl];exact hblk
 ·have:=((h.ent p hp).far k hk).1;exact this (by simp [z1l,e])
theorem z2v.refl{w:World}{sb:Nat}{s:FsS}{F:List Nat}(h:z1p w sb s F):z2v w sb F s w:=⟨F,h,Chg.refl F w⟩
theorem z4h(sb:Nat)(s:FsS)(F:List Nat)(w:World)(h:z1p w sb s F)(hl:∀n,s.left=some n→0≤n∧n≤9223372036854775807):
  Calls Tryz.prog 157 #[.pointer (some ⟨sb,0,none⟩)] w fun e w'=>e= .returned (.bool s.go)∧z2v w sb F s.went w':=by
 have hrep:=z7 h;obtain ⟨mb,wv,lp,E,L,h,rfl⟩:=h;obtain ⟨c0,c1,c2,c3,c4,fz⟩:=z2y h.blk;have f4:=fz 4;have hsb:=(Array.getElem?_eq_some_iff.1 h.blk).1;have H:=z7 h;rcases h.left.cases with ⟨rfl,h2⟩ | ⟨lb,n,rfl,h2,h3⟩
 ·have e1:s.go=true:=by simp [FsS.go,h2]
  have e2:s.went=s:=by simp [FsS.went,h2]
  rw [e1,e2];clear h c0 c1 c2 c4 fz h2 e1 e2;go_enter Tryz.func157,Tryz.ntmps157;go_wp2;go_ret;exact ⟨rfl,z2v.refl hrep.out⟩
 ·have hn:=hl n h2;obtain ⟨d0,g0,hlb⟩:=z0t h3;by_cases hz:n=0
  ·subst hz;have e1:s.go=false:=by simp [FsS.go,h2]
   have e2:s.went={s with halted:=true}:=by simp [FsS.went,h2]
   rw [e1,e2];have H2:=z7 h2;clear h c0 c1 c2 fz h2 h3 e1 e2;go_enter Tryz.func157,Tryz.ntmps157;go_wp2;go_ret;refine ⟨rfl,H.out.to (H.out.self (s':={s with halted:=true}) ?_ rfl rfl rfl (fun k hk=>q7 hk) (by simp [World.setCell])) rfl rfl rfl (by simp [World.setCell]) (fun k hk hm=>q7 fun e=>hm (by simp [z1l,e])) (fun k hk=> .inl hk) (fun p hp k hk=> .inl ⟨p,hp,hk⟩)⟩;have:=j9 H.out.blk 4 (.bool true);simpa using this
  ·have e1:s.go=true:=by simp [FsS.go,h2,hz]
   have e2:s.went={s with left:=some (n - 1)}:=by simp [FsS.went,h2,hz]
   rw [e1,e2];have H2:=z7 h2;have i0:(n==0)=false:=by simpa using hz
   have i1:IntKind.i64.wrap (n - 1)=n - 1:=by
    unfold IntKind.wrap;simp [IntKind.bits,IntKind.signed];omega
   have H3:=z7 h3;clear h c0 c1 c2 c4 fz h2 h3 e1 e2;go_enter Tryz.func157,Tryz.ntmps157;go_wp2;go_ret;refine ⟨rfl,H.out.to (H.out.leftTo (s':={s with left:=some (n - 1)}) (n':=n - 1) ?_ rfl rfl rfl rfl rfl (fun k hk=>q7 hk) (by simp [World.setCell])) rfl rfl rfl (by simp [World.setCell]) (fun k hk hm=>q7 fun e=>hm (by simp [z1l,e])) (fun k hk=> .inl hk) (fun p hp k hk=> .inl ⟨p,hp,hk⟩)⟩;have:=j9 H3.out 0 (.int .i64 (n - 1));simpa using this
def z3A(X:List (Bs×Ent)):Nat:=(X.map fun p=>p.2.b.length).sum
theorem y6D(X:List (Bs×Ent)):z3A X=total (X.map ct):=by
 unfold z3A total;rw [List.map_map];rfl
theorem y8l{X Y:List (Bs×Ent)}(h:X.Perm Y):z3A X=z3A Y:=by
 unfold z3A;exact (h.map _).sum_nat
theorem y4y(X Y:List (Bs×Ent)):z3A (X++Y)=z3A X+z3A Y:=by simp [z3A]
theorem y7O(p:Bs×Ent)(X:List (Bs×Ent)):z3A (p::X)=p.2.b.length+z3A X:=by simp [z3A]
theorem q0J:∀v,q1R v=true→∃c:Option Addr×Nat×Nat,v= .slice c.1 c.2.1 c.2.2:=fun v h=>by
 cases v<;>simp [q1R] at h;exact ⟨(_,_,_),rfl⟩
theorem wrap64{n:Int}(h0: -9223372036854775808≤n)(h1:n≤9223372036854775807):IntKind.i64.wrap n=n:=by
 unfold IntKind.wrap;simp [IntKind.bits,IntKind.signed];omega
theorem z2D.low{w w':World}{sb mb:Nat}{s:FsS}{wv:Value}{lp:Option Nat}{E L:List (Bs×Ent)}(h:z2D w sb s mb wv lp E L)(hb:Below w.heap.size w w'):z2D w' sb s mb wv lp E L:=
 h.same (fun k hk=>hb.block k (h.fp_lt k hk)) hb.size
theorem z2D.at{w:World}{sb mb:Nat}{s:FsS}{a:Option Addr}{n c:Nat}{lp:Option Nat}{E L:List (Bs×Ent)}(h:z2D w sb s mb (.slice a n c) lp E L){i:Nat}(hi:i<L.length):
  ∃g pk pb pa pn pc,a=some ⟨g,0,none⟩∧L[i]=(pk,⟨pb,pa,pn,pc⟩)∧w.cell? ⟨g,i*2,none⟩=some (.string ⟨pk.toArray⟩)∧w.cell? ⟨g,i*2+1,none⟩=some (.slice pa pn pc)∧g<w.heap.size∧∀j,w.frozen? ⟨g,j,none⟩=false:=by
 have hr:=h.row;rcases hr.2 with ⟨h1,h2⟩ | ⟨g,cap,cur,h1,h2,h3,h4⟩
 ·have:L.length=0:=h2;omega
 ·simp only [Value.slice.injEq] at h1;obtain ⟨rfl,rfl,rfl⟩:=h1;obtain ⟨g1,g2⟩:=y2i hi;have hc:=hr.cells (g:=g) rfl;have a1:=hc (2*i) _ g1;have a2:=hc (2*i+1) _ g2;have e:∀j,(⟨g,0,none⟩:Addr).add j=⟨g,j,none⟩:=fun j=>by unfold Addr.add;split<;>simp_all
  rw [e,Nat.mul_comm] at a1;rw [e,Nat.mul_comm] at a2;refine ⟨g,L[i].1,L[i].2.b,L[i].2.a,L[i].2.n,L[i].2.c,rfl,rfl,a1,a2,(Array.getElem?_eq_some_iff.1 h3).1,fun j=>?_⟩;simp [World.frozen?,h3]
theorem FsS.Ok.used_le{s:FsS}(h:s.Ok):s.used≤1048576:=by have:=h.used;have:=h.room1;omega
theorem z4C:∀L:List (Bs×Bs),(∀p∈L,p.2≠ [])→L.length≤total L
 | [],_=>by simp
 | p::L,h=>by
  have:=z4C L fun q hq=>h q (by simp [hq]);have:=List.length_pos_iff.2 (h p (by simp));rw [z1n,List.length_cons];omega
theorem FsS.Ok.waits_le{s:FsS}(h:s.Ok):s.waits.length≤1048576:=by
 have h1:=z4C s.waits fun p hp=>(h.piece p hp).1;have h2:=h.used_le;unfold FsS.used at h2;omega
structure FsS.OkB (s:FsS):Prop where
 used_le:s.used≤1048576
 few:s.files.length≤8
 names:∀p∈s.files,named p.1=true
 piece:∀p∈s.waits,p.2≠ []∧s.has p.1=true
theorem FsS.Ok.toB{s:FsS}(h:s.Ok):s.OkB:=⟨h.used_le,h.few,h.names,h.piece⟩
theorem FsS.OkB.waits_le{s:FsS}(h:s.OkB):s.waits.length≤1048576:=by
 have h1:=z4C s.waits fun p hp=>(h.piece p hp).1;have h2:=h.used_le;unfold FsS.used at h2;omega
theorem y9X(sb:Nat)(s:FsS)(F:List Nat)(w:World)(h:z1p w sb s F)(ok:s.OkB):
  Calls Tryz.prog 17 #[.pointer (some ⟨sb,0,none⟩)] w fun e w'=>e= .returned (.int .i64 s.used)∧Below w.heap.size w w':=by
 have hu:s.used≤1048576:=ok.used_le;have hwl:s.waits.length≤1048576:=ok.waits_le;have hlt:=h.lt;obtain ⟨mb,wv,lp,E,L,h,rfl⟩:=h;obtain ⟨c0,c1,c2,c3,c4,fz⟩:=z2y h.blk;obtain ⟨wa,wc,rfl⟩:=(z0d h.row).head;have hsb:=(Array.getElem?_eq_some_iff.1 h.blk).1;have hm:=z7 h.map;have hmlt:=z7 h.map.lt;have hus:Hid (s.used=z3A E+z3A L):=z7 (by unfold FsS.used;rw [h.files,h.waits,y6D,y6D]);have hC:Hid (w.cell? ⟨sb,2,none⟩=some (.slice wa L.length wc)):=z7 c2;have H:=z7 h;have hlen:Hid (∀p∈E++L,p.2.n=p.2.b.length):=z7 fun p hp=>(h.ent p hp).n;have HU:=z7 hu;have hll:Hid (L.length≤1048576):=z7 (by rw [h.waits,List.length_map] at hwl;exact hwl);clear hwl ok;clear h c0 c2 c3 c4 fz hlt hu;go_enter Tryz.func17,Tryz.ntmps17;go_wp2_with (at_range;refine y1c z3P rfl _ 116 rfl 46 Tryz.underlying116 rfl hm.out ?_;intro w0 hr0 hg0 hs0;have R0:=z7 hr0;have G0:=z7 ((Below.refl w.heap.size w).grown hg0 (Nat.le_refl _) (fun j hj=>by cases hj));clear hr0 hg0;go_frame);go_loopw [3,5] (fun nv bv wr=>∃(n:Nat) (R:List (Bs×Ent)),nv= .int .i64 n∧Hid (z6n wr Tryz.prog 9 z2N (fun l:Bs=>l.length≤maxLen) q1R Ent.v mb w.heap.size E R)∧Hid (n+z3A R=z3A E)∧Hid (Below w.heap.size w wr)) (fun _ _ wr=>wr.rangeLeft mb w.heap.size)
 case atStart=>exact ⟨0,E,rfl,R0,z7 (by omega),G0⟩
 case round=>
  obtain ⟨n,R,rfl,hr,hn,hb⟩:=hrel;clear R0 G0 hs0;have hMO:=z7 (by obtain ⟨_,_,_,_,_,h4⟩:=hr.out;exact h4:MOk (fun l:Bs=>l.length≤maxLen) R);have hsub:=z7 (by obtain ⟨_,_,_,_,h3,_⟩:=hr.out;exact h3:∀p∈R,p∈E);go_wp2_with (at_next;refine y2C z3P rfl _ rfl (fun c:Option Addr×Nat×Nat=>Value.slice c.1 c.2.1 c.2.2) q0J rfl hr.out ?_ ?_)
  ·intro hR;subst hR;have hn2:Hid (n=z3A E):=z7 (by have:=hn.out;simpa [z3A] using this);have hC2:wr.cell? ⟨sb,2,none⟩=some (.slice wa L.length wc):=(hb.out.cell (p:=⟨sb,2,none⟩) hsb).trans hC.out;clear hr hn hMO hsub;go_wp2;go_loopw [3,7,26] (fun nv pv iv wr=>∃(n i:Nat),nv= .int .i64 n∧iv= .int .i64 i∧i≤L.length∧Hid (n=z3A E+z3A (L.take i))∧Hid (Below w.heap.size w wr)) (fun _ _ iv _=>match iv with | .int _ j=>L.length - j.toNat | _=>0)
   case atStart=>exact ⟨n,0,rfl,rfl,Nat.zero_le _,z7 (by have:=hn2.out;simpa [z3A] using this),hb⟩
   case round=>
    obtain ⟨m,i,rfl,rfl,hi,hm2,hbw⟩:=hrel;clear hb hC2;by_cases hil:i<L.length
    ·have i0:(i:Int)<L.length:=by omega
     obtain ⟨g,pk,pb,pa,pn,pc,rfl,hpe,a1,a2,hg,hfz⟩:=(H.out.low hbw.out).at hil;have hpn:Hid (pn=pb.length):=z7 (by
      have:=hlen.out L[i] (List.mem_append_right _ (List.getElem_mem hil));rw [hpe] at this;exact this)
     have hm3:Hid (m+pn=z3A E+z3A (L.take (i+1))):=z7 (by
      have e:L.take (i+1)=L.take i++ [L[i]]:=by rw [List.take_add_one,List.getElem?_eq_getElem hil];rfl
      rw [hm2.out,hpn.out,e,hpe];simp [z3A];omega)
     have hle:Hid (z3A (L.take (i+1))≤z3A L):=z7 (by
      have h1:z3A L=z3A (L.take (i+1))+z3A (L.drop (i+1)):=by
       rw [←y4y,List.take_append_drop]
      omega)
     have hw1:IntKind.i64.wrap ((m:Int)+pn)=(m:Int)+pn:=wrap64 (by omega) (by have:=hm3.out;have:=hle.out;have:=HU.out;have:=hus.out;omega);have hw2:IntKind.i64.wrap ((i:Int)+1)=(i:Int)+1:=wrap64 (by omega) (by have:=hll.out;omega);clear hpe hm2 hle;go_wp2;refine ⟨⟨m+pn,i+1,by simp,rfl,hil,hm3,z7 (hbw.out.trans ((q5 wr _).mono hbw.out.size))⟩,?_⟩;show L.length - ((i:Int)+1).toNat<L.length - ((i:Nat):Int).toNat;omega
    ·obtain rfl:i=L.length:=by omega
     have hend:Hid ((m:Int)=s.used):=z7 (by rw [hus.out,hm2.out,List.take_length]);clear hm2;go_wp2;go_ret;refine ⟨?_,hbw.out⟩;rw [hend.out];rfl
  ·intro pk pe pa pn pc w1 hp hc hr1 hg1 hs1 hlt hen;obtain ⟨p,hpp⟩:∃p:Bs×Ent,p=(pk,pe):=⟨_,rfl⟩;obtain rfl:pk=p.1:=by rw [hpp]
   obtain rfl:pe=p.2:=by rw [hpp]
   clear hpp;have hpv:Hid (p.2.n=pn):=z7 (by unfold Ent.v at hc;simp only [Value.slice.injEq] at hc;exact hc.2.1);have hpn:Hid (pn=p.2.b.length):=z7 (by rw [←hpv.out];exact hlen.out p (List.mem_append_left _ (hsub.out p hp)));have hb1:Hid (Below w.heap.size w w1):=z7 (hb.out.grown hg1 hb.out.size fun j hj=>by cases hj;exact Nat.le_refl _);have hn1:Hid (n+pn+z3A (z1Z p.1 R)=z3A E):=z7 (by
    have e:=y8l (y7t (p:=p) hMO.out hp);rw [y7O] at e;rw [←hn.out,←e,hpn.out];omega)
   have hw1:IntKind.i64.wrap ((n:Int)+pn)=(n:Int)+pn:=wrap64 (by omega) (by have:=hn1.out;have:=HU.out;have:=hus.out;omega);have HR1:=z7 hr1;have HLT:=z7 hlt;clear hp hc hr1 hg1 hs1 hlt hr hn hb hMO hsub hpv;go_wp2;refine ⟨⟨n+pn,z1Z p.1 R,by simp,HR1,hn1,hb1⟩,HLT.out⟩
theorem z6Z(sb:Nat)(s:FsS)(F:List Nat)(w:World)(h:z1p w sb s F)(ok:s.Ok):
  Calls Tryz.prog 17 #[.pointer (some ⟨sb,0,none⟩)] w fun e w'=>e= .returned (.int .i64 s.used)∧Below w.heap.size w w':=y9X sb s F w h ok.toB
theorem z2v.then{w w1 w2:World}{sb:Nat}{F:List Nat}{s s':FsS}(h:z2v w sb F s w1)(k:∀F1,z1p w1 sb s F1→z2v w1 sb F1 s' w2):z2v w sb F s' w2:=by
 obtain ⟨F1,h1,h2⟩:=h;obtain ⟨F2,h3,h4⟩:=k F1 h1;exact ⟨F2,h3,h2.trans h4⟩
theorem z2D.mapTo{w w':World}{sb mb:Nat}{s s':FsS}{wv:Value}{lp:Option Nat}{E E' L:List (Bs×Ent)}(h:z2D w sb s mb wv lp E L)(hm:y6N w' mb E')(hg:w.grownBy w' (some mb))
  (hr:s'.room=s.room) (hh:s'.halted=s.halted) (hl:s'.left=s.left) (hf:s'.files=E'.map ct) (hw:s'.waits=s.waits) (he:∀p∈E',p∈E∨z4u w (z1l sb mb wv lp) p.2):z2D w' sb s' mb wv lp E' L:=by
 obtain ⟨n1,n2,n3⟩:=h.ne;have hb:∀k,k<w.heap.size→k≠mb→w'.heap[k]? =w.heap[k]? :=fun k hk hn=>hg.block k hk fun e=>hn (by simp only [Option.some.injEq] at e;first | exact e | exact e.symm);have hlt:=h.mut_lt;refine ⟨?_,hm,j7 h.row fun b hb'=>hb b (h.row.lt b hb').2 (n2 b hb').2,?_,hf,hw.trans h.waits,fun p hp=>?_,h.nd⟩
 ·rw [hb sb (hlt sb (by simp [z1l])) (Ne.symm n1),hr,hh];exact h.blk
 ·rw [hl];exact h.left.same fun b hb'=>hb b (hlt b (by simp [z1l,hb'])) (n3 b hb').2.1
 ·have h1:z4u w (z1l sb mb wv lp) p.2:=by
   rcases List.mem_append.1 hp with hp | hp
   ·rcases he p hp with h2 | h2
    ·exact h.ent p (List.mem_append_left _ h2)
    ·exact h2
   ·exact h.ent p (List.mem_append_right _ hp)
  exact h1.same (fun k hk=>hb k (h1.far k hk).2 fun e=>(h1.far k hk).1 (by simp [z1l,e])) hg.size
theorem z2D.mapDone{w0 w w':World}{sb mb:Nat}{s s':FsS}{wv:Value}{lp:Option Nat}{E E' L:List (Bs×Ent)}(h:z2D w sb s mb wv lp E L)(hm:y6N w' mb E')(hg:w.grownBy w' (some mb))
  (hr:s'.room=s.room) (hh:s'.halted=s.halted) (hl:s'.left=s.left) (hf:s'.files=E'.map ct) (hw:s'.waits=s.waits) (he:∀p∈E',p∈E∨(z4u w (z1l sb mb wv lp) p.2∧∀k,p.2.v.ownBlock=some k→w0.heap.size≤k))
  (h0:z2D w0 sb s mb wv lp E L) (hb0:Below w0.heap.size w0 w):z2v w0 sb (z8F (z1l sb mb wv lp) (E++L)) s' w':=by
 have h':=h.mapTo hm hg hr hh hl hf hw fun p hp=>(he p hp).imp id (·.1);refine h0.to h' (hg.os.trans hb0.os) (hg.tape.trans hb0.tape) (hg.output.trans hb0.output) (Nat.le_trans hb0.size hg.size) (fun k hk hn=>?_) (fun k hk=> .inl hk) fun p hp k hk=>?_
 ·rw [hg.block k (Nat.lt_of_lt_of_le hk hb0.size) fun e=>hn (by simp only [Option.some.injEq] at e;simp [z1l,e]),hb0.block k hk]
 ·rcases List.mem_append.1 hp with hp | hp
  ·rcases he p hp with h2 | h2
   ·exact .inl ⟨p,List.mem_append_left _ h2,hk⟩
   ·exact .inr (h2.2 k hk)
  ·exact .inl ⟨p,List.mem_append_right _ hp,hk⟩
theorem y9Z(w:World)(M:List Nat):z4u w M ⟨[],none,0,0⟩:=⟨RdB.nil w,rfl,Nat.le_refl _,by decide,fun k hk=>by cases hk⟩
theorem z7e{w:World}{sb mb:Nat}{s:FsS}{wv:Value}{lp:Option Nat}{E L:List (Bs×Ent)}(h:z2D w sb s mb wv lp E L):s.files.length=E.length:=by rw [h.files,List.length_map]
theorem z6c{w:World}{sb mb:Nat}{s:FsS}{wv:Value}{lp:Option Nat}{E L:List (Bs×Ent)}(h:z2D w sb s mb wv lp E L)(k:Bs)(e:Ent):z1r z2N k e.b s.files=(z1r z2N k e E).map ct:=by
 rw [h.files];exact (q1k z2N Ent.b k e E).symm
theorem y4Z{w:World}{sb mb:Nat}{s:FsS}{wv:Value}{lp:Option Nat}{E L:List (Bs×Ent)}(h:z2D w sb s mb wv lp E L)(k:Bs):z1Z k s.files=(z1Z k E).map ct:=by
 rw [h.files];exact (y6H Ent.b k E).symm
theorem y0Q{w:World}{sb mb:Nat}{s:FsS}{wv:Value}{lp:Option Nat}{E L:List (Bs×Ent)}(h:z2D w sb s mb wv lp E L)(k:Bs):z0H k s.files=(z0H k E).map Ent.b:=by
 rw [h.files];exact y6P Ent.b k E
theorem y7f(sb:Nat)(s:FsS)(F:List Nat)(k:Bs)(hk:k.length≤maxLen)(w:World)(h:z1p w sb s F)(ok:s.Ok):
  Calls Tryz.prog 88 #[.pointer (some ⟨sb,0,none⟩), .string ⟨k.toArray⟩] w fun e w'=>e= .returned (.int .u16 (z1R s k).1)∧z2v w sb F (z1R s k).2 w':=by
 have H:=z7 h;have OK:=z7 ok;clear h ok;cases hn:named k with
 | false=>
  have e:z1R s k=(1,s):=by simp [z1R,hn]
  rw [e];clear e;go_enter Tryz.func88,Tryz.ntmps88;go_wp2_with (refine (z6N k hk _).mono ?_;rintro e w' ⟨rfl,rfl⟩;rw [hn]);go_ret;exact ⟨rfl,z2v.refl H.out⟩
 | true=>
  cases hh:s.has k with
  | true=>
   have e:z1R s k=(81,s):=by simp [z1R,hn,hh]
   rw [e];clear e;go_enter Tryz.func88,Tryz.ntmps88;go_wp2_with (first | (refine (z6N k hk _).mono ?_;rintro e w' ⟨rfl,rfl⟩;rw [hn]) | (refine (z2q sb s F k hk _ H.out).mono ?_;rintro e w' ⟨rfl,rfl⟩;rw [hh]));go_ret;exact ⟨rfl,z2v.refl H.out⟩
  | false=>
   have H':=H.out;obtain ⟨mb,wv,lp,E,L,h,rfl⟩:=H';obtain ⟨c0,c1,c2,c3,c4,fz⟩:=z2y h.blk;have hm:=z7 h.map;have hlen:Hid (s.files.length=E.length):=z7 (z7e h);clear h c0 c2 c3 c4 fz;by_cases hf:8≤E.length
   ·have e:z1R s k=(3,s):=by simp [z1R,hn,hh,hlen.out,hf]
    rw [e];have i0:decide ((8:Int)≤E.length)=true:=decide_eq_true (by omega);clear e;go_enter Tryz.func88,Tryz.ntmps88;go_wp2_with (first | (refine (z6N k hk _).mono ?_;rintro e w' ⟨rfl,rfl⟩;rw [hn]) | (refine (z2q sb s _ k hk _ H.out).mono ?_;rintro e w' ⟨rfl,rfl⟩;rw [hh]) | (at_len;refine z6D z3P rfl _ 116 rfl 46 Tryz.underlying116 rfl hm.out ?_));go_ret;exact ⟨rfl,z2v.refl H.out⟩
   ·have i0:decide ((8:Int)≤E.length)=false:=decide_eq_false (by omega);cases hg:s.go with
    | false=>
     have e:z1R s k=(0,s.went):=by simp [z1R,hn,hh,hlen.out,hf,hg]
     rw [e];clear e hf;go_enter Tryz.func88,Tryz.ntmps88;go_wp2_with (first | (refine (z6N k hk _).mono ?_;rintro e w' ⟨rfl,rfl⟩;rw [hn]) | (refine (z2q sb s _ k hk _ H.out).mono ?_;rintro e w' ⟨rfl,rfl⟩;rw [hh]) | (at_len;refine z6D z3P rfl _ 116 rfl 46 Tryz.underlying116 rfl hm.out ?_));refine (z4h sb s _ _ H.out OK.out.left0).mono ?_;rintro e w1 ⟨rfl,ht⟩;rw [hg];have HT:=z7 ht;clear ht hg hlen;go_wp2;go_ret;exact ⟨rfl,HT.out⟩
    | true=>
     have e:z1R s k=(0,{s.went with files:=z1r z2N k [] s.files}):=by simp [z1R,hn,hh,hlen.out,hf,hg]
     rw [e];obtain ⟨s',hs'⟩:∃s',s'=({s.went with files:=z1r z2N k [] s.files}:FsS):=⟨_,rfl⟩;rw [←hs'];have HS:=z7 hs';clear e hf hs';go_enter Tryz.func88,Tryz.ntmps88;go_wp2_with (first | (refine (z6N k hk _).mono ?_;rintro e w' ⟨rfl,rfl⟩;rw [hn]) | (refine (z2q sb s _ k hk _ H.out).mono ?_;rintro e w' ⟨rfl,rfl⟩;rw [hh]) | (at_len;refine z6D z3P rfl _ 116 rfl 46 Tryz.underlying116 rfl hm.out ?_));refine (z4h sb s _ _ H.out OK.out.left0).mono ?_;rintro e w1 ⟨rfl,ht⟩;rw [hg];obtain ⟨e1,e2,e3⟩:=z2J s;obtain ⟨F1,hr1,hch1⟩:=ht;have HC:=z7 hch1;obtain ⟨mb1,wv1,lp1,E1,L1,h1,rfl⟩:=hr1;obtain ⟨c0,c1',c2,c3,c4,fz⟩:=z2y h1.blk;have hm1:=z7 h1.map;have H1:=z7 h1;have E2:=z7 e2;have hE1:E1.length<maxLen:=by
      have h2:=z7e h1;rw [e2] at h2;have:=hlen.out;have:=OK.out.few;unfold maxLen;omega
     clear c1 h1 c0 c2 c3 c4 fz hch1 hg hlen hm e1 e2 e3;go_wp2_with (at_mapUpdate;refine z3K z3P rfl _ _ _ 116 rfl 46 Tryz.underlying116 rfl hm1.out hE1 k rfl hk ⟨[],none,0,0⟩ rfl rfl ?_;intro w2 hm2 hg2 hs2;have HM2:=z7 hm2;have HG2:=z7 hg2;clear hm2 hg2 hs2);go_ret;refine ⟨rfl,?_⟩;obtain ⟨F2,hF2,hC2⟩:=H1.out.mapDone (w0:=w1) (s':=s') HM2.out HG2.out (by rw [HS.out]) (by rw [HS.out]) (by rw [HS.out]) (by rw [HS.out,←z6c H1.out,E2.out]) (by rw [HS.out]) (fun p hp=>by
      rcases (z3m _ _ _ _ _).1 hp with rfl | hp
      ·exact .inr ⟨y9Z _ _,fun k hk=>by cases hk⟩
      ·exact .inl hp.1) H1.out (Below.refl _ _)
     exact ⟨F2,hF2,HC.out.trans hC2⟩
end Go.Proofs.YtfcnapnopdomhaaGreatDoor

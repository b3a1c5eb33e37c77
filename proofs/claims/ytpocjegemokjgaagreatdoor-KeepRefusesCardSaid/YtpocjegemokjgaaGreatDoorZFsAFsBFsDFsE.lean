/-
  A file system in memory.
-/
import Derived.Test.YtpocjegemokjgaaGreatDoorZRcARcBRcCRcD
import Derived.BigQuiet
namespace Go.Proofs.YtpocjegemokjgaaGreatDoor
open Go.Proofs.Tryz
set_option linter.all false
set_option maxRecDepth 100000
set_option maxHeartbeats 12800000
open Go.RowKit Go.Maps
structure Ent where
 b:Bs
 a:Option Addr
 n:Nat
 c:Nat
def Ent.v(e:Ent):Value:= .slice e.a e.n e.c
def ct(p:Bs×Ent):Bs×Bs:=(p.1,p.2.b)
def z1E(L:List (Bs×Ent)):List Value:=L.flatMap fun p=> [encStr p.1,p.2.v]
theorem y3R(L R:List (Bs×Ent)):z1E (L++R)=z1E L++z1E R:=by simp[z1E]
theorem y3g{L:List (Bs×Ent)}{i:Nat}(h:i<L.length):(z1E L)[2*i]? =some (encStr L[i].1)/\(z1E L)[2*i+1]? =some L[i].2.v:=by
 induction L generalizing i with
 | nil=>simp at h
 | cons p L ih=>
  have e:z1E (p::L)=encStr p.1::p.2.v::z1E L:=by simp[z1E]
  rw[e];cases i with
  | zero=>simp
  | succ i=>
   have:=ih (i:=i) (by simpa using h);rw[show 2*(i+1)=2*i+1+1 by omega];simpa using this
abbrev y8o (w:World) (mb:Nat) (E:List (Bs×Ent)):Prop:=z3J w prog 9 z2Z q3Z Ent.v mb E
theorem z4o:z5d prog 9 encStr z2Z (fun l:Bs=>l.length<=maxLen):=y8H underlying9
def z9N(w:World):Option Nat->Option Int->Prop
 | none,none=>True
 | some b,some n=>w.heap[b]? =some (.cells #[.int .i64 n] 3 (0,0))
 | _,_=>False
theorem z9N.cases{w:World}{A:Option Nat}{l:Option Int}(h:z9N w A l):(A=none/\l=none)\/∃b n,A=some b/\l=some n/\w.heap[b]? =some (.cells #[.int .i64 n] 3 (0,0)):=by
 cases A<;>cases l
 ·exact .inl ⟨rfl,rfl⟩
 ·exact h.elim
 ·exact h.elim
 ·exact .inr ⟨_,_,rfl,rfl,h⟩
theorem z9N.same{w w':World}{A:Option Nat}{l:Option Int}(h:z9N w A l)(I:∀b,A=some b->w'.heap[b]? =w.heap[b]?):z9N w' A l:=by
 rcases h.cases with⟨rfl,rfl⟩|⟨b,n,rfl,rfl,B⟩
 ·trivial
 ·exact(I b rfl).trans B
def z1t(sb mb:Nat)(wv:Value)(lp:Option Nat):List Nat:=sb::mb::(wv.ownBlock.toList++lp.toList)
def z9m(M:List Nat)(X:List (Bs×Ent)):List Nat:=M++X.flatMap fun p=>p.2.v.ownBlock.toList
theorem z2j{M:List Nat}{X:List (Bs×Ent)}{k:Nat}:k∈z9m M X↔k∈M\/∃p∈X,p.2.v.ownBlock=some k:=by
 unfold z9m;rw[List.mem_append,List.mem_flatMap];simp[Option.mem_toList]
structure z4P (w:World) (M:List Nat) (e:Ent):Prop where
 rd:RdB w e.v e.b
 n:e.n=e.b.length
 le:e.n<=e.c
 cap:e.c<=9223372036854775807
 far:∀k,e.v.ownBlock=some k->k∉M/\k<w.heap.size
theorem z4P.same{w w':World}{M:List Nat}{e:Ent}(h:z4P w M e)(A:∀k,e.v.ownBlock=some k->w'.heap[k]? =w.heap[k]?)(B:w.heap.size<=w'.heap.size):z4P w' M e:=
 ⟨h.rd.keep A,h.n,h.le,h.cap,fun k A=>⟨(h.far k A).1,Nat.lt_of_lt_of_le (h.far k A).2 B⟩⟩
structure z2D (w:World) (sb:Nat) (s:FsS) (mb:Nat) (wv:Value) (lp:Option Nat) (E L:List (Bs×Ent)):Prop where
 blk:w.heap[sb]? =some (.cells #[.int .i64 s.room,.map (some mb),wv,.pointer (lp.map fun b=>⟨b,0,none⟩),.bool s.halted] 78 (0,0))
 map:y8o w mb E
 row:w.ownsRow 0 113 2 wv L.length (z1E L)
 left:z9N w lp s.left
 files:s.files=E.map ct
 waits:s.waits=L.map ct
 ent:∀p∈E++L,z4P w (z1t sb mb wv lp) p.2
 nd:(z1t sb mb wv lp).Nodup
def z1v(w:World)(sb:Nat)(s:FsS)(F:List Nat):Prop:=∃mb wv lp E L,z2D w sb s mb wv lp E L/\F=z9m (z1t sb mb wv lp) (E++L)
theorem z2D.mut_lt{w:World}{J I:Nat}{s:FsS}{N:Value}{B:Option Nat}{E L:List (Bs×Ent)}(h:z2D w J s I N B E L):∀k∈z1t J I N B,k<w.heap.size:=by
 intro k A;unfold z1t at A;simp only[List.mem_cons,List.mem_append,Option.mem_toList]at A;rcases A with rfl|rfl|A|A
 ·exact(Array.getElem?_eq_some_iff.1 h.blk).1
 ·exact h.map.lt
 ·exact(h.row.lt k A).2
 ·rcases h.left.cases with⟨rfl,_⟩|⟨b,n,rfl,_,O⟩
  ·cases A
  ·simp only[Option.some.injEq]at A;subst A;exact(Array.getElem?_eq_some_iff.1 O).1
theorem z2D.fp_lt{w:World}{J I:Nat}{s:FsS}{N:Value}{B:Option Nat}{E L:List (Bs×Ent)}(h:z2D w J s I N B E L):∀k∈z9m (z1t J I N B) (E++L),k<w.heap.size:=by
 intro k A;rcases z2j.1 A with A|⟨p,O,A⟩
 ·exact h.mut_lt k A
 ·exact((h.ent p O).far k A).2
theorem z1v.lt{w:World}{A:Nat}{s:FsS}{F:List Nat}(h:z1v w A s F):∀k∈F,k<w.heap.size:=by
 obtain⟨I,J,B,E,L,h,rfl⟩:=h;exact h.fp_lt
theorem z2D.same{w w':World}{B A:Nat}{s:FsS}{N:Value}{J:Option Nat}{E L:List (Bs×Ent)}(h:z2D w B s A N J E L)(R:∀k∈z9m (z1t B A N J) (E++L),w'.heap[k]? =w.heap[k]?)(Y:w.heap.size<=w'.heap.size):z2D w' B s A N J E L:=by
 have I:∀k∈z1t B A N J,w'.heap[k]? =w.heap[k]? :=fun k h=>R k (z2j.2 (.inl h));refine⟨(I B (by simp[z1t])).trans h.blk,h.map.same (I A (by simp[z1t])),j7 h.row fun b hb=>I b (by simp[z1t,hb]),h.left.same fun b hb=>I b (by simp[z1t,hb]),h.files,h.waits,fun p U=>(h.ent p U).same (fun k O=>R k (z2j.2 (.inr ⟨p,U,O⟩))) Y,h.nd⟩
theorem z1v.same{w w':World}{A:Nat}{s:FsS}{F:List Nat}(h:z1v w A s F)(B:∀k∈F,w'.heap[k]? =w.heap[k]?)(I:w.heap.size<=w'.heap.size):z1v w' A s F:=by
 obtain⟨N,O,J,E,L,h,rfl⟩:=h;exact⟨N,O,J,E,L,h.same B I,rfl⟩
theorem z1v.low{w w':World}{A:Nat}{s:FsS}{F:List Nat}(h:z1v w A s F)(hb:Below w.heap.size w w'):z1v w' A s F:=h.same (fun k B=>hb.block k (h.lt k B)) hb.size
theorem z1v.chg{w w':World}{I:Nat}{s:FsS}{F G J:List Nat}(h:z1v w I s F)(A:Chg G J w w')(hd:∀k∈F,k∉G):z1v w' I s F:=h.same (fun k B=>A.block k (h.lt k B) (hd k B)) A.size
def z2G(w:World)(sb:Nat)(F:List Nat)(s:FsS)(w':World):Prop:=∃F',z1v w' sb s F'/\Chg F F' w w'
theorem z2H{w:World}{A:Nat}{B I J L N:Value}{t:TypeId}(h:w.heap[A]? =some (.cells #[B,I,J,L,N] t (0,0))):
  w.cell? ⟨A,0,none⟩=some B/\w.cell? ⟨A,1,none⟩=some I/\w.cell? ⟨A,2,none⟩=some J/\w.cell? ⟨A,3,none⟩=some L/\w.cell? ⟨A,4,none⟩=some N/\∀i,w.frozen? ⟨A,i,none⟩=false:=by
 simp[World.cell?,World.frozen?,h]
theorem z2D.to{w w':World}{B J mb':Nat}{s s':FsS}{N wv':Value}{I lp':Option Nat}{E L E' L':List (Bs×Ent)}(h:z2D w B s J N I E L)(h':z2D w' B s' mb' wv' lp' E' L')
  (R:w'.os=w.os) (a0:w'.tape=w.tape) (U:w'.output=w.output) (Y:w.heap.size<=w'.heap.size) (hb:∀k,k<w.heap.size->k∉z1t B J N I->w'.heap[k]? =w.heap[k]?)
  (O:∀k∈z1t B mb' wv' lp',k∈z1t B J N I\/w.heap.size<=k) (he:∀p∈E'++L',∀k,p.2.v.ownBlock=some k->(∃q∈E++L,q.2.v.ownBlock=some k)\/w.heap.size<=k):z2G w B (z9m (z1t B J N I) (E++L)) s' w':=by
 refine⟨_,⟨mb',wv',lp',E',L',h',rfl⟩,R,a0,U,Y,fun k A hn=>hb k A fun O=>hn (z2j.2 (.inl O)),fun k A=>?_⟩;rcases z2j.1 A with A|⟨p,hp,A⟩
 ·exact(O k A).imp (fun h=>z2j.2 (.inl h)) id
 ·exact(he p hp k A).imp (fun h=>z2j.2 (.inr h)) id
theorem q0t(room:Int)(O:0<=room)(R:room<=1048576)(w:World):Calls prog 6 #[.int .i64 room] w fun e w'=>∃L F,e= .returned (.pointer (some ⟨L,0,none⟩))/\z1v w' L (z6U room) F/\(∀k∈F,w.heap.size<=k)/\Below w.heap.size w w':=by
 have U:¬(room<0):=by omega
 have Y:¬(1048576<room):=by omega
 have N:= @run_makeMap prog;go_enter func6,ntmps6;go_wp2;go_ret;have A:Below w.heap.size w (w.alloc (.map #[] 0)):=q5 w _;have B:=A.trans ((q5 (w.alloc (.map #[] 0)) (.cells #[.int .i64 room,.map (some w.heap.size),.slice none 0 0,.pointer none,.bool false] 78)).mono (by simp));refine⟨w.heap.size+1,rfl,_,⟨w.heap.size,.slice none 0 0,none, [], [],⟨?_,?_,World.ownsRow_nil _ _ _ _,trivial,rfl,rfl,(fun p J=>by cases J),?_⟩,rfl⟩,?_,B⟩
 ·have:=j8 (w.alloc (.map #[] 0)) (.cells #[.int .i64 room,.map (some w.heap.size),.slice none 0 0,.pointer none,.bool false] 78);simpa[z6U]using this
 ·exact(y3i w).low (q5 _ _)
 ·simp[z1t,Value.ownBlock]
 ·intro k I;rcases z2j.1 I with I|⟨p,J,_⟩
  ·simp[z1t,Value.ownBlock]at I;omega
  ·cases J
theorem z8C(w:World):(zeroValue 47).run prog w= .ok (.slice none 0 0) w:=by kernel_rfl
theorem z7n(k:Bs)(I:k.length<=maxLen)(w:World):Calls prog 89 #[.string ⟨k.toArray⟩] w fun e w'=>e= .returned (.bool (named k))/\w=w':=by
 by_cases h0:k.length=0
 ·have:k= []:=List.eq_nil_of_length_eq_zero h0;subst this;go_enter func89,ntmps89;go_wp2;go_ret;exact⟨rfl,rfl⟩
 ·have J:0<k.length:=by omega
  have L:(0:Int)<k.length:=by omega
  by_cases h1:k.length<=16
  ·have B:(k.length:Int)<=16:=(by omega);have A:named k=true:=(by simp[named];omega);rw[A];go_enter func89,ntmps89;go_wp2;go_ret;simp
  ·have B:¬(k.length:Int)<=16:=(by omega);have A:named k=false:=(by simp[named];omega);rw[A];go_enter func89,ntmps89;go_wp2;go_ret;simp
theorem z2x(N:Nat)(s:FsS)(F:List Nat)(k:Bs)(I:k.length<=maxLen)(w:World)(h:z1v w N s F):
  Calls prog 90 #[.pointer (some ⟨N,0,none⟩),.string ⟨k.toArray⟩] w fun e w'=>e= .returned (.bool (s.has k))/\w=w':=by
 obtain⟨U,Y,R,E,L,h,rfl⟩:=h;obtain⟨c0,c1,c2,c3,c4,O⟩:=z2H h.blk;have J:=z7 h.map;have B:Hid (s.has k=(z0P k E).isSome):=z7 (by
  unfold FsS.has;rw[h.files,show E.map ct=E.map (fun p=>(p.1,Ent.b p.2))from rfl,y7Q,Option.isSome_map])
 rw[B.o];clear h c0 c2 c3 c4 O B;cases hg:z0P k E with
 | none=>
  have A:=z7 hg;clear hg;go_enter func90,ntmps90;go_wp2_with (at_lookup;refine z6R z4o rfl _ _ 74 rfl 47 underlying74 (z8C _) rfl rfl J.o k rfl I none A.o (.slice none 0 0) rfl false rfl ?_);go_ret;exact⟨rfl,rfl⟩
 | some e=>
  have A:=z7 hg;clear hg;go_enter func90,ntmps90;go_wp2_with (at_lookup;refine z6R z4o rfl _ _ 74 rfl 47 underlying74 (z8C _) rfl rfl J.o k rfl I (some e) A.o (.slice e.a e.n e.c) rfl true rfl ?_);go_ret;exact⟨rfl,rfl⟩
theorem z2D.ne{w:World}{I B:Nat}{s:FsS}{N:Value}{O:Option Nat}{E L:List (Bs×Ent)}(h:z2D w I s B N O E L):
  B≠I/\(∀k,N.ownBlock=some k->k≠I/\k≠B)/\(∀k,O=some k->k≠I/\k≠B/\N.ownBlock≠some k):=by
 have J:=h.nd;unfold z1t at J;simp only[List.nodup_cons,List.mem_cons,List.mem_append,Option.mem_toList,not_or,List.nodup_append]at J;obtain⟨⟨R,U,Y⟩,⟨a4,a5⟩,a6,a7,a8⟩:=J;refine⟨Ne.symm R,fun k A=>⟨fun e=>U (by rw[<-e];exact A),fun e=>a4 (by rw[<-e];exact A)⟩,fun k A=>⟨fun e=>Y (by rw[<-e];exact A),fun e=>a5 (by rw[<-e];exact A),fun e=>?_⟩⟩;exact a8 k (by simp[e]) k (by simp[A]) rfl
theorem z2D.self{w w':World}{J I:Nat}{s s':FsS}{O:Value}{N:Option Nat}{E L:List (Bs×Ent)}(h:z2D w J s I O N E L)
  (A:w'.heap[J]? =some (.cells #[.int .i64 s'.room,.map (some I),O,.pointer (N.map fun b=>⟨b,0,none⟩),.bool s'.halted] 78 (0,0))) (U:s'.files=s.files) (hw:s'.waits=s.waits) (hl:s'.left=s.left)
  (B:∀k,k≠J->w'.heap[k]? =w.heap[k]?) (hs:w.heap.size<=w'.heap.size):z2D w' J s' I O N E L:=by
 obtain⟨n1,n2,n3⟩:=h.ne;refine⟨A,h.map.same (B I n1),j7 h.row fun b hb=>B b (n2 b hb).1,hl▸h.left.same fun b hb=>B b (n3 b hb).1,U.trans h.files,hw.trans h.waits,fun p R=>(h.ent p R).same (fun k Y=>B k fun e=>?_) hs,h.nd⟩;have:=((h.ent p R).far k Y).1;exact this (by simp[z1t,e])
theorem z2D.leftTo{w w':World}{J I lb:Nat}{s s':FsS}{O:Value}{E L:List (Bs×Ent)}{n':Int}(h:z2D w J s I O (some lb) E L)
  (A:w'.heap[lb]? =some (.cells #[.int .i64 n'] 3 (0,0))) (hr:s'.room=s.room) (U:s'.halted=s.halted) (R:s'.files=s.files) (hw:s'.waits=s.waits) (hl:s'.left=some n')
  (B:∀k,k≠lb->w'.heap[k]? =w.heap[k]?) (hs:w.heap.size<=w'.heap.size):z2D w' J s' I O (some lb) E L:=by
 obtain⟨n1,n2,n3⟩:=h.ne;obtain⟨n4,n5,n6⟩:=n3 lb rfl;refine⟨?_,h.map.same (B I (Ne.symm n5)),j7 h.row fun b hb=>B b fun e=>n6 (by rw[<-e];exact hb),?_,R.trans h.files,hw.trans h.waits,fun p N=>(h.ent p N).same (fun k Y=>B k fun e=>?_) hs,h.nd⟩
 ·rw[B J (Ne.symm n4),hr,U];exact h.blk
 ·rw[hl];exact A
 ·have:=((h.ent p N).far k Y).1;exact this (by simp[z1t,e])
theorem z2G.refl{w:World}{A:Nat}{s:FsS}{F:List Nat}(h:z1v w A s F):z2G w A F s w:=⟨F,h,Chg.refl F w⟩
theorem z4L(sb:Nat)(s:FsS)(F:List Nat)(w:World)(h:z1v w sb s F)(hl:∀n,s.left=some n->0<=n/\n<=9223372036854775807):
  Calls prog 91 #[.pointer (some ⟨sb,0,none⟩)] w fun e w'=>e= .returned (.bool s.go)/\z2G w sb F s.went w':=by
 have N:=z7 h;obtain⟨mb,wv,lp,E,L,h,rfl⟩:=h;obtain⟨c0,c1,c2,c3,c4,O⟩:=z2H h.blk;have f4:=O 4;have a1:=(Array.getElem?_eq_some_iff.1 h.blk).1;have H:=z7 h;rcases h.left.cases with⟨rfl,A⟩|⟨lb,n,rfl,A,R⟩
 ·have I:s.go=true:=by simp[FsS.go,A]
  have J:s.went=s:=by simp[FsS.went,A]
  rw[I,J];clear h c0 c1 c2 c4 O A I J;go_enter func91,ntmps91;go_wp2;go_ret;exact⟨rfl,z2G.refl N.o⟩
 ·have hn:=hl n A;obtain⟨d0,g0,a0⟩:=z0u R;by_cases hz:n=0
  ·subst hz;have I:s.go=false:=(by simp[FsS.go,A]);have J:s.went={s with halted:=true}:=(by simp[FsS.went,A]);rw[I,J];have H2:=z7 A;clear h c0 c1 c2 O A R I J;go_enter func91,ntmps91;go_wp2;go_ret;refine⟨rfl,H.o.to (H.o.self (s':={s with halted:=true}) ?_ rfl rfl rfl (fun k B=>q7 B) (by simp[World.setCell])) rfl rfl rfl (by simp[World.setCell]) (fun k B U=>q7 fun e=>U (by simp[z1t,e])) (fun k B=> .inl B) (fun p Y k B=> .inl ⟨p,Y,B⟩)⟩;have:=z0a H.o.blk 4 (.bool true);simpa using this
  ·have I:s.go=true:=(by simp[FsS.go,A,hz]);have J:s.went={s with left:=some (n - 1)}:=(by simp[FsS.went,A,hz]);rw[I,J];have H2:=z7 A;have i0:(n==0)=false:=(by simpa using hz);have i1:IntKind.i64.wrap (n - 1)=n - 1:=by
    unfold IntKind.wrap;simp[IntKind.bits,IntKind.signed];omega
   have H3:=z7 R;clear h c0 c1 c2 c4 O A R I J;go_enter func91,ntmps91;go_wp2;go_ret;refine⟨rfl,H.o.to (H.o.leftTo (s':={s with left:=some (n - 1)}) (n':=n - 1) ?_ rfl rfl rfl rfl rfl (fun k B=>q7 B) (by simp[World.setCell])) rfl rfl rfl (by simp[World.setCell]) (fun k B U=>q7 fun e=>U (by simp[z1t,e])) (fun k B=> .inl B) (fun p Y k B=> .inl ⟨p,Y,B⟩)⟩;have:=z0a H3.o 0 (.int .i64 (n - 1));simpa using this
def z3Q(X:List (Bs×Ent)):Nat:=(X.map fun p=>p.2.b.length).sum
theorem y8q(X:List (Bs×Ent)):z3Q X=total (X.map ct):=by
 unfold z3Q total;rw[List.map_map];rfl
theorem y9I{X Y:List (Bs×Ent)}(h:X.Perm Y):z3Q X=z3Q Y:=by
 unfold z3Q;exact(h.map _).sum_nat
theorem y5s(X Y:List (Bs×Ent)):z3Q (X++Y)=z3Q X+z3Q Y:=by simp[z3Q]
theorem y8U(p:Bs×Ent)(X:List (Bs×Ent)):z3Q (p::X)=p.2.b.length+z3Q X:=by simp[z3Q]
theorem q0l:∀v,q3Z v=true->∃c:Option Addr×Nat×Nat,v= .slice c.1 c.2.1 c.2.2:=fun v h=>by
 cases v<;>simp[q3Z]at h;exact⟨(_,_,_),rfl⟩
theorem wrap64{n:Int}(A: -9223372036854775808<=n)(B:n<=9223372036854775807):IntKind.i64.wrap n=n:=by
 unfold IntKind.wrap;simp[IntKind.bits,IntKind.signed];omega
theorem z2D.low{w w':World}{I B:Nat}{s:FsS}{J:Value}{A:Option Nat}{E L:List (Bs×Ent)}(h:z2D w I s B J A E L)(hb:Below w.heap.size w w'):z2D w' I s B J A E L:=
 h.same (fun k N=>hb.block k (h.fp_lt k N)) hb.size
theorem z2D.at{w:World}{sb mb:Nat}{s:FsS}{a:Option Addr}{n c:Nat}{lp:Option Nat}{E L:List (Bs×Ent)}(h:z2D w sb s mb (.slice a n c) lp E L){i:Nat}(hi:i<L.length):
  ∃g pk pb U pn Y,a=some ⟨g,0,none⟩/\L[i]=(pk,⟨pb,U,pn,Y⟩)/\w.cell? ⟨g,i*2,none⟩=some (.string ⟨pk.toArray⟩)/\w.cell? ⟨g,i*2+1,none⟩=some (.slice U pn Y)/\g<w.heap.size/\∀j,w.frozen? ⟨g,j,none⟩=false:=by
 have R:=h.row;rcases R.2 with⟨A,J⟩|⟨g,cap,a0,A,J,N,h4⟩
 ·have:L.length=0:=J;omega
 ·simp only[Value.slice.injEq]at A;obtain⟨rfl,rfl,rfl⟩:=A;obtain⟨g1,g2⟩:=y3g hi;have O:=R.cells (g:=g) rfl;have B:=O (2*i) _ g1;have I:=O (2*i+1) _ g2;have e:∀j,(⟨g,0,none⟩:Addr).add j=⟨g,j,none⟩:=fun j=>by unfold Addr.add;split<;>simp_all
  rw[e,Nat.mul_comm]at B;rw[e,Nat.mul_comm]at I;refine⟨g,L[i].1,L[i].2.b,L[i].2.a,L[i].2.n,L[i].2.c,rfl,rfl,B,I,(Array.getElem?_eq_some_iff.1 N).1,fun j=>?_⟩;simp[World.frozen?,N]
theorem FsS.Ok.used_le{s:FsS}(h:s.Ok):s.used<=1048576:=by have:=h.used;have:=h.room1;omega
theorem z4Y:∀L:List (Bs×Bs),(∀p∈L,p.2≠ [])->L.length<=total L
 | [],_=>by simp
 | p::L,h=>by
  have:=z4Y L fun q A=>h q (by simp[A]);have:=List.length_pos_iff.2 (h p (by simp));rw[z1q,List.length_cons];omega
theorem FsS.Ok.waits_le{s:FsS}(h:s.Ok):s.waits.length<=1048576:=by
 have I:=z4Y s.waits fun p B=>(h.piece p B).1;have A:=h.used_le;unfold FsS.used at A;omega
structure FsS.OkB (s:FsS):Prop where
 used_le:s.used<=1048576
 few:s.files.length<=8
 names:∀p∈s.files,named p.1=true
 piece:∀p∈s.waits,p.2≠ []/\s.has p.1=true
theorem FsS.Ok.toB{s:FsS}(h:s.Ok):s.OkB:=⟨h.used_le,h.few,h.names,h.piece⟩
theorem FsS.OkB.waits_le{s:FsS}(h:s.OkB):s.waits.length<=1048576:=by
 have I:=z4Y s.waits fun p B=>(h.piece p B).1;have A:=h.used_le;unfold FsS.used at A;omega
theorem q2Q(sb:Nat)(s:FsS)(F:List Nat)(w:World)(h:z1v w sb s F)(ok:s.OkB):
  Calls prog 11 #[.pointer (some ⟨sb,0,none⟩)] w fun e w'=>e= .returned (.int .i64 s.used)/\Below w.heap.size w w':=by
 have hu:s.used<=1048576:=ok.used_le;have a5:s.waits.length<=1048576:=ok.waits_le;have J:=h.lt;obtain⟨mb,wv,lp,E,L,h,rfl⟩:=h;obtain⟨c0,c1,c2,c3,c4,fz⟩:=z2H h.blk;obtain⟨wa,wc,rfl⟩:=(z0e h.row).head;have aR:=(Array.getElem?_eq_some_iff.1 h.blk).1;have hm:=z7 h.map;have aT:=z7 h.map.lt;have a4:Hid (s.used=z3Q E+z3Q L):=z7 (by unfold FsS.used;rw[h.files,h.waits,y8q,y8q]);have hC:Hid (w.cell? ⟨sb,2,none⟩=some (.slice wa L.length wc)):=z7 c2;have H:=z7 h;have O:Hid (∀p∈E++L,p.2.n=p.2.b.length):=z7 fun p hp=>(h.ent p hp).n;have HU:=z7 hu;have aL:Hid (L.length<=1048576):=z7 (by rw[h.waits,List.length_map]at a5;exact a5);clear a5 ok;clear h c0 c2 c3 c4 fz J hu;go_enter func11,ntmps11;go_wp2_with (at_range;refine y1W z4o rfl _ 74 rfl 47 underlying74 rfl hm.o ?_;intro w0 aE a7 aN;have R0:=z7 aE;have G0:=z7 ((Below.refl w.heap.size w).grown a7 (Nat.le_refl _) (fun j hj=>by cases hj));clear aE a7;go_frame);go_loopw[3,5] (fun nv bv wr=>∃(n:Nat) (R:List (Bs×Ent)),nv= .int .i64 n/\Hid (z2L wr prog 9 z2Z (fun l:Bs=>l.length<=maxLen) q3Z Ent.v mb w.heap.size E R)/\Hid (n+z3Q R=z3Q E)/\Hid (Below w.heap.size w wr)) (fun _ _ wr=>wr.rangeLeft mb w.heap.size)
 case atStart=>exact⟨0,E,rfl,R0,z7 (by omega),G0⟩
 case round=>
  obtain⟨n,R,rfl,hr,hn,hb⟩:=hrel;clear R0 G0 aN;have U:=z7 (by obtain⟨_,_,_,_,_,h4⟩:=hr.o;exact h4:MOk (fun l:Bs=>l.length<=maxLen) R);have B:=z7 (by obtain⟨_,_,_,_,h3,_⟩:=hr.o;exact h3:∀p∈R,p∈E);go_wp2_with (at_next;refine y3M z4o rfl _ rfl (fun c:Option Addr×Nat×Nat=>Value.slice c.1 c.2.1 c.2.2) q0l rfl hr.o ?_ ?_)
  ·intro hR;subst hR;have aM:Hid (n=z3Q E):=z7 (by have:=hn.o;simpa[z3Q]using this);have aI:wr.cell? ⟨sb,2,none⟩=some (.slice wa L.length wc):=(hb.o.cell (p:=⟨sb,2,none⟩) aR).trans hC.o;clear hr hn U B;go_wp2;go_loopw[3,7,26] (fun nv pv iv wr=>∃(n i:Nat),nv= .int .i64 n/\iv= .int .i64 i/\i<=L.length/\Hid (n=z3Q E+z3Q (L.take i))/\Hid (Below w.heap.size w wr)) (fun _ _ iv _=>match iv with | .int _ j=>L.length - j.toNat|_=>0)
   case atStart=>exact⟨n,0,rfl,rfl,Nat.zero_le _,z7 (by have:=aM.o;simpa[z3Q]using this),hb⟩
   case round=>
    obtain⟨m,i,rfl,rfl,hi,N,I⟩:=hrel;clear hb aI;by_cases hil:i<L.length
    ·have i0:(i:Int)<L.length:=(by omega);obtain⟨g,pk,pb,pa,A,pc,rfl,Y,a1,a2,hg,aV⟩:=(H.o.low I.o).at hil;have a0:Hid (A=pb.length):=z7 (by
      have:=O.o L[i] (List.mem_append_right _ (List.getElem_mem hil));rw[Y]at this;exact this)
     have aA:Hid (m+A=z3Q E+z3Q (L.take (i+1))):=z7 (by
      have e:L.take (i+1)=L.take i++ [L[i]]:=(by rw[List.take_add_one,List.getElem?_eq_getElem hil];rfl);rw[N.o,a0.o,e,Y];simp[z3Q];omega)
     have a9:Hid (z3Q (L.take (i+1))<=z3Q L):=z7 (by
      have h1:z3Q L=z3Q (L.take (i+1))+z3Q (L.drop (i+1)):=by
       rw[<-y5s,List.take_append_drop]
      omega)
     have aS:IntKind.i64.wrap ((m:Int)+A)=(m:Int)+A:=wrap64 (by omega) (by have:=aA.o;have:=a9.o;have:=HU.o;have:=a4.o;omega);have aX:IntKind.i64.wrap ((i:Int)+1)=(i:Int)+1:=wrap64 (by omega) (by have:=aL.o;omega);clear Y N a9;go_wp2;refine⟨⟨m+A,i+1,by simp,rfl,hil,aA,z7 (I.o.trans ((q5 wr _).mono I.o.size))⟩,?_⟩;show L.length - ((i:Int)+1).toNat<L.length - ((i:Nat):Int).toNat;omega
    ·obtain rfl:i=L.length:=by omega
     have a6:Hid ((m:Int)=s.used):=z7 (by rw[a4.o,N.o,List.take_length]);clear N;go_wp2;go_ret;refine⟨?_,I.o⟩;rw[a6.o];rfl
  ·intro pk pe pa A pc w1 hp hc aF a8 aO J aU;obtain⟨p,a3⟩:∃p:Bs×Ent,p=(pk,pe):=⟨_,rfl⟩;obtain rfl:pk=p.1:=by rw[a3]
   obtain rfl:pe=p.2:=by rw[a3]
   clear a3;have aC:Hid (p.2.n=A):=z7 (by unfold Ent.v at hc;simp only[Value.slice.injEq]at hc;exact hc.2.1);have a0:Hid (A=p.2.b.length):=z7 (by rw[<-aC.o];exact O.o p (List.mem_append_left _ (B.o p hp)));have aJ:Hid (Below w.heap.size w w1):=z7 (hb.o.grown a8 hb.o.size fun j hj=>by cases hj;exact Nat.le_refl _);have aB:Hid (n+A+z3Q (z2d p.1 R)=z3Q E):=z7 (by
    have e:=y9I (y2L (p:=p) U.o hp);rw[y8U]at e;rw[<-hn.o,<-e,a0.o];omega)
   have aS:IntKind.i64.wrap ((n:Int)+A)=(n:Int)+A:=wrap64 (by omega) (by have:=aB.o;have:=HU.o;have:=a4.o;omega);have aH:=z7 aF;have aG:=z7 J;clear hp hc aF a8 aO J hr hn hb U B aC;go_wp2;refine⟨⟨n+A,z2d p.1 R,by simp,aH,aB,aJ⟩,aG.o⟩
theorem z9j(A:Nat)(s:FsS)(F:List Nat)(w:World)(h:z1v w A s F)(ok:s.Ok):
  Calls prog 11 #[.pointer (some ⟨A,0,none⟩)] w fun e w'=>e= .returned (.int .i64 s.used)/\Below w.heap.size w w':=q2Q A s F w h ok.toB
theorem z2G.then{w I J:World}{B:Nat}{F:List Nat}{s s':FsS}(h:z2G w B F s I)(k:∀A,z1v I B s A->z2G I B A s' J):z2G w B F s' J:=by
 obtain⟨A,N,O⟩:=h;obtain⟨L,R,U⟩:=k A N;exact⟨L,R,O.trans U⟩
theorem z2D.mapTo{w w':World}{I B:Nat}{s s':FsS}{U:Value}{R:Option Nat}{E E' L:List (Bs×Ent)}(h:z2D w I s B U R E L)(hm:y8o w' B E')(hg:w.grownBy w' (some B))
  (hr:s'.room=s.room) (hh:s'.halted=s.halted) (hl:s'.left=s.left) (hf:s'.files=E'.map ct) (hw:s'.waits=s.waits) (he:∀p∈E',p∈E\/z4P w (z1t I B U R) p.2):z2D w' I s' B U R E' L:=by
 obtain⟨n1,n2,n3⟩:=h.ne;have hb:∀k,k<w.heap.size->k≠B->w'.heap[k]? =w.heap[k]? :=fun k O hn=>hg.block k O fun e=>hn (by simp only[Option.some.injEq]at e;first|exact e|exact e.symm);have J:=h.mut_lt;refine⟨?_,hm,j7 h.row fun b A=>hb b (h.row.lt b A).2 (n2 b A).2,?_,hf,hw.trans h.waits,fun p N=>?_,h.nd⟩
 ·rw[hb I (J I (by simp[z1t])) (Ne.symm n1),hr,hh];exact h.blk
 ·rw[hl];exact h.left.same fun b A=>hb b (J b (by simp[z1t,A])) (n3 b A).2.1
 ·have Y:z4P w (z1t I B U R) p.2:=by
   rcases List.mem_append.1 N with N|N
   ·rcases he p N with h2|h2
    ·exact h.ent p (List.mem_append_left _ h2)
    ·exact h2
   ·exact h.ent p (List.mem_append_right _ N)
  exact Y.same (fun k O=>hb k (Y.far k O).2 fun e=>(Y.far k O).1 (by simp[z1t,e])) hg.size
theorem z2D.mapDone{w0 w w':World}{O N:Nat}{s s':FsS}{U:Value}{R:Option Nat}{E E' L:List (Bs×Ent)}(h:z2D w O s N U R E L)(hm:y8o w' N E')(J:w.grownBy w' (some N))
  (hr:s'.room=s.room) (hh:s'.halted=s.halted) (hl:s'.left=s.left) (hf:s'.files=E'.map ct) (hw:s'.waits=s.waits) (he:∀p∈E',p∈E\/(z4P w (z1t O N U R) p.2/\∀k,p.2.v.ownBlock=some k->w0.heap.size<=k))
  (h0:z2D w0 O s N U R E L) (A:Below w0.heap.size w0 w):z2G w0 O (z9m (z1t O N U R) (E++L)) s' w':=by
 have h':=h.mapTo hm J hr hh hl hf hw fun p I=>(he p I).imp id (·.1);refine h0.to h' (J.os.trans A.os) (J.tape.trans A.tape) (J.output.trans A.output) (Nat.le_trans A.size J.size) (fun k B hn=>?_) (fun k B=> .inl B) fun p I k B=>?_
 ·rw[J.block k (Nat.lt_of_lt_of_le B A.size) fun e=>hn (by simp only[Option.some.injEq]at e;simp[z1t,e]),A.block k B]
 ·rcases List.mem_append.1 I with I|I
  ·rcases he p I with Y|Y
   ·exact .inl ⟨p,List.mem_append_left _ Y,B⟩
   ·exact .inr (Y.2 k B)
  ·exact .inl ⟨p,List.mem_append_right _ I,B⟩
theorem q2x(w:World)(M:List Nat):z4P w M ⟨[],none,0,0⟩:=⟨RdB.nil w,rfl,Nat.le_refl _,by decide,fun k A=>by cases A⟩
theorem z7K{w:World}{I B:Nat}{s:FsS}{J:Value}{A:Option Nat}{E L:List (Bs×Ent)}(h:z2D w I s B J A E L):s.files.length=E.length:=by rw[h.files,List.length_map]
theorem z6J{w:World}{I B:Nat}{s:FsS}{J:Value}{A:Option Nat}{E L:List (Bs×Ent)}(h:z2D w I s B J A E L)(k:Bs)(e:Ent):z1B z2Z k e.b s.files=(z1B z2Z k e E).map ct:=by
 rw[h.files];exact(q3H z2Z Ent.b k e E).symm
theorem y7s{w:World}{I B:Nat}{s:FsS}{J:Value}{A:Option Nat}{E L:List (Bs×Ent)}(h:z2D w I s B J A E L)(k:Bs):z2d k s.files=(z2d k E).map ct:=by
 rw[h.files];exact(y7R Ent.b k E).symm
theorem y1O{w:World}{I B:Nat}{s:FsS}{J:Value}{A:Option Nat}{E L:List (Bs×Ent)}(h:z2D w I s B J A E L)(k:Bs):z0P k s.files=(z0P k E).map Ent.b:=by
 rw[h.files];exact y7Q Ent.b k E
theorem y9y(I:Nat)(s:FsS)(F:List Nat)(k:Bs)(B:k.length<=maxLen)(w:World)(h:z1v w I s F)(ok:s.Ok):
  Calls prog 44 #[.pointer (some ⟨I,0,none⟩),.string ⟨k.toArray⟩] w fun e w'=>e= .returned (.int .u16 (z2a s k).1)/\z2G w I F (z2a s k).2 w':=by
 have H:=z7 h;have OK:=z7 ok;clear h ok;cases hn:named k with
 | false=>
  have e:z2a s k=(1,s):=by simp[z2a,hn]
  rw[e];clear e;go_enter func44,ntmps44;go_wp2_with (refine(z7n k B _).mono ?_;rintro e w' ⟨rfl,rfl⟩;rw[hn]);go_ret;exact⟨rfl,z2G.refl H.o⟩
 | true=>
  cases hh:s.has k with
  | true=>
   have e:z2a s k=(81,s):=(by simp[z2a,hn,hh]);rw[e];clear e;go_enter func44,ntmps44;go_wp2_with (first|(refine(z7n k B _).mono ?_;rintro e w' ⟨rfl,rfl⟩;rw[hn])|(refine(z2x I s F k B _ H.o).mono ?_;rintro e w' ⟨rfl,rfl⟩;rw[hh]));go_ret;exact⟨rfl,z2G.refl H.o⟩
  | false=>
   have H':=H.o;obtain⟨mb,wv,lp,E,L,h,rfl⟩:=H';obtain⟨c0,c1,c2,c3,c4,fz⟩:=z2H h.blk;have hm:=z7 h.map;have A:Hid (s.files.length=E.length):=z7 (z7K h);clear h c0 c2 c3 c4 fz;by_cases hf:8<=E.length
   ·have e:z2a s k=(3,s):=(by simp[z2a,hn,hh,A.o,hf]);rw[e];have i0:decide ((8:Int)<=E.length)=true:=decide_eq_true (by omega);clear e;go_enter func44,ntmps44;go_wp2_with (first|(refine(z7n k B _).mono ?_;rintro e w' ⟨rfl,rfl⟩;rw[hn])|(refine(z2x I s _ k B _ H.o).mono ?_;rintro e w' ⟨rfl,rfl⟩;rw[hh])|(at_len;refine z7o z4o rfl _ 74 rfl 47 underlying74 rfl hm.o ?_));go_ret;exact⟨rfl,z2G.refl H.o⟩
   ·have i0:decide ((8:Int)<=E.length)=false:=decide_eq_false (by omega);cases hg:s.go with
    | false=>
     have e:z2a s k=(0,s.went):=(by simp[z2a,hn,hh,A.o,hf,hg]);rw[e];clear e hf;go_enter func44,ntmps44;go_wp2_with (first|(refine(z7n k B _).mono ?_;rintro e w' ⟨rfl,rfl⟩;rw[hn])|(refine(z2x I s _ k B _ H.o).mono ?_;rintro e w' ⟨rfl,rfl⟩;rw[hh])|(at_len;refine z7o z4o rfl _ 74 rfl 47 underlying74 rfl hm.o ?_));refine(z4L I s _ _ H.o OK.o.left0).mono ?_;rintro e w1 ⟨rfl,ht⟩;rw[hg];have HT:=z7 ht;clear ht hg A;go_wp2;go_ret;exact⟨rfl,HT.o⟩
    | true=>
     have e:z2a s k=(0,{s.went with files:=z1B z2Z k [] s.files}):=(by simp[z2a,hn,hh,A.o,hf,hg]);rw[e];obtain⟨s',N⟩:=zN ({s.went with files:=z1B z2Z k [] s.files}:FsS);rw[<-N];have O:=z7 N;clear e hf N;go_enter func44,ntmps44;go_wp2_with (first|(refine(z7n k B _).mono ?_;rintro e w' ⟨rfl,rfl⟩;rw[hn])|(refine(z2x I s _ k B _ H.o).mono ?_;rintro e w' ⟨rfl,rfl⟩;rw[hh])|(at_len;refine z7o z4o rfl _ 74 rfl 47 underlying74 rfl hm.o ?_));refine(z4L I s _ _ H.o OK.o.left0).mono ?_;rintro e w1 ⟨rfl,ht⟩;rw[hg];obtain⟨e1,e2,e3⟩:=z2Y s;obtain⟨F1,a6,J⟩:=ht;have HC:=z7 J;obtain⟨aA,aB,a9,E1,L1,R,rfl⟩:=a6;obtain⟨c0,a8,c2,c3,c4,fz⟩:=z2H R.blk;have a5:=z7 R.map;have H1:=z7 R;have E2:=z7 e2;have a3:E1.length<maxLen:=by
      have h2:=z7K R;rw[e2]at h2;have:=A.o;have:=OK.o.few;unfold maxLen;omega
     clear c1 R c0 c2 c3 c4 fz J hg A hm e1 e2 e3;go_wp2_with (at_mapUpdate;refine z3U z4o rfl _ _ _ 74 rfl 47 underlying74 rfl a5.o a3 k rfl B ⟨[],none,0,0⟩ rfl rfl ?_;intro w2 Y U a7;have a1:=z7 Y;have a0:=z7 U;clear Y U a7);go_ret;refine⟨rfl,?_⟩;obtain⟨F2,a4,a2⟩:=H1.o.mapDone (w0:=w1) (s':=s') a1.o a0.o (by rw[O.o]) (by rw[O.o]) (by rw[O.o]) (by rw[O.o,<-z6J H1.o,E2.o]) (by rw[O.o]) (fun p hp=>by
      rcases(z2I _ _ _ _ _).1 hp with rfl|hp
      ·exact .inr ⟨q2x _ _,fun k B=>by cases B⟩
      ·exact .inl hp.1) H1.o (Below.refl _ _)
     exact⟨F2,a4,HC.o.trans a2⟩
theorem q0H:(prog.info? 5).map (fun i=>(i.zero,i.size,i.bytes))=some (some (.int .u8 0),1,1):=by kernel_rfl
theorem y9w:(prog.info? 113).map (fun i=>(i.zero,i.size,i.bytes))=some (some (.agg #[.string ⟨#[]⟩,.slice none 0 0]),2,40):=by kernel_rfl
def z5V(w w':World)(a:Option Addr)(n c:Nat)(b:Bs):Prop:=w'.ownsRow w.heap.size 5 1 (.slice a n c) n (z0b b)/\n=b.length/\Below w.heap.size w w'
theorem z5V.rd{w w':World}{a:Option Addr}{n c:Nat}{b:Bs}(h:z5V w w' a n c b):RdB w' (.slice a n c) b:=by
 have:=z0e h.1;unfold RdB;rw[<-h.2.1];exact this
theorem z5V.ge{w w':World}{a:Option Addr}{n c:Nat}{b:Bs}(h:z5V w w' a n c b):∀k,(Value.slice a n c).ownBlock=some k->w.heap.size<=k/\k<w'.heap.size:=fun k A=>h.1.lt k A
theorem z5V.cap{w w':World}{a:Option Addr}{n c:Nat}{b:Bs}(h:z5V w w' a n c b):n<=c/\c<=9223372036854775807:=z1O h.1
theorem z5V.ent{w w':World}{a:Option Addr}{n c:Nat}{b:Bs}(h:z5V w w' a n c b){M:List Nat}(B:∀k∈M,k<w.heap.size):z4P w' M ⟨b,a,n,c⟩:=
 ⟨h.rd,h.2.1,h.cap.1,h.cap.2,fun k A=>⟨fun I=>by have:=B k I;have:=(h.ge k A).1;omega,(h.ge k A).2⟩⟩
theorem y4s(a:Option Addr)(n c:Nat)(b:Bs)(w:World)(U:RdB w (.slice a n c) b)(R:n=b.length)(hl:n<=1099511627776):
  Calls prog 92 #[.slice a n c] w fun e w'=>∃a' c',e= .returned (.slice a' n c')/\z5V w w' a' n c' b:=by
 rcases U.2 with⟨I,O⟩|⟨ad,cc,I,O⟩
 ·simp only[Value.slice.injEq]at I;obtain⟨rfl,rfl,rfl⟩:=I;have hb:b= []:=List.eq_nil_of_length_eq_zero O;subst hb;have hq:=fun(w:World)=>Lib.run_eql_slice_nil (P:=prog) w 47 5 none 0 0 0 0 underlying47;clear U O R hl;go_enter func92,ntmps92;go_wp2;go_ret;exact⟨_,_,rfl,World.ownsRow_nil _ _ _ _,rfl,Below.refl _ _⟩
 ·simp only[Value.slice.injEq]at I;obtain⟨rfl, -,rfl⟩:=I;have hq:=fun(w:World)=>Lib.run_eql_slice_nil (P:=prog) w 47 5 (some ad) n c 0 0 underlying47;obtain⟨i0,hi,a0,a1,a2⟩:=info_parts q0H;have N:=z7 (U.low (q5 w (.cells #[] 5)));have Y:=z7 (show Rd (w.alloc (.cells #[] 5)) (.slice (some ad) n c) 1 n (z0b b) by have:=N.o;unfold RdB at this;rw[<-R]at this;exact this);have HN:=z7 R;clear U O N R;go_enter func92,ntmps92;go_wp2_with (at_builtin;refine z1V rfl _ _ 47 rfl w.heap.size 5 i0 (.int .u8 0) 1 1 underlying47 hi a0 a1 a2 rfl (by decide) _ _ _ rfl (World.ownsRow_made w #[] 0 (Nat.le_refl _) (by decide) rfl) _ n (z0b b) rfl Y.o (z4C b) (by unfold maxLen;omega) (by omega) (by simp) ?_;intro v' w1 B A L J;obtain⟨a',c',rfl⟩:=(z0e B).head;have HO:=z7 B;have HG:=z7 (show Below w.heap.size w w1 from((Below.refl _ _).alloc (Nat.le_refl _) _).grown A (by simp) (by intro k hk;simp[Act.eval,Value.ownBlock]at hk;omega));clear B A L J);go_ret;have I:=HO.o;simp only[Nat.zero_add,List.nil_append]at I ⊢;exact⟨a',c',rfl,I,HN.o,HG.o⟩
structure ApS (w1:World) (wv:Value) (k b:Bs) (n:Nat) (L:List (Bs×Ent)) (D:Nat->Bool) (v:Nat->Value) (w':World):Prop where
 g:w1.grownBy w' wv.ownBlock
 q:D 10=false->w'.ownsRow 0 113 2 wv L.length (z1E L)
 c:D 7=true->∃a c,v 7= .slice a n c/\w'.ownsRow w1.heap.size 5 1 (.slice a n c) n (z0b b)
 m:D 8=true->D 7=true/\v 8= .agg #[.string ⟨k.toArray⟩,v 7]
 s:D 9=true->D 8=true/\∃g,v 9= .slice (some ⟨g,0,none⟩) 1 1/\Rd w' (.slice (some ⟨g,0,none⟩) 1 1) 2 1 [.string ⟨k.toArray⟩,v 7]/\w1.heap.size<=g
 a:D 10=true->D 9=true/\∃aa ac,v 10= .slice aa (L.length+1) ac/\w'.ownsRow 0 113 2 (.slice aa (L.length+1) ac) (L.length+1) (z1E L++ [.string ⟨k.toArray⟩,v 7])/\((Value.slice aa (L.length+1) ac).ownBlock=wv.ownBlock\/∃g,(Value.slice aa (L.length+1) ac).ownBlock=some g/\w1.heap.size<=g)
theorem z2D.rowTo{w2 w':World}{I O:Nat}{s s':FsS}{wv wv':Value}{lp:Option Nat}{E L L':List (Bs×Ent)}(h:z2D w2 I s O wv lp E L)(hg:w2.grownBy w' wv.ownBlock)
  (a2:w'.ownsRow 0 113 2 wv' L'.length (z1E L')) (N:∀k,wv'.ownBlock=some k->wv.ownBlock=some k\/w2.heap.size<=k)
  (hr:s'.room=s.room) (hh:s'.halted=s.halted) (hl:s'.left=s.left) (hf:s'.files=s.files) (hw:s'.waits=L'.map ct)
  (he:∀p∈L',p∈L\/(z4P w' (z1t I O wv lp) p.2/\∀k,p.2.v.ownBlock=some k->w2.heap.size<=k/\wv'.ownBlock≠some k)):
  z2G w2 I (z9m (z1t I O wv lp) (E++L)) s' (w'.setCell ⟨I,2,none⟩ wv'):=by
 obtain⟨n1,n2,n3⟩:=h.ne;have U:=h.mut_lt;have a7:I<w2.heap.size:=U I (by simp[z1t]);have a3:O<w2.heap.size:=U O (by simp[z1t]);have hb:∀k,k<w2.heap.size->k≠I->wv.ownBlock≠some k->(w'.setCell ⟨I,2,none⟩ wv').heap[k]? =w2.heap[k]? :=fun k B hn a4=>by
  rw[q7 hn];exact hg.block k B fun e=>a4 e.symm
 have a1:w2.heap.size<=(w'.setCell ⟨I,2,none⟩ wv').heap.size:=by
  have:=hg.size;simp[World.setCell];exact this
 have a0:∀k,wv'.ownBlock=some k->k≠I:=fun k B e=>by
  rcases N k B with A|A
  ·exact(n2 k A).1 e
  ·omega
 have Y:∀k,k∈z1t I O wv' lp->k∈z1t I O wv lp\/w2.heap.size<=k:=fun k B=>by
  simp only[z1t,List.mem_cons,List.mem_append,Option.mem_toList]at B ⊢;rcases B with A|A|A|A
  ·exact .inl (.inl A)
  ·exact .inl (.inr (.inl A))
  ·rcases N k A with J|J
   ·exact .inl (.inr (.inr (.inl J)))
   ·exact .inr J
  ·exact .inl (.inr (.inr (.inr A)))
 have a6:∀k,(w'.setCell ⟨I,2,none⟩ wv').heap[k]? =w'.heap[k]? \/k=I:=fun k=>by
  by_cases e:k=I
  ·exact .inr e
  ·exact .inl (q7 e)
 refine h.to (mb':=O) (wv':=wv') (lp':=lp) (E':=E) (L':=L') ⟨?_,?_,?_,?_,hf.trans h.files,hw,fun p hp=>?_,?_⟩ hg.os hg.tape hg.output a1 (fun k B hn=>hb k B (fun e=>hn (by simp[z1t,e])) fun e=>hn (by simp[z1t,e])) Y fun p hp k B=>?_
 ·have A:w'.heap[I]? =_:=(hg.block I a7 fun e=>(n2 I e.symm).1 rfl).trans h.blk;have J:=z0a A 2 wv';rw[hr,hh];simpa using J
 ·exact h.map.same (hb O a3 n1 fun e=>(n2 O e).2 rfl)
 ·exact j7 a2 fun b R=>q7 (a0 b R)
 ·rw[hl];exact h.left.same fun b R=>hb b (U b (by simp[z1t,R])) (n3 b R).1 (n3 b R).2.2
 ·rcases List.mem_append.1 hp with hp|hp
  ·have A:=h.ent p (List.mem_append_left _ hp);have J:=A.same (w':=w'.setCell ⟨I,2,none⟩ wv') (fun k B=>hb k (A.far k B).2 (fun e=>(A.far k B).1 (by simp[z1t,e])) fun e=>(A.far k B).1 (by simp[z1t,e])) a1;exact⟨J.rd,J.n,J.le,J.cap,fun k B=>⟨fun hm=>(Y k hm).elim (A.far k B).1 fun h3=>by have:=(A.far k B).2;omega,(J.far k B).2⟩⟩
  ·rcases he p hp with a5|⟨A,J⟩
   ·have A:=h.ent p (List.mem_append_right _ a5);have J:=A.same (w':=w'.setCell ⟨I,2,none⟩ wv') (fun k B=>hb k (A.far k B).2 (fun e=>(A.far k B).1 (by simp[z1t,e])) fun e=>(A.far k B).1 (by simp[z1t,e])) a1;exact⟨J.rd,J.n,J.le,J.cap,fun k B=>⟨fun hm=>(Y k hm).elim (A.far k B).1 fun h3=>by have:=(A.far k B).2;omega,(J.far k B).2⟩⟩
   ·have h3:=A.same (w':=w'.setCell ⟨I,2,none⟩ wv') (fun k B=>q7 fun e=>by have:=(J k B).1;omega) (by simp[World.setCell]);refine⟨h3.rd,h3.n,h3.le,h3.cap,fun k B=>⟨fun hm=>?_,(h3.far k B).2⟩⟩;have h4:=(J k B).1;simp only[z1t,List.mem_cons,List.mem_append,Option.mem_toList]at hm;rcases hm with h5|h5|h5|h5
    ·omega
    ·omega
    ·exact(J k B).2 h5
    ·have:=U k (by simp[z1t,h5]);omega
 ·unfold z1t;simp only[List.nodup_cons,List.mem_cons,List.mem_append,Option.mem_toList,not_or,List.nodup_append];refine⟨⟨Ne.symm n1,fun e=>a0 I e rfl,fun e=>(n3 I e).1 rfl⟩,⟨fun e=>?_,fun e=>(n3 O e).2.1 rfl⟩,?_,?_,?_⟩
  ·rcases N O e with A|A
   ·exact(n2 O A).2 rfl
   ·omega
  ·cases wv'.ownBlock<;>simp
  ·cases lp<;>simp
  ·intro x hx y hy e;subst e;rcases N x hx with A|A
   ·exact(n3 x hy).2.2 A
   ·have:=U x (by simp[z1t,hy]);omega
 ·rcases List.mem_append.1 hp with hp|hp
  ·exact .inl ⟨p,List.mem_append_left _ hp,B⟩
  ·rcases he p hp with A|⟨_,A⟩
   ·exact .inl ⟨p,List.mem_append_right _ A,B⟩
   ·exact .inr (A k B).1
theorem y7D{w:World}{base A e R size J n n' k:Nat}{v U:Value}{xs N:List Value}(h:w.ownsRow base e size v n xs)(h':w.ownsRow A R J U n' N)(he:e≠R)(L:v.ownBlock=some k):U.ownBlock≠some k:=by
 intro I;rcases h.2 with⟨rfl,_⟩|⟨g,c,Y,rfl,_,h1,_⟩
 ·cases L
 ·rcases h'.2 with⟨rfl,_⟩|⟨g',c',O,rfl,_,B,_⟩
  ·cases I
  ·simp only[Value.ownBlock,Option.some.injEq]at L I;subst L;subst I;rw[h1]at B;simp only[Option.some.injEq,Obj.cells.injEq]at B;exact he B.2.1
theorem q0Y{O w':World}{sb mb:Nat}{s s':FsS}{wv:Value}{lp:Option Nat}{E L:List (Bs×Ent)}{k b:Bs}{R a':Option Addr}{U n c':Nat}(h:z2D O sb s mb wv lp E L)(hg:O.grownBy w' wv.ownBlock)
  (I:w'.ownsRow 0 113 2 (.slice R (L.length+1) U) (L.length+1) (z1E L++ [.string ⟨k.toArray⟩,.slice a' n c'])) (N:(Value.slice R (L.length+1) U).ownBlock=wv.ownBlock\/∃g,(Value.slice R (L.length+1) U).ownBlock=some g/\O.heap.size<=g)
  (A:w'.ownsRow O.heap.size 5 1 (.slice a' n c') n (z0b b)) (hn:n=b.length)
  (hr:s'.room=s.room) (hh:s'.halted=s.halted) (hl:s'.left=s.left) (hf:s'.files=s.files) (hw:s'.waits=s.waits++ [(k,b)]):z2G O sb (z9m (z1t sb mb wv lp) (E++L)) s' (w'.setCell ⟨sb,2,none⟩ (.slice R (L.length+1) U)):=by
 have e1:(L++ [(k,(⟨b,a',n,c'⟩:Ent))]).length=L.length+1:=by simp
 have e2:z1E (L++ [(k,(⟨b,a',n,c'⟩:Ent))])=z1E L++ [.string ⟨k.toArray⟩,.slice a' n c']:=by rw[y3R];rfl
 refine h.rowTo (L':=L++ [(k,⟨b,a',n,c'⟩)]) hg (by rw[e1,e2];exact I) (fun k B=>?_) hr hh hl hf (by rw[hw,h.waits];simp[ct]) fun p J=>?_
 ·rcases N with Y|⟨g,Y,h2⟩
  ·exact .inl (by rw[<-Y];exact B)
  ·rw[Y]at B;simp only[Option.some.injEq]at B;subst B;exact .inr h2
 ·rcases List.mem_append.1 J with J|J
  ·exact .inl J
  ·simp only[List.mem_singleton]at J;subst J;refine .inr ⟨⟨?_,hn,(z1O A).1,(z1O A).2,fun k B=>⟨fun hm=>?_,(A.lt k B).2⟩⟩,fun k B=>⟨(A.lt k B).1,y7D A I (by decide) B⟩⟩
   ·have:=z0e A;unfold RdB;rw[<-hn];exact this
   ·have Y:=h.mut_lt k hm;have h2:=(A.lt k B).1;omega
theorem z6i{a b c:World}{row:Option Nat}(h:a.grownBy b row)(k:Below b.heap.size b c):a.grownBy c row:=
 ⟨k.os.trans h.os,k.tape.trans h.tape,k.output.trans h.output,Nat.le_trans h.size k.size,fun i A B=>(k.block i (Nat.lt_of_lt_of_le A h.size)).trans (h.block i A B)⟩
theorem ApS.start{A:World}{B:Value}{k b:Bs}{n:Nat}{L:List (Bs×Ent)}(h:A.ownsRow 0 113 2 B L.length (z1E L)):ApS A B k b n L (fun _=>false) (fun _=>undef) A.drew:=
 ⟨⟨rfl,rfl,rfl,Nat.le_refl _,fun _ _ _=>rfl⟩,fun _=>h,(fun h=>by cases h),(fun h=>by cases h),(fun h=>by cases h),(fun h=>by cases h)⟩
theorem ApS.clone{O w' B:World}{R:Value}{k b:Bs}{n c':Nat}{a':Option Addr}{L:List (Bs×Ent)}{D:Nat->Bool}{v:Nat->Value}(h:ApS O R k b n L D v w')(J:D 8=false)(I:z5V w' B a' n c' b):ApS O R k b n L (mark D 7) (z2O v 7 (.slice a' n c')) B:=by
 have N:D 9=false:=by cases e:D 9 with
  | false=>rfl
  | true=>have:=(h.s e).1;rw[J]at this;cases this
 have A:D 10=false:=by cases e:D 10 with
  | false=>rfl
  | true=>have:=(h.a e).1;rw[N]at this;cases this
 refine⟨z6i h.g I.2.2,fun _=>ownsRow_below (h.q A) I.2.2 (Nat.le_refl _),fun _=>⟨a',c',rfl,z0c I.1 h.g.size⟩,fun e=>?_,fun e=>?_,fun e=>?_⟩
 ·have:D 8=true:=e;rw[J]at this;cases this
 ·have:D 9=true:=e;rw[N]at this;cases this
 ·have:D 10=true:=e;rw[A]at this;cases this
theorem ApS.built{J w':World}{N:Value}{k b:Bs}{n c':Nat}{a':Option Addr}{L:List (Bs×Ent)}{D:Nat->Bool}{v:Nat->Value}(h:ApS J N k b n L D v w')(B:D 7=true)(I:D 9=false)(O:v 7= .slice a' n c'):ApS J N k b n L (mark D 8) (z2O v 8 (.agg #[.string ⟨k.toArray⟩,.slice a' n c'])) w':=by
 have A:D 10=false:=by cases e:D 10 with
  | false=>rfl
  | true=>have:=(h.a e).1;rw[I]at this;cases this
 refine⟨h.g,fun _=>h.q A,fun _=>h.c B,fun _=>⟨B,?_⟩,fun e=>?_,fun e=>?_⟩
 ·show Value.agg #[.string ⟨k.toArray⟩,.slice a' n c']= .agg #[.string ⟨k.toArray⟩,v 7];rw[O]
 ·have:D 9=true:=e;rw[I]at this;cases this
 ·have:D 10=true:=e;rw[A]at this;cases this
theorem ApS.made{B w':World}{I:Value}{k b:Bs}{n c':Nat}{a':Option Addr}{L:List (Bs×Ent)}{D:Nat->Bool}{v:Nat->Value}(h:ApS B I k b n L D v w')(J:D 8=true)(A:D 10=false)(R:v 7= .slice a' n c'):
  ApS B I k b n L (mark D 9) (z2O v 9 (.slice (some ⟨w'.heap.size,0,none⟩) 1 1)) (w'.alloc (.cells #[.string ⟨k.toArray⟩,.slice a' n c'] 113)):=by
 have hb:=q5 w' (.cells #[.string ⟨k.toArray⟩,.slice a' n c'] 113);refine⟨z6i h.g hb,fun _=>ownsRow_below (h.q A) hb (Nat.le_refl _),fun e=>?_,fun e=>h.m e,fun _=>⟨J,w'.heap.size,rfl,?_,h.g.size⟩,fun e=>?_⟩
 ·obtain⟨a,c,N,O⟩:=h.c e;exact⟨a,c,N,ownsRow_below O hb (Nat.le_refl _)⟩
 ·show Rd _ _ 2 1 [.string ⟨k.toArray⟩,v 7];rw[R];exact z3z w' #[.string ⟨k.toArray⟩,.slice a' n c'] 113 1 2 (by decide) rfl
 ·have:D 10=true:=e;rw[A]at this;cases this
theorem ApS.appended{w2 w' I:World}{N R:Value}{k b:Bs}{n:Nat}{L:List (Bs×Ent)}{D:Nat->Bool}{v:Nat->Value}(h:ApS w2 N k b n L D v w')(d9:D 9=true)(A:w2.ownsRow 0 113 2 N L.length (z1E L))
  (B:I.ownsRow 0 113 2 R (L.length+1) (z1E L++ [.string ⟨k.toArray⟩,v 7])) (Y:w'.grownBy I N.ownBlock) (hb:R.ownBlock=N.ownBlock\/R.ownBlock=some w'.heap.size):ApS w2 N k b n L (mark D 10) (z2O v 10 R) I:=by
 obtain⟨aa,ac,rfl⟩:=(z0e B).head;refine⟨h.g.trans Y,(fun e=>by cases e),fun e=>?_,fun e=>h.m e,fun e=>?_,fun _=>⟨d9,aa,ac,rfl,B,hb.imp id fun e=>⟨_,e,h.g.size⟩⟩⟩
 ·obtain⟨a,c,U,J⟩:=h.c e;refine⟨a,c,U,j7 J fun j O=>Y.block j (J.lt j O).2 fun e=>?_⟩;have h3:=(J.lt j O).1;have h4:=(A.lt j e.symm).2;omega
 ·obtain⟨U,g,J,h3,h4⟩:=h.s e;refine⟨U,g,J,h3.kept fun j O a0=>Y.block j a0 fun e=>?_,h4⟩;have h5:=(A.lt j e.symm).2;simp only[Value.ownBlock,Option.some.injEq]at O;omega
theorem y9o(I:Nat)(s:FsS)(F:List Nat)(k:Bs)(hk:k.length<=maxLen)(a:Option Addr)(n c:Nat)(b:Bs)(w:World)(h:z1v w I s F)(ok:s.Ok)(hx:RdB w (.slice a n c) b)(hn:n=b.length)(hl:n<=1099511627776)(hd:0<n->∀k,(Value.slice a n c).ownBlock=some k->k∉F):
  Calls prog 115 #[.pointer (some ⟨I,0,none⟩),.string ⟨k.toArray⟩,.slice a n c] w fun e w'=>e= .returned (.int .u16 (z1f s k b).1)/\z2G w I F (z1f s k b).2 w':=by
 have H:=z7 h;have OK:=z7 ok;have HX:=z7 hx;have HN:=z7 hn;have HD:=z7 hd;clear h ok hx hn hd;cases hh:s.has k with
 | false=>
  have e:z1f s k b=(80,s):=by simp[z1f,hh]
  rw[e];clear e;go_enter func115,ntmps115;go_wp2_with (refine(z2x I s _ k hk _ H.o).mono ?_;rintro e w' ⟨rfl,rfl⟩;rw[hh]);go_ret;exact⟨rfl,z2G.refl H.o⟩
 | true=>
  by_cases h0:n=0
  ·have e:z1f s k b=(0,s):=(by have h1:=HN.o;rw[h0]at h1;have R:b= []:=List.eq_nil_of_length_eq_zero h1.symm;simp[z1f,hh,R]);rw[e];have i0:((n:Int)==0)=true:=(by simpa using h0);have b1:=z7 h0;clear e h0;go_enter func115,ntmps115;go_wp2_with (refine(z2x I s _ k hk _ H.o).mono ?_;rintro e w' ⟨rfl,rfl⟩;rw[hh]);go_ret;exact⟨rfl,z2G.refl H.o⟩
  ·have i0:((n:Int)==0)=false:=(by simpa using h0);have H':=H.o;obtain⟨mb,wv,lp,E,L,h,rfl⟩:=H';obtain⟨c0,c1,c2,c3,c4,fz⟩:=z2H h.blk;have aA:=(Array.getElem?_eq_some_iff.1 h.blk).1;have a5:=z7 c0;have hu:=OK.o.used_le;have b5:=OK.o.room0;have b6:=OK.o.room1;have b7:IntKind.i64.wrap (s.room - (s.used:Int))=s.room - (s.used:Int):=wrap64 (by omega) (by omega);clear h c0 c1 c2 c3 c4 fz;by_cases hbig:s.room - (s.used:Int)<n
   ·have e:z1f s k b=(82,s):=(by have h1:=HN.o;unfold z1f;rw[if_neg (by simp[hh]),if_neg (by omega),if_pos (by omega)]);rw[e];clear e;go_enter func115,ntmps115;go_wp2_with (refine(z2x I s _ k hk _ H.o).mono ?_;rintro e w' ⟨rfl,rfl⟩;rw[hh]);refine q6 10 42 (fun D v w'=>Below w.heap.size w w') (Below.refl _ _).drew ?_;simp only[z0v];iterate 5 (refine q8.rd (e:=?_) (fun D v w' B A=>?_) ?_;rotate_left;(clear A B;go_simp;try with_reducible rfl);go_simp)
    iterate 1 (refine q8.rd (e:=?_) (fun D v w' B A=>?_) ?_;rotate_left;(have c0:w'.cell? ⟨I,0,none⟩=some (.int .i64 s.room):=(A.cell (p:=⟨I,0,none⟩) aA).trans a5.o;clear A B;go_simp;try with_reducible rfl);go_simp)
    iterate 1 (refine q8.rd (e:=?_) (fun D v w' B A=>?_) ?_;rotate_left;(clear A B;go_simp;try with_reducible rfl);go_simp)
    refine q8.ca (.int .i64 s.used) (fun D v w' B A=>?_) ?_
    ·have J:=z7 A;clear A B;go_simp;go_at_call 11;refine(z9j I s _ w' (H.o.low J.o) OK.o).mono ?_;rintro e a1 ⟨rfl,hb⟩;exact⟨rfl,J.o.trans (hb.mono J.o.size)⟩
    go_simp;iterate 2 (refine q8.rd (e:=?_) (fun D v w' B A=>?_) ?_;rotate_left;(clear A B;go_simp;try with_reducible rfl);go_simp)
    refine q8.fin (fun v w1 A=>?_);have J:=z7 A;have H1:=z7 (H.o.low A);clear A;go_wp2;go_ret;exact⟨rfl,⟨_,H1.o,Chg.of_below J.o⟩⟩
   ·have ea:z1f s k b=(0,if s.go then {s.went with waits:=s.waits++ [(k,b)]}else s.went):=(by have h1:=HN.o;unfold z1f;rw[if_neg (by simp[hh]),if_neg (by omega),if_neg (by omega)]);cases hg:s.go with
    | false=>
     have e:z1f s k b=(0,s.went):=(by rw[ea,hg];rfl);rw[e];clear e ea;go_enter func115,ntmps115;go_wp2_with (refine(z2x I s _ k hk _ H.o).mono ?_;rintro e w' ⟨rfl,rfl⟩;rw[hh]);refine q6 10 42 (fun D v w'=>Below w.heap.size w w') (Below.refl _ _).drew ?_;simp only[z0v];iterate 5 (refine q8.rd (e:=?_) (fun D v w' B A=>?_) ?_;rotate_left;(clear A B;go_simp;try with_reducible rfl);go_simp)
     iterate 1 (refine q8.rd (e:=?_) (fun D v w' B A=>?_) ?_;rotate_left;(have c0:w'.cell? ⟨I,0,none⟩=some (.int .i64 s.room):=(A.cell (p:=⟨I,0,none⟩) aA).trans a5.o;clear A B;go_simp;try with_reducible rfl);go_simp)
     iterate 1 (refine q8.rd (e:=?_) (fun D v w' B A=>?_) ?_;rotate_left;(clear A B;go_simp;try with_reducible rfl);go_simp)
     refine q8.ca (.int .i64 s.used) (fun D v w' B A=>?_) ?_
     ·have J:=z7 A;clear A B;go_simp;go_at_call 11;refine(z9j I s _ w' (H.o.low J.o) OK.o).mono ?_;rintro e a1 ⟨rfl,hb⟩;exact⟨rfl,J.o.trans (hb.mono J.o.size)⟩
     go_simp;iterate 2 (refine q8.rd (e:=?_) (fun D v w' B A=>?_) ?_;rotate_left;(clear A B;go_simp;try with_reducible rfl);go_simp)
     refine q8.fin (fun v w1 A=>?_);have J:=z7 A;have H1:=z7 (H.o.low A);clear A;go_wp2_with fail;refine(z4L I s _ _ H1.o OK.o.left0).mono ?_;rintro e w2 ⟨rfl,ht⟩;rw[hg];have HT:=z7 ht;clear ht hg;go_wp2;go_ret;obtain⟨F2,aU,Y⟩:=HT.o;exact⟨rfl,F2,aU,(Chg.of_below J.o).trans Y⟩
    | true=>
     have e:z1f s k b=(0,{s.went with waits:=s.waits++ [(k,b)]}):=(by rw[ea,hg];rfl);rw[e];obtain⟨s',a9⟩:=zN (({s.went with waits:=s.waits++ [(k,b)]}:FsS));rw[<-a9];have U:=z7 a9;clear e ea a9;go_enter func115,ntmps115;go_wp2_with (refine(z2x I s _ k hk _ H.o).mono ?_;rintro e w' ⟨rfl,rfl⟩;rw[hh]);refine q6 10 42 (fun D v w'=>Below w.heap.size w w') (Below.refl _ _).drew ?_;simp only[z0v];iterate 5 (refine q8.rd (e:=?_) (fun D v w' B A=>?_) ?_;rotate_left;(clear A B;go_simp;try with_reducible rfl);go_simp)
     iterate 1 (refine q8.rd (e:=?_) (fun D v w' B A=>?_) ?_;rotate_left;(have c0:w'.cell? ⟨I,0,none⟩=some (.int .i64 s.room):=(A.cell (p:=⟨I,0,none⟩) aA).trans a5.o;clear A B;go_simp;try with_reducible rfl);go_simp)
     iterate 1 (refine q8.rd (e:=?_) (fun D v w' B A=>?_) ?_;rotate_left;(clear A B;go_simp;try with_reducible rfl);go_simp)
     refine q8.ca (.int .i64 s.used) (fun D v w' B A=>?_) ?_
     ·have J:=z7 A;clear A B;go_simp;go_at_call 11;refine(z9j I s _ w' (H.o.low J.o) OK.o).mono ?_;rintro e a1 ⟨rfl,hb⟩;exact⟨rfl,J.o.trans (hb.mono J.o.size)⟩
     go_simp;iterate 2 (refine q8.rd (e:=?_) (fun D v w' B A=>?_) ?_;rotate_left;(clear A B;go_simp;try with_reducible rfl);go_simp)
     refine q8.fin (fun v w1 A=>?_);have J:=z7 A;have H1:=z7 (H.o.low A);clear A;go_wp2_with fail;refine(z4L I s _ _ H1.o OK.o.left0).mono ?_;rintro e w2 ⟨rfl,ht⟩;rw[hg];obtain⟨F2,aY,Y⟩:=ht;have aF:=z7 Y;have aR:=z7 ((HX.o.low J.o).chg Y (HD.o (by omega)));obtain⟨b9,b0,b8,E2,L2,R,rfl⟩:=aY;obtain⟨c0,c1,c2,c3,c4,fz⟩:=z2H R.blk;have f2:=fz 2;have aM:=(Array.getElem?_eq_some_iff.1 R.blk).1;obtain⟨n1,n2,n3⟩:=R.ne;have aB:b0.ownBlock≠some I:=fun e=>(n2 I e).1 rfl;have b2:=z7 aB;have a2:=z7 R.row;have H2:=z7 R;have b3:L2.length<=1048576:=by
      have h3:=OK.o.waits_le;have h4:=congrArg List.length ((z2Y s).2.2.symm.trans R.waits);rw[List.length_map]at h4;omega
     obtain⟨wa,wc,rfl⟩:=(z0e R.row).head;have aE:=z7 c2;have aH:Hid (∀W:World,w2.grownBy W (Value.slice wa L2.length wc).ownBlock->W.cell? ⟨I,2,none⟩=some (.slice wa L2.length wc)/\W.frozen? ⟨I,2,none⟩=false):=z7 fun W hW=>
      let h:=hW.block I aM fun e=>aB e.symm
      ⟨(World.cell?_of_block (w:=w2) (a:=⟨I,2,none⟩) h).trans aE.o,by rw[World.frozen?_of_block (w:=w2) (a:=⟨I,2,none⟩) h];exact f2⟩
     have hj:∀j,(Value.slice a n c).ownBlock=some j->(Value.slice wa L2.length wc).ownBlock≠some j:=fun j hj e=>by
      obtain⟨b',o',c',h5,_,h6⟩:=RdB.at (k:=0) (l:=b) (by have:=HX.o;rw[HN.o]at this;exact this) (by have:=HN.o;omega);simp only[Value.slice.injEq]at h5;obtain⟨rfl, -⟩:=h5;simp only[Value.ownBlock,Option.some.injEq]at hj;subst hj;rcases aF.o.fresh b' (z2j.2 (.inl (by simp[z1t,e])))with N|N
      ·exact HD.o (by omega) b' rfl N
      ·have:=J.o.size;omega
     have HJ:=z7 hj;clear hj;clear Y c0 c1 c2 c3 c4 fz R n1 n2 n3 hg aB;go_wp2_with fail;refine q6 13 42 (fun D v w'=>ApS w2 (.slice wa L2.length wc) k b n L2 D v w') (ApS.start a2.o) ?_;simp only[z0v];iterate 4 (refine q8.rl (e:=?_) (fun D v w h=>⟨h.g,h.q,h.c,h.m,h.s,h.a⟩) (fun D v w' B A=>?_) ?_;rotate_left;(clear A B;go_simp;try with_reducible rfl);go_simp)
     iterate 1 (refine q8.rl (e:=?_) (fun D v w h=>⟨h.g,h.q,h.c,h.m,h.s,h.a⟩) (fun D v w' B A=>?_) ?_;rotate_left;(have aI:=(aH.o w' A.g).1;clear A B;go_simp;try with_reducible rfl);go_simp)
     iterate 2 (refine q8.rl (e:=?_) (fun D v w h=>⟨h.g,h.q,h.c,h.m,h.s,h.a⟩) (fun D v w' B A=>?_) ?_;rotate_left;(clear A B;go_simp;try with_reducible rfl);go_simp)
     refine q8.re (fun D v w' B A=>?_) ?_
     ·have d8:D 8=false:=B.post 8 _ rfl (by kernel_rfl);have O:=z7 A;have aS:=z7 (show RdB w' (.slice a n c) b from Rd.kept aR.o fun j hj aX=>A.g.block j aX fun e=>HJ.o j hj e.symm);clear A B;go_simp;go_at_call 92;refine(y4s a n c b w' aS.o HN.o hl).mono ?_;rintro e a1 ⟨a',c',rfl,hf⟩;exact O.o.clone d8 hf
     go_simp;refine q8.re (fun D v w' B A=>?_) ?_
     ·have d7:D 7=true:=B.pre 7 (by kernel_rfl);have d9:D 9=false:=B.post 9 _ rfl (by kernel_rfl);obtain⟨a7,c7,N,_⟩:=A.c d7;have O:=z7 (A.built d7 d9 N);clear A B;rw[N];clear N;go_simp;exact O.o
     go_simp;refine q8.re (fun D v w' B A=>?_) ?_
     ·have d8:D 8=true:=B.pre 8 (by kernel_rfl);have a8:D 10=false:=B.post 10 _ rfl (by kernel_rfl);obtain⟨d7,h8⟩:=A.m d8;obtain⟨a7,c7,N,_⟩:=A.c d7;have O:=z7 (A.made d8 a8 N);clear A B;rw[h8,N];clear N h8;go_simp;exact O.o
     go_simp;refine q8.re (fun D v w' B A=>?_) ?_
     ·have d9:D 9=true:=B.pre 9 (by kernel_rfl);have a8:D 10=false:=B.self;obtain⟨d8,g,h9,aL,b4⟩:=A.s d9;obtain⟨d7,h8⟩:=A.m d8;obtain⟨a7,c7,N,_⟩:=A.c d7;have hq:=z7 (A.q a8);have O:=z7 A;have aO:=z7 aL;have H7:=z7 N;rw[h9];obtain⟨i0,hi,aZ,aD,aW⟩:=info_parts y9w;clear A B aL N h8 h9;refine z3F _ _ 75 rfl 0 113 i0 (.agg #[.string ⟨#[]⟩,.slice none 0 0]) 2 40 underlying75 hi aZ aD aW rfl (by decide) _ L2.length (z1E L2) rfl hq.o _ 1 [.string ⟨k.toArray⟩,v 7] rfl aO.o ?_ (by unfold maxLen;omega) (by omega) (Nat.zero_le _) ?_
      ·intro u hu;rw[H7.o]at hu;simp only[List.mem_cons,List.not_mem_nil,or_false]at hu;rcases hu with rfl|rfl<;>rfl
      ·intro v' a1 h1 R h3 h4;exact⟨v',rfl,O.o.appended d9 a2.o h1 R h4,trivial⟩
     go_simp;iterate 2 (refine q8.rl (e:=?_) (fun D v w h=>⟨h.g,h.q,h.c,h.m,h.s,h.a⟩) (fun D v w' B A=>?_) ?_;rotate_left;(clear A B;go_simp;try with_reducible rfl);go_simp)
     refine q8.fin (fun v w' A=>?_);obtain⟨aa,ac,aG,a4,a3⟩:=(A.a rfl).2;obtain⟨a7,c7,N,aJ⟩:=A.c rfl;have HG:=z7 A.g;have aI:=aH.o w' A.g;rw[aG];have a6:=z7 a4;have aC:=z7 a3;have aN:=z7 aJ;have H7:=z7 N;obtain⟨d1,d2⟩:=aI;clear A a4 a3 aJ N aG;go_wp2;go_ret;refine⟨rfl,?_⟩;have a0:=a6.o;rw[H7.o]at a0;obtain⟨e1,e2,e3⟩:=z2Y s;obtain⟨F3,aV,aT⟩:=q0Y (s':=s') H2.o HG.o a0 aC.o aN.o HN.o (by rw[U.o]) (by rw[U.o]) (by rw[U.o]) (by rw[U.o]) (by rw[U.o,e3]);exact⟨F3,aV,(Chg.of_below J.o).trans (aF.o.trans aT)⟩

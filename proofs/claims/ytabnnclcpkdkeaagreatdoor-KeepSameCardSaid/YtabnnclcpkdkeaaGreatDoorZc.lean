/- A file system in memory. -/
import Derived.Test.YtabnnclcpkdkeaaGreatDoorZX
import Derived.Test.YtabnnclcpkdkeaaGreatDoorZD
import Derived.BigQuiet
namespace Go.Proofs.YtabnnclcpkdkeaaGreatDoor
open Go.Proofs.Tryz
set_option linter.all false
set_option maxRecDepth 100000
set_option maxHeartbeats 0
open Go.RowKit Go.Maps
structure Ent where
 b:Bs
 a:Option Addr
 n:Nat
 c:Nat
def Ent.v(e:Ent):Value:= .slice e.a e.n e.c
def ct(p:Bs×Ent):Bs×Bs:=(p.1,p.2.b)
def z1F(L:List (Bs×Ent)):List Value:=L.flatMap fun p=> [encStr p.1,p.2.v]
theorem y5e(L:List (Bs×Ent)):(z1F L).length=L.length*2:=by
 induction L with
 | nil=>rfl
 | cons p L ih=>unfold z1F at ih ⊢;rw[uH,wP,ih];simp;omega
theorem y5m(L R:List (Bs×Ent)):z1F (L++R)=z1F L++z1F R:=by simp[z1F]
theorem y0E{L:List (Bs×Ent)}{i:Nat}(h:i<L.length):(z1F L)[2*i]? =some (encStr L[i].1)/\(z1F L)[2*i+1]? =some L[i].2.v:=by
 induction L generalizing i with
 | nil=>simp at h
 | cons p L ih=>
  have e:z1F (p::L)=encStr p.1::p.2.v::z1F L:=by simp[z1F]
  rw[e];cases i with
  | zero=>simp
  | succ i=>
   have:=ih (i:=i) (by simpa using h);rw[show 2*(i+1)=2*i+1+1 by omega];simpa using this
abbrev y1k (w:World) (mb:Nat) (E:List (Bs×Ent)):Prop:=z3X w prog 9 z1O q6j Ent.v mb E
theorem z2O:z5C prog 9 encStr z1O (fun l:Bs=>l.length<=maxLen):=q0K underlying9
def y0x(w:World):Option Nat->Option Int->Prop
 | none,none=>True
 | some b,some n=>w.heap[b]? =some (.cells #[.int .i64 n] 3 (0,0))
 | _,_=>False
theorem y0x.cases{w:World}{A:Option Nat}{l:Option Int}(h:y0x w A l):(A=none/\l=none)\/∃b n,A=some b/\l=some n/\w.heap[b]? =some (.cells #[.int .i64 n] 3 (0,0)):=by
 cases A<;>cases l
 .exact .inl ⟨rfl,rfl⟩
 .exact h.elim
 .exact h.elim
 exact .inr ⟨_,_,rfl,rfl,h⟩
theorem y0x.same{w w':World}{A:Option Nat}{l:Option Int}(h:y0x w A l)(J:∀b,A=some b->w'.heap[b]? =w.heap[b]?):y0x w' A l:=by
 rcases h.cases with⟨rfl,rfl⟩|⟨b,n,rfl,rfl,I⟩
 .trivial
 exact(J b rfl).trans I
def z0P(sb mb:Nat)(wv:Value)(lp:Option Nat):List Nat:=sb::mb::(wv.ownBlock.toList++lp.toList)
def z4c(M:List Nat)(X:List (Bs×Ent)):List Nat:=M++X.flatMap fun p=>p.2.v.ownBlock.toList
theorem z0F{M:List Nat}{X:List (Bs×Ent)}{k:Nat}:k∈z4c M X↔k∈M\/∃p∈X,p.2.v.ownBlock=some k:=by
 unfold z4c;rw[uB,gz];simp[pR]
structure z3M (w:World) (M:List Nat) (e:Ent):Prop where
 rd:RdB w e.v e.b
 n:e.n=e.b.length
 le:e.n<=e.c
 cap:e.c<=9223372036854775807
 far:∀k,e.v.ownBlock=some k->k∉M/\k<w.heap.size
theorem z3M.same{w w':World}{M:List Nat}{e:Ent}(h:z3M w M e)(A:∀k,e.v.ownBlock=some k->w'.heap[k]? =w.heap[k]?)(I:w.heap.size<=w'.heap.size):z3M w' M e:=
 ⟨h.rd.keep A,h.n,h.le,h.cap,fun k A=>⟨(h.far k A).1,wS (h.far k A).2 I⟩⟩
structure z2j (w:World) (sb:Nat) (s:FsS) (mb:Nat) (wv:Value) (lp:Option Nat) (E L:List (Bs×Ent)):Prop where
 blk:w.heap[sb]? =some (.cells #[.int .i64 s.room,.map (some mb),wv,.pointer (lp.map fun b=>⟨b,0,none⟩),.bool s.halted] 86 (0,0))
 map:y1k w mb E
 row:w.ownsRow 0 132 2 wv L.length (z1F L)
 left:y0x w lp s.left
 files:s.files=E.map ct
 waits:s.waits=L.map ct
 ent:∀p∈E++L,z3M w (z0P sb mb wv lp) p.2
 nd:(z0P sb mb wv lp).Nodup
def z1L(w:World)(sb:Nat)(s:FsS)(F:List Nat):Prop:=∃mb wv lp E L,z2j w sb s mb wv lp E L/\F=z4c (z0P sb mb wv lp) (E++L)
theorem z2j.mut_lt{w:World}{N J:Nat}{s:FsS}{O:Value}{I:Option Nat}{E L:List (Bs×Ent)}(h:z2j w N s J O I E L):∀k∈z0P N J O I,k<w.heap.size:=by
 intro k A;unfold z0P at A;simp only[wy,uB,pR]at A;rcases A with rfl|rfl|A|A
 .exact(wI.1 h.blk).1
 .exact h.map.lt
 .exact(h.row.lt k A).2
 rcases h.left.cases with⟨rfl,_⟩|⟨b,n,rfl,_,R⟩
 .cases A
 simp only[wK]at A;subst A;exact(wI.1 R).1
theorem z2j.fp_lt{w:World}{N J:Nat}{s:FsS}{O:Value}{I:Option Nat}{E L:List (Bs×Ent)}(h:z2j w N s J O I E L):∀k∈z4c (z0P N J O I) (E++L),k<w.heap.size:=by
 intro k A;rcases z0F.1 A with A|⟨p,R,A⟩
 .exact h.mut_lt k A
 exact((h.ent p R).far k A).2
theorem z1L.lt{w:World}{A:Nat}{s:FsS}{F:List Nat}(h:z1L w A s F):∀k∈F,k<w.heap.size:=by
 obtain⟨J,N,I,E,L,h,rfl⟩:=h;exact h.fp_lt
theorem z2j.same{w w':World}{I A:Nat}{s:FsS}{O:Value}{N:Option Nat}{E L:List (Bs×Ent)}(h:z2j w I s A O N E L)(U:∀k∈z4c (z0P I A O N) (E++L),w'.heap[k]? =w.heap[k]?)(hs:w.heap.size<=w'.heap.size):z2j w' I s A O N E L:=by
 have J:∀k∈z0P I A O N,w'.heap[k]? =w.heap[k]? :=fun k h=>U k (z0F.2 (.inl h));refine⟨(J I (by simp[z0P])).trans h.blk,h.map.same (J A (by simp[z0P])),j7 h.row fun b hb=>J b (by simp[z0P,hb]),h.left.same fun b hb=>J b (by simp[z0P,hb]),h.files,h.waits,fun p Y=>(h.ent p Y).same (fun k R=>U k (z0F.2 (.inr ⟨p,Y,R⟩))) hs,h.nd⟩
theorem z1L.same{w w':World}{A:Nat}{s:FsS}{F:List Nat}(h:z1L w A s F)(I:∀k∈F,w'.heap[k]? =w.heap[k]?)(J:w.heap.size<=w'.heap.size):z1L w' A s F:=by
 obtain⟨O,R,N,E,L,h,rfl⟩:=h;exact⟨O,R,N,E,L,h.same I J,rfl⟩
theorem z1L.low{w w':World}{A:Nat}{s:FsS}{F:List Nat}(h:z1L w A s F)(hb:Below w.heap.size w w'):z1L w' A s F:=h.same (fun k I=>hb.block k (h.lt k I)) hb.size
theorem z1L.chg{w w':World}{J:Nat}{s:FsS}{F G L:List Nat}(h:z1L w J s F)(A:Chg G L w w')(hd:∀k∈F,k∉G):z1L w' J s F:=h.same (fun k I=>A.block k (h.lt k I) (hd k I)) A.size
def z2e(w:World)(sb:Nat)(F:List Nat)(s:FsS)(w':World):Prop:=∃F',z1L w' sb s F'/\Chg F F' w w'
theorem z1N{w:World}{A:Nat}{I J L N O:Value}{t:TypeId}(h:w.heap[A]? =some (.cells #[I,J,L,N,O] t (0,0))):
  w.cell? ⟨A,0,none⟩=some I/\w.cell? ⟨A,1,none⟩=some J/\w.cell? ⟨A,2,none⟩=some L/\w.cell? ⟨A,3,none⟩=some N/\w.cell? ⟨A,4,none⟩=some O/\∀i,w.frozen? ⟨A,i,none⟩=false:=by
 simp[World.cell?,World.frozen?,h]
theorem z2j.to{w w':World}{I N mb':Nat}{s s':FsS}{O wv':Value}{J lp':Option Nat}{E L E' L':List (Bs×Ent)}(h:z2j w I s N O J E L)(h':z2j w' I s' mb' wv' lp' E' L')
  (U:w'.os=w.os) (a1:w'.tape=w.tape) (Y:w'.output=w.output) (a0:w.heap.size<=w'.heap.size) (hb:∀k,k<w.heap.size->k∉z0P I N O J->w'.heap[k]? =w.heap[k]?)
  (R:∀k∈z0P I mb' wv' lp',k∈z0P I N O J\/w.heap.size<=k) (he:∀p∈E'++L',∀k,p.2.v.ownBlock=some k->(∃q∈E++L,q.2.v.ownBlock=some k)\/w.heap.size<=k):z2e w I (z4c (z0P I N O J) (E++L)) s' w':=by
 refine⟨_,⟨mb',wv',lp',E',L',h',rfl⟩,U,a1,Y,a0,fun k A hn=>hb k A fun R=>hn (z0F.2 (.inl R)),fun k A=>?_⟩;rcases z0F.1 A with A|⟨p,hp,A⟩
 .exact(R k A).imp (fun h=>z0F.2 (.inl h)) id
 exact(he p hp k A).imp (fun h=>z0F.2 (.inr h)) id
theorem q4O(room:Int)(R:0<=room)(U:room<=1048576)(w:World):Calls prog 6 #[.int .i64 room] w fun e w'=>∃N F,e= .returned (.pointer (some ⟨N,0,none⟩))/\z1L w' N (z7F room) F/\(∀k∈F,w.heap.size<=k)/\Below w.heap.size w w':=by
 have Y:¬(room<0):=wF
 have i1:¬(1048576<room):=wF
 have O:= @run_makeMap prog;go_enter func6,ntmps6;go_wp2;go_ret;have A:Below w.heap.size w (w.alloc (.map #[] 0)):=q5 w _;have I:=A.trans ((q5 (w.alloc (.map #[] 0)) (.cells #[.int .i64 room,.map (some w.heap.size),.slice none 0 0,.pointer none,.bool false] 86)).mono wH);refine⟨w.heap.size+1,rfl,_,⟨w.heap.size,.slice none 0 0,none, [], [],⟨?_,?_,uN _ _ _ _,trivial,rfl,rfl,(fun p L=>by cases L),?_⟩,rfl⟩,?_,I⟩
 .have:=j8 (w.alloc (.map #[] 0)) (.cells #[.int .i64 room,.map (some w.heap.size),.slice none 0 0,.pointer none,.bool false] 86);simpa[z7F]using this
 .exact(y0z w).low (q5 _ _)
 .simp[z0P,Value.ownBlock]
 intro k J;rcases z0F.1 J with J|⟨p,L,_⟩
 .simp[z0P,Value.ownBlock]at J;omega
 cases L
theorem z6f(w:World):(zeroValue 47).run prog w= .ok (.slice none 0 0) w:=by kernel_rfl
theorem z4J(k:Bs)(N:k.length<=maxLen)(w:World):Calls prog 104 #[.string ⟨k.toArray⟩] w fun e w'=>e= .returned (.bool (named k))/\w=w':=by
 by_cases I:k.length=0
 .have:k= []:=wT I;subst this;go_enter func104,ntmps104;go_wp2;go_ret;exact⟨rfl,rfl⟩
 have O:0<k.length:=wF
 by_cases L:k.length<=16
 .have J:(k.length:Int)<=16:=wF;have A:named k=true:=(by simp[named];omega);rw[A];go_enter func104,ntmps104;go_wp2;go_ret;simp
 have J:¬(k.length:Int)<=16:=wF;have A:named k=false:=(by simp[named];omega);rw[A];go_enter func104,ntmps104;go_wp2;go_ret;simp
theorem z2a(O:Nat)(s:FsS)(F:List Nat)(k:Bs)(J:k.length<=maxLen)(w:World)(h:z1L w O s F):
  Calls prog 105 #[.pointer (some ⟨O,0,none⟩),.string ⟨k.toArray⟩] w fun e w'=>e= .returned (.bool (s.has k))/\w=w':=by
 obtain⟨Y,wv,U,E,L,h,rfl⟩:=h;obtain⟨c0,c1,c2,c3,c4,R⟩:=z1N h.blk;have N:=z7 h.map;have I:Hid (s.has k=(z0J k E).isSome):=z7 (by
  unfold FsS.has;rw[h.files,show E.map ct=E.map (fun p=>(p.1,Ent.b p.2))from rfl,y1G,gg])
 rw[I.o];clear h c0 c2 c3 c4 R I;cases hg:z0J k E with
 | none=>
  have A:=z7 hg;clear hg;go_enter func105,ntmps105;go_wp2_with (at_lookup;refine z7I z2O rfl _ _ 82 rfl 47 underlying82 (z6f _) rfl rfl N.o k rfl J none A.o (.slice none 0 0) rfl false rfl ?_);go_ret;exact⟨rfl,rfl⟩
 | some e=>
  have A:=z7 hg;clear hg;go_enter func105,ntmps105;go_wp2_with (at_lookup;refine z7I z2O rfl _ _ 82 rfl 47 underlying82 (z6f _) rfl rfl N.o k rfl J (some e) A.o (.slice e.a e.n e.c) rfl true rfl ?_);go_ret;exact⟨rfl,rfl⟩
theorem z2j.ne{w:World}{J I:Nat}{s:FsS}{O:Value}{R:Option Nat}{E L:List (Bs×Ent)}(h:z2j w J s I O R E L):
  I≠J/\(∀k,O.ownBlock=some k->k≠J/\k≠I)/\(∀k,R=some k->k≠J/\k≠I/\O.ownBlock≠some k):=by
 have N:=h.nd;unfold z0P at N;simp only[ew,wy,uB,pR,not_or,iz]at N;obtain⟨⟨U,Y,a3⟩,⟨a4,a5⟩,a6,a7,a8⟩:=N;refine⟨pz U,fun k A=>⟨fun e=>Y (by rw[<-e];exact A),fun e=>a4 (by rw[<-e];exact A)⟩,fun k A=>⟨fun e=>a3 (by rw[<-e];exact A),fun e=>a5 (by rw[<-e];exact A),fun e=>?_⟩⟩;exact a8 k (by simp[e]) k (by simp[A]) rfl
theorem z2j.self{w w':World}{N J:Nat}{s s':FsS}{R:Value}{O:Option Nat}{E L:List (Bs×Ent)}(h:z2j w N s J R O E L)
  (A:w'.heap[N]? =some (.cells #[.int .i64 s'.room,.map (some J),R,.pointer (O.map fun b=>⟨b,0,none⟩),.bool s'.halted] 86 (0,0))) (Y:s'.files=s.files) (hw:s'.waits=s.waits) (hl:s'.left=s.left)
  (I:∀k,k≠N->w'.heap[k]? =w.heap[k]?) (hs:w.heap.size<=w'.heap.size):z2j w' N s' J R O E L:=by
 obtain⟨n1,n2,n3⟩:=h.ne;refine⟨A,h.map.same (I J n1),j7 h.row fun b hb=>I b (n2 b hb).1,hl▸h.left.same fun b hb=>I b (n3 b hb).1,Y.trans h.files,hw.trans h.waits,fun p U=>(h.ent p U).same (fun k hk=>I k fun e=>?_) hs,h.nd⟩;have:=((h.ent p U).far k hk).1;exact this (by simp[z0P,e])
theorem z2j.leftTo{w w':World}{N J lb:Nat}{s s':FsS}{R:Value}{E L:List (Bs×Ent)}{n':Int}(h:z2j w N s J R (some lb) E L)
  (A:w'.heap[lb]? =some (.cells #[.int .i64 n'] 3 (0,0))) (hr:s'.room=s.room) (Y:s'.halted=s.halted) (U:s'.files=s.files) (hw:s'.waits=s.waits) (hl:s'.left=some n')
  (I:∀k,k≠lb->w'.heap[k]? =w.heap[k]?) (hs:w.heap.size<=w'.heap.size):z2j w' N s' J R (some lb) E L:=by
 obtain⟨n1,n2,n3⟩:=h.ne;obtain⟨n4,n5,n6⟩:=n3 lb rfl;refine⟨?_,h.map.same (I J (pz n5)),j7 h.row fun b hb=>I b fun e=>n6 (by rw[<-e];exact hb),?_,U.trans h.files,hw.trans h.waits,fun p O=>(h.ent p O).same (fun k hk=>I k fun e=>?_) hs,h.nd⟩
 .rw[I N (pz n4),hr,Y];exact h.blk
 .rw[hl];exact A
 have:=((h.ent p O).far k hk).1;exact this (by simp[z0P,e])
theorem z2e.refl{w:World}{A:Nat}{s:FsS}{F:List Nat}(h:z1L w A s F):z2e w A F s w:=⟨F,h,Chg.refl F w⟩
theorem z4f(sb:Nat)(s:FsS)(F:List Nat)(w:World)(h:z1L w sb s F)(hl:∀n,s.left=some n->0<=n/\n<=9223372036854775807):
  Calls prog 106 #[.pointer (some ⟨sb,0,none⟩)] w fun e w'=>e= .returned (.bool s.go)/\z2e w sb F s.went w':=by
 have O:=z7 h;obtain⟨mb,wv,lp,E,L,h,rfl⟩:=h;obtain⟨c0,c1,c2,c3,c4,R⟩:=z1N h.blk;have f4:=R 4;have H:=z7 h;rcases h.left.cases with⟨rfl,I⟩|⟨lb,n,rfl,I,U⟩
 .have J:s.go=true:=by simp[FsS.go,I]
  have N:s.went=s:=by simp[FsS.went,I]
  rw[J,N];clear h c0 c1 c2 c4 R I J N;go_enter func106,ntmps106;go_wp2;go_ret;exact⟨rfl,z2e.refl O.o⟩
 have hn:=hl n I;obtain⟨d0,g0,a0⟩:=z0v U;by_cases Y:n=0
 .subst Y;have J:s.go=false:=(by simp[FsS.go,I]);have N:s.went={s with halted:=true}:=(by simp[FsS.went,I]);rw[J,N];clear h c0 c1 c2 R I U J N;go_enter func106,ntmps106;go_wp2;go_ret;refine⟨rfl,H.o.to (H.o.self (s':={s with halted:=true}) ?_ rfl rfl rfl (fun k A=>q7 A) (by simp[World.setCell])) rfl rfl rfl (by simp[World.setCell]) (fun k A hm=>q7 fun e=>hm (by simp[z0P,e])) (fun k A=> .inl A) (fun p hp k A=> .inl ⟨p,hp,A⟩)⟩;have:=z0a H.o.blk 4 (.bool true);simpa using this
 have J:s.go=true:=(by simp[FsS.go,I,Y]);have N:s.went={s with left:=some (n - 1)}:=(by simp[FsS.went,I,Y]);rw[J,N];have i0:(n==0)=false:=(by simpa using Y);have i1:IntKind.i64.wrap (n - 1)=n - 1:=by
  unfold IntKind.wrap;simp[IntKind.bits,IntKind.signed];omega
 have H3:=z7 U;clear h c0 c1 c2 c4 R I U J N;go_enter func106,ntmps106;go_wp2;go_ret;refine⟨rfl,H.o.to (H.o.leftTo (s':={s with left:=some (n - 1)}) (n':=n - 1) ?_ rfl rfl rfl rfl rfl (fun k A=>q7 A) (by simp[World.setCell])) rfl rfl rfl (by simp[World.setCell]) (fun k A hm=>q7 fun e=>hm (by simp[z0P,e])) (fun k A=> .inl A) (fun p hp k A=> .inl ⟨p,hp,A⟩)⟩;have:=z0a H3.o 0 (.int .i64 (n - 1));simpa using this
def z4m(X:List (Bs×Ent)):Nat:=(X.map fun p=>p.2.b.length).sum
theorem q0t(X:List (Bs×Ent)):z4m X=total (X.map ct):=by
 unfold z4m total;rw[dy];rfl
theorem q0H{X Y:List (Bs×Ent)}(h:X.Perm Y):z4m X=z4m Y:=by
 unfold z4m;exact(h.map _).sum_nat
theorem y5H(X Y:List (Bs×Ent)):z4m (X++Y)=z4m X+z4m Y:=by simp[z4m]
theorem q1d(p:Bs×Ent)(X:List (Bs×Ent)):z4m (p::X)=p.2.b.length+z4m X:=by simp[z4m]
theorem q3h:∀v,q6j v=true->∃c:Option Addr×Nat×Nat,v= .slice c.1 c.2.1 c.2.2:=fun v h=>by
 cases v<;>simp[q6j]at h;exact⟨(_,_,_),rfl⟩
theorem wrap64{n:Int}(A: -9223372036854775808<=n)(I:n<=9223372036854775807):IntKind.i64.wrap n=n:=by
 unfold IntKind.wrap;simp[IntKind.bits,IntKind.signed];omega
theorem z2j.low{w w':World}{J I:Nat}{s:FsS}{N:Value}{A:Option Nat}{E L:List (Bs×Ent)}(h:z2j w J s I N A E L)(hb:Below w.heap.size w w'):z2j w' J s I N A E L:=
 h.same (fun k O=>hb.block k (h.fp_lt k O)) hb.size
theorem z2j.at{w:World}{sb mb:Nat}{s:FsS}{a:Option Addr}{n c:Nat}{lp:Option Nat}{E L:List (Bs×Ent)}(h:z2j w sb s mb (.slice a n c) lp E L){i:Nat}(hi:i<L.length):
  ∃g pk pb Y pn pc,a=some ⟨g,0,none⟩/\L[i]=(pk,⟨pb,Y,pn,pc⟩)/\w.cell? ⟨g,i*2,none⟩=some (.string ⟨pk.toArray⟩)/\w.cell? ⟨g,i*2+1,none⟩=some (.slice Y pn pc)/\g<w.heap.size/\∀j,w.frozen? ⟨g,j,none⟩=false:=by
 have U:=h.row;rcases U.2 with⟨A,N⟩|⟨g,a0,a3,A,N,O,h4⟩
 .have:L.length=0:=N;omega
 simp only[wO]at A;obtain⟨rfl,rfl,rfl⟩:=A;obtain⟨g1,g2⟩:=y0E hi;have R:=U.cells (g:=g) rfl;have I:=R (2*i) _ g1;have J:=R (2*i+1) _ g2;have e:∀j,(⟨g,0,none⟩:Addr).add j=⟨g,j,none⟩:=fun j=>by unfold Addr.add;split<;>simp_all
 rw[e,dP]at I;rw[e,dP]at J;refine⟨g,L[i].1,L[i].2.b,L[i].2.a,L[i].2.n,L[i].2.c,rfl,rfl,I,J,(wI.1 O).1,fun j=>?_⟩;simp[World.frozen?,O]
theorem FsS.Ok.used_le{s:FsS}(h:s.Ok):s.used<=1048576:=by have:=h.used;have:=h.room1;omega
theorem z5x:∀L:List (Bs×Bs),(∀p∈L,p.2≠ [])->L.length<=total L
 | [],_=>wH
 | p::L,h=>by
  have:=z5x L fun q A=>h q (by simp[A]);have:=qD.2 (h p wH);rw[z2M,wW];omega
theorem FsS.Ok.waits_le{s:FsS}(h:s.Ok):s.waits.length<=1048576:=by
 have J:=z5x s.waits fun p I=>(h.piece p I).1;have A:=h.used_le;unfold FsS.used at A;omega
structure FsS.OkB (s:FsS):Prop where
 used_le:s.used<=1048576
 few:s.files.length<=8
 names:∀p∈s.files,named p.1=true
 piece:∀p∈s.waits,p.2≠ []/\s.has p.1=true
theorem FsS.Ok.toB{s:FsS}(h:s.Ok):s.OkB:=⟨h.used_le,h.few,h.names,h.piece⟩
theorem FsS.OkB.waits_le{s:FsS}(h:s.OkB):s.waits.length<=1048576:=by
 have J:=z5x s.waits fun p I=>(h.piece p I).1;have A:=h.used_le;unfold FsS.used at A;omega
theorem q4k(sb:Nat)(s:FsS)(F:List Nat)(w:World)(h:z1L w sb s F)(ok:s.OkB):
  Calls prog 15 #[.pointer (some ⟨sb,0,none⟩)] w fun e w'=>e= .returned (.int .i64 s.used)/\Below w.heap.size w w':=by
 have hu:s.used<=1048576:=ok.used_le;have a7:s.waits.length<=1048576:=ok.waits_le;have O:=h.lt;obtain⟨mb,wv,lp,E,L,h,rfl⟩:=h;obtain⟨c0,c1,c2,c3,c4,fz⟩:=z1N h.blk;obtain⟨wa,wc,rfl⟩:=(z0d h.row).head;have aT:=(wI.1 h.blk).1;have hm:=z7 h.map;have aV:=z7 h.map.lt;have a6:Hid (s.used=z4m E+z4m L):=z7 (by unfold FsS.used;rw[h.files,h.waits,q0t,q0t]);have hC:Hid (w.cell? ⟨sb,2,none⟩=some (.slice wa L.length wc)):=z7 c2;have H:=z7 h;have Y:Hid (∀p∈E++L,p.2.n=p.2.b.length):=z7 fun p hp=>(h.ent p hp).n;have HU:=z7 hu;have aN:Hid (L.length<=1048576):=z7 (by rw[h.waits,we]at a7;exact a7);clear a7 ok;clear h c0 c2 c3 c4 fz O hu;go_enter func15,ntmps15;go_wp2_with (at_range;refine y3u z2O rfl _ 82 rfl 47 underlying82 rfl hm.o ?_;intro w0 aG a9 aR;have R0:=z7 aG;have G0:=z7 ((wN w.heap.size w).grown a9 wE (fun j hj=>by cases hj));clear aG a9;go_frame);go_loopw[3,5] (fun nv bv wr=>∃(n:Nat) (R:List (Bs×Ent)),nv= .int .i64 n/\Hid (z3b wr prog 9 z1O (fun l:Bs=>l.length<=maxLen) q6j Ent.v mb w.heap.size E R)/\Hid (n+z4m R=z4m E)/\Hid (Below w.heap.size w wr)) (fun _ _ wr=>wr.rangeLeft mb w.heap.size)
 case atStart=>exact⟨0,E,rfl,R0,z7 wF,G0⟩
 case round=>
  obtain⟨n,R,rfl,hr,hn,hb⟩:=hrel;clear R0 G0 aR;have a0:=z7 (by obtain⟨_,_,_,_,_,h4⟩:=hr.o;exact h4:MOk (fun l:Bs=>l.length<=maxLen) R);have I:=z7 (by obtain⟨_,_,_,_,h3,_⟩:=hr.o;exact h3:∀p∈R,p∈E);go_wp2_with (at_next;refine y4I z2O rfl _ rfl (fun c:Option Addr×Nat×Nat=>Value.slice c.1 c.2.1 c.2.2) q3h rfl hr.o ?_ ?_)
  .intro hR;subst hR;have aO:Hid (n=z4m E):=z7 (by have:=hn.o;simpa[z4m]using this);have aL:wr.cell? ⟨sb,2,none⟩=some (.slice wa L.length wc):=(hb.o.cell (p:=⟨sb,2,none⟩) aT).trans hC.o;clear hr hn a0 I;go_wp2;go_loopw[3,7,26] (fun nv pv iv wr=>∃(n i:Nat),nv= .int .i64 n/\iv= .int .i64 i/\i<=L.length/\Hid (n=z4m E+z4m (L.take i))/\Hid (Below w.heap.size w wr)) (fun _ _ iv _=>match iv with | .int _ j=>L.length - j.toNat|_=>0)
   case atStart=>exact⟨n,0,rfl,rfl,uA _,z7 (by have:=aO.o;simpa[z4m]using this),hb⟩
   case round=>
    obtain⟨m,i,rfl,rfl,hi,U,J⟩:=hrel;clear hb aL;by_cases N:i<L.length
    .have i0:(i:Int)<L.length:=wF;obtain⟨g,pk,pb,pa,A,pc,rfl,a3,a1,a2,hg,aY⟩:=(H.o.low J.o).at N;have a4:Hid (A=pb.length):=z7 (by
      have:=Y.o L[i] (uT _ (ug N));rw[a3]at this;exact this)
     have aC:Hid (m+A=z4m E+z4m (L.take (i+1))):=z7 (by
      have e:L.take (i+1)=L.take i++ [L[i]]:=(by rw[uG,wL N];rfl);rw[U.o,a4.o,e,a3];simp[z4m];omega)
     have aB:Hid (z4m (L.take (i+1))<=z4m L):=z7 (by
      have h1:z4m L=z4m (L.take (i+1))+z4m (L.drop (i+1)):=by
       rw[<-y5H,pZ]
      omega)
     have aU:IntKind.i64.wrap ((m:Int)+A)=(m:Int)+A:=wrap64 wF (by have:=aC.o;have:=aB.o;have:=HU.o;have:=a6.o;omega);have aZ:IntKind.i64.wrap ((i:Int)+1)=(i:Int)+1:=wrap64 wF (by have:=aN.o;omega);clear a3 U aB;go_wp2;refine⟨⟨m+A,i+1,wH,rfl,N,aC,z7 (J.o.trans ((q5 wr _).mono J.o.size))⟩,?_⟩;show L.length - ((i:Int)+1).toNat<L.length - ((i:Nat):Int).toNat;omega
    obtain rfl:i=L.length:=wF
    have a8:Hid ((m:Int)=s.used):=z7 (by rw[a6.o,U.o,ui]);clear U;go_wp2;go_ret;refine⟨?_,J.o⟩;rw[a8.o];rfl
  intro pk pe pa A pc w1 hp hc aH aA aS O aX;obtain⟨p,a5⟩:∃p:Bs×Ent,p=(pk,pe):=⟨_,rfl⟩;obtain rfl:pk=p.1:=by rw[a5]
  obtain rfl:pe=p.2:=by rw[a5]
  clear a5;have aF:Hid (p.2.n=A):=z7 (by unfold Ent.v at hc;simp only[wO]at hc;exact hc.2.1);have a4:Hid (A=p.2.b.length):=z7 (by rw[<-aF.o];exact Y.o p (uQ _ (I.o p hp)));have aM:Hid (Below w.heap.size w w1):=z7 (hb.o.grown aA hb.o.size fun j hj=>by cases hj;exact wJ _);have aE:Hid (n+A+z4m (z2x p.1 R)=z4m E):=z7 (by
   have e:=q0H (y4w (p:=p) a0.o hp);rw[q1d]at e;rw[<-hn.o,<-e,a4.o];omega)
  have aU:IntKind.i64.wrap ((n:Int)+A)=(n:Int)+A:=wrap64 wF (by have:=aE.o;have:=HU.o;have:=a6.o;omega);have aJ:=z7 aH;have aI:=z7 O;clear hp hc aH aA aS O hr hn hb a0 I aF;go_wp2;refine⟨⟨n+A,z2x p.1 R,wH,aJ,aE,aM⟩,aI.o⟩
theorem y1A(A:Nat)(s:FsS)(F:List Nat)(w:World)(h:z1L w A s F)(ok:s.Ok):
  Calls prog 15 #[.pointer (some ⟨A,0,none⟩)] w fun e w'=>e= .returned (.int .i64 s.used)/\Below w.heap.size w w':=q4k A s F w h ok.toB
theorem z2e.then{w J L:World}{I:Nat}{F:List Nat}{s s':FsS}(h:z2e w I F s J)(k:∀A,z1L J I s A->z2e J I A s' L):z2e w I F s' L:=by
 obtain⟨A,O,R⟩:=h;obtain⟨N,U,Y⟩:=k A O;exact⟨N,U,R.trans Y⟩
theorem z2j.mapTo{w w':World}{J I:Nat}{s s':FsS}{Y:Value}{U:Option Nat}{E E' L:List (Bs×Ent)}(h:z2j w J s I Y U E L)(hm:y1k w' I E')(hg:w.grownBy w' (some I))
  (hr:s'.room=s.room) (hh:s'.halted=s.halted) (hl:s'.left=s.left) (hf:s'.files=E'.map ct) (hw:s'.waits=s.waits) (he:∀p∈E',p∈E\/z3M w (z0P J I Y U) p.2):z2j w' J s' I Y U E' L:=by
 obtain⟨n1,n2,n3⟩:=h.ne;have hb:∀k,k<w.heap.size->k≠I->w'.heap[k]? =w.heap[k]? :=fun k R hn=>hg.block k R fun e=>hn (by simp only[wK]at e;first|exact e|exact e.symm);have N:=h.mut_lt;refine⟨?_,hm,j7 h.row fun b A=>hb b (h.row.lt b A).2 (n2 b A).2,?_,hf,hw.trans h.waits,fun p O=>?_,h.nd⟩
 .rw[hb J (N J (by simp[z0P])) (pz n1),hr,hh];exact h.blk
 .rw[hl];exact h.left.same fun b A=>hb b (N b (by simp[z0P,A])) (n3 b A).2.1
 have h1:z3M w (z0P J I Y U) p.2:=by
  rcases uB.1 O with O|O
  .rcases he p O with h2|h2
   .exact h.ent p (uQ _ h2)
   exact h2
  exact h.ent p (uT _ O)
 exact h1.same (fun k R=>hb k (h1.far k R).2 fun e=>(h1.far k R).1 (by simp[z0P,e])) hg.size
theorem z2j.mapDone{w0 w w':World}{R O:Nat}{s s':FsS}{Y:Value}{U:Option Nat}{E E' L:List (Bs×Ent)}(h:z2j w R s O Y U E L)(hm:y1k w' O E')(N:w.grownBy w' (some O))
  (hr:s'.room=s.room) (hh:s'.halted=s.halted) (hl:s'.left=s.left) (hf:s'.files=E'.map ct) (hw:s'.waits=s.waits) (he:∀p∈E',p∈E\/(z3M w (z0P R O Y U) p.2/\∀k,p.2.v.ownBlock=some k->w0.heap.size<=k))
  (h0:z2j w0 R s O Y U E L) (A:Below w0.heap.size w0 w):z2e w0 R (z4c (z0P R O Y U) (E++L)) s' w':=by
 have h':=h.mapTo hm N hr hh hl hf hw fun p J=>(he p J).imp id (·.1);refine h0.to h' (N.os.trans A.os) (N.tape.trans A.tape) (N.output.trans A.output) (wV A.size N.size) (fun k I hn=>?_) (fun k I=> .inl I) fun p J k I=>?_
 .rw[N.block k (wS I A.size) fun e=>hn (by simp only[wK]at e;simp[z0P,e]),A.block k I]
 rcases uB.1 J with J|J
 .rcases he p J with h2|h2
  .exact .inl ⟨p,uQ _ h2,I⟩
  exact .inr (h2.2 k I)
 exact .inl ⟨p,uT _ J,I⟩
theorem q2p(w:World)(M:List Nat):z3M w M ⟨[],none,0,0⟩:=⟨RdB.nil w,rfl,wJ _,wG,fun k A=>by cases A⟩
theorem z6U{w:World}{J I:Nat}{s:FsS}{N:Value}{A:Option Nat}{E L:List (Bs×Ent)}(h:z2j w J s I N A E L):s.files.length=E.length:=by rw[h.files,we]
theorem z6i{w:World}{J I:Nat}{s:FsS}{N:Value}{A:Option Nat}{E L:List (Bs×Ent)}(h:z2j w J s I N A E L)(k:Bs)(e:Ent):z1d z1O k e.b s.files=(z1d z1O k e E).map ct:=by
 rw[h.files];exact(y9N z1O Ent.b k e E).symm
theorem y2t{w:World}{J I:Nat}{s:FsS}{N:Value}{A:Option Nat}{E L:List (Bs×Ent)}(h:z2j w J s I N A E L)(k:Bs):z2x k s.files=(z2x k E).map ct:=by
 rw[h.files];exact(q0b Ent.b k E).symm
theorem z7r{w:World}{J I:Nat}{s:FsS}{N:Value}{A:Option Nat}{E L:List (Bs×Ent)}(h:z2j w J s I N A E L)(k:Bs):z0J k s.files=(z0J k E).map Ent.b:=by
 rw[h.files];exact y1G Ent.b k E
theorem y4A(J:Nat)(s:FsS)(F:List Nat)(k:Bs)(I:k.length<=maxLen)(w:World)(h:z1L w J s F)(ok:s.Ok):
  Calls prog 57 #[.pointer (some ⟨J,0,none⟩),.string ⟨k.toArray⟩] w fun e w'=>e= .returned (.int .u16 (z1i s k).1)/\z2e w J F (z1i s k).2 w':=by
 have H:=z7 h;have OK:=z7 ok;clear h ok;cases hn:named k with
 | false=>
  have e:z1i s k=(1,s):=by simp[z1i,hn]
  rw[e];clear e;go_enter func57,ntmps57;go_wp2_with (refine(z4J k I _).mono ?_;rintro e w' ⟨rfl,rfl⟩;rw[hn]);go_ret;exact⟨rfl,z2e.refl H.o⟩
 | true=>
  cases hh:s.has k with
  | true=>
   have e:z1i s k=(81,s):=(by simp[z1i,hn,hh]);rw[e];clear e;go_enter func57,ntmps57;go_wp2_with (first|(refine(z4J k I _).mono ?_;rintro e w' ⟨rfl,rfl⟩;rw[hn])|(refine(z2a J s F k I _ H.o).mono ?_;rintro e w' ⟨rfl,rfl⟩;rw[hh]));go_ret;exact⟨rfl,z2e.refl H.o⟩
  | false=>
   have H':=H.o;obtain⟨mb,wv,lp,E,L,h,rfl⟩:=H';obtain⟨c0,c1,c2,c3,c4,fz⟩:=z1N h.blk;have hm:=z7 h.map;have A:Hid (s.files.length=E.length):=z7 (z6U h);clear h c0 c2 c3 c4 fz;by_cases Y:8<=E.length
   .have e:z1i s k=(3,s):=(by simp[z1i,hn,hh,A.o,Y]);rw[e];have i0:decide ((8:Int)<=E.length)=true:=hQ;clear e;go_enter func57,ntmps57;go_wp2_with (first|(refine(z4J k I _).mono ?_;rintro e w' ⟨rfl,rfl⟩;rw[hn])|(refine(z2a J s _ k I _ H.o).mono ?_;rintro e w' ⟨rfl,rfl⟩;rw[hh])|(at_len;refine z8h z2O rfl _ 82 rfl 47 underlying82 rfl hm.o ?_));go_ret;exact⟨rfl,z2e.refl H.o⟩
   have i0:decide ((8:Int)<=E.length)=false:=wC;cases hg:s.go with
   | false=>
    have e:z1i s k=(0,s.went):=(by simp[z1i,hn,hh,A.o,Y,hg]);rw[e];clear e Y;go_enter func57,ntmps57;go_wp2_with (first|(refine(z4J k I _).mono ?_;rintro e w' ⟨rfl,rfl⟩;rw[hn])|(refine(z2a J s _ k I _ H.o).mono ?_;rintro e w' ⟨rfl,rfl⟩;rw[hh])|(at_len;refine z8h z2O rfl _ 82 rfl 47 underlying82 rfl hm.o ?_));refine(z4f J s _ _ H.o OK.o.left0).mono ?_;rintro e w1 ⟨rfl,ht⟩;rw[hg];have HT:=z7 ht;clear ht hg A;go_wp2;go_ret;exact⟨rfl,HT.o⟩
   | true=>
    have e:z1i s k=(0,{s.went with files:=z1d z1O k [] s.files}):=(by simp[z1i,hn,hh,A.o,Y,hg]);rw[e];obtain⟨s',O⟩:=zN ({s.went with files:=z1d z1O k [] s.files}:FsS);rw[<-O];have R:=z7 O;clear e Y O;go_enter func57,ntmps57;go_wp2_with (first|(refine(z4J k I _).mono ?_;rintro e w' ⟨rfl,rfl⟩;rw[hn])|(refine(z2a J s _ k I _ H.o).mono ?_;rintro e w' ⟨rfl,rfl⟩;rw[hh])|(at_len;refine z8h z2O rfl _ 82 rfl 47 underlying82 rfl hm.o ?_));refine(z4f J s _ _ H.o OK.o.left0).mono ?_;rintro e w1 ⟨rfl,ht⟩;rw[hg];obtain⟨e1,e2,e3⟩:=z2T s;obtain⟨F1,a8,N⟩:=ht;have HC:=z7 N;obtain⟨aC,aE,aB,E1,L1,U,rfl⟩:=a8;obtain⟨c0,aA,c2,c3,c4,fz⟩:=z1N U.blk;have a7:=z7 U.map;have H1:=z7 U;have E2:=z7 e2;have a5:E1.length<maxLen:=by
     have h2:=z6U U;rw[e2]at h2;have:=A.o;have:=OK.o.few;unfold maxLen;omega
    clear c1 U c0 c2 c3 c4 fz N hg A hm e1 e2 e3;go_wp2_with (at_mapUpdate;refine z2I z2O rfl _ _ _ 82 rfl 47 underlying82 rfl a7.o a5 k rfl I ⟨[],none,0,0⟩ rfl rfl ?_;intro w2 a1 a0 a9;have a3:=z7 a1;have a2:=z7 a0;clear a1 a0 a9);go_ret;refine⟨rfl,?_⟩;obtain⟨F2,a6,a4⟩:=H1.o.mapDone (w0:=w1) (s':=s') a3.o a2.o (by rw[R.o]) (by rw[R.o]) (by rw[R.o]) (by rw[R.o,<-z6i H1.o,E2.o]) (by rw[R.o]) (fun p hp=>by
     rcases(z2d _ _ _ _ _).1 hp with rfl|hp
     .exact .inr ⟨q2p _ _,fun k I=>by cases I⟩
     exact .inl hp.1) H1.o wD
    exact⟨F2,a6,HC.o.trans a4⟩

/- The library's sort at uint32 on a row of. -/
import Derived.Test.YtabnnclcpkdkeaaGreatDoorZk
import Derived.Test.YtabnnclcpkdkeaaGreatDoorZX
namespace Go.Proofs.YtabnnclcpkdkeaaGreatDoor
open Go.Proofs.Tryz
set_option linter.all false
set_option maxRecDepth 100000
set_option maxHeartbeats 0
open Go.RowKit Go.Maps
theorem q8w{n:Int}(A: -9223372036854775808<=n)(I:n<=9223372036854775807):IntKind.i64.wrap n=n:=by
 unfold IntKind.wrap;simp[IntKind.bits,IntKind.signed];omega
theorem q8p{n:Int}(A:0<=n)(I:n<=18446744073709551615):IntKind.u64.wrap n=n:=by
 unfold IntKind.wrap;simp[IntKind.bits,IntKind.signed];omega
theorem bitsLen(n:Nat)(h:n<=1)(w:World):Calls prog 132 #[.int .u64 n] w fun e w'=>e= .returned (.int .i64 n)/\w=w':=by
 have A:Calls prog 163 #[.int .u64 n] w fun e w'=>e= .returned (.int .i64 n)/\w=w':=by
  obtain rfl|rfl:n=0\/n=1:=wF
  .go_enter func163,ntmps163;go_wp2;go_ret;exact⟨by kernel_rfl,rfl⟩
  go_enter func163,ntmps163;go_wp2;go_ret;exact⟨by kernel_rfl,rfl⟩
 have H:=z7 A;clear A;go_enter func132,ntmps132;go_wp2_with (refine H.o.mono ?_;rintro e w' ⟨rfl,rfl⟩);go_ret;exact⟨rfl,rfl⟩
theorem q4t(a:Option Addr)(n c:Nat)(h:n<=1)(w:World):Calls prog 153 #[.slice a n c,.int .i64 0,.int .i64 n] w fun e w'=>e= .returned (.tuple #[])/\w=w':=by
 have I:¬((1:Int)<n):=wF
 go_enter func153,ntmps153;go_wp2;go_loopw[6] (fun A wr=>A= .int .i64 1/\w=wr) (fun _ _=>0)
 case atStart=>exact⟨rfl,rfl⟩
 case round=>
  obtain⟨rfl,rfl⟩:=hrel;go_wp2
  go_end0
  exact⟨rfl,rfl⟩
theorem q2W(a:Option Addr)(n c:Nat)(h:n<=1)(w:World):Calls prog 131 #[.slice a n c,.int .i64 0,.int .i64 n,.int .i64 n] w fun e w'=>e= .returned (.tuple #[])/\w=w':=by
 have I:(n:Int)<=12:=wF
 have A:IntKind.i64.wrap (n:Int)=n:=q8w wF wF;go_enter func131,ntmps131;go_wp2;refine wp_loop_rounds 1 ?_;rw[rounds_succ];go_wp2_with (go_at_call 153;refine(q4t a n c h _).mono ?_;rintro e w' ⟨rfl,rfl⟩)
 (try simp only[Exit.inBlock,Exit.then])
 refine wU (eK rfl _ _ _) rfl ?_;exact⟨rfl,rfl⟩
theorem q2I(a:Option Addr)(n c:Nat)(h:n<=1)(w:World):Calls prog 94 #[.slice a n c] w fun e w'=>e= .returned (.tuple #[])/\w=w':=by
 have A:IntKind.u64.wrap (n:Int)=n:=q8p wF wF;go_enter func94,ntmps94;go_wp2_with (first
  | (go_at_call 132;refine(bitsLen n h _).mono ?_;rintro e w' ⟨rfl,rfl⟩)
  | (go_at_call 131;refine(q2W a n c h _).mono ?_;rintro e w' ⟨rfl,rfl⟩))
 go_end0
 exact⟨rfl,rfl⟩
theorem q3B:(prog.info? 40).map (fun i=>(i.zero,i.size,i.bytes))=some (some (.int .u32 0),1,4):=by kernel_rfl
theorem z9f{w:World}{B t n:Nat}{v:Value}{N:List Value}(h:w.ownsRow B t 1 v n N):∃a c,v= .slice a n c:=by
 rcases h.2 with⟨A,L⟩|⟨g,I,J,A,_⟩
 .exact⟨none,0,by rw[A,L]⟩
 exact⟨_,_,A⟩
theorem y4N{w:World}{B t g L:Nat}{I:List Int}(h:w.ownsRow B t 1 (.slice (some ⟨g,0,none⟩) I.length L) I.length (I.map z4O)):Go.Sort.Holds z4O w g 0 I.toArray/\g<w.heap.size/\B<=g:=by
 have Y:=h;obtain⟨h0,⟨J,_⟩|⟨g',N,R,J,U,O,h4,h5,h6,h7⟩⟩:=h
 .cases J
 simp only[wO,wK,oh]at J;obtain⟨⟨rfl,_⟩,_,rfl⟩:=J;refine⟨fun j hj=>⟨?_,?_⟩,(wI.1 O).1,U⟩
 .have A:j<I.length:=(by simpa using hj);have:=Y.cellAt j (by simpa using A);rw[uZ];simpa[A]using this
 simp[World.frozen?,O]
theorem z0x.owns{w wr:World}{B t g A:Nat}{I J:List Int}(h:w.ownsRow B t 1 (.slice (some ⟨g,0,none⟩) I.length A) I.length (I.map z4O))(hr:z0x w g 0 I.toArray J.toArray wr)(Y:J.length=I.length):
  wr.ownsRow B t 1 (.slice (some ⟨g,0,none⟩) I.length A) I.length (J.map z4O)/\w.grownBy wr (some g):=by
 obtain⟨m,os,rfl⟩:=hr.eq;have hg:=hr.low;obtain⟨h0,⟨N,_⟩|⟨g',R,L,N,h2,h3,h4,h5,h6,h7⟩⟩:=h
 .cases N
 simp only[wO,wK,oh]at N;obtain⟨⟨rfl,_⟩,_,rfl⟩:=N;have hb:(Go.Sort.grow (Go.Sort.putRow z4O (Go.Sort.ahead w m) g 0 J.toArray) os).heap[g]? =some (.cells (Go.Sort.putCells z4O 0 J.toArray L) t (0,0)):=by
  rw[Go.Sort.heap_grow_old _ _ (by simpa using hg)];simp[Go.Sort.putRow,Go.Sort.mapBlock,Go.Sort.ahead,mi,h3,Go.Sort.onCells]
 refine⟨⟨by simp[Y],.inr ⟨g,A,_,rfl,h2,hb,h4,h5,by simp[Go.Sort.putCells,h6],?_⟩⟩,rfl,rfl,rfl,wH,fun k hk O=>?_⟩
 .rw[tP,<-Y];apply qW;intro j;by_cases U:j<J.length
  .rw[List.getElem?_take_of_lt U,mj];simp[Go.Sort.putCells,U,show j<L.size by omega]
  rw[List.getElem?_take_eq_none wF,uw (by simp;omega)]
 rw[Go.Sort.heap_grow_old _ _ (by simpa using hk)];have:g≠k:=fun e=>O (by rw[e]);simp[Go.Sort.putRow,Go.Sort.mapBlock,Go.Sort.ahead,mi,this]
theorem q3H(B:Nat)(a:Option Addr)(I:Nat)(A:List Int)(w:World)(h:w.ownsRow B 40 1 (.slice a A.length I) A.length (A.map z4O))(hn:A.length<=255):
  Calls prog 94 #[.slice a A.length I] w fun e w'=>e= .returned (.tuple #[])/\w'.ownsRow B 40 1 (.slice a A.length I) A.length ((z1K A).map z4O)/\w.grownBy w' (Value.slice a A.length I).ownBlock:=by
 have N:(z1K A).length=A.length:=by unfold z1K;exact mm A
 cases a with
 | none=>
  have U:A.length=0:=by
   rcases h.2 with⟨J,O⟩|⟨g',L,R,J,_⟩
   .exact O
   cases J
  have hk:A= []:=wT U;subst hk;refine(q2I none 0 I wF w).mono ?_;rintro e w' ⟨rfl,rfl⟩;exact⟨rfl,by simpa[z1K]using h,⟨rfl,rfl,rfl,wJ _,fun _ _ _=>rfl⟩⟩
 | some ad=>
  have hf:=h.2;obtain⟨g,rfl⟩:∃g,ad=⟨g,0,none⟩:=by
   rcases h.2 with⟨J,O⟩|⟨g',L,R,J,_⟩
   .cases J
   simp only[wO,wK]at J;exact⟨g',J.1⟩
  obtain⟨J,O,h3⟩:=y4N h;refine(q5x g 0 I A w J O hn).mono ?_;rintro e w' ⟨rfl,hr⟩;obtain⟨Y,h5⟩:=hr.owns h N;exact⟨rfl,Y,h5⟩

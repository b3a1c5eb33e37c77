/- The walks of slices. -/
import Derived.Test.YtabnnclcpkdkeaaGreatDoorZd
import Derived.Lib.AppendZeros
namespace Go.Proofs.YtabnnclcpkdkeaaGreatDoor
open Go.Proofs.Tryz
set_option linter.all false
set_option maxRecDepth 100000
set_option maxHeartbeats 0
section
open Go.RowKit Go.Maps
theorem q5v(n:Nat)(hl:n<=1099511627776)(w:World):Calls prog 91 #[.slice none 0 0,.int .i64 n] w fun e w'=>∃a c,e= .returned (.slice a 0 c)/\z4P w w.heap.size (.slice a 0 c) [] w':=by
 by_cases h0:n=0
 .subst h0;go_enter func91,ntmps91;go_wp2;go_ret;exact⟨none,0,rfl,uN _ _ _ _,wN _ _,wJ _⟩
 have i0:¬((n:Int)<0):=wF
 have i1:(0:Int)<n:=wF
 obtain⟨i,U,J,L,N⟩:=oq y2c;have O:=fun ty=>Lib.run_append_nil_zeros (P:=prog) w 47 3 ty 5 i (.int .u8 0) .i64 .i64 underlying47 underlying3 U J n wF (by rw[L];decide) wF (by rw[N];omega);have hw:IntKind.i64.wrap (n:Int)=n:=wrap64 wF wF;obtain⟨I,A⟩:=zN (grownCap w n 0 5);rw[<-A]at O;have R:=z7 A;clear A U J L N;go_enter func91,ntmps91;have Y:=z7 O;clear O;go_wp2_with (at_builtin;refine Lib.wpList_append_run _ rfl _ _ _ _ rfl _ _ rfl rfl _ _ (Y.o _) ?_);go_ret;have h1:n<=I:=by rw[R.o];exact grownCap_ge _ _ _ _
 have h2:I<=maxLen:=by rw[R.o];exact rm _ _ _ _ (by unfold maxLen;omega)
 refine⟨_,I,rfl,⟨rfl,.inr ⟨w.heap.size,I,_,rfl,wJ _,j8 w.drew _,uA _,h2,?_,?_⟩⟩,y5n ((wN w.heap.size w.drew).alloc wE _),wH⟩
 .simp[Builtin.zeroCells,Value.cells];omega
 simp[z0c]
def Three(w:World)(g:Nat)(x y z:Bs):Prop:=∃ax nx cx ay ny cy az nz cz,w.heap[g]? =some (.cells #[.slice ax nx cx,.slice ay ny cy,.slice az nz cz] 47 (0,0))/\RdB w (.slice ax nx cx) x/\nx=x.length/\RdB w (.slice ay ny cy) y/\ny=y.length/\RdB w (.slice az nz cz) z/\nz=z.length
theorem q1v(g:Nat)(x y z:Bs)(w:World)(h:Three w g x y z)(hl:x.length+y.length+z.length<=1099511627776):
  Calls prog 45 #[.slice (some ⟨g,0,none⟩) 3 3] w fun e w'=>∃a n c,e= .returned (.slice a n c)/\z6l w w' a n c (x++y++z):=by
 obtain⟨ax,N,cx,ay,R,cy,az,nz,cz,h0,hx,aA,hy,aB,hz,aC⟩:=h;have hg:=(wI.1 h0).1;have c0:w.cell? ⟨g,0,none⟩=some (.slice ax N cx):=by simp[World.cell?,h0]
 have c1:w.cell? ⟨g,1,none⟩=some (.slice ay R cy):=by simp[World.cell?,h0]
 have c2:w.cell? ⟨g,2,none⟩=some (.slice az nz cz):=by simp[World.cell?,h0]
 have HX:=z7 hx;have HY:=z7 hy;have HZ:=z7 hz;have a7:=z7 c0;have a8:=z7 c1;have a9:=z7 c2;have hs:N+R+nz<=1099511627776:=wF
 have g1:IntKind.i64.wrap (N:Int)=N:=wrap64 wF wF;have g2:IntKind.i64.wrap ((N:Int)+R)=(N:Int)+R:=wrap64 wF wF;have g3:IntKind.i64.wrap ((N:Int)+R+nz)=(N:Int)+R+nz:=wrap64 wF wF;have i1:¬((N:Int)<0):=wF
 have i2:¬((N:Int)+R<0):=wF
 have i3:¬((N:Int)+R+nz<0):=wF
 clear h0 hx hy hz aA aB aC;go_enter func45,ntmps45;go_wp2
 go_loop [3,5,11] (fun sv tv iv=>∃i:Nat,i<=3/\iv= .int .i64 i/\sv= .int .i64 ((if 0<i then(N:Int)else 0)+(if 1<i then(R:Int)else 0)+(if 2<i then(nz:Int)else 0))) (fun _ _ iv=>match iv with | .int _ j=>3 - j.toNat|_=>0)
 case atStart=>exact⟨0,wF,rfl,rfl⟩
 case round=>
  obtain⟨i,hi,rfl,rfl⟩:=hrel
  match i,hi with
  | 0,_=>
   simp only[qg,ei,de,qA,Nat.reduceLT,qF,qG];go_wp2;exact⟨⟨1,wF,rfl,wH⟩,wG⟩
  | 1,_=>
   simp only[qg,ei,de,qA,Nat.reduceLT,qF,qG];go_wp2;exact⟨⟨2,wF,rfl,wH⟩,wG⟩
  | 2,_=>
   simp only[qg,ei,de,qA,Nat.reduceLT,qF,qG];go_wp2;exact⟨⟨3,wF,rfl,wH⟩,wG⟩
  | 3,_=>
   simp only[qg,ei,de,qA,Nat.reduceLT,qF,qG];have e3:((N:Int)+R+nz)=((N+R+nz:Nat):Int):=wH;rw[e3]at*;go_wp2_with fail;refine(q5v (N+R+nz) hs w).mono ?_;rintro e w1 ⟨a1,q1,rfl,a6⟩;have a4:=z7 a6;clear a6 c0 c1 c2 g1 g2 g3 i1 i2 i3 e3;go_wp2;go_loopw[6,8,27] (fun ov xv iv wr=>∃(i:Nat) (O:Bs) (a:Option Addr) (n c:Nat),i<=3/\iv= .int .i64 i/\ov= .slice a n c/\Hid (n=O.length)/\Hid (O=(if 0<i then x else [])++(if 1<i then y else [])++(if 2<i then z else []))/\Hid (z4P w w.heap.size (.slice a n c) O wr)) (fun _ _ iv _=>match iv with | .int _ j=>3 - j.toNat|_=>0)
   case atStart=>exact⟨0, [],a1,0,_,wF,rfl,rfl,z7 rfl,z7 rfl,a4⟩
   case round=>
    obtain⟨i,O,a,n,c,hi,rfl,rfl,hn,hO,L⟩:=hrel;have hb:=L.o.2.1;have c0:wr.cell? ⟨g,0,none⟩=some (.slice ax N cx):=(hb.cell (p:=⟨g,0,none⟩) hg).trans a7.o;have c1:wr.cell? ⟨g,1,none⟩=some (.slice ay R cy):=(hb.cell (p:=⟨g,1,none⟩) hg).trans a8.o;have c2:wr.cell? ⟨g,2,none⟩=some (.slice az nz cz):=(hb.cell (p:=⟨g,2,none⟩) hg).trans a9.o;have rx:=z7 (HX.o.low hb);have ry:=z7 (HY.o.low hb);have rz:=z7 (HZ.o.low hb);clear a4
    match i,hi with
    | 0,_=>
     have a0:Hid (O++x=x):=z7 (by rw[hO.o];simp);have a2:Hid (O.length<=0):=z7 (by rw[hO.o];simp);go_wp2_with (at_builtin;refine wpList_copy_own rfl _ _ 47 rfl w w.heap.size 5 underlying47 (by kernel_rfl) _ O rfl (by exact L.o) _ x rfl (by exact rx.o) (by have:=a2.o;omega) ?_;intro a1 Y w1 A J;obtain⟨n1,I⟩:=zN ((O++x).length);rw[<-I]at A ⊢;have N1:=z7 I;have U:=z7 A;have a3:=z7 J;skip;clear I A J);refine⟨⟨1,O++x,a1,n1,Y,wF,rfl,rfl,N1,z7 (by rw[a0.o];simp),U⟩,wG⟩
    | 1,_=>
     have a0:Hid (O++y=x++y):=z7 (by rw[hO.o];simp);have a2:Hid (O.length<=x.length):=z7 (by rw[hO.o];simp);go_wp2_with (at_builtin;refine wpList_copy_own rfl _ _ 47 rfl w w.heap.size 5 underlying47 (by kernel_rfl) _ O rfl (by exact L.o) _ y rfl (by exact ry.o) (by have:=a2.o;omega) ?_;intro a1 Y w1 A J;obtain⟨n1,I⟩:=zN ((O++y).length);rw[<-I]at A ⊢;have N1:=z7 I;have U:=z7 A;have a3:=z7 J;skip;clear I A J);refine⟨⟨2,O++y,a1,n1,Y,wF,rfl,rfl,N1,z7 (by rw[a0.o];simp),U⟩,wG⟩
    | 2,_=>
     have a0:Hid (O++z=x++y++z):=z7 (by rw[hO.o];simp);have a2:Hid (O.length<=x.length+y.length):=z7 (by rw[hO.o];simp);go_wp2_with (at_builtin;refine wpList_copy_own rfl _ _ 47 rfl w w.heap.size 5 underlying47 (by kernel_rfl) _ O rfl (by exact L.o) _ z rfl (by exact rz.o) (by have:=a2.o;omega) ?_;intro a1 Y w1 A J;obtain⟨n1,I⟩:=zN ((O++z).length);rw[<-I]at A ⊢;have N1:=z7 I;have U:=z7 A;have a3:=z7 J;skip;clear I A J);refine⟨⟨3,O++z,a1,n1,Y,wF,rfl,rfl,N1,z7 (by rw[a0.o];simp),U⟩,wG⟩
    | 3,_=>
     have a5:Hid (O=x++y++z):=z7 (by rw[hO.o];simp);clear c0 c1 c2 hO;go_wp2;go_ret;refine⟨a,n,c,rfl,?_,by rw[<-a5.o];exact hn.o,hb⟩;have h1:=L.o.1;rw[<-hn.o,a5.o]at h1;exact h1
def z7S(K:List Bool)(i:Nat):Bool:=(K[i]?).getD false
def z2S(K:List Bool):Nat->Int
 | 0=> -1
 | n+1=>if z7S K n then n else z2S K n
def y0Y(torn last:Int)(i:Nat)(b:Bs):Bs:=if(i:Int)=last/\0<=torn/\torn<b.length then b.take torn.toNat else b
def z3N(k:Bs)(G:List (Bs×Int)):Int:=(z0J k G).getD 0
def z8D(K:List Bool)(torn last:Int)(i:Nat)(p:Bs×Bs)(st:List (Bs×Bs)×List (Bs×Int)):List (Bs×Bs)×List (Bs×Int):=
 if z7S K i then(z1d z1O p.1 ((z0J p.1 st.1).getD []++List.replicate (z3N p.1 st.2).toNat 0++y0Y torn last i p.2) st.1,z1d z1O p.1 0 st.2)
 else(st.1,z1d z1O p.1 (z3N p.1 st.2+p.2.length) st.2)
def z5L(K:List Bool)(torn last:Int)(L:List (Bs×Bs))(F:List (Bs×Bs)):Nat->List (Bs×Bs)×List (Bs×Int)
 | 0=>(F, [])
 | n+1=>match L[n]? with
  | some p=>z8D K torn last n p (z5L K torn last L F n)
  | none=>z5L K torn last L F n
def y5g(s:FsS)(K:List Bool)(torn:Int):FsS:=
 {s with files:=(z5L K torn (z2S K s.waits.length) s.waits s.files s.waits.length).1,waits:= [],left:=none,halted:=false}
def RdK(w:World)(x:Value)(K:List Bool):Prop:=Rd w x 1 K.length (K.map Value.bool)
theorem RdK.low{w w':World}{x:Value}{K:List Bool}(h:RdK w x K)(hb:Below w.heap.size w w'):RdK w' x K:=Rd.low h hb
theorem RdK.chg0{w w':World}{a:Option Addr}{n c:Nat}{K:List Bool}{F A:List Nat}(h:RdK w (.slice a n c) K)(U:n=K.length)(O:Chg F A w w')(hd:0<n->∀k,(Value.slice a n c).ownBlock=some k->k∉F):RdK w' (.slice a n c) K:=by
 by_cases J:0<n
 .exact Rd.chg h O (hd J)
 have N:K= []:=wT wF;subst N;refine⟨h.1,h.2.imp id ?_⟩;rintro⟨I,c',L,_⟩;exact⟨I,c',L,fun j u R=>by simp at R⟩
theorem RdK.at{w:World}{x:Value}{K:List Bool}(h:RdK w x K){k:Nat}(J:k<K.length):∃b A c,x= .slice (some ⟨b,A,none⟩) K.length c/\w.cell? ⟨b,A+k,none⟩=some (.bool K[k])/\b<w.heap.size:=by
 obtain⟨b,A,c,rfl,I,hb⟩:=Rd.addr h wF wF;exact⟨b,A,c,rfl,I k _ (by simp[J]),hb⟩
theorem y3c(a:Option Addr)(n c:Nat)(A:Int)(K:List Bool)(i:Nat)(w:World)(L:RdK w (.slice a n c) K)(R:n=K.length)(hl:n<=1048576)(hi:i<=1048576):
  Calls prog 44 #[.agg #[.slice a n c,.int .i64 A],.int .i64 i] w fun e w'=>e= .returned (.bool (z7S K i))/\Below w.heap.size w w':=by
 have hb:=q5 w (.cells #[.slice a n c,.int .i64 A] 25);have N:=z7 hb;have J:=z7 (L.low hb);by_cases Y:i<n
 .have i0:(i:Int)<n:=wF
  obtain⟨bb,a1,cc,O,U,a0⟩:=RdK.at J.o (k:=i) wF;simp only[wO]at O;obtain⟨rfl, -⟩:=O;have I:z7S K i=K[i]'wF:=by unfold z7S;rw[wL wF];rfl
  rw[I]
  generalize K[i]'wF=y at U
  clear I L hb R J;go_enter func44,ntmps44;go_wp2;go_ret;exact⟨rfl,N.o⟩
 have i0:¬((i:Int)<n):=wF
 have I:z7S K i=false:=by unfold z7S;rw[uw wF];rfl
 rw[I];clear I L hb R J;go_enter func44,ntmps44;go_wp2;go_ret;exact⟨rfl,N.o⟩
end
section
open Go.RowKit Go.ChangeShapes Go.WideShapes Go.ChangeAt Go.Deep
theorem open_bools{H:Type}{enc:TypeId×Value->H}{W:World}{A:Nat}{cs:List Value}{x:DataW H×List MemPlace}(h:DataW.trod enc prog W 0 (fun _=>true) true A 23 cs=some x):
  ∃(a:Option Addr) (n c:Nat) (K:List Bool),cs= [.slice a n c]/\RdK W (.slice a n c) K/\n=K.length:=by
 rcases open_slice underlying23 h with⟨rfl,_⟩|⟨a,I,J,m,n,D,Pl,rfl,_,hl,hm,O,_,hi⟩
 .exact⟨_,_,_, [],rfl,⟨wH,.inl ⟨rfl,rfl⟩⟩,rfl⟩
 simp only[de]at O;have hC:prog.cellsOf 4=1:=by kernel_rfl
 have key:∀i,i<I->∃y:Bool,W.cell? (a.add i)=some (.bool y):=by
  intro i a1;obtain⟨Y,R,ht⟩:=hi i wF;rw[hC,tP]at R;obtain⟨_,a0,L⟩:=tJ R;obtain⟨z,rfl,_⟩:=DataW.trod_bool underlying4 ht;have h0:=L 0 wF;exact⟨z,by simpa[Addr.add]using h0⟩
 obtain⟨b,N,hb⟩:=z8g I key;subst N;refine⟨_,_,_,b,rfl,⟨wH,.inr ⟨a,J,rfl,fun j u U=>?_⟩⟩,rfl⟩;simp only[uF,uM]at U;obtain⟨y,hy,rfl⟩:=U;obtain⟨hj,rfl⟩:=wY.1 hy;exact hb j hj
theorem q1T{H:Type}{enc:TypeId×Value->H}{W:World}{base:Nat}{v:Value}{d:DataW H}{p:List MemPlace}(hv:Value.okWide prog W .any base 25 v)(h:DataW.Trod enc prog W 0 (fun _=>true) true 25 v d p):
  ∃(a:Option Addr) (n c:Nat) (K:List Bool) (t:Int),v= .agg #[.slice a n c,.int .i64 t]/\RdK W (.slice a n c) K/\n=K.length/\ -9223372036854775808<=t/\t<=9223372036854775807:=by
 obtain⟨cs,rfl,I⟩:=okWide_struct underlying25 hv;obtain⟨l⟩:=cs;have L:prog.cellsOf 25=2:=by kernel_rfl
 have J:prog.cellsOf 23=1:=by kernel_rfl
 have k3:prog.cellsOf 3=1:=by kernel_rfl
 match l,I.trans L with
 | [x0,x1],_=>
  obtain⟨R,hf⟩:=h;obtain⟨xs,n,_,_,_,A,U⟩:=qU underlying25 hf
  match xs,A with
  | [y0,y1],_=>
   obtain⟨a,m,c,K,N,hr,hm⟩:=open_bools (by simpa[Value.cells,J]using U 0 _ rfl:DataW.trod enc prog W 0 (fun _=>true) true n 23 [x0]=some y0);obtain⟨z,O,_,Y⟩:=qM underlying3 (by simpa[Value.cells,k3]using U 1 _ rfl:DataW.trod enc prog W 0 (fun _=>true) true n 3 [x1]=some y1);simp only[mz,dc]at N O;subst N O;exact⟨a,m,c,K,z,rfl,hr,hm,(wf_i64 Y).1,(wf_i64 Y).2⟩
end

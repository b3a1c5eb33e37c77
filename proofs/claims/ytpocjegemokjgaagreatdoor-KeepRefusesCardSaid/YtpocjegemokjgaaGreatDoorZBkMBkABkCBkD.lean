/-
  Plain: a chunk of so many samples has at most 160 bits for each.
-/
import Derived.Test.YtpocjegemokjgaaGreatDoorZChDChE
import Derived.Test.YtpocjegemokjgaaGreatDoorZLoReg6Reg7Reg8
import Derived.Test.YtpocjegemokjgaaGreatDoorZKeySoFSoHSoI
namespace Go.Proofs.YtpocjegemokjgaaGreatDoor
open Go.Proofs.Tryz
set_option linter.all false
set_option maxRecDepth 100000
set_option maxHeartbeats 12800000
section
open Go.RowKit
theorem z6w{w n:Nat}{l r:List Bool}(h:rdN w l=some (n,r)):l.length=w+r.length:=by
 unfold rdN at h;split at h
 ·simp only[Option.some.injEq,Prod.mk.injEq]at h;rw[<-h.2,List.length_drop];omega
 ·cases h
theorem y8F{v:Int}{l r:List Bool}(h:z8l l=some (v,r)):l.length<=69+r.length:=by
 obtain⟨B,A,I,J⟩:=y0G h;have L:=y5h v;rw[A,List.length_append];omega
theorem y6T{e:z1M}{t d:Int}{l r:List Bool}(h:z5W e l=some (t,d,r)):l.length<=69+r.length:=by
 unfold z5W at h;split at h
 ·simp only[Option.map_eq_some_iff,Prod.mk.injEq]at h;obtain⟨⟨R,p2⟩,B,N,O,I⟩:=h;have A:=z6w B;rw[<-I];show l.length<=69+p2.length;omega
 ·split at h
  ·cases h
  ·rename_i L U J;have A:=y8F J;split at h
   ·simp only[Option.some.injEq,Prod.mk.injEq]at h;rw[<-h.2.2];exact A
   ·cases h
theorem y9n{s s':z4Z}{v:Nat}{l r:List Bool}(hw:s.width<=64)(h:z3P s l=some (v,s',r)):l.length<=77+r.length:=by
 unfold z3P at h;split at h
 ·simp only[Option.map_eq_some_iff,Prod.mk.injEq]at h;obtain⟨⟨p1,p2⟩,L,U,Y,N⟩:=h;have J:=z6w L;rw[<-N];show l.length<=77+p2.length;omega
 ·split at h
  ·simp only[Option.some.injEq,Prod.mk.injEq]at h;rw[<-h.2.2,List.length_cons];omega
  ·split at h
   ·cases h
   ·rename_i d r' R;have J:=z6w R;split at h
    ·cases h
    ·simp only[Option.some.injEq,Prod.mk.injEq]at h;rw[<-h.2.2];simp only[List.length_cons];omega
  ·split at h
   ·cases h
   ·rename_i ld r1 A;have J:=z6w A;split at h
    ·cases h
    ·rename_i z r2 B;have h6:=z6w B;split at h
     ·cases h
     ·rename_i O;split at h
      ·cases h
      ·rename_i d r3 I;have h7:=z6w I;split at h
       ·cases h
       ·simp only[Option.some.injEq,Prod.mk.injEq]at h;rw[<-h.2.2];simp only[List.length_cons];omega
  ·cases h
theorem y4b{s:z4Z}(h:z1k s=true):s.width<=64:=by
 unfold z1k at h;split at h
 ·have:=of_decide_eq_true h;omega
 ·have:=of_decide_eq_true h;rw[this];simp[zeroV]
theorem y5g{e A:z1M}{s:z1c}{l r:List Bool}(B:e.Ok)(h:z1n e l=some (s,A,r)):l.length<=146+r.length:=by
 unfold z1n at h;split at h
 ·cases h
 ·rename_i t d O I;have L:=y6T I;split at h
  ·cases h
  ·rename_i v k R J;have N:=y9n (y4b B.val) J;simp only[Option.some.injEq,Prod.mk.injEq]at h;rw[<-h.2.2];omega
theorem y2V:∀{f:Nat} {e:z1M} {k:Nat} {l:List Bool} {A:List z1d},e.Ok->z3e f e k l=some A->l.length<=146*A.length
 | f,e,k, [],A,he,h=>by simp
 | 0,e,k,b::l,A,he,h=>by cases h
 | f+1,e,k,b::l,A,he,h=>by
  unfold z3e at h;cases hc:z1n e (b::l)with
  | none=>rw[hc]at h;cases h
  | some p=>
   obtain⟨s,N,r⟩:=p;rw[hc]at h;simp only[Option.map_eq_some_iff]at h;obtain⟨L,B,I⟩:=h;have O:=y2V (z1N he hc).2.2.1 B;have J:=y5g he hc;rw[<-I];simp only[List.length_cons]at J ⊢;omega
theorem y2A{l:List Bool}{A:List z1d}(h:z5o l=some A):l.length<=146*A.length:=y2V z4R h
structure z0N where
 l:List Bool
 st:List z1d
structure z0N.Ok (p:z0N):Prop where
 rd:z5o p.l=some p.st
 len:p.st.length<=24
theorem z0N.Ok.bits{p:z0N}(h:p.Ok):p.l.length<=3504:=by have:=y2A h.rd;have:=h.len;omega
abbrev z1J:z0N:=⟨[], []⟩
theorem y3s:z1J.Ok:=⟨rfl,by simp⟩
structure z0U where
 done:List z0N
 cur:z0N
structure z0U.Ok (s:z0U):Prop where
 done:∀p∈s.done,p.Ok/\0<p.st.length
 cur:s.cur.Ok
abbrev z6d:z0U:=⟨[],z1J⟩
theorem y9G:z6d.Ok:=⟨(fun p A=>by cases A),y3s⟩
def y1e(p:z0N):Int:=(z0m z0h p.st).last
def z3S(s:List z0N):Int:=match s.getLast? with|none=>0|some p=>y1e p
def z5y(s:List z0N):Bool:=!s.isEmpty
def z6k(s:z0U):Int×Bool:=if 0<s.cur.st.length then(y1e s.cur,true)else(z3S s.done,z5y s.done)
def z5f(s:z0U)(p:z0N)(closed:Bool):z0U:=if closed then⟨s.done++ [p],z1J⟩else⟨s.done,p⟩
def z2T(p:z0N)(s:z1c):z0N:=⟨p.l++(z3a (z0m z0h p.st) s).1,p.st++ [⟨s,(z3a (z0m z0h p.st) s).2,p.l.length+(z3a (z0m z0h p.st) s).1.length⟩]⟩
theorem q3v{p:z0N}{s:z1c}(h:p.Ok)(I:p.st.length<24)(A:s.Ok)(B:0<p.st.length->y1e p<s.t):(z2T p s).Ok:=
 ⟨q1M h.rd A B,by unfold z2T;simp only[List.length_append,List.length_cons,List.length_nil];omega⟩
end
section
open Go.RowKit Go.Maps
structure z1r where
 a:Option Addr
 c:Nat
 b:List UInt8
 ea:Option Addr
 ec:Nat
 p:z0N
def z1r.vals(x:z1r)(cl:Bool):List Value:= [.slice x.a x.b.length x.c,.int .i64 (x.p.l.length:Nat),.slice x.ea x.p.st.length x.ec,.int .i64 ((z0m z0h x.p.st).n:Nat),.int .i64 (z0m z0h x.p.st).last,.int .i64 (z0m z0h x.p.st).delta,.bool (z0m z0h x.p.st).val.has,.int .u64 ((z0m z0h x.p.st).val.prev:Nat),.int .u8 ((z0m z0h x.p.st).val.lead:Nat),.int .u8 ((z0m z0h x.p.st).val.width:Nat),.bool cl]
theorem z1r.vals_len(x:z1r)(cl:Bool):(x.vals cl).length=11:=rfl
structure z1r.Ok (T:Nat->Prop) (w:World) (x:z1r):Prop where
 rd:Kept T w fun w=>z0r w x.a x.b.length x.c x.p.l x.b
 ends:Kept T w fun w=>Rd w (.slice x.ea x.p.st.length x.ec) 1 x.p.st.length (z2p (z1p x.p.st))
 ok:x.p.Ok
 cap:x.p.st.length<=x.ec
theorem z1r.Ok.next{T:Nat->Prop}{w w':World}{x:z1r}(h:x.Ok T w)(A:∀k,T k->w'.heap[k]? =w.heap[k]?):x.Ok T w':=⟨h.rd.next A,h.ends.next A,h.ok,h.cap⟩
theorem z1r.Ok.mono{T A:Nat->Prop}{w:World}{x:z1r}(h:x.Ok T w)(B:∀k,T k->A k):x.Ok A w:=⟨h.rd.mono B,h.ends.mono B,h.ok,h.cap⟩
abbrev z1K:z1r:=⟨none,0, [],none,0,z1J⟩
theorem y4U:z1K.vals false= [.slice none 0 0,.int .i64 0,.slice none 0 0,.int .i64 0,.int .i64 0,.int .i64 0,.bool false,.int .u64 0,.int .u8 0,.int .u8 0,.bool false]:=rfl
theorem y2G(T:Nat->Prop)(w:World):z1K.Ok T w:=
 ⟨fun w' _=>⟨by exact z0e (World.ownsRow_nil w' 0 5 1),rfl,by exact z0R.nil⟩,fun w' _=>by exact z0e (World.ownsRow_nil w' 0 3 1),y3s,Nat.le_refl _⟩
structure z0C where
 sb:Nat
 g:Nat
 cap:Nat
 T:Nat->Prop
 done:List z1r
 cur:z1r
def z0C.In(X:z0C)(k:Nat):Prop:=k=X.sb\/k=X.g\/X.T k
def z0C.ser(X:z0C):z0U:=⟨X.done.map z1r.p,X.cur.p⟩
def z0C.cells(X:z0C):List Value:=X.done.flatMap (fun x=>x.vals true)++X.cur.vals false
theorem z7B(l:List z1r)(b:Bool):(l.flatMap (fun x=>x.vals b)).length=l.length*11:=by
 induction l with
 | nil=>rfl
 | cons x l ih=>rw[List.flatMap_cons,List.length_append,ih,z1r.vals_len,List.length_cons];omega
theorem z0C.cells_at(X:z0C){j:Nat}(A:j<11):X.cells[X.done.length*11+j]? =(X.cur.vals false)[j]? :=by
 unfold z0C.cells;rw[List.getElem?_append_right (by rw[z7B];omega),z7B]
 congr 1
 omega
structure z0D (w:World) (X:z0C):Prop where
 blk:w.heap[X.sb]? =some (.cells #[.slice (some ⟨X.g,0,none⟩) (X.done.length+1) X.cap,.int .i64 (z3S X.ser.done),.bool (z5y X.ser.done)] 91 (0,0))
 row:w.ownsRow 0 100 11 (.slice (some ⟨X.g,0,none⟩) (X.done.length+1) X.cap) (X.done.length+1) X.cells
 ne:X.sb≠X.g
 far:¬X.T X.sb/\¬X.T X.g
 lt:∀k,X.T k->k<w.heap.size
 done:∀x∈X.done,x.Ok X.T w/\0<x.p.st.length
 cur:X.cur.Ok X.T w
theorem z0D.lts{w:World}{X:z0C}(h:z0D w X):∀k,X.In k->k<w.heap.size:=by
 rintro k (rfl|rfl|A)
 ·exact(Array.getElem?_eq_some_iff.1 h.blk).1
 ·exact(h.row.lt X.g rfl).2
 ·exact h.lt k A
theorem z0D.keep{w w':World}{X:z0C}(h:z0D w X)(A:∀k,X.In k->w'.heap[k]? =w.heap[k]?)(J:w.heap.size<=w'.heap.size):z0D w' X:=by
 have B:∀k,X.T k->w'.heap[k]? =w.heap[k]? :=fun k B=>A k (.inr (.inr B));refine⟨(A _ (.inl rfl)).trans h.blk,j7 h.row fun b hb=>?_,h.ne,h.far,fun k A=>Nat.lt_of_lt_of_le (h.lt k A) J,fun x I=>⟨(h.done x I).1.next B,(h.done x I).2⟩,h.cur.next B⟩;simp only[Value.ownBlock,Option.some.injEq]at hb;exact A b (.inr (.inl hb.symm))
theorem z0D.low{w w':World}{X:z0C}(h:z0D w X)(hb:Below w.heap.size w w'):z0D w' X:=h.keep (fun k A=>hb.block k (h.lts k A)) hb.size
theorem z0D.ok{w:World}{X:z0C}(h:z0D w X):X.ser.Ok:=
 ⟨fun p B=>by
  obtain⟨x,A,rfl⟩:=List.mem_map.1 B;exact⟨(h.done x A).1.ok,(h.done x A).2⟩,h.cur.ok⟩
theorem z0D.at{w:World}{X:z0C}(h:z0D w X){j:Nat}{v:Value}(L:(X.cur.vals false)[j]? =some v):w.cell? ⟨X.g,X.done.length*11+j,none⟩=some v:=by
 have A:=(z0e h.row).2;have I:j<11:=by
  have:=(List.getElem?_eq_some_iff.1 L).1
  rwa [z1r.vals_len]at this
 rcases A with A|⟨O,R,A,N⟩
 ·exact absurd A.2 (by omega)
 ·have J:=N (X.done.length*11+j) v (by rw[X.cells_at I];exact L);simp only[Value.slice.injEq,Option.some.injEq]at A;rw[<-A.1]at J;have B:(⟨X.g,0,none⟩:Addr).add (X.done.length*11+j)=⟨X.g,X.done.length*11+j,none⟩:=by unfold Addr.add;split<;>simp_all
  rw[B]at J;exact J
theorem z0D.cells{w:World}{X:z0C}(h:z0D w X):w.cell? ⟨X.sb,0,none⟩=some (.slice (some ⟨X.g,0,none⟩) (X.done.length+1) X.cap)/\w.cell? ⟨X.sb,1,none⟩=some (.int .i64 (z3S X.ser.done))/\w.cell? ⟨X.sb,2,none⟩=some (.bool (z5y X.ser.done))/\∀j,w.frozen? ⟨X.sb,j,none⟩=false:=cells3 h.blk
theorem z7D(X:z0C)(O:X.done.length<=1000000000)(w:World)(h:z0D w X):
  Calls prog 37 #[.pointer (some ⟨X.sb,0,none⟩)] w fun e w'=>e= .returned (.pointer (some ⟨X.g,X.done.length*11,none⟩))/\Below w.heap.size w w':=by
 obtain⟨c0, -, -, -⟩:=h.cells;have L:=h.lts X.sb (.inl rfl);obtain⟨U,I⟩:=zN X.sb;obtain⟨g,J⟩:=zN X.g;obtain⟨n,A⟩:=zN X.done.length;obtain⟨cap,B⟩:=zN X.cap;rw[<-I,<-J,<-A,<-B]at c0;rw[<-I]at L ⊢;rw[<-J,<-A];rw[<-A]at O;clear h I J A B;have R:IntKind.i64.wrap ((n:Int)+1 - 1)=(n:Int):=by rw[IntKind.wrap_i64];omega
 have N:(0:Int)<=n/\(n:Int)<n+1:=by omega
 go_enter func37,ntmps37;go_wp2_with fail;go_quiet (fail)
 go_wp2;go_ret;exact⟨rfl,z0k (Below.refl _ _)⟩
theorem z1r.Ok.n{T:Nat->Prop}{w:World}{x:z1r}(h:x.Ok T w):(z0m z0h x.p.st).n=x.p.st.length:=(z3C h.ok.rd).2.1
theorem y0v(X:z0C)(hn:X.done.length<=1000000000)(w:World)(h:z0D w X):
  Calls prog 82 #[.pointer (some ⟨X.sb,0,none⟩)] w fun e w'=>e= .returned (.tuple #[.int .i64 (z6k X.ser).1,.bool (z6k X.ser).2])/\Below w.heap.size w w':=by
 have J:=h.cur.n;have N:=z7 (z7D X hn w h);have O:=z7 h;have a0:=h.lts X.sb (.inl rfl);have Y:=h.lts X.g (.inr (.inl rfl));by_cases h0:0<X.cur.p.st.length
 ·have B:z6k X.ser=(y1e X.cur.p,true):=if_pos h0;rw[B];have U:decide (0<(z0m z0h X.cur.p.st).n)=true:=decide_eq_true (by omega);go_enter func82,ntmps82;go_wp2_with fail;refine N.o.mono ?_;rintro e w1 ⟨rfl,hb⟩;have A:=O.o.low hb;have c3:=A.at (j:=3) rfl;have c4:=A.at (j:=4) rfl;have L:=z7 hb;have I:=A.lts X.g (.inr (.inl rfl));clear hb A B J;go_wp2;go_ret2;exact⟨rfl,L.o⟩
 ·have B:z6k X.ser=(z3S X.ser.done,z5y X.ser.done):=if_neg h0;rw[B];have U:decide (0<(z0m z0h X.cur.p.st).n)=false:=decide_eq_false (by omega);go_enter func82,ntmps82;go_wp2_with fail;refine N.o.mono ?_;rintro e w1 ⟨rfl,hb⟩;have A:=O.o.low hb;have c3:=A.at (j:=3) rfl;obtain⟨x0,x1,x2,xf⟩:=A.cells;have L:=z7 hb;have I:=A.lts X.g (.inr (.inl rfl));have R:=A.lts X.sb (.inl rfl);clear hb A B J;go_wp2_with fail;go_quiet (fail)
  go_wp2;go_ret2;exact⟨rfl,z0k L.o⟩
def z2v(s:z0U):Nat×Nat×Nat:=(s.done.length,s.cur.l.length,s.cur.st.length)
theorem z0C.done_len(X:z0C):X.ser.done.length=X.done.length:=by unfold z0C.ser;simp
theorem y6r(X:z0C)(hn:X.done.length<=1000000000)(w:World)(h:z0D w X):
  Calls prog 55 #[.pointer (some ⟨X.sb,0,none⟩)] w fun e w'=>e= .returned (z4z (z2v X.ser))/\Below w.heap.size w w':=by
 have B:=z7 ((Loc.start w).new (.cells #[.int .u32 0,.int .u32 0,.int .u32 0] 45));have HL:=z7 (z7D X hn _ (h.low B.o.low));have HS:=z7 (h.low B.o.low);have R:z2v X.ser=(X.done.length,X.cur.p.l.length,X.cur.p.st.length):=by unfold z2v;rw[X.done_len];rfl
 rw[R];have O:=h.cur.ok.bits;have U:=h.cur.ok.len;have a0:IntKind.i64.wrap ((X.done.length:Int)+1 - 1)=(X.done.length:Int):=by rw[IntKind.wrap_i64];omega
 have a1:IntKind.u32.wrap (X.done.length:Int)=(X.done.length:Int):=by rw[IntKind.wrap_u32];omega
 have a2:IntKind.u32.wrap (X.cur.p.l.length:Int)=(X.cur.p.l.length:Int):=by rw[IntKind.wrap_u32];omega
 have a3:IntKind.u32.wrap (X.cur.p.st.length:Int)=(X.cur.p.st.length:Int):=by rw[IntKind.wrap_u32];omega
 clear h R;go_enter func55,ntmps55;go_wp2_with fail;refine HL.o.mono ?_;rintro e Y ⟨rfl,hb⟩;have N:=z7 (B.o.call hb);have J:=z7 (HS.o.low hb);clear hb;go_wp2_with fail;refine q6 20 26 (fun D v w'=>Below Y.heap.size Y w') (Below.refl _ _).drew ?_;simp only[z0v];iterate 20 (refine q8.rd (e:=?_) (fun D v w' hD A=>?_) ?_;rotate_left;(obtain⟨x0,x1,x2,xf⟩:=(J.o.low A).cells;have a4:=(J.o.low A).lts X.sb (.inl rfl);have a5:=(J.o.low A).lts X.g (.inr (.inl rfl));have c1:=(J.o.low A).at (j:=1) rfl;have c2:=(J.o.low A).at (j:=2) rfl;clear A hD;go_simp;try with_reducible rfl);go_simp)
 refine q8.fin (fun v w3 A=>?_);have I:=z7 (N.o.call A);clear A;obtain⟨y0,y1,y2,yf⟩:=cells3 (I.o.get 0 rfl);have l0:=I.o.lt 0 rfl;go_wp2;have L:=I.o.set3 0 rfl (.int .u32 (X.done.length:Nat)) (.int .u32 (X.cur.p.l.length:Nat)) (.int .u32 (X.cur.p.st.length:Nat));refine bodyPost_ret (y2Q rfl _ _ w.heap.size _ _ _ rfl (L.get 0 rfl) rfl) rfl ?_;exact⟨rfl,L.low⟩
structure z0j where
 most:Nat
 size:Nat
 all:List (Int×z0U)
def q2t:Value->Bool
 | .pointer _=>true
 | _=>false
def q6e(X:z0C):Value:= .pointer (some ⟨X.sb,0,none⟩)
abbrev z9P (w:World) (mb:Nat) (E:List (Int×z0C)):Prop:=z3J w prog 40 z4p q2t q6e mb E
theorem z7h(w:World):(zeroValue 92).run prog w= .ok (.pointer none) w:=by kernel_rfl
def z0g(b:z0j)(id:Nat):z0U:=(z0P (id:Int) b.all).getD z6d
structure z0q (w:World) (bb mb:Nat) (E:List (Int×z0C)) (b:z0j) (B:Nat) (S:Nat->Prop):Prop where
 blk:w.heap[bb]? =some (.cells #[.int .i64 (b.most:Nat),.int .i64 (b.size:Nat),.map (some mb)] 122 (0,0))
 map:z9P w mb E
 ne:bb≠mb
 own:S bb/\S mb
 each:∀p∈E,z0D w p.2/\∀k,p.2.In k->S k/\k≠bb/\k≠mb
 apart:∀p∈E,∀q∈E,p.1≠q.1->∀k,p.2.In k->¬q.2.In k
 lo:∀k,S k->B<=k/\k<w.heap.size
 all:b.all=E.map fun p=>(p.1,p.2.ser)
 few:E.length<=b.most/\b.most<=64
 size:1<=b.size/\b.size<=24
theorem z0q.keep{w w':World}{A L B:Nat}{E:List (Int×z0C)}{b:z0j}{S:Nat->Prop}(h:z0q w A L E b B S)(I:∀k,S k->w'.heap[k]? =w.heap[k]?)(O:w.heap.size<=w'.heap.size):z0q w' A L E b B S:=
 ⟨(I A h.own.1).trans h.blk,h.map.same (I L h.own.2),h.ne,h.own,fun p J=>⟨(h.each p J).1.keep (fun k R=>I k ((h.each p J).2 k R).1) O,(h.each p J).2⟩,h.apart,fun k N=>⟨(h.lo k N).1,Nat.lt_of_lt_of_le (h.lo k N).2 O⟩,h.all,h.few,h.size⟩
theorem z0q.low{w w':World}{A I B:Nat}{E:List (Int×z0C)}{b:z0j}{S:Nat->Prop}(h:z0q w A I E b B S)(hb:Below w.heap.size w w'):z0q w' A I E b B S:=h.keep (fun k J=>hb.block k (h.lo k J).2) hb.size
theorem z0q.only{w w':World}{A J B:Nat}{E:List (Int×z0C)}{b:z0j}{S S':Nat->Prop}(h:z0q w A J E b B S)(hb:z0t S' w w')(hd:∀k,S k->¬S' k):z0q w' A J E b B S:=h.keep (fun k I=>hb.block k (h.lo k I).2 (hd k I)) hb.size
theorem z8N{α β:Type}(f:α->β)(k:Int)(E:List (Int×α)):z0P k (E.map fun p=>(p.1,f p.2))=(z0P k E).map f:=by
 unfold z0P
 induction E with
 | nil=>rfl
 | cons p E ih=>
  rw[List.map_cons,List.find?_cons,List.find?_cons];by_cases h:p.1=k
  ·simp[h]
  ·simp only[h,decide_false];exact ih
theorem z0q.get{w:World}{A I B:Nat}{E:List (Int×z0C)}{b:z0j}{S:Nat->Prop}(h:z0q w A I E b B S)(id:Nat):z0g b id=((z0P (id:Int) E).map z0C.ser).getD z6d:=by
 unfold z0g;rw[h.all,z8N]
theorem z0q.cells{w:World}{A I B:Nat}{E:List (Int×z0C)}{b:z0j}{S:Nat->Prop}(h:z0q w A I E b B S):w.cell? ⟨A,0,none⟩=some (.int .i64 (b.most:Nat))/\w.cell? ⟨A,1,none⟩=some (.int .i64 (b.size:Nat))/\w.cell? ⟨A,2,none⟩=some (.map (some I))/\∀j,w.frozen? ⟨A,j,none⟩=false:=cells3 h.blk
theorem q1b(A size:Nat)(N:1<=A/\A<=64)(O:1<=size/\size<=24)(w:World):
  Calls prog 17 #[.int .i64 A,.int .i64 size] w fun e w'=>∃L mb S,e= .returned (.pointer (some ⟨L,0,none⟩))/\z0q w' L mb [] ⟨A,size, []⟩ w.heap.size S/\Below w.heap.size w w':=by
 have i0:¬((A:Int)<1):=by omega
 have i1:¬((64:Int)<A):=by omega
 have i2:¬((size:Int)<1):=by omega
 have i3:¬((24:Int)<size):=by omega
 have i4:¬((A:Int)>64):=by omega
 have i5:¬((size:Int)>24):=by omega
 have Y:= @run_makeMap prog;go_enter func17,ntmps17;go_wp2;go_ret;have B:=q5 w (.map #[] 0);have I:=B.trans ((q5 (w.alloc (.map #[] 0)) (.cells #[.int .i64 A,.int .i64 size,.map (some w.heap.size)] 122)).mono (by simp));have R:=j8 (w.alloc (.map #[] 0)) (.cells #[.int .i64 A,.int .i64 size,.map (some w.heap.size)] 122);refine⟨w.heap.size+1,rfl,⟨w.heap.size,fun k=>k=w.heap.size\/k=w.heap.size+1,⟨?_,?_,by omega,⟨.inr rfl,.inl rfl⟩,(fun p J=>by cases J),(fun p J=>by cases J),fun k U=>?_,rfl,⟨by simp,N.2⟩,O⟩⟩,I⟩
 ·simpa using R
 ·exact z3J.low (y3i w) (q5 _ _)
 ·rcases U with rfl|rfl
  ·exact⟨Nat.le_refl _,by simp;omega⟩
  ·exact⟨by omega,by simp⟩
theorem q4o{w:World}{B g:Nat}(I:w.heap[g]? =some (.cells #[.slice none 0 0,.int .i64 0,.slice none 0 0,.int .i64 0,.int .i64 0,.int .i64 0,.bool false,.int .u64 0,.int .u8 0,.int .u8 0,.bool false] 100 (0,0)))(J:w.heap[B]? =some (.cells #[.slice (some ⟨g,0,none⟩) 1 1,.int .i64 0,.bool false] 91 (0,0)))(A:B≠g):
  z0D w ⟨B,g,1,fun _=>False, [],z1K⟩:=
 ⟨J,⟨rfl,.inr ⟨g,1,_,rfl,Nat.zero_le _,I,Nat.le_refl _,by decide,rfl,rfl⟩⟩,A,⟨fun h=>h,fun h=>h⟩,fun k L=>L.elim,(fun x N=>by cases N),y2G _ w⟩
theorem y9f(w:World):(Instr.makeSlice 89 (.int .i64 1) (.int .i64 1)).run prog w= .ok (.slice (some ⟨w.heap.size,0,none⟩) 1 1) (w.alloc (.cells #[.slice none 0 0,.int .i64 0,.slice none 0 0,.int .i64 0,.int .i64 0,.int .i64 0,.bool false,.int .u64 0,.int .u8 0,.int .u8 0,.bool false] 100)):=by kernel_rfl
def y7q(g:Option z0C)(s:z0U)(w:World)(e:Ending)(w':World):Prop:=∃X,e= .returned (.pointer (some ⟨X.sb,0,none⟩))/\z0D w' X/\X.ser=s/\Below w.heap.size w w'/\(g=some X\/(g=none/\∀k,X.In k->w.heap.size<=k))
theorem z9e(bb mb B:Nat)(E:List (Int×z0C))(b:z0j)(S:Nat->Prop)(id:Nat)(hid:id<4294967296)(w:World)(h:z0q w bb mb E b B S):
  Calls prog 24 #[.pointer (some ⟨bb,0,none⟩),.int .u32 id] w (y7q (z0P (id:Int) E) (z0g b id) w):=by
 have J:=h.get id;obtain⟨c0,c1,c2,cf⟩:=h.cells;have lb:=(h.lo bb h.own.1).2;have HM:=z7 h.map;cases hg:z0P (id:Int) E with
 | some X=>
  rw[hg]at J;have hX:=(h.each _ (z1z hg)).1;have HF:Hid (∀w',Below w.heap.size w w'->y7q (some X) (z0g b id) w (.returned (.pointer (some ⟨X.sb,0,none⟩))) w'):=z7 fun w' hb=>⟨X,rfl,hX.low hb,J.symm,hb,.inl rfl⟩;have A:=z7 hg;clear h hX J hg;go_enter func24,ntmps24;go_wp2_with (at_lookup;refine z6O z5a rfl _ _ 120 rfl 92 underlying120 (z7h _) rfl rfl HM.o (id:Int) rfl (z8E hid) (some X) A.o (.pointer (some ⟨X.sb,0,none⟩)) rfl ?_);go_ret;exact HF.o _ (Below.refl _ _)
 | none=>
  rw[hg]at J;have HF:Hid (∀w' L,Below w.heap.size w w'->z0D w' L->L.ser=z6d->(∀k,L.In k->w.heap.size<=k)->y7q none (z0g b id) w (.returned (.pointer (some ⟨L.sb,0,none⟩))) w'):=z7 fun w' L hb I h2 h3=>⟨L,rfl,I,h2.trans J.symm,hb,.inr ⟨rfl,h3⟩⟩;have A:=z7 hg;have a1:=y9f;clear h J hg;go_enter func24,ntmps24;go_wp2_with (at_lookup;refine z6O z5a rfl _ _ 120 rfl 92 underlying120 (z7h _) rfl rfl HM.o (id:Int) rfl (z8E hid) none A.o (.pointer none) rfl ?_);go_ret;have R:=q5 w (.cells #[.slice none 0 0,.int .i64 0,.slice none 0 0,.int .i64 0,.int .i64 0,.int .i64 0,.bool false,.int .u64 0,.int .u8 0,.int .u8 0,.bool false] 100);have N:=j8 w (.cells #[.slice none 0 0,.int .i64 0,.slice none 0 0,.int .i64 0,.int .i64 0,.int .i64 0,.bool false,.int .u64 0,.int .u8 0,.int .u8 0,.bool false] 100);obtain⟨w1,Y⟩:=zN (w.alloc (.cells #[.slice none 0 0,.int .i64 0,.slice none 0 0,.int .i64 0,.int .i64 0,.int .i64 0,.bool false,.int .u64 0,.int .u8 0,.int .u8 0,.bool false] 100));have a0:w1.heap.size=w.heap.size+1:=by rw[Y];simp
  rw[<-Y]at R N ⊢;have U:=q5 w1 (.cells #[.slice (some ⟨w.heap.size,0,none⟩) 1 1,.int .i64 0,.bool false] 91);have O:=j8 w1 (.cells #[.slice (some ⟨w.heap.size,0,none⟩) 1 1,.int .i64 0,.bool false] 91);have h0:=(U.block w.heap.size (by omega)).trans N;rw[a0]at O;exact HF.o _ ⟨w.heap.size+1,w.heap.size,1,fun _=>False, [],z1K⟩ (R.trans (U.mono (by omega))) (q4o h0 O (by omega)) rfl (fun k hk=>by
   rcases hk with I|I|I
   ·simp only at I;omega
   ·simp only at I;omega
   ·exact I.elim)
def z3A(b:z0j)(id:Nat):Nat:=if z0P (id:Int) b.all=none/\b.most<=b.all.length then 121 else 0
theorem y8d(bb mb B:Nat)(E:List (Int×z0C))(b:z0j)(S:Nat->Prop)(id:Nat)(hid:id<4294967296)(w:World)(h:z0q w bb mb E b B S):
  Calls prog 81 #[.pointer (some ⟨bb,0,none⟩),.int .u32 id] w fun e w'=>e= .returned (.int .u16 (z3A b id:Nat))/\Below w.heap.size w w':=by
 have L:b.all.length=E.length:=by rw[h.all];simp
 have A:z0P (id:Int) b.all=(z0P (id:Int) E).map z0C.ser:=by rw[h.all,z8N]
 have R:=h.few;have H:=z7 h;cases hg:z0P (id:Int) E with
 | some X=>
  rw[hg]at A;have O:z3A b id=0:=by unfold z3A;rw[A];simp
  rw[O];have N:=z7 hg;clear h O A hg;go_enter func81,ntmps81;go_wp2_with fail;refine q6 19 24 (fun D v w'=>Below w.heap.size w w') (Below.refl _ _).drew ?_;simp only[z0v];iterate 8 (refine q8.rd (e:=?_) (fun D v w' Y J=>?_) ?_;rotate_left;(have I:=H.o.low J;obtain⟨c0,c1,c2,cf⟩:=I.cells;have lb:=(I.lo bb I.own.1).2;have a1:=z9O z5a 120 92 underlying120 (z7h w') rfl I.map (id:Int) (z8E hid) (some X) N.o (.pointer (some ⟨X.sb,0,none⟩)) rfl;clear J Y;go_simp;try with_reducible rfl);go_simp)
  iterate 10 (refine q8.sk (fun D v w h=>h) ?_;go_simp)
  iterate 1 (refine q8.rd (e:=?_) (fun D v w' Y J=>?_) ?_;rotate_left;(clear J Y;go_simp;try with_reducible rfl);go_simp)
  refine q8.fin (fun v w3 J=>?_);go_wp2;go_ret;exact⟨rfl,J⟩
 | none=>
  rw[hg]at A;obtain⟨n,hn⟩:=zN E.length;obtain⟨m,hm⟩:=zN b.most;by_cases hr:m<=n
  ·have O:z3A b id=121:=(by unfold z3A;rw[A,L,<-hm,<-hn];simp[hr]);rw[O];have d1:decide ((m:Int)<=(n:Int))=true:=decide_eq_true (by omega);have N:=z7 hg;have HN:=z7 hn;have U:=z7 hm;clear h O A hg hn hm L R;go_enter func81,ntmps81;go_wp2_with fail;refine q6 19 24 (fun D v w'=>Below w.heap.size w w') (Below.refl _ _).drew ?_;simp only[z0v];iterate 19 (refine q8.rd (e:=?_) (fun D v w' Y J=>?_) ?_;rotate_left;(have I:=H.o.low J;obtain⟨c0,c1,c2,cf⟩:=I.cells;rw[<-U.o]at c0;have lb:=(I.lo bb I.own.1).2;have a1:=z9O z5a 120 92 underlying120 (z7h w') rfl I.map (id:Int) (z8E hid) none N.o (.pointer none) rfl;have a0:=World.ownsMap.len I.map underlying120 3;rw[y3y,<-HN.o]at a0;clear J Y;go_simp;try with_reducible rfl);go_simp)
   refine q8.fin (fun v w3 J=>?_);go_wp2;go_ret;exact⟨rfl,J⟩
  ·have O:z3A b id=0:=(by unfold z3A;rw[A,L,<-hm,<-hn];simp[hr]);rw[O];have d1:decide ((m:Int)<=(n:Int))=false:=decide_eq_false (by omega);have N:=z7 hg;have HN:=z7 hn;have U:=z7 hm;clear h O A hg hn hm L R;go_enter func81,ntmps81;go_wp2_with fail;refine q6 19 24 (fun D v w'=>Below w.heap.size w w') (Below.refl _ _).drew ?_;simp only[z0v];iterate 19 (refine q8.rd (e:=?_) (fun D v w' Y J=>?_) ?_;rotate_left;(have I:=H.o.low J;obtain⟨c0,c1,c2,cf⟩:=I.cells;rw[<-U.o]at c0;have lb:=(I.lo bb I.own.1).2;have a1:=z9O z5a 120 92 underlying120 (z7h w') rfl I.map (id:Int) (z8E hid) none N.o (.pointer none) rfl;have a0:=World.ownsMap.len I.map underlying120 3;rw[y3y,<-HN.o]at a0;clear J Y;go_simp;try with_reducible rfl);go_simp)
   refine q8.fin (fun v w3 J=>?_);go_wp2;go_ret;exact⟨rfl,J⟩
def z6K(b:z0j)(id:Nat)(t:Int):Nat:=if z3A b id=0 then(if(z6k (z0g b id)).2=true/\t<=(z6k (z0g b id)).1 then 120 else 0)else z3A b id
theorem y2v(b:z0j)(id:Nat):z3A b id=0\/z3A b id=121:=by unfold z3A;split<;>simp
theorem q5o(bb mb B:Nat)(E:List (Int×z0C))(b:z0j)(S:Nat->Prop)(id:Nat)(hid:id<4294967296)(t:Int)(v:Nat)(Y:(z0g b id).done.length<=1000000000)(w:World)(h:z0q w bb mb E b B S):
  Calls prog 36 #[.pointer (some ⟨bb,0,none⟩),.int .u32 id,.agg #[.int .i64 t,.int .u64 v]] w fun e w'=>e= .returned (.int .u16 (z6K b id t:Nat))/\Below w.heap.size w w':=by
 have U:=z7 ((Loc.start w).new (.cells #[.int .i64 t,.int .u64 v] 71));have H:=z7 h;have HR:=z7 (y8d bb mb B E b S id hid _ (h.low U.o.low));have a0:=z7 (fun w1 (hb:z0q w1 bb mb E b B S)=>z9e bb mb B E b S id hid w1 hb);have R:=z7 Y;rcases y2v b id with hr|hr
 ·obtain⟨T,is,hT⟩:∃T is,(T,is)=z6k (z0g b id):=⟨_,_,rfl⟩;have hm:z6K b id t=if is=true/\t<=T then 120 else 0:=by unfold z6K;rw[if_pos hr,<-hT]
  rw[hm];rw[hr]at HR;have HT:=z7 hT;clear h hr hm hT Y;cases is with
  | false=>
   simp only[Bool.false_eq_true,false_and,if_false];go_enter func36,ntmps36;go_wp2_with fail;refine HR.o.mono ?_;rintro e w1 ⟨rfl,hb⟩;have I:=z7 (U.o.call hb);clear hb;go_wp2_with fail;refine(a0.o _ (H.o.low I.o.low)).mono ?_;rintro e w2 ⟨X,rfl,O,A,hb, -⟩;have N:=z7 (I.o.call hb);have HX:=z7 O;have L:=z7 (y0v X (by have:=R.o;rw[<-A,X.done_len]at this;exact this) w2 O);rw[A,<-HT.o]at L;clear hb O A;go_wp2_with fail;refine L.o.mono ?_;rintro e w3 ⟨rfl,hb⟩;have J:=z7 (N.o.call hb);clear hb;go_wp2;go_ret;exact⟨rfl,J.o.low⟩
  | true=>
   by_cases hle:t<=T
   ·rw[if_pos ⟨rfl,hle⟩];have d1:decide (t<=T)=true:=decide_eq_true hle;clear hle;go_enter func36,ntmps36;go_wp2_with fail;refine HR.o.mono ?_;rintro e w1 ⟨rfl,hb⟩;have I:=z7 (U.o.call hb);clear hb;go_wp2_with fail;refine(a0.o _ (H.o.low I.o.low)).mono ?_;rintro e w2 ⟨X,rfl,O,A,hb, -⟩;have N:=z7 (I.o.call hb);have HX:=z7 O;have L:=z7 (y0v X (by have:=R.o;rw[<-A,X.done_len]at this;exact this) w2 O);rw[A,<-HT.o]at L;clear hb O A;go_wp2_with fail;refine L.o.mono ?_;rintro e w3 ⟨rfl,hb⟩;have J:=z7 (N.o.call hb);clear hb;obtain⟨y0,y1,yf⟩:=z0i (J.o.get 0 rfl);have l0:=J.o.lt 0 rfl;go_wp2;go_ret;exact⟨rfl,J.o.low⟩
   ·rw[if_neg (by simp;omega)];have d1:decide (t<=T)=false:=decide_eq_false hle;clear hle;go_enter func36,ntmps36;go_wp2_with fail;refine HR.o.mono ?_;rintro e w1 ⟨rfl,hb⟩;have I:=z7 (U.o.call hb);clear hb;go_wp2_with fail;refine(a0.o _ (H.o.low I.o.low)).mono ?_;rintro e w2 ⟨X,rfl,O,A,hb, -⟩;have N:=z7 (I.o.call hb);have HX:=z7 O;have L:=z7 (y0v X (by have:=R.o;rw[<-A,X.done_len]at this;exact this) w2 O);rw[A,<-HT.o]at L;clear hb O A;go_wp2_with fail;refine L.o.mono ?_;rintro e w3 ⟨rfl,hb⟩;have J:=z7 (N.o.call hb);clear hb;obtain⟨y0,y1,yf⟩:=z0i (J.o.get 0 rfl);have l0:=J.o.lt 0 rfl;go_wp2;go_ret;exact⟨rfl,J.o.low⟩
 ·have hm:z6K b id t=121:=by unfold z6K;rw[if_neg (by omega),hr]
  rw[hm];rw[hr]at HR;obtain⟨T,is,hT⟩:∃T is,(T,is)=z6k (z0g b id):=⟨_,_,rfl⟩;have HT:=z7 hT;clear h hr hm hT Y;go_enter func36,ntmps36;go_wp2_with fail;refine HR.o.mono ?_;rintro e w1 ⟨rfl,hb⟩;have I:=z7 (U.o.call hb);clear hb;go_wp2_with fail;refine(a0.o _ (H.o.low I.o.low)).mono ?_;rintro e w2 ⟨X,rfl,O,A,hb, -⟩;have N:=z7 (I.o.call hb);have HX:=z7 O;have L:=z7 (y0v X (by have:=R.o;rw[<-A,X.done_len]at this;exact this) w2 O);rw[A,<-HT.o]at L;clear hb O A;go_wp2_with fail;refine L.o.mono ?_;rintro e w3 ⟨rfl,hb⟩;have J:=z7 (N.o.call hb);clear hb;go_wp2;go_ret;exact⟨rfl,J.o.low⟩
end

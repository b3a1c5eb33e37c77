/-
  Plain: a chunk of so many samples has at most 160 bits for each.
-/
import Derived.Test.YtfcnapnopdomhaaGreatDoorZChDChE
import Derived.Test.YtfcnapnopdomhaaGreatDoorZLoReg6Reg7Reg8
import Derived.Test.YtfcnapnopdomhaaGreatDoorZMap
namespace Go.Proofs.YtfcnapnopdomhaaGreatDoor
set_option linter.unusedSimpArgs false
set_option linter.unusedVariables false
set_option maxRecDepth 100000
set_option maxHeartbeats 12800000
section
open Go.RowKit
theorem z5M{w n:Nat}{l r:List Bool}(h:rdN w l=some (n,r)):l.length=w+r.length:=by
 unfold rdN at h;split at h
 ·simp only [Option.some.injEq,Prod.mk.injEq] at h;rw [←h.2,List.length_drop];omega
 ·cases h
theorem y8s{v:Int}{l r:List Bool}(h:z7L l=some (v,r)):l.length≤69+r.length:=by
 obtain ⟨h1,h2,h3,h4⟩:=y0L h;have h5:=y3x v;rw [h2,List.length_append];omega
theorem y4W{e:z1A}{t d:Int}{l r:List Bool}(h:z5s e l=some (t,d,r)):l.length≤69+r.length:=by
 unfold z5s at h;split at h
 ·simp only [Option.map_eq_some_iff,Prod.mk.injEq] at h;obtain ⟨⟨p1,p2⟩,h1,h2,h3,h4⟩:=h;have h5:=z5M h1;rw [←h4];show l.length≤69+p2.length;omega
 ·split at h
  ·cases h
  ·rename_i d' r' hz;have h5:=y8s hz;split at h
   ·simp only [Option.some.injEq,Prod.mk.injEq] at h;rw [←h.2.2];exact h5
   ·cases h
theorem y8m{s s':z4B}{v:Nat}{l r:List Bool}(hw:s.width≤64)(h:z3z s l=some (v,s',r)):l.length≤77+r.length:=by
 unfold z3z at h;split at h
 ·simp only [Option.map_eq_some_iff,Prod.mk.injEq] at h;obtain ⟨⟨p1,p2⟩,h1,h2,h3,h4⟩:=h;have h5:=z5M h1;rw [←h4];show l.length≤77+p2.length;omega
 ·split at h
  ·simp only [Option.some.injEq,Prod.mk.injEq] at h;rw [←h.2.2,List.length_cons];omega
  ·split at h
   ·cases h
   ·rename_i d r' hr;have h5:=z5M hr;split at h
    ·cases h
    ·simp only [Option.some.injEq,Prod.mk.injEq] at h;rw [←h.2.2];simp only [List.length_cons];omega
  ·split at h
   ·cases h
   ·rename_i ld r1 hr1;have h5:=z5M hr1;split at h
    ·cases h
    ·rename_i z r2 hr2;have h6:=z5M hr2;split at h
     ·cases h
     ·rename_i hle;split at h
      ·cases h
      ·rename_i d r3 hr3;have h7:=z5M hr3;split at h
       ·cases h
       ·simp only [Option.some.injEq,Prod.mk.injEq] at h;rw [←h.2.2];simp only [List.length_cons];omega
  ·cases h
theorem y2M{s:z4B}(h:z1c s=true):s.width≤64:=by
 unfold z1c at h;split at h
 ·have:=of_decide_eq_true h;omega
 ·have:=of_decide_eq_true h;rw [this];simp [zeroV]
theorem y3G{e e':z1A}{s:z1K}{l r:List Bool}(he:e.Ok)(h:z1e e l=some (s,e',r)):l.length≤146+r.length:=by
 unfold z1e at h;split at h
 ·cases h
 ·rename_i t d r1 ht;have h1:=y4W ht;split at h
  ·cases h
  ·rename_i v k r2 hx;have h2:=y8m (y2M he.val) hx;simp only [Option.some.injEq,Prod.mk.injEq] at h;rw [←h.2.2];omega
theorem y1A:∀{f:Nat} {e:z1A} {k:Nat} {l:List Bool} {st:List z0V},e.Ok→z2R f e k l=some st→l.length≤146*st.length
 | f,e,k, [],st,he,h=>by simp
 | 0,e,k,b::l,st,he,h=>by cases h
 | f+1,e,k,b::l,st,he,h=>by
  unfold z2R at h;cases hc:z1e e (b::l) with
  | none=>rw [hc] at h;cases h
  | some p=>
   obtain ⟨s,e',r⟩:=p;rw [hc] at h;simp only [Option.map_eq_some_iff] at h;obtain ⟨st',h1,h2⟩:=h;have h3:=y1A (z1B he hc).2.2.1 h1;have h4:=y3G he hc;rw [←h2];simp only [List.length_cons] at h4 ⊢;omega
theorem y8v{l:List Bool}{st:List z0V}(h:z5c l=some st):l.length≤146*st.length:=y1A z4p h
structure z1h where
 l:List Bool
 st:List z0V
structure z1h.Ok (p:z1h):Prop where
 rd:z5c p.l=some p.st
 len:p.st.length≤24
theorem z1h.Ok.bits{p:z1h}(h:p.Ok):p.l.length≤3504:=by have:=y8v h.rd;have:=h.len;omega
abbrev z2e:z1h:=⟨[], []⟩
theorem y1P:z2e.Ok:=⟨rfl,by simp⟩
structure z1o where
 done:List z1h
 cur:z1h
structure z1o.Ok (s:z1o):Prop where
 done:∀p∈s.done,p.Ok∧0<p.st.length
 cur:s.cur.Ok
abbrev z7T:z1o:=⟨[],z2e⟩
theorem y7q:z7T.Ok:=⟨(fun p hp=>by cases hp),y1P⟩
def z9X(p:z1h):Int:=(z0l z0e p.st).last
def z3B(s:List z1h):Int:=match s.getLast? with | none=>0 | some p=>z9X p
def z5g(s:List z1h):Bool:=!s.isEmpty
def z5T(s:z1o):Int×Bool:=if 0<s.cur.st.length then (z9X s.cur,true) else (z3B s.done,z5g s.done)
def z6E(s:z1o)(p:z1h)(closed:Bool):z1o:=if closed then ⟨s.done++ [p],z2e⟩ else ⟨s.done,p⟩
def z3e(p:z1h)(s:z1K):z1h:=⟨p.l++(z2O (z0l z0e p.st) s).1,p.st++ [⟨s,(z2O (z0l z0e p.st) s).2,p.l.length+(z2O (z0l z0e p.st) s).1.length⟩]⟩
theorem q1O{p:z1h}{s:z1K}(h:p.Ok)(hl:p.st.length<24)(hs:s.Ok)(ht:0<p.st.length→z9X p<s.t):(z3e p s).Ok:=
 ⟨q0V h.rd hs ht,by unfold z3e;simp only [List.length_append,List.length_cons,List.length_nil];omega⟩
end
section
open Go.RowKit Go.Maps
structure z1g where
 a:Option Addr
 c:Nat
 b:List UInt8
 ea:Option Addr
 ec:Nat
 p:z1h
def z1g.vals(x:z1g)(cl:Bool):List Value:= [.slice x.a x.b.length x.c, .int .i64 (x.p.l.length:Nat), .slice x.ea x.p.st.length x.ec, .int .i64 ((z0l z0e x.p.st).n:Nat), .int .i64 (z0l z0e x.p.st).last, .int .i64 (z0l z0e x.p.st).delta, .bool (z0l z0e x.p.st).val.has, .int .u64 ((z0l z0e x.p.st).val.prev:Nat), .int .u8 ((z0l z0e x.p.st).val.lead:Nat), .int .u8 ((z0l z0e x.p.st).val.width:Nat), .bool cl]
theorem z1g.vals_len(x:z1g)(cl:Bool):(x.vals cl).length=11:=rfl
structure z1g.Ok (T:Nat→Prop) (w:World) (x:z1g):Prop where
 rd:Kept T w fun w=>z0o w x.a x.b.length x.c x.p.l x.b
 ends:Kept T w fun w=>Rd w (.slice x.ea x.p.st.length x.ec) 1 x.p.st.length (z2h (z1i x.p.st))
 ok:x.p.Ok
 cap:x.p.st.length≤x.ec
theorem z1g.Ok.next{T:Nat→Prop}{w w':World}{x:z1g}(h:x.Ok T w)(hk:∀k,T k→w'.heap[k]? =w.heap[k]?):x.Ok T w':=⟨h.rd.next hk,h.ends.next hk,h.ok,h.cap⟩
theorem z1g.Ok.mono{T T':Nat→Prop}{w:World}{x:z1g}(h:x.Ok T w)(hT:∀k,T k→T' k):x.Ok T' w:=⟨h.rd.mono hT,h.ends.mono hT,h.ok,h.cap⟩
abbrev z1y:z1g:=⟨none,0, [],none,0,z2e⟩
theorem y3k:z1y.vals false= [.slice none 0 0, .int .i64 0, .slice none 0 0, .int .i64 0, .int .i64 0, .int .i64 0, .bool false, .int .u64 0, .int .u8 0, .int .u8 0, .bool false]:=rfl
theorem y1N(T:Nat→Prop)(w:World):z1y.Ok T w:=
 ⟨fun w' _=>⟨by exact z0d (World.ownsRow_nil w' 0 5 1),rfl,by exact z0U.nil⟩,fun w' _=>by exact z0d (World.ownsRow_nil w' 0 3 1),y1P,Nat.le_refl _⟩
structure z0C where
 sb:Nat
 g:Nat
 cap:Nat
 T:Nat→Prop
 done:List z1g
 cur:z1g
def z0C.In(X:z0C)(k:Nat):Prop:=k=X.sb∨k=X.g∨X.T k
def z0C.ser(X:z0C):z1o:=⟨X.done.map z1g.p,X.cur.p⟩
def z0C.cells(X:z0C):List Value:=X.done.flatMap (fun x=>x.vals true)++X.cur.vals false
theorem z7d(l:List z1g)(b:Bool):(l.flatMap (fun x=>x.vals b)).length=l.length*11:=by
 induction l with
 | nil=>rfl
 | cons x l ih=>rw [List.flatMap_cons,List.length_append,ih,z1g.vals_len,List.length_cons];omega
theorem z0C.cells_at(X:z0C){j:Nat}(hj:j<11):X.cells[X.done.length*11+j]? =(X.cur.vals false)[j]? :=by
 unfold z0C.cells;rw [List.getElem?_append_right (by rw [z7d];omega),z7d]
 congr 1
 omega
structure z0v (w:World) (X:z0C):Prop where
 blk:w.heap[X.sb]? =some (.cells #[.slice (some ⟨X.g,0,none⟩) (X.done.length+1) X.cap, .int .i64 (z3B X.ser.done), .bool (z5g X.ser.done)] 158 (0,0))
 row:w.ownsRow 0 141 11 (.slice (some ⟨X.g,0,none⟩) (X.done.length+1) X.cap) (X.done.length+1) X.cells
 ne:X.sb≠X.g
 far:¬X.T X.sb∧¬X.T X.g
 lt:∀k,X.T k→k<w.heap.size
 done:∀x∈X.done,x.Ok X.T w∧0<x.p.st.length
 cur:X.cur.Ok X.T w
theorem z0v.lts{w:World}{X:z0C}(h:z0v w X):∀k,X.In k→k<w.heap.size:=by
 rintro k (rfl | rfl | hk)
 ·exact (Array.getElem?_eq_some_iff.1 h.blk).1
 ·exact (h.row.lt X.g rfl).2
 ·exact h.lt k hk
theorem z0v.keep{w w':World}{X:z0C}(h:z0v w X)(hk:∀k,X.In k→w'.heap[k]? =w.heap[k]?)(hs:w.heap.size≤w'.heap.size):z0v w' X:=by
 have hT:∀k,X.T k→w'.heap[k]? =w.heap[k]? :=fun k hT=>hk k (.inr (.inr hT));refine ⟨(hk _ (.inl rfl)).trans h.blk,j7 h.row fun b hb=>?_,h.ne,h.far,fun k hk=>Nat.lt_of_lt_of_le (h.lt k hk) hs,fun x hx=>⟨(h.done x hx).1.next hT,(h.done x hx).2⟩,h.cur.next hT⟩;simp only [Value.ownBlock,Option.some.injEq] at hb;exact hk b (.inr (.inl hb.symm))
theorem z0v.low{w w':World}{X:z0C}(h:z0v w X)(hb:Below w.heap.size w w'):z0v w' X:=h.keep (fun k hk=>hb.block k (h.lts k hk)) hb.size
theorem z0v.ok{w:World}{X:z0C}(h:z0v w X):X.ser.Ok:=
 ⟨fun p hp=>by
  obtain ⟨x,hx,rfl⟩:=List.mem_map.1 hp;exact ⟨(h.done x hx).1.ok,(h.done x hx).2⟩,h.cur.ok⟩
theorem z0v.at{w:World}{X:z0C}(h:z0v w X){j:Nat}{v:Value}(hj:(X.cur.vals false)[j]? =some v):w.cell? ⟨X.g,X.done.length*11+j,none⟩=some v:=by
 have h1:=(z0d h.row).2;have hj11:j<11:=by
  have:=(List.getElem?_eq_some_iff.1 hj).1
  rwa [z1g.vals_len] at this
 rcases h1 with h1 | ⟨ad,cp,h1,h2⟩
 ·exact absurd h1.2 (by omega)
 ·have h3:=h2 (X.done.length*11+j) v (by rw [X.cells_at hj11];exact hj);simp only [Value.slice.injEq,Option.some.injEq] at h1;rw [←h1.1] at h3;have hadd:(⟨X.g,0,none⟩:Addr).add (X.done.length*11+j)=⟨X.g,X.done.length*11+j,none⟩:=by unfold Addr.add;split<;>simp_all
  rw [hadd] at h3;exact h3
theorem z0v.cells{w:World}{X:z0C}(h:z0v w X):w.cell? ⟨X.sb,0,none⟩=some (.slice (some ⟨X.g,0,none⟩) (X.done.length+1) X.cap)∧w.cell? ⟨X.sb,1,none⟩=some (.int .i64 (z3B X.ser.done))∧w.cell? ⟨X.sb,2,none⟩=some (.bool (z5g X.ser.done))∧∀j,w.frozen? ⟨X.sb,j,none⟩=false:=cells3 h.blk
theorem z7h(X:z0C)(hn:X.done.length≤1000000000)(w:World)(h:z0v w X):
  Calls Tryz.prog 81 #[.pointer (some ⟨X.sb,0,none⟩)] w fun e w'=>e= .returned (.pointer (some ⟨X.g,X.done.length*11,none⟩))∧Below w.heap.size w w':=by
 obtain ⟨c0, -, -, -⟩:=h.cells;have hlt:=h.lts X.sb (.inl rfl);obtain ⟨sb,hsb⟩:∃sb,sb=X.sb:=⟨_,rfl⟩;obtain ⟨g,hg⟩:∃g,g=X.g:=⟨_,rfl⟩;obtain ⟨n,hn'⟩:∃n,n=X.done.length:=⟨_,rfl⟩;obtain ⟨cap,hcap⟩:∃cap,cap=X.cap:=⟨_,rfl⟩;rw [←hsb,←hg,←hn',←hcap] at c0;rw [←hsb] at hlt ⊢;rw [←hg,←hn'];rw [←hn'] at hn;clear h hsb hg hn' hcap;have hw1:IntKind.i64.wrap ((n:Int)+1 - 1)=(n:Int):=by rw [IntKind.wrap_i64];omega
 have hin:(0:Int)≤n∧(n:Int)<n+1:=by omega
 go_enter Tryz.func81,Tryz.ntmps81;go_wp2_with fail;go_quiet (fail)
 go_wp2;go_ret;exact ⟨rfl,z0k (Below.refl _ _)⟩
theorem z1g.Ok.n{T:Nat→Prop}{w:World}{x:z1g}(h:x.Ok T w):(z0l z0e x.p.st).n=x.p.st.length:=(z3n h.ok.rd).2.1
theorem z9Q(X:z0C)(hn:X.done.length≤1000000000)(w:World)(h:z0v w X):
  Calls Tryz.prog 149 #[.pointer (some ⟨X.sb,0,none⟩)] w fun e w'=>e= .returned (.tuple #[.int .i64 (z5T X.ser).1, .bool (z5T X.ser).2])∧Below w.heap.size w w':=by
 have hnn:=h.cur.n;have HL:=z7 (z7h X hn w h);have HS:=z7 h;have hlt:=h.lts X.sb (.inl rfl);have hlg:=h.lts X.g (.inr (.inl rfl));by_cases h0:0<X.cur.p.st.length
 ·have hT:z5T X.ser=(z9X X.cur.p,true):=if_pos h0;rw [hT];have d1:decide (0<(z0l z0e X.cur.p.st).n)=true:=decide_eq_true (by omega);go_enter Tryz.func149,Tryz.ntmps149;go_wp2_with fail;refine HL.out.mono ?_;rintro e w1 ⟨rfl,hb⟩;have H1:=HS.out.low hb;have c3:=H1.at (j:=3) rfl;have c4:=H1.at (j:=4) rfl;have HB:=z7 hb;have hlg1:=H1.lts X.g (.inr (.inl rfl));clear hb H1 hT hnn;go_wp2;go_ret2;exact ⟨rfl,HB.out⟩
 ·have hT:z5T X.ser=(z3B X.ser.done,z5g X.ser.done):=if_neg h0;rw [hT];have d1:decide (0<(z0l z0e X.cur.p.st).n)=false:=decide_eq_false (by omega);go_enter Tryz.func149,Tryz.ntmps149;go_wp2_with fail;refine HL.out.mono ?_;rintro e w1 ⟨rfl,hb⟩;have H1:=HS.out.low hb;have c3:=H1.at (j:=3) rfl;obtain ⟨x0,x1,x2,xf⟩:=H1.cells;have HB:=z7 hb;have hlg1:=H1.lts X.g (.inr (.inl rfl));have hlg2:=H1.lts X.sb (.inl rfl);clear hb H1 hT hnn;go_wp2_with fail;go_quiet (fail)
  go_wp2;go_ret2;exact ⟨rfl,z0k HB.out⟩
def z1U(s:z1o):Nat×Nat×Nat:=(s.done.length,s.cur.l.length,s.cur.st.length)
theorem z0C.done_len(X:z0C):X.ser.done.length=X.done.length:=by unfold z0C.ser;simp
theorem y5n(X:z0C)(hn:X.done.length≤1000000000)(w:World)(h:z0v w X):
  Calls Tryz.prog 45 #[.pointer (some ⟨X.sb,0,none⟩)] w fun e w'=>e= .returned (z3D (z1U X.ser))∧Below w.heap.size w w':=by
 have HL0:=z7 ((Loc.start w).new (.cells #[.int .u32 0, .int .u32 0, .int .u32 0] 42));have HL:=z7 (z7h X hn _ (h.low HL0.out.low));have HS:=z7 (h.low HL0.out.low);have hE:z1U X.ser=(X.done.length,X.cur.p.l.length,X.cur.p.st.length):=by unfold z1U;rw [X.done_len];rfl
 rw [hE];have hbits:=h.cur.ok.bits;have hlen:=h.cur.ok.len;have hw1:IntKind.i64.wrap ((X.done.length:Int)+1 - 1)=(X.done.length:Int):=by rw [IntKind.wrap_i64];omega
 have hw2:IntKind.u32.wrap (X.done.length:Int)=(X.done.length:Int):=by rw [IntKind.wrap_u32];omega
 have hw3:IntKind.u32.wrap (X.cur.p.l.length:Int)=(X.cur.p.l.length:Int):=by rw [IntKind.wrap_u32];omega
 have hw4:IntKind.u32.wrap (X.cur.p.st.length:Int)=(X.cur.p.st.length:Int):=by rw [IntKind.wrap_u32];omega
 clear h hE;go_enter Tryz.func45,Tryz.ntmps45;go_wp2_with fail;refine HL.out.mono ?_;rintro e w1 ⟨rfl,hb⟩;have HL1:=z7 (HL0.out.call hb);have H1:=z7 (HS.out.low hb);clear hb;go_wp2_with fail;refine q6 20 26 (by kernel_rfl) (by kernel_rfl) rfl (by kernel_rfl) (fun D v w'=>Below w1.heap.size w1 w') (fun _=>undef) (Below.refl _ _).drew ?_;simp only [List.take_succ_cons,List.take_zero,List.drop_succ_cons,List.drop_zero];iterate 20 (refine q8.rd (e:=?_) (fun D v w' hD hS=>?_) ?_;rotate_left;(obtain ⟨x0,x1,x2,xf⟩:=(H1.out.low hS).cells;have lt1:=(H1.out.low hS).lts X.sb (.inl rfl);have lt2:=(H1.out.low hS).lts X.g (.inr (.inl rfl));have c1:=(H1.out.low hS).at (j:=1) rfl;have c2:=(H1.out.low hS).at (j:=2) rfl;clear hS hD;first | (go_simp;done) | (go_simp;with_reducible rfl));go_simp)
 refine q8.fin (fun v w3 hS=>?_);have HL3:=z7 (HL1.out.call hS);clear hS;obtain ⟨y0,y1,y2,yf⟩:=cells3 (HL3.out.get 0 rfl);have l0:=HL3.out.lt 0 rfl;go_wp2;have HLF:=HL3.out.set3 0 rfl (.int .u32 (X.done.length:Nat)) (.int .u32 (X.cur.p.l.length:Nat)) (.int .u32 (X.cur.p.st.length:Nat));refine bodyPost_ret (y2j rfl _ _ w.heap.size _ _ _ rfl (HLF.get 0 rfl) rfl) rfl ?_;exact ⟨rfl,HLF.low⟩
abbrev q3O (n:Int):Value:= .int .u32 n
abbrev z4A (n:Int):Lit:= .int .u32 n
theorem z6j:z5j Tryz.prog 37 q3O z4A (fun n=>(Lit.int .u32 n).wf=true):=q2y Tryz.underlying37
theorem z7S{n:Nat}(h:n<4294967296):(Lit.int .u32 (n:Int)).wf=true:=by simp [Lit.wf,IntKind.min,IntKind.max,IntKind.signed,IntKind.bits];omega
structure z0m where
 most:Nat
 size:Nat
 all:List (Int×z1o)
def q3x:Value→Bool
 | .pointer _=>true
 | _=>false
def q3N(X:z0C):Value:= .pointer (some ⟨X.sb,0,none⟩)
abbrev y5d (w:World) (mb:Nat) (E:List (Int×z0C)):Prop:=z3u w Tryz.prog 37 z4A q3x q3N mb E
theorem z6Q(w:World):(zeroValue 130).run Tryz.prog w= .ok (.pointer none) w:=by kernel_rfl
def z0f(b:z0m)(id:Nat):z1o:=(z0H (id:Int) b.all).getD z7T
structure z0r (w:World) (bb mb:Nat) (E:List (Int×z0C)) (b:z0m) (B:Nat) (S:Nat→Prop):Prop where
 blk:w.heap[bb]? =some (.cells #[.int .i64 (b.most:Nat), .int .i64 (b.size:Nat), .map (some mb)] 167 (0,0))
 map:y5d w mb E
 ne:bb≠mb
 own:S bb∧S mb
 each:∀p∈E,z0v w p.2∧∀k,p.2.In k→S k∧k≠bb∧k≠mb
 apart:∀p∈E,∀q∈E,p.1≠q.1→∀k,p.2.In k→¬q.2.In k
 lo:∀k,S k→B≤k∧k<w.heap.size
 all:b.all=E.map fun p=>(p.1,p.2.ser)
 few:E.length≤b.most∧b.most≤64
 size:1≤b.size∧b.size≤24
theorem z0r.keep{w w':World}{bb mb B:Nat}{E:List (Int×z0C)}{b:z0m}{S:Nat→Prop}(h:z0r w bb mb E b B S)(hk:∀k,S k→w'.heap[k]? =w.heap[k]?)(hs:w.heap.size≤w'.heap.size):z0r w' bb mb E b B S:=
 ⟨(hk bb h.own.1).trans h.blk,h.map.same (hk mb h.own.2),h.ne,h.own,fun p hp=>⟨(h.each p hp).1.keep (fun k hi=>hk k ((h.each p hp).2 k hi).1) hs,(h.each p hp).2⟩,h.apart,fun k hS=>⟨(h.lo k hS).1,Nat.lt_of_lt_of_le (h.lo k hS).2 hs⟩,h.all,h.few,h.size⟩
theorem z0r.low{w w':World}{bb mb B:Nat}{E:List (Int×z0C)}{b:z0m}{S:Nat→Prop}(h:z0r w bb mb E b B S)(hb:Below w.heap.size w w'):z0r w' bb mb E b B S:=h.keep (fun k hS=>hb.block k (h.lo k hS).2) hb.size
theorem z0r.only{w w':World}{bb mb B:Nat}{E:List (Int×z0C)}{b:z0m}{S S':Nat→Prop}(h:z0r w bb mb E b B S)(hb:z0s S' w w')(hd:∀k,S k→¬S' k):z0r w' bb mb E b B S:=h.keep (fun k hS=>hb.block k (h.lo k hS).2 (hd k hS)) hb.size
theorem z8m{α β:Type}(f:α→β)(k:Int)(E:List (Int×α)):z0H k (E.map fun p=>(p.1,f p.2))=(z0H k E).map f:=by
 unfold z0H
 induction E with
 | nil=>rfl
 | cons p E ih=>
  rw [List.map_cons,List.find?_cons,List.find?_cons];by_cases h:p.1=k
  ·simp [h]
  ·simp only [h,decide_false];exact ih
theorem z0r.get{w:World}{bb mb B:Nat}{E:List (Int×z0C)}{b:z0m}{S:Nat→Prop}(h:z0r w bb mb E b B S)(id:Nat):z0f b id=((z0H (id:Int) E).map z0C.ser).getD z7T:=by
 unfold z0f;rw [h.all,z8m]
theorem z0r.cells{w:World}{bb mb B:Nat}{E:List (Int×z0C)}{b:z0m}{S:Nat→Prop}(h:z0r w bb mb E b B S):w.cell? ⟨bb,0,none⟩=some (.int .i64 (b.most:Nat))∧w.cell? ⟨bb,1,none⟩=some (.int .i64 (b.size:Nat))∧w.cell? ⟨bb,2,none⟩=some (.map (some mb))∧∀j,w.frozen? ⟨bb,j,none⟩=false:=cells3 h.blk
theorem y9N(most size:Nat)(h0:1≤most∧most≤64)(h1:1≤size∧size≤24)(w:World):
  Calls Tryz.prog 37 #[.int .i64 most, .int .i64 size] w fun e w'=>∃bb mb S,e= .returned (.pointer (some ⟨bb,0,none⟩))∧z0r w' bb mb [] ⟨most,size, []⟩ w.heap.size S∧Below w.heap.size w w':=by
 have i0:¬((most:Int)<1):=by omega
 have i1:¬((64:Int)<most):=by omega
 have i2:¬((size:Int)<1):=by omega
 have i3:¬((24:Int)<size):=by omega
 have i4:¬((most:Int)>64):=by omega
 have i5:¬((size:Int)>24):=by omega
 have hmm:= @run_makeMap Tryz.prog;go_enter Tryz.func37,Tryz.ntmps37;go_wp2;go_ret;have hb1:=q5 w (.map #[] 0);have hb2:=hb1.trans ((q5 (w.alloc (.map #[] 0)) (.cells #[.int .i64 most, .int .i64 size, .map (some w.heap.size)] 167)).mono (by simp));have ha:=j8 (w.alloc (.map #[] 0)) (.cells #[.int .i64 most, .int .i64 size, .map (some w.heap.size)] 167);refine ⟨w.heap.size+1,rfl,⟨w.heap.size,fun k=>k=w.heap.size∨k=w.heap.size+1,⟨?_,?_,by omega,⟨.inr rfl, .inl rfl⟩,(fun p hp=>by cases hp),(fun p hp=>by cases hp),fun k hk=>?_,rfl,⟨by simp,h0.2⟩,h1⟩⟩,hb2⟩
 ·simpa using ha
 ·exact z3u.low (y1p w) (q5 _ _)
 ·rcases hk with rfl | rfl
  ·exact ⟨Nat.le_refl _,by simp;omega⟩
  ·exact ⟨by omega,by simp⟩
theorem q1E{w:World}{sb g:Nat}(h1:w.heap[g]? =some (.cells #[.slice none 0 0, .int .i64 0, .slice none 0 0, .int .i64 0, .int .i64 0, .int .i64 0, .bool false, .int .u64 0, .int .u8 0, .int .u8 0, .bool false] 141 (0,0)))(h2:w.heap[sb]? =some (.cells #[.slice (some ⟨g,0,none⟩) 1 1, .int .i64 0, .bool false] 158 (0,0)))(hne:sb≠g):
  z0v w ⟨sb,g,1,fun _=>False, [],z1y⟩:=
 ⟨h2,⟨rfl, .inr ⟨g,1,_,rfl,Nat.zero_le _,h1,Nat.le_refl _,by decide,rfl,rfl⟩⟩,hne,⟨fun h=>h,fun h=>h⟩,fun k hk=>hk.elim,(fun x hx=>by cases hx),y1N _ w⟩
theorem y7C(w:World):(Instr.makeSlice 156 (.int .i64 1) (.int .i64 1)).run Tryz.prog w= .ok (.slice (some ⟨w.heap.size,0,none⟩) 1 1) (w.alloc (.cells #[.slice none 0 0, .int .i64 0, .slice none 0 0, .int .i64 0, .int .i64 0, .int .i64 0, .bool false, .int .u64 0, .int .u8 0, .int .u8 0, .bool false] 141)):=by kernel_rfl
def y5u(g:Option z0C)(s:z1o)(w:World)(e:Ending)(w':World):Prop:=∃X,e= .returned (.pointer (some ⟨X.sb,0,none⟩))∧z0v w' X∧X.ser=s∧Below w.heap.size w w'∧(g=some X∨(g=none∧∀k,X.In k→w.heap.size≤k))
theorem z9q(bb mb B:Nat)(E:List (Int×z0C))(b:z0m)(S:Nat→Prop)(id:Nat)(hid:id<4294967296)(w:World)(h:z0r w bb mb E b B S):
  Calls Tryz.prog 44 #[.pointer (some ⟨bb,0,none⟩), .int .u32 id] w (y5u (z0H (id:Int) E) (z0f b id) w):=by
 have HG:=h.get id;obtain ⟨c0,c1,c2,cf⟩:=h.cells;have lb:=(h.lo bb h.own.1).2;have HM:=z7 h.map;cases hg:z0H (id:Int) E with
 | some X=>
  rw [hg] at HG;have hX:=(h.each _ (z1w hg)).1;have HF:Hid (∀w',Below w.heap.size w w'→y5u (some X) (z0f b id) w (.returned (.pointer (some ⟨X.sb,0,none⟩))) w'):=z7 fun w' hb=>⟨X,rfl,hX.low hb,HG.symm,hb, .inl rfl⟩;have HGG:=z7 hg;clear h hX HG hg;go_enter Tryz.func44,Tryz.ntmps44;go_wp2_with (at_lookup;refine z6k z6j rfl _ _ 165 rfl 130 Tryz.underlying165 (z6Q _) rfl rfl HM.out (id:Int) rfl (z7S hid) (some X) HGG.out (.pointer (some ⟨X.sb,0,none⟩)) rfl ?_);go_ret;exact HF.out _ (Below.refl _ _)
 | none=>
  rw [hg] at HG;have HF:Hid (∀w' X',Below w.heap.size w w'→z0v w' X'→X'.ser=z7T→(∀k,X'.In k→w.heap.size≤k)→y5u none (z0f b id) w (.returned (.pointer (some ⟨X'.sb,0,none⟩))) w'):=z7 fun w' X' hb h1 h2 h3=>⟨X',rfl,h1,h2.trans HG.symm,hb, .inr ⟨rfl,h3⟩⟩;have HGG:=z7 hg;have hmk:=y7C;clear h HG hg;go_enter Tryz.func44,Tryz.ntmps44;go_wp2_with (at_lookup;refine z6k z6j rfl _ _ 165 rfl 130 Tryz.underlying165 (z6Q _) rfl rfl HM.out (id:Int) rfl (z7S hid) none HGG.out (.pointer none) rfl ?_);go_ret;have hb1:=q5 w (.cells #[.slice none 0 0, .int .i64 0, .slice none 0 0, .int .i64 0, .int .i64 0, .int .i64 0, .bool false, .int .u64 0, .int .u8 0, .int .u8 0, .bool false] 141);have ha1:=j8 w (.cells #[.slice none 0 0, .int .i64 0, .slice none 0 0, .int .i64 0, .int .i64 0, .int .i64 0, .bool false, .int .u64 0, .int .u8 0, .int .u8 0, .bool false] 141);obtain ⟨w1,hw1⟩:∃w1,w1=w.alloc (.cells #[.slice none 0 0, .int .i64 0, .slice none 0 0, .int .i64 0, .int .i64 0, .int .i64 0, .bool false, .int .u64 0, .int .u8 0, .int .u8 0, .bool false] 141):=⟨_,rfl⟩;have hs1:w1.heap.size=w.heap.size+1:=by rw [hw1];simp
  rw [←hw1] at hb1 ha1 ⊢;have hb2:=q5 w1 (.cells #[.slice (some ⟨w.heap.size,0,none⟩) 1 1, .int .i64 0, .bool false] 158);have ha2:=j8 w1 (.cells #[.slice (some ⟨w.heap.size,0,none⟩) 1 1, .int .i64 0, .bool false] 158);have h0:=(hb2.block w.heap.size (by omega)).trans ha1;rw [hs1] at ha2;exact HF.out _ ⟨w.heap.size+1,w.heap.size,1,fun _=>False, [],z1y⟩ (hb1.trans (hb2.mono (by omega))) (q1E h0 ha2 (by omega)) rfl (fun k hk=>by
   rcases hk with h1 | h1 | h1
   ·simp only at h1;omega
   ·simp only at h1;omega
   ·exact h1.elim)
def z3q(b:z0m)(id:Nat):Nat:=if z0H (id:Int) b.all=none∧b.most≤b.all.length then 121 else 0
theorem y6S(bb mb B:Nat)(E:List (Int×z0C))(b:z0m)(S:Nat→Prop)(id:Nat)(hid:id<4294967296)(w:World)(h:z0r w bb mb E b B S):
  Calls Tryz.prog 148 #[.pointer (some ⟨bb,0,none⟩), .int .u32 id] w fun e w'=>e= .returned (.int .u16 (z3q b id:Nat))∧Below w.heap.size w w':=by
 have hall:b.all.length=E.length:=by rw [h.all];simp
 have hget:z0H (id:Int) b.all=(z0H (id:Int) E).map z0C.ser:=by rw [h.all,z8m]
 have hfew:=h.few;have H:=z7 h;cases hg:z0H (id:Int) E with
 | some X=>
  rw [hg] at hget;have hR:z3q b id=0:=by unfold z3q;rw [hget];simp
  rw [hR];have HGG:=z7 hg;clear h hR hget hg;go_enter Tryz.func148,Tryz.ntmps148;go_wp2_with fail;refine q6 19 24 (by kernel_rfl) (by kernel_rfl) rfl (by kernel_rfl) (fun D v w'=>Below w.heap.size w w') (fun _=>undef) (Below.refl _ _).drew ?_;simp only [List.take_succ_cons,List.take_zero,List.drop_succ_cons,List.drop_zero];iterate 8 (refine q8.rd (e:=?_) (fun D v w' hD hS=>?_) ?_;rotate_left;(have HB:=H.out.low hS;obtain ⟨c0,c1,c2,cf⟩:=HB.cells;have lb:=(HB.lo bb HB.own.1).2;have hlk:=z8P z6j 165 130 Tryz.underlying165 (z6Q w') rfl HB.map (id:Int) (z7S hid) (some X) HGG.out (.pointer (some ⟨X.sb,0,none⟩)) rfl;clear hS hD;first | (go_simp;done) | (go_simp;with_reducible rfl));go_simp)
  iterate 10 (refine q8.skip (fun v=>by rfl) (fun D v w h=>h) ?_;go_simp)
  iterate 1 (refine q8.rd (e:=?_) (fun D v w' hD hS=>?_) ?_;rotate_left;(skip;clear hS hD;first | (go_simp;done) | (go_simp;with_reducible rfl));go_simp)
  refine q8.fin (fun v w3 hS=>?_);go_wp2;go_ret;exact ⟨rfl,hS⟩
 | none=>
  rw [hg] at hget;obtain ⟨n,hn⟩:∃n,n=E.length:=⟨_,rfl⟩;obtain ⟨m,hm⟩:∃m,m=b.most:=⟨_,rfl⟩;by_cases hr:m≤n
  ·have hR:z3q b id=121:=by unfold z3q;rw [hget,hall,←hm,←hn];simp [hr]
   rw [hR];have d1:decide ((m:Int)≤(n:Int))=true:=decide_eq_true (by omega);have HGG:=z7 hg;have HN:=z7 hn;have HMM:=z7 hm;clear h hR hget hg hn hm hall hfew;go_enter Tryz.func148,Tryz.ntmps148;go_wp2_with fail;refine q6 19 24 (by kernel_rfl) (by kernel_rfl) rfl (by kernel_rfl) (fun D v w'=>Below w.heap.size w w') (fun _=>undef) (Below.refl _ _).drew ?_;simp only [List.take_succ_cons,List.take_zero,List.drop_succ_cons,List.drop_zero];iterate 19 (refine q8.rd (e:=?_) (fun D v w' hD hS=>?_) ?_;rotate_left;(have HB:=H.out.low hS;obtain ⟨c0,c1,c2,cf⟩:=HB.cells;rw [←HMM.out] at c0;have lb:=(HB.lo bb HB.own.1).2;have hlk:=z8P z6j 165 130 Tryz.underlying165 (z6Q w') rfl HB.map (id:Int) (z7S hid) none HGG.out (.pointer none) rfl;have hle:=World.ownsMap.len HB.map Tryz.underlying165 3;rw [y2Q,←HN.out] at hle;clear hS hD;first | (go_simp;done) | (go_simp;with_reducible rfl));go_simp)
   refine q8.fin (fun v w3 hS=>?_);go_wp2;go_ret;exact ⟨rfl,hS⟩
  ·have hR:z3q b id=0:=by unfold z3q;rw [hget,hall,←hm,←hn];simp [hr]
   rw [hR];have d1:decide ((m:Int)≤(n:Int))=false:=decide_eq_false (by omega);have HGG:=z7 hg;have HN:=z7 hn;have HMM:=z7 hm;clear h hR hget hg hn hm hall hfew;go_enter Tryz.func148,Tryz.ntmps148;go_wp2_with fail;refine q6 19 24 (by kernel_rfl) (by kernel_rfl) rfl (by kernel_rfl) (fun D v w'=>Below w.heap.size w w') (fun _=>undef) (Below.refl _ _).drew ?_;simp only [List.take_succ_cons,List.take_zero,List.drop_succ_cons,List.drop_zero];iterate 19 (refine q8.rd (e:=?_) (fun D v w' hD hS=>?_) ?_;rotate_left;(have HB:=H.out.low hS;obtain ⟨c0,c1,c2,cf⟩:=HB.cells;rw [←HMM.out] at c0;have lb:=(HB.lo bb HB.own.1).2;have hlk:=z8P z6j 165 130 Tryz.underlying165 (z6Q w') rfl HB.map (id:Int) (z7S hid) none HGG.out (.pointer none) rfl;have hle:=World.ownsMap.len HB.map Tryz.underlying165 3;rw [y2Q,←HN.out] at hle;clear hS hD;first | (go_simp;done) | (go_simp;with_reducible rfl));go_simp)
   refine q8.fin (fun v w3 hS=>?_);go_wp2;go_ret;exact ⟨rfl,hS⟩
def z5Y(b:z0m)(id:Nat)(t:Int):Nat:=if z3q b id=0 then (if (z5T (z0f b id)).2=true∧t≤(z5T (z0f b id)).1 then 120 else 0) else z3q b id
theorem y1V(b:z0m)(id:Nat):z3q b id=0∨z3q b id=121:=by unfold z3q;split<;>simp
theorem q2L(bb mb B:Nat)(E:List (Int×z0C))(b:z0m)(S:Nat→Prop)(id:Nat)(hid:id<4294967296)(t:Int)(v:Nat)(hfew:(z0f b id).done.length≤1000000000)(w:World)(h:z0r w bb mb E b B S):
  Calls Tryz.prog 80 #[.pointer (some ⟨bb,0,none⟩), .int .u32 id, .agg #[.int .i64 t, .int .u64 (v:Nat)]] w fun e w'=>e= .returned (.int .u16 (z5Y b id t:Nat))∧Below w.heap.size w w':=by
 have HL0:=z7 ((Loc.start w).new (.cells #[.int .i64 t, .int .u64 (v:Nat)] 113));have H:=z7 h;have HR:=z7 (y6S bb mb B E b S id hid _ (h.low HL0.out.low));have HAT:=z7 (fun w1 (hb:z0r w1 bb mb E b B S)=>z9q bb mb B E b S id hid w1 hb);have HFEW:=z7 hfew;rcases y1V b id with hr | hr
 ·obtain ⟨T,is,hT⟩:∃T is,(T,is)=z5T (z0f b id):=⟨_,_,rfl⟩;have hm:z5Y b id t=if is=true∧t≤T then 120 else 0:=by unfold z5Y;rw [if_pos hr,←hT]
  rw [hm];rw [hr] at HR;have HT:=z7 hT;clear h hr hm hT hfew;cases is with
  | false=>
   simp only [Bool.false_eq_true,false_and,if_false];go_enter Tryz.func80,Tryz.ntmps80;go_wp2_with fail;refine HR.out.mono ?_;rintro e w1 ⟨rfl,hb⟩;have HL1:=z7 (HL0.out.call hb);clear hb;go_wp2_with fail;refine (HAT.out _ (H.out.low HL1.out.low)).mono ?_;rintro e w2 ⟨X,rfl,hX,hXs,hb, -⟩;have HL2:=z7 (HL1.out.call hb);have HX:=z7 hX;have hti:=z7 (z9Q X (by have:=HFEW.out;rw [←hXs,X.done_len] at this;exact this) w2 hX);rw [hXs,←HT.out] at hti;clear hb hX hXs;go_wp2_with fail;refine hti.out.mono ?_;rintro e w3 ⟨rfl,hb⟩;have HL3:=z7 (HL2.out.call hb);clear hb;go_wp2;go_ret;exact ⟨rfl,HL3.out.low⟩
  | true=>
   by_cases hle:t≤T
   ·rw [if_pos ⟨rfl,hle⟩];have d1:decide (t≤T)=true:=decide_eq_true hle;clear hle;go_enter Tryz.func80,Tryz.ntmps80;go_wp2_with fail;refine HR.out.mono ?_;rintro e w1 ⟨rfl,hb⟩;have HL1:=z7 (HL0.out.call hb);clear hb;go_wp2_with fail;refine (HAT.out _ (H.out.low HL1.out.low)).mono ?_;rintro e w2 ⟨X,rfl,hX,hXs,hb, -⟩;have HL2:=z7 (HL1.out.call hb);have HX:=z7 hX;have hti:=z7 (z9Q X (by have:=HFEW.out;rw [←hXs,X.done_len] at this;exact this) w2 hX);rw [hXs,←HT.out] at hti;clear hb hX hXs;go_wp2_with fail;refine hti.out.mono ?_;rintro e w3 ⟨rfl,hb⟩;have HL3:=z7 (HL2.out.call hb);clear hb;obtain ⟨y0,y1,yf⟩:=z0g (HL3.out.get 0 rfl);have l0:=HL3.out.lt 0 rfl;go_wp2;go_ret;exact ⟨rfl,HL3.out.low⟩
   ·rw [if_neg (by simp;omega)];have d1:decide (t≤T)=false:=decide_eq_false hle;clear hle;go_enter Tryz.func80,Tryz.ntmps80;go_wp2_with fail;refine HR.out.mono ?_;rintro e w1 ⟨rfl,hb⟩;have HL1:=z7 (HL0.out.call hb);clear hb;go_wp2_with fail;refine (HAT.out _ (H.out.low HL1.out.low)).mono ?_;rintro e w2 ⟨X,rfl,hX,hXs,hb, -⟩;have HL2:=z7 (HL1.out.call hb);have HX:=z7 hX;have hti:=z7 (z9Q X (by have:=HFEW.out;rw [←hXs,X.done_len] at this;exact this) w2 hX);rw [hXs,←HT.out] at hti;clear hb hX hXs;go_wp2_with fail;refine hti.out.mono ?_;rintro e w3 ⟨rfl,hb⟩;have HL3:=z7 (HL2.out.call hb);clear hb;obtain ⟨y0,y1,yf⟩:=z0g (HL3.out.get 0 rfl);have l0:=HL3.out.lt 0 rfl;go_wp2;go_ret;exact ⟨rfl,HL3.out.low⟩
 ·have hm:z5Y b id t=121:=by unfold z5Y;rw [if_neg (by omega),hr]
  rw [hm];rw [hr] at HR;obtain ⟨T,is,hT⟩:∃T is,(T,is)=z5T (z0f b id):=⟨_,_,rfl⟩;have HT:=z7 hT;clear h hr hm hT hfew;go_enter Tryz.func80,Tryz.ntmps80;go_wp2_with fail;refine HR.out.mono ?_;rintro e w1 ⟨rfl,hb⟩;have HL1:=z7 (HL0.out.call hb);clear hb;go_wp2_with fail;refine (HAT.out _ (H.out.low HL1.out.low)).mono ?_;rintro e w2 ⟨X,rfl,hX,hXs,hb, -⟩;have HL2:=z7 (HL1.out.call hb);have HX:=z7 hX;have hti:=z7 (z9Q X (by have:=HFEW.out;rw [←hXs,X.done_len] at this;exact this) w2 hX);rw [hXs,←HT.out] at hti;clear hb hX hXs;go_wp2_with fail;refine hti.out.mono ?_;rintro e w3 ⟨rfl,hb⟩;have HL3:=z7 (HL2.out.call hb);clear hb;go_wp2;go_ret;exact ⟨rfl,HL3.out.low⟩
end
end Go.Proofs.YtfcnapnopdomhaaGreatDoor

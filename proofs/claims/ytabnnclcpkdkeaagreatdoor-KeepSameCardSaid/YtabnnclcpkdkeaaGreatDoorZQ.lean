/- Walks over package bytes at one nought. -/
import Derived.Test.YtabnnclcpkdkeaaGreatDoorZBase
import Derived.Lib.BytesEntry
import Derived.Lib.Walk
import Derived.ProofKit
namespace Go.Proofs.YtabnnclcpkdkeaaGreatDoor
open Go.Proofs.Tryz
set_option linter.all false
set_option maxRecDepth 100000
set_option maxHeartbeats 0
open Go.RowKit
theorem y9E:NoZ []:=by
 intro c h;cases h
theorem y6J{c:UInt8}{l:List UInt8}(I:c≠0)(h:NoZ l):NoZ (c::l):=by
 intro x A;rcases wy.1 A with e|A
 .rw[e];exact I
 exact h x A
theorem z7V:∀l:List UInt8,(NoZ l/\Lib.indexByte l 0= -1)\/∃o r,l=o++0::r/\NoZ o/\Lib.indexByte l 0=(o.length:Int)
 | []=> .inl ⟨y9E,rfl⟩
 | c::l=>by
  by_cases A:c=0
  .subst A;refine .inr ⟨[],l,rfl,y9E,?_⟩;simp[Lib.indexByte]
  rcases z7V l with⟨J,I⟩|⟨o,r,rfl,J,I⟩
  .exact .inl ⟨y6J A J,by simp[Lib.indexByte,A,I]⟩
  refine .inr ⟨c::o,r,rfl,y6J A J,?_⟩;have:¬((o.length:Int)= -1):=wF;simp[Lib.indexByte,A,I,this]
theorem y2O:∀l:List UInt8,Lib.bytesOf (l.map fun b=>(b.toNat:Int))=l
 | []=>rfl
 | c::l=>by
  have A:=y2O l;simp only[Lib.bytesOf,uI,mQ]at A ⊢;rw[A]
  congr 1
  exact UInt8.ofNat_toNat
theorem y7j{P:Program}(w:World)(x:Value)(l:List UInt8)(h:RdB w x l)(c:Int):
  (Extern.BytealgIndexByte.indexByte #[x,.int .u8 c]).run P w= .ok (.int .i64 (Lib.indexByte l c.toNat.toUInt8)) w:=by
 obtain⟨J,⟨rfl,hz⟩|⟨R,L,rfl,U⟩⟩:=h
 .obtain rfl:l= []:=wT hz;exact Lib.run_indexByteNil w 0 0 c
 obtain⟨I,A⟩:∃I:List Int,I=l.map fun b=>(b.toNat:Int):=⟨_,rfl⟩;have hb:Lib.bytesOf I=l:=by rw[A,y2O]
 have hn:I.length=l.length:=by simp[A]
 have J:=Lib.run_loadBytesX (P:=P) w I R .empty (fun j y N=>by
  refine U j _ ?_;rw[A]at N;simp only[uF,uM]at N;obtain⟨u,hu,rfl⟩:=N;simp[z0c,hu])
 rw[hn,hb]at J;have O:=Lib.run_indexByteString (P:=P) ⟨l.toArray⟩ c w;have Y:(⟨ByteArray.empty.data++l.toArray⟩:ByteArray)=⟨l.toArray⟩:=by
  apply ByteArray.ext;show(#[]:Array UInt8)++l.toArray=l.toArray;simp
 rw[Y]at J;change Sem.run P (do
  let b <-Extern.Bytes.bytesOf (.slice (some R) l.length L)
  let c <-Extern.Bytes.asByte (.int .u8 c)
  match(List.range b.size).find? fun i=>b[i]! ==c with
  | some i=>pure (goInt i)
  | none=>pure (goInt (-1))) w=_
 change Sem.run P (do
  let b <-Extern.Bytes.bytesOf (.string ⟨l.toArray⟩)
  let c <-Extern.Bytes.asByte (.int .u8 c)
  match(List.range b.size).find? fun i=>b[i]! ==c with
  | some i=>pure (goInt i)
  | none=>pure (goInt (-1))) w=_ at O
 simp only[Extern.Bytes.bytesOf,gh,gi,J,Result.andThen]at O ⊢;exact O
theorem y0c(x:Value)(l:List UInt8)(w:World)(h:RdB w x l):
  Calls prog 170 #[x,.int .u8 0] w fun e w'=>e= .returned (.int .i64 (Lib.indexByte l 0))/\w'=w:=by
 have A:=y7j (P:=prog) w x l h 0;obtain⟨a,c,rfl⟩:=h.head;go_enter func170,ntmps170;go_wp2;rw[run_callFunc_extern func193 (by kernel_rfl) (by kernel_rfl) (by kernel_rfl) (e:=Extern.BytealgIndexByte.indexByte) (by kernel_rfl),A];simp only[Result.andThen];rw[Oper.upon_value];go_wp2;go_ret;exact⟨rfl,rfl⟩
theorem q4o(x:Value)(l:List UInt8)(b c:Nat)(w:World)(h:RdB w x l)(A:w.cell? ⟨b,0,none⟩=some (.int .u8 0)):
  Calls prog 202 #[x,.slice (some ⟨b,0,none⟩) 1 c] w fun e w'=>e= .returned (.int .i64 (Lib.indexByte l 0))/\w'=w:=by
 have H:=z7 (y0c x l w h);obtain⟨a,c',rfl⟩:=h.head;clear h;go_enter func202,ntmps202;go_wp2_with (refine H.o.mono ?_;rintro e w' ⟨rfl,rfl⟩);go_ret;exact⟨rfl,rfl⟩

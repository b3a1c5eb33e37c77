/- Maps as lists of keys and what stands at. -/
import Derived.Test.YtabnnclcpkdkeaaGreatDoorZBase
import Derived.Maps.RangeWalk
import Derived.Maps.OwnOps
import Derived.Maps.OwnSet
import Derived.Sort.KeysCollected
namespace Go.Proofs.YtabnnclcpkdkeaaGreatDoor
set_option linter.all false
set_option maxRecDepth 100000
set_option maxHeartbeats 0
section
open Go.RowKit Go.Maps Go.WideMaps
structure z5C {κ:Type} (P:Program) (kT:TypeId) (kv:κ->Value) (kl:κ->Lit) (ok:κ->Prop):Prop where
 keyed:Keyed P kT
 of:∀k,ok k->keyOf P kT (kv k)=some (kl k)
 inv:∀(v:Value) (l:Lit),keyOf P kT v=some l->∃k,v=kv k/\l=kl k/\ok k
 inj:∀a b,kv a=kv b->a=b
 same:∀a b,(kl a).sameKey (kl b)=true↔a=b
theorem q0K{P:Program}{kT:TypeId}(A:P.underlying kT=some .string):z5C P kT encStr (fun l=> .string l) (fun l:List UInt8=>l.length<=maxLen) where
 keyed:=string_keyed A
 of:=fun k h=>by
  have:=keyOf_string_mk (P:=P) (k:=kT) (s:=⟨k.toArray⟩) A (by simpa[ByteArray.size]using h);simpa[encStr]using this
 inv:=fun v l h=>by obtain⟨x,I,J,L⟩:=Maps.keyOf_str A h;exact⟨x,I,J,L⟩
 inj:=fun a b h=>encStr_inj h
 same:=fun a b=>by simp[Lit.sameKey]
theorem q7E{P:Program}{kT:TypeId}{q:IntKind}(A:P.underlying kT=some (.int q)):z5C P kT (fun n:Int=> .int q n) (fun n=> .int q n) (fun n=>(Lit.int q n).wf=true) where
 keyed:=int_keyed A
 of:=fun k h=>keyOf_int_mk A h
 inv:=fun v l h=>Maps.keyOf_int_inv A h
 inj:=fun a b h=>by simpa using h
 same:=fun a b=>by simp[Lit.sameKey]
section
variable {κ ν:Type} (kl:κ->Lit) (f:ν->Value)
def z4G(sh:Value->Bool)(v:Value):Option (DataW Value×List MemPlace):=if sh v then some (.held v, [])else none
def q6j:Value->Bool
 | .slice _ _ _=>true
 | _=>false
def MD(E:List (κ×ν)):DataW Value:= .map (E.map fun p=>(kl p.1,.held (f p.2)))
def mins(x:κ×ν):List (κ×ν)->List (κ×ν)
 | []=> [x]
 | y::r=>if(kl x.1).before (kl y.1)then x::y::r else y::mins x r
def z2x [DecidableEq κ](k:κ)(E:List (κ×ν)):List (κ×ν):=E.filter fun p=>decide (p.1≠k)
def z1d [DecidableEq κ](k:κ)(v:ν)(E:List (κ×ν)):List (κ×ν):=mins kl (k,v) (z2x k E)
def z0J [DecidableEq κ](k:κ)(E:List (κ×ν)):Option ν:=(E.find? fun p=>decide (p.1=k)).map (·.2)
theorem y7r(x:κ×ν):∀E:List (κ×ν),(mins kl x E).map (fun p=>(kl p.1,DataW.held (f p.2)))=DataW.insert (kl x.1,DataW.held (f x.2)) (E.map fun p=>(kl p.1,DataW.held (f p.2)))
 | []=>rfl
 | y::r=>by
  unfold mins;simp only[uI];unfold DataW.insert;split
  .rfl
  rw[uI,y7r x r]
theorem y2H(x p:κ×ν):∀E:List (κ×ν),p∈mins kl x E↔p=x\/p∈E
 | []=>by simp[mins]
 | y::r=>by
  unfold mins;split
  .simp
  rw[wy,y2H x p r,wy];constructor
  .rintro(h|h|h)<;>simp[h]
  rintro(h|h|h)<;>simp[h]
theorem z6F(x:κ×ν):∀E:List (κ×ν),(mins kl x E).length=E.length+1
 | []=>rfl
 | y::r=>by
  unfold mins;split
  .simp
  simp[z6F x r]
theorem z2d [DecidableEq κ](k:κ)(v:ν)(p:κ×ν)(E:List (κ×ν)):p∈z1d kl k v E↔p=(k,v)\/(p∈E/\p.1≠k):=by
 unfold z1d z2x;rw[y2H,ev];simp
theorem z2L [DecidableEq κ](k:κ)(p:κ×ν)(E:List (κ×ν)):p∈z2x k E↔p∈E/\p.1≠k:=by
 unfold z2x;rw[ev];simp
variable {kl}
theorem y4S(E:List (κ×ν)):Maps.size (MD kl f E)=E.length:=by unfold MD;rw[Maps.size_eq,we]
variable [DecidableEq κ]
theorem q7Y(A:∀a b,(kl a).sameKey (kl b)=true↔a=b)(k:κ)(v:ν)(E:List (κ×ν)):(MD kl f E).put (kl k) (.held (f v))=MD kl f (z1d kl k v E):=by
 unfold MD z1d DataW.put;simp only;rw[y7r,ko]
 congr 3
 unfold z2x;apply tA;intro p _;have h:=A p.1 k;by_cases e:p.1=k
 .simp[e,(A k k).2 rfl]
 have I:(kl p.1).sameKey (kl k)=false:=by cases h3:(kl p.1).sameKey (kl k)with
  | false=>rfl
  | true=>exact absurd (h.1 h3) e
 simp[e,I]
theorem q7t(A:∀a b,(kl a).sameKey (kl b)=true↔a=b)(k:κ)(E:List (κ×ν)):(MD kl f E).del (kl k)=MD kl f (z2x k E):=by
 unfold MD z2x DataW.del;simp only;rw[ko]
 congr 2
 apply tA;intro p _;have h:=A p.1 k;by_cases e:p.1=k
 .simp[e,(A k k).2 rfl]
 have I:(kl p.1).sameKey (kl k)=false:=by cases h3:(kl p.1).sameKey (kl k)with
  | false=>rfl
  | true=>exact absurd (h.1 h3) e
 simp[e,I]
theorem q7o(A:∀a b,(kl a).sameKey (kl b)=true↔a=b)(k:κ)(E:List (κ×ν)):Maps.has (MD kl f E) (kl k)=(z0J k E).isSome:=by
 unfold MD z0J;rw[tN,r8];rw[gg];rw[uc,pq,tC];simp[A]
theorem y7g(A:∀a b,(kl a).sameKey (kl b)=true↔a=b)(k:κ)(z:Value)(E:List (κ×ν)):(MD kl f E).atKey (kl k) (.held z)= .held (((z0J k E).map f).getD z):=by
 unfold MD z0J DataW.atKey;simp only[List.find?_map];have e:((fun p:Lit×DataW Value=>p.1.sameKey (kl k)) ∘ fun p:κ×ν=>(kl p.1,DataW.held (f p.2)))=fun p:κ×ν=>decide (p.1=k):=by
  funext p
  rw[uc];simp[A]
 rw[e];cases E.find? fun p=>decide (p.1=k)<;>rfl
theorem z1q{k:κ}{v:ν}{E:List (κ×ν)}(h:z0J k E=some v):(k,v)∈E:=by
 unfold z0J at h;obtain⟨p,I,rfl⟩:=uM.1 h;have A:=List.find?_some I;have J:=List.mem_of_find?_eq_some I;simp only[od]at A;subst A;exact J
theorem z8C{k:κ}{E:List (κ×ν)}(h:z0J k E=none):∀p∈E,p.1≠k:=by
 unfold z0J at h;rw[Option.map_eq_none_iff,List.find?_eq_none]at h;intro p I A;exact h p I (by simpa using A)
def MOk(ok:κ->Prop)(E:List (κ×ν)):Prop:=E.Pairwise (fun p q=>p.1≠q.1)/\∀p∈E,ok p.1
theorem y1c{ok:κ->Prop}{E:List (κ×ν)}(h:MOk ok E){p:κ×ν}(U:p∈E):z0J p.1 E=some p.2:=by
 cases hg:z0J p.1 E with
 | none=>exact absurd rfl (z8C hg p U)
 | some v=>
  have hm:=z1q hg;by_cases e:(p.1,v)=p
  .rw[<-e]
  exfalso
  have key:∀L:List (κ×ν),L.Pairwise (fun p q=>p.1≠q.1)->∀a b,a∈L->b∈L->a.1=b.1->a=b:=by
   intro L
   induction L with
   | nil=>intro _ a b h;cases h
   | cons y r ih=>
    intro hL a b ha hb A;obtain⟨R,Y⟩:=uj.1 hL;rcases wy.1 ha with O|J
    .rcases wy.1 hb with N|I
     .rw[O,N]
     exact absurd (by rw[<-O];exact A) (R b I)
    rcases wy.1 hb with N|I
    .exact absurd (by rw[<-N];exact A.symm) (R a J)
    exact ih Y a b J I A
  exact e (key E h.1 _ _ hm U rfl)
end
section
variable {κ ν:Type} {P:Program} {kT:TypeId} {kv:κ->Value} {kl:κ->Lit} {ok:κ->Prop}
def z3X(w:World)(P:Program)(kT:TypeId)(kl:κ->Lit)(sh:Value->Bool)(f:ν->Value)(b:Nat)(E:List (κ×ν)):Prop:=w.ownsMap P kT (z4G sh) b E.length (MD kl f E)
theorem z6n{w:World}{sh:Value->Bool}{f:ν->Value}{b n:Nat}{E:List (κ×ν)}(h:w.ownsMap P kT (z4G sh) b n (MD kl f E)):z3X w P kT kl sh f b E:=by
 obtain⟨es,A,hb,F,L,I⟩:=h;refine⟨es,A,hb,F,?_,I⟩;unfold MD at I;have J:=uS (fun D:DataW Value=>Maps.size D) I;simp only[Maps.size_eq,we,length_read]at J;omega
variable {w w':World} {sh:Value->Bool} {f:ν->Value} {b:Nat} {E:List (κ×ν)}
theorem z3X.lt(h:z3X w P kT kl sh f b E):b<w.heap.size:=World.ownsMap.lt h
theorem z3X.same(h:z3X w P kT kl sh f b E)(J:w'.heap[b]? =w.heap[b]?):z3X w' P kT kl sh f b E:=by
 obtain⟨es,A,hb,F,L,I⟩:=h;exact⟨es,A,J.trans hb,F,L,I⟩
theorem z3X.chg{F A:List Nat}(h:z3X w P kT kl sh f b E)(I:Chg F A w w')(hb:b∉F):z3X w' P kT kl sh f b E:=h.same (I.block b h.lt hb)
theorem z3X.low(h:z3X w P kT kl sh f b E)(hb:Below w.heap.size w w'):z3X w' P kT kl sh f b E:=h.same (hb.block b h.lt)
theorem y0z(w:World):z3X (w.alloc (.map #[] 0)) P kT kl sh f w.heap.size ([]:List (κ×ν)):=World.ownsMap_made w P kT (z4G sh)
theorem z3X.mok(h:z3X w P kT kl sh f b E)(K:z5C P kT kv kl ok):MOk ok E/\∀p∈E,sh (f p.2)=true:=by
 obtain⟨es,R,hb,F,hs,O⟩:=h;unfold MD at O;simp only[DataW.map.injEq]at O;have A:((es.toList.map (WideElems.rg P kT (z4G sh))).foldr DataW.insert []).Pairwise (fun p q=>p.1≠q.1):=((WideShapes.sorted_perm _).pairwise_iff (fun {_ _} hne=>pz hne)).2 (Maps.fit_apart K.keyed F);rw[<-O,oy]at A;have hm:∀p∈E,ok p.1/\sh (f p.2)=true:=fun p A=>by
  have h1:(kl p.1,DataW.held (f p.2))∈(es.toList.map (WideElems.rg P kT (z4G sh))).foldr DataW.insert []:=by
   rw[<-O];exact uC.2 ⟨p,A,rfl⟩
  obtain⟨x,hx,I⟩:=uC.1 (mem_sorted.1 h1);obtain⟨y,hy⟩:=F.reads x hx;rw[WideElems.rg_of hy]at I;have h2:=WideElems.rd_key hy;obtain⟨z,L,a1⟩:=WideElems.rd_val hy;obtain⟨k,a2,J,Y⟩:=K.inv _ _ h2;have U:=uS Prod.fst I;have N:=uS Prod.snd I;simp only at U N;rw[J]at U;have e3:p.1=k:=(K.same _ _).1 (by
   have h4:=K.keyed.key h2;rw[<-U,J.symm];exact WideAt.sameKey_self h4)
  refine⟨by rw[e3];exact Y,?_⟩;unfold z4G at L;split at L
  .rename_i a0;simp only[wK]at L;subst L;rw[a1]at N;simp only[gr]at N;rw[<-N];exact a0
  cases L
 exact⟨⟨A.imp fun {a b} hab e=>hab (by rw[e]),fun p A=>(hm p A).1⟩,fun p A=>(hm p A).2⟩
variable {ops:Array Oper} {rest:List Oper} {o:Oper} {a:Act} {Q:Exit->Act->World->Prop}
theorem y0k{v:Value}(h:sh v=true):z4G sh v=some (.held v, []):=by unfold z4G;rw[wZ h]
theorem z4Z{v:Value}{y:DataW Value×List MemPlace}(h:z4G sh v=some y):y=(.held v, [])/\sh v=true:=by
 unfold z4G at h;split at h
 .rename_i A;simp only[wK]at h;exact⟨h.symm,A⟩
 cases h
theorem z8h(K:z5C P kT kv kl ok)(L:o.guard=none)(m:Operand)(t:TypeId)(I:o.op=Op.call {callee:=Callee.builtin Builtin.len,args:= #[m],argTypes:= #[t]})
  (e:TypeId) (O:P.underlying t=some (.map kT e)) (N:a.eval m= .map (some b)) (A:z3X w P kT kl sh f b E) (J:wpList P ops Q rest (a.put o.dst (.int .i64 E.length)) w):wpList P ops Q (o::rest) a w:=by
 refine wpList_len_own w L m t I kT e O (z4G sh) b E.length (MD kl f E) N A ?_;rw[y4S];exact J
variable [DecidableEq κ]
theorem z7I(K:z5C P kT kv kl ok)(hg:o.guard=none)(m x:Operand)(t:TypeId)(N:o.op=Op.lookup t m x true)
  (e:TypeId) (ht:P.underlying t=some (.map kT e)) {z:Value} (hz:(zeroValue e).run P w= .ok z w) (O:sh z=true)
  (hm:a.eval m= .map (some b)) (I:z3X w P kT kl sh f b E) (k:κ) (hx:a.eval x=kv k) (L:ok k) (g:Option ν) (A:z0J k E=g) (u:Value) (hu:(g.map f).getD z=u) (R:Bool) (J:g.isSome=R)
  (hK:wpList P ops Q rest (a.put o.dst (.tuple #[u,.bool R])) w):wpList P ops Q (o::rest) a w:=by
 refine wpList_lookup_own_ok w hg m x t N kT e K.keyed ht (z4G sh) hz (.held z) [] (y0k O) b E.length (MD kl f E) hm I (kv k) (kl k) hx (K.of k L) fun v ps Y=>?_;rw[y7g f K.same,A,hu]at Y;rw[q7o f K.same,A,J];obtain⟨U,_⟩:=z4Z Y;simp only[wk,gr]at U;rw[<-U.1];exact hK
theorem q3q(K:z5C P kT kv kl ok)(m x:Operand)(t:TypeId)(N:o.op=Op.lookup t m x false){R:Act->World->Prop}
  (e:TypeId) (ht:P.underlying t=some (.map kT e)) {z:Value} (hz:(zeroValue e).run P w= .ok z w) (O:sh z=true)
  (hm:a.eval m= .map (some b)) (I:z3X w P kT kl sh f b E) (k:κ) (hx:a.eval x=kv k) (L:ok k) (g:Option ν) (A:z0J k E=g) (u:Value) (hu:(g.map f).getD z=u)
  (hK:R (a.put o.dst u) w):o.wp P a w R Q:=by
 obtain⟨v,ps,J,Y⟩:=rN I K.keyed ht hz (y0k O) (K.of k L);rw[y7g f K.same,A,hu]at Y;obtain⟨U,_⟩:=z4Z Y;simp only[wk,gr]at U;unfold Oper.wp;simp[execOp,N,hm,hx,J,Result.andThen];rw[<-U.1];exact hK
theorem z5T(K:z5C P kT kv kl ok)(t e:TypeId)(U:P.underlying t=some (.map kT e)){z:Value}(hz:(zeroValue e).run P w= .ok z w)(N:sh z=true)
  (I:z3X w P kT kl sh f b E) (k:κ) (L:ok k) (g:Option ν) (A:z0J k E=g) (u:Value) (Y:(g.map f).getD z=u):(Instr.lookup t (.map (some b)) (kv k) false).run P w= .ok u w:=by
 obtain⟨v,ps,J,R⟩:=rN I K.keyed U hz (y0k N) (K.of k L);rw[y7g f K.same,A,Y]at R;obtain⟨O,_⟩:=z4Z R;simp only[wk,gr]at O;rw[J,<-O.1]
theorem z5O(K:z5C P kT kv kl ok)(U:o.guard=none)(m x:Operand)(t:TypeId)(N:o.op=Op.lookup t m x false)
  (e:TypeId) (ht:P.underlying t=some (.map kT e)) {z:Value} (hz:(zeroValue e).run P w= .ok z w) (O:sh z=true)
  (Y:a.eval m= .map (some b)) (I:z3X w P kT kl sh f b E) (k:κ) (hx:a.eval x=kv k) (L:ok k) (g:Option ν) (A:z0J k E=g) (u:Value) (hu:(g.map f).getD z=u)
  (R:wpList P ops Q rest (a.put o.dst u) w):wpList P ops Q (o::rest) a w:=
 qw U fun K' J=>q3q K m x t N e ht hz O Y I k hx L g A u hu (J _ _ R)
theorem z2I(K:z5C P kT kv kl ok)(U:o.guard=none)(m x v:Operand)(t:TypeId)(J:o.op=Op.mapUpdate t m x v)
  (e:TypeId) (ht:P.underlying t=some (.map kT e)) (Y:a.eval m= .map (some b)) (A:z3X w P kT kl sh f b E) (hn:E.length<maxLen) (k:κ) (hx:a.eval x=kv k) (I:ok k) (y:ν) (hv:a.eval v=f y) (L:sh (f y)=true)
  (R:∀w',z3X w' P kT kl sh f b (z1d kl k y E)->w.grownBy w' (some b)->w'.heap.size=w.heap.size->wpList P ops Q rest (a.put o.dst undef) w'):wpList P ops Q (o::rest) a w:=by
 refine wpList_mapUpdate_in w U m x v t J kT e K.keyed ht (z4G sh) b E.length (MD kl f E) Y A hn (kv k) (f y) (kl k) hx hv (K.of k I) (.held (f y)) [] (y0k L) fun w' N O=>?_;rw[q7Y f K.same]at N;refine R w' (z6n N) O.grown ?_;obtain⟨_,_,_,_,_,rfl⟩:=O;simp[ChangeMaps.setBlock]
theorem y1i(K:z5C P kT kv kl ok)(R:o.guard=none)(m x:Operand)(t:TypeId)(J:o.op=Op.call {callee:=Callee.builtin Builtin.delete,args:= #[m,x],argTypes:= #[t,kT]})
  (e:TypeId) (Y:P.underlying t=some (.map kT e)) (U:a.eval m= .map (some b)) (A:z3X w P kT kl sh f b E) (k:κ) (hx:a.eval x=kv k) (I:ok k)
  (O:∀w',z3X w' P kT kl sh f b (z2x k E)->w.grownBy w' (some b)->w'.heap.size=w.heap.size->wpList P ops Q rest (a.put o.dst (.tuple #[])) w'):wpList P ops Q (o::rest) a w:=by
 refine wpList_delete_own w R m x t kT J e K.keyed Y (z4G sh) b E.length (MD kl f E) U A (kv k) (kl k) hx (K.of k I) fun w' L N=>?_;rw[q7t f K.same]at L;refine O w' (z6n L) N.grown ?_;obtain⟨_,_,_,_,_,rfl⟩:=N;simp[ChangeMaps.setBlock]
def z3b(w:World)(P:Program)(kT:TypeId)(kl:κ->Lit)(ok:κ->Prop)(sh:Value->Bool)(f:ν->Value)(b r:Nat)(E R:List (κ×ν)):Prop:=
 ∃left cnt,w.ranges P kT (z4G sh) b r E.length (MD kl f E) left cnt/\(∀k,ok k->left (kl k)=R.any fun p=>decide (p.1=k))/\(∀p∈R,p∈E)/\MOk ok R
theorem z3b.kept{r:Nat}{R:List (κ×ν)}(h:z3b w P kT kl ok sh f b r E R){row:Option Nat}(J:w.grownBy w' row)(hb:some b≠row)(L:some r≠row):z3b w' P kT kl ok sh f b r E R:=by
 obtain⟨left,cnt,A,I⟩:=h;exact⟨left,cnt,A.kept J hb L,I⟩
theorem z3b.owns{r:Nat}{R:List (κ×ν)}(h:z3b w P kT kl ok sh f b r E R):z3X w P kT kl sh f b E:=by
 obtain⟨left,cnt,A,I⟩:=h;exact z6n A.owns
theorem y3u(K:z5C P kT kv kl ok)(R:o.guard=none)(m:Operand)(t:TypeId)(I:o.op=Op.range t m)(e:TypeId)(ht:P.underlying t=some (.map kT e))(U:a.eval m= .map (some b))(A:z3X w P kT kl sh f b E)
  (O:∀w',z3b w' P kT kl ok sh f b w.heap.size E E->w.grownBy w' none->w'.heap.size=w.heap.size+1->wpList P ops Q rest (a.put o.dst (.pointer (some ⟨w.heap.size,0,none⟩))) w'):wpList P ops Q (o::rest) a w:=by
 refine wpList_range_own w R m t I kT e K.keyed ht (z4G sh) b E.length (MD kl f E) U A fun w' J L N=>O w' ⟨_,_,J,fun k hk=>?_,fun p Y=>Y,(A.mok K).1⟩ L N;unfold MD;rw[tN,r8,uc,pq,pq];simp[K.same]
theorem y4I{β:Type}{r:Nat}{R:List (κ×ν)}(K:z5C P kT kv kl ok)(hg:o.guard=none)(it:Operand)(aF:o.op=Op.next it false)(J:β->Value)(a4:∀v,sh v=true->∃c,v=J c)
  (a8:a.eval it= .pointer (some ⟨r,0,none⟩)) (h:z3b w P kT kl ok sh f b r E R)
  (N:R= []->wpList P ops Q rest (a.put o.dst (.tuple #[.bool false])) w)
  (O:∀(p:κ×ν) (c:β) (w':World),p∈R->f p.2=J c->z3b w' P kT kl ok sh f b r E (z2x p.1 R)->w.grownBy w' (some r)->w'.heap.size=w.heap.size->w'.rangeLeft b r<w.rangeLeft b r->
   (Instr.entry (.pointer (some ⟨r,0,none⟩))).run P w'= .ok (.tuple #[kv p.1,J c]) w'->wpList P ops Q rest (a.put o.dst (.tuple #[.bool true,kv p.1,J c])) w'):wpList P ops Q (o::rest) a w:=by
 obtain⟨left,cnt,Y,hl,hm,I⟩:=h;have A:∀k,ok k->left (kl k)=R.any fun p=>decide (p.1=k):=hl;have hE:=(z6n Y.owns).mok K;refine wpList_next_ranges w hg it aF kT K.keyed (z4G sh) kv J (fun key l hk=>by obtain⟨k,h1,_⟩:=K.inv _ _ hk;exact⟨k,h1⟩) (fun v y hv=>a4 v (z4Z hv).2) b r E.length (MD kl f E) left cnt a8 Y (fun h0 aB=>?_) (fun x c l y w' a0 a1 aC hv a5 L aE a7 aG a6=>?_)
 .refine N ?_
  match R,I,A with
  | [],_,_=>rfl
  | p::R,I,A=>
   have:=A p.1 (I.2 p wH);rw[aB]at this;simp at this
 obtain⟨k,a9,rfl,aA⟩:=K.inv _ _ a1;obtain rfl:=K.inj _ _ a9;have h1:=A x aA;rw[aC]at h1;obtain⟨p,hp,a3⟩:=pq.1 h1.symm;simp only[od]at a3;subst a3;have h2:=a5 (.held undef);rw[y7g f K.same,y1c hE.1 (hm p hp),(z4Z hv).1]at h2;simp only[pK,ki,gr]at h2;refine O p c w' hp h2 ⟨_,a0,L,fun k hk=>?_,fun q U=>hm q ((z2L p.1 q R).1 U).1,⟨I.1.filter _,fun q U=>I.2 q ((z2L p.1 q R).1 U).1⟩⟩ a7 aG (by rw[L.left_eq,Y.left_eq];exact aE) a6;rw[A k hk,uc];simp only[uh,pq,od,mP];constructor
 .rintro⟨⟨q,U,rfl⟩,a2⟩;refine⟨q,(z2L _ _ _).2 ⟨U,fun e=>?_⟩,rfl⟩;rw[e,(K.same _ _).2 rfl]at a2;cases a2
 rintro⟨q,U,rfl⟩;obtain⟨h3,h4⟩:=(z2L _ _ _).1 U;refine⟨⟨q,h3,rfl⟩,?_⟩;cases hs:(kl q.1).sameKey (kl p.1)with
 | false=>rfl
 | true=>exact absurd ((K.same _ _).1 hs) h4
theorem y4w{E:List (κ×ν)}(h:MOk ok E){p:κ×ν}(J:p∈E):(p::z2x p.1 E).Perm E:=by
 obtain⟨O,R⟩:=h;clear R
 induction E with
 | nil=>cases J
 | cons y r ih=>
  obtain⟨I,N⟩:=uj.1 O;unfold z2x;rw[ot];rcases wy.1 J with rfl|L
  .have e:(r.filter fun q=>decide (q.1≠p.1))=r:=dv.2 fun q U=>by simpa using(I q U).symm
   rw[wR wH,e]
  have A:y.1≠p.1:=I p L;rw[wZ (by simpa using A)];exact(qO y p _).trans ((ih L N).cons y)
end
end
section
open Go.RowKit Go.Maps
abbrev z7U (n:Int):Value:= .int .u32 n
abbrev z4e (n:Int):Lit:= .int .u32 n
theorem z4S:z5C Tryz.prog 40 z7U z4e (fun n=>(Lit.int .u32 n).wf=true):=q7E Tryz.underlying40
theorem z9r{n:Nat}(h:n<4294967296):(Lit.int .u32 (n:Int)).wf=true:=by simp[Lit.wf,IntKind.min,IntKind.max,IntKind.signed,IntKind.bits];omega
abbrev Bs:=List UInt8
structure FsS where
 room:Int
 files:List (Bs×Bs)
 waits:List (Bs×Bs)
 left:Option Int
 halted:Bool
def z1O(k:Bs):Lit:= .string k
def named(k:Bs):Bool:=decide (1<=k.length)&&decide (k.length<=16)
def pieces(k:Bs)(L:List (Bs×Bs)):Bs:=(L.filter fun p=>decide (p.1=k)).flatMap (·.2)
def total(L:List (Bs×Bs)):Nat:=(L.map fun p=>p.2.length).sum
def FsS.used(s:FsS):Nat:=total s.files+total s.waits
def FsS.has(s:FsS)(k:Bs):Bool:=(z0J k s.files).isSome
def FsS.get(s:FsS)(k:Bs):Bs:=(z0J k s.files).getD []++pieces k s.waits
def FsS.go(s:FsS):Bool:=decide (s.left≠some 0)
def FsS.went(s:FsS):FsS:=match s.left with
 | none=>s
 | some n=>if n=0 then {s with halted:=true}else {s with left:=some (n - 1)}
def z0O(k:Bs)(L:List (Bs×Bs)):List (Bs×Bs):=L.filter fun p=>decide (p.1≠k)
def z7F(room:Int):FsS:=⟨room, [], [],none,false⟩
def z1i(s:FsS)(k:Bs):Int×FsS:=
 if named k=false then(1,s)else if s.has k then(81,s)else if 8<=s.files.length then(3,s)
 else(0,if s.go then {s.went with files:=z1d z1O k [] s.files}else s.went)
def z0V(s:FsS)(k b:Bs):Int×FsS:=
 if s.has k=false then(80,s)else if b.length=0 then(0,s)else if s.room - s.used<b.length then(82,s)
 else(0,if s.go then {s.went with waits:=s.waits++ [(k,b)]}else s.went)
def z2G(s:FsS)(k:Bs):Int×FsS:=
 if s.has k=false then(80,s)else(0,if s.go then {s.went with files:=z1d z1O k (s.get k) s.files,waits:=z0O k s.waits}else s.went)
def z5Z(s:FsS)(k:Bs)(n:Int):Int×FsS:=
 if s.has k=false then(80,s)else if n<0\/(s.get k).length<n then(1,s)
 else(0,if s.go then {s.went with files:=z1d z1O k ((s.get k).take n.toNat) s.files,waits:=z0O k s.waits}else s.went)
def z3v(s:FsS)(k:Bs):Int×FsS:=
 if s.has k=false then(80,s)else(0,if s.go then {s.went with files:=z2x k s.files,waits:=z0O k s.waits}else s.went)
def z2p(s:FsS)(a b:Bs):Int×FsS:=
 if s.has a=false then(80,s)else if named b=false then(1,s)else if a=b then(0,s)
 else(0,if s.go then {s.went with files:=z2x a (z1d z1O b ((z0J a s.files).getD []) s.files),waits:=(z0O b s.waits).map fun p=>if p.1=a then(b,p.2)else p}else s.went)
structure FsS.Ok (s:FsS):Prop where
 room0:0<=s.room
 room1:s.room<=1048576
 used:(s.used:Int)<=s.room
 few:s.files.length<=8
 names:∀p∈s.files,named p.1=true
 piece:∀p∈s.waits,p.2≠ []/\s.has p.1=true
 left0:∀n,s.left=some n->0<=n/\n<=9223372036854775807
theorem z5P(L R:List (Bs×Bs)):total (L++R)=total L+total R:=by simp[total]
theorem z2M(p:Bs×Bs)(L:List (Bs×Bs)):total (p::L)=p.2.length+total L:=by simp[total]
theorem y9p{L R:List (Bs×Bs)}(h:L.Perm R):total L=total R:=by
 unfold total;exact(h.map _).sum_nat
theorem y0B{κ ν:Type}(kl:κ->Lit)(x:κ×ν):∀E:List (κ×ν),(mins kl x E).Perm (x::E)
 | []=>ma _
 | y::r=>by
  unfold mins;split
  .exact ma _
  exact((y0B kl x r).cons y).trans (qO x y r)
theorem z5y(f:Bs×Bs->Bool)(L:List (Bs×Bs)):total (L.filter f)<=total L:=by
 induction L with
 | nil=>simp
 | cons p L ih=>
  rw[ot];split
  .rw[z2M,z2M];omega
  rw[z2M];omega
theorem y3h(k:Bs)(L:List (Bs×Bs)):(pieces k L).length=total (L.filter fun p=>decide (p.1=k)):=by
 unfold pieces total
 induction L.filter fun p=>decide (p.1=k)with
 | nil=>rfl
 | cons p M ih=>simp[ih]
theorem y6f(k:Bs)(L:List (Bs×Bs)):total L=total (L.filter fun p=>decide (p.1=k))+total (z0O k L):=by
 unfold z0O
 induction L with
 | nil=>rfl
 | cons p L ih=>
  by_cases h:p.1=k
  .rw[ot,wZ (by simpa using h),ot,wR (by simpa using h),z2M,z2M,ih];omega
  rw[ot,wR (by simpa using h),ot,wZ (by simpa using h),z2M,z2M,ih];omega
theorem z9n{k v:Bs}{L:List (Bs×Bs)}(h:z0J k L=some v):v.length+total (z2x k L)<=total L:=by
 induction L with
 | nil=>cases h
 | cons p L ih=>
  unfold z0J at h ih;unfold z2x at ih ⊢;rw[dt]at h;rw[ot,z2M];by_cases e:p.1=k
  .simp only[e,rO,pK,wK]at h;subst h;rw[wR (by simpa using e)];have:=z5y (fun p=>decide (p.1≠k)) L;omega
  simp only[e,qu]at h;rw[wZ (by simpa using e),z2M];have:=ih h;omega
theorem z7p(k:Bs)(L:List (Bs×Bs)):total (z2x k L)<=total L:=z5y _ L
theorem z4V(k v:Bs)(L:List (Bs×Bs)):total (z1d z1O k v L)=v.length+total (z2x k L):=by
 unfold z1d;rw[y9p (y0B z1O (k,v) (z2x k L)),z2M]
theorem y0T{κ ν:Type} [DecidableEq κ](k:κ)(E:List (κ×ν)):(z2x k E).length<=E.length:=ml _ _
theorem z5j{κ ν:Type} [DecidableEq κ](kl:κ->Lit)(k:κ)(v:ν)(E:List (κ×ν)):(z1d kl k v E).length<=E.length+1:=by
 unfold z1d;rw[z6F];have:=y0T k E;omega
theorem z7G{κ ν:Type} [DecidableEq κ]{k:κ}{E:List (κ×ν)}(h:(z0J k E).isSome=true):(z2x k E).length+1<=E.length:=by
 unfold z0J at h;rw[gg,tC]at h;obtain⟨p,A,I⟩:=h;unfold z2x
 induction E with
 | nil=>cases A
 | cons y r ih=>
  rw[ot];by_cases e:y.1=k
  .rw[wR (by simpa using e)];have:=ml (fun q:κ×ν=>decide (q.1≠k)) r;simp;simpa using this
  rw[wZ (by simpa using e)];rcases wy.1 A with rfl|A
  .exact absurd (by simpa using I) e
  have:=ih A;simp at this ⊢;omega
theorem z6L{κ ν:Type} [DecidableEq κ](kl:κ->Lit)(k:κ)(v:ν)(E:List (κ×ν)):z0J k (z1d kl k v E)=some v:=by
 unfold z1d z0J;have:∀L:List (κ×ν),(∀p∈L,p.1≠k)->(mins kl (k,v) L).find? (fun p=>decide (p.1=k))=some (k,v):=by
  intro L
  induction L with
  | nil=>intro _;simp[mins]
  | cons y r ih=>
   intro h;unfold mins;split
   .simp
   rw[dt];have:decide (y.1=k)=false:=(by simpa using h y wH);rw[this];exact ih fun p A=>h p (by simp[A])
 rw[this _ fun p A=>((z2L k p E).1 A).2];rfl
theorem z2Y{κ ν:Type} [DecidableEq κ](kl:κ->Lit){k I:κ}(A:I≠k)(v:ν)(E:List (κ×ν)):z0J I (z1d kl k v E)=z0J I E:=by
 unfold z1d z0J z2x;have J:∀L:List (κ×ν),(mins kl (k,v) L).find? (fun p=>decide (p.1=I))=L.find? fun p=>decide (p.1=I):=by
  intro L
  induction L with
  | nil=>simp[mins,pz A]
  | cons y r ih=>
   unfold mins;split
   .rw[dt];simp[pz A]
   rw[dt,dt,ih]
 rw[J]
 congr 1
 rw[tB]
 congr 1
 funext p
 by_cases e:p.1=I
 .simp[e,A]
 simp[e]
theorem z6c{κ ν:Type} [DecidableEq κ]{k A:κ}(I:A≠k)(E:List (κ×ν)):z0J A (z2x k E)=z0J A E:=by
 unfold z0J z2x
 congr 1
 rw[tB]
 congr 1
 funext p
 by_cases e:p.1=A
 .simp[e,I]
 simp[e]
theorem z7k(s:FsS)(k:Bs):(s.get k).length+total (z2x k s.files)+total (z0O k s.waits)<=s.used:=by
 unfold FsS.get FsS.used;rw[wP,y3h];have A:=y6f k s.waits;cases h:z0J k s.files with
 | none=>
  have:=z7p k s.files;simp;omega
 | some v=>
  have:=z9n h;simp;omega
theorem q0m{κ ν μ:Type}(kl:κ->Lit)(g:ν->μ)(x:κ×ν):∀E:List (κ×ν),(mins kl x E).map (fun p=>(p.1,g p.2))=mins kl (x.1,g x.2) (E.map fun p=>(p.1,g p.2))
 | []=>rfl
 | y::r=>by
  unfold mins;simp only[uI];split
  .rfl
  rw[uI,q0m kl g x r]
theorem q0b{κ ν μ:Type} [DecidableEq κ](g:ν->μ)(k:κ)(E:List (κ×ν)):(z2x k E).map (fun p=>(p.1,g p.2))=z2x k (E.map fun p=>(p.1,g p.2)):=by
 unfold z2x;rw[ko];rfl
theorem y9N{κ ν μ:Type} [DecidableEq κ](kl:κ->Lit)(g:ν->μ)(k:κ)(v:ν)(E:List (κ×ν)):(z1d kl k v E).map (fun p=>(p.1,g p.2))=z1d kl k (g v) (E.map fun p=>(p.1,g p.2)):=by
 unfold z1d;rw[q0m,q0b]
theorem y1G{κ ν μ:Type} [DecidableEq κ](g:ν->μ)(k:κ)(E:List (κ×ν)):z0J k (E.map fun p=>(p.1,g p.2))=(z0J k E).map g:=by
 unfold z0J;rw[List.find?_map,qS,qS];rfl
theorem FsS.Ok.went{s:FsS}(h:s.Ok):s.went.Ok:=by
 unfold FsS.went;cases hl:s.left with
 | none=>exact h
 | some n=>
  dsimp only;split
  .exact⟨h.room0,h.room1,h.used,h.few,h.names,h.piece,by rw[<-hl];exact h.left0⟩
  have:=h.left0 n hl;exact⟨h.room0,h.room1,h.used,h.few,h.names,h.piece,fun m A=>by simp only[wK]at A;omega⟩
theorem z2T(s:FsS):s.went.room=s.room/\s.went.files=s.files/\s.went.waits=s.waits:=by
 unfold FsS.went;cases s.left with
 | none=>exact⟨rfl,rfl,rfl⟩
 | some n=>dsimp only;split<;>exact⟨rfl,rfl,rfl⟩
theorem y0e{s:FsS}(h:s.Ok)(F W:List (Bs×Bs))(U:total F+total W<=s.used)(J:F.length<=8)(L:∀p∈F,named p.1=true)(N:∀p∈W,p.2≠ []/\(z0J p.1 F).isSome=true):({s.went with files:=F,waits:=W}:FsS).Ok:=by
 have A:=h.went;obtain⟨I,O,R⟩:=z2T s;refine⟨A.room0,A.room1,?_,J,L,N,A.left0⟩;show((total F+total W:Nat):Int)<=s.went.room;rw[I];have:=h.used;omega
end

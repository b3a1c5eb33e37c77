/-
  Maps as lists of keys and what stands at them: a key type of one's own, elements that are values; how Go's operations on maps turn such lists.
-/
import Derived.Test.YtfcnapnopdomhaaGreatDoorZRdOnceCrcACrcB
import Derived.Maps.RangeWalk
import Derived.Maps.OwnOps
import Derived.Maps.OwnSet
import Derived.Sort.KeysCollected
namespace Go.Proofs.YtfcnapnopdomhaaGreatDoor
set_option linter.unusedSimpArgs false
set_option linter.unusedVariables false
set_option maxRecDepth 100000
set_option maxHeartbeats 12800000
open Go.RowKit Go.Maps Go.WideMaps
structure z5j {κ:Type} (P:Program) (kT:TypeId) (kv:κ→Value) (kl:κ→Lit) (ok:κ→Prop):Prop where
 keyed:Keyed P kT
 of:∀k,ok k→keyOf P kT (kv k)=some (kl k)
 inv:∀(v:Value) (l:Lit),keyOf P kT v=some l→∃k,v=kv k∧l=kl k∧ok k
 inj:∀a b,kv a=kv b→a=b
 same:∀a b,(kl a).sameKey (kl b)=true↔a=b
theorem y7V{P:Program}{kT:TypeId}(hk:P.underlying kT=some .string):z5j P kT encStr (fun l=> .string l) (fun l:List UInt8=>l.length≤maxLen) where
 keyed:=string_keyed hk
 of:=fun k h=>by
  have:=keyOf_string_mk (P:=P) (k:=kT) (s:=⟨k.toArray⟩) hk (by simpa [ByteArray.size] using h);simpa [encStr] using this
 inv:=fun v l h=>by obtain ⟨x,h1,h2,h3⟩:=Maps.keyOf_str hk h;exact ⟨x,h1,h2,h3⟩
 inj:=fun a b h=>encStr_inj h
 same:=fun a b=>by simp [Lit.sameKey]
theorem q2y{P:Program}{kT:TypeId}{q:IntKind}(hk:P.underlying kT=some (.int q)):z5j P kT (fun n:Int=> .int q n) (fun n=> .int q n) (fun n=>(Lit.int q n).wf=true) where
 keyed:=int_keyed hk
 of:=fun k h=>keyOf_int_mk hk h
 inv:=fun v l h=>Maps.keyOf_int_inv hk h
 inj:=fun a b h=>by simpa using h
 same:=fun a b=>by simp [Lit.sameKey]
section
variable {κ ν:Type} (kl:κ→Lit) (f:ν→Value)
def z4m(sh:Value→Bool)(v:Value):Option (DataW Value×List MemPlace):=if sh v then some (.held v, []) else none
def q1R:Value→Bool
 | .slice _ _ _=>true
 | _=>false
def MD(E:List (κ×ν)):DataW Value:= .map (E.map fun p=>(kl p.1, .held (f p.2)))
def mins(x:κ×ν):List (κ×ν)→List (κ×ν)
 | []=> [x]
 | y::r=>if (kl x.1).before (kl y.1) then x::y::r else y::mins x r
def z1Z [DecidableEq κ](k:κ)(E:List (κ×ν)):List (κ×ν):=E.filter fun p=>decide (p.1≠k)
def z1r [DecidableEq κ](k:κ)(v:ν)(E:List (κ×ν)):List (κ×ν):=mins kl (k,v) (z1Z k E)
def z0H [DecidableEq κ](k:κ)(E:List (κ×ν)):Option ν:=(E.find? fun p=>decide (p.1=k)).map (·.2)
theorem y4u(x:κ×ν):∀E:List (κ×ν),(mins kl x E).map (fun p=>(kl p.1,DataW.held (f p.2)))=DataW.insert (kl x.1,DataW.held (f x.2)) (E.map fun p=>(kl p.1,DataW.held (f p.2)))
 | []=>rfl
 | y::r=>by
  unfold mins;simp only [List.map_cons];unfold DataW.insert;split
  ·rfl
  ·rw [List.map_cons,y4u x r]
theorem y0l(x p:κ×ν):∀E:List (κ×ν),p∈mins kl x E↔p=x∨p∈E
 | []=>by simp [mins]
 | y::r=>by
  unfold mins;split
  ·simp
  ·rw [List.mem_cons,y0l x p r,List.mem_cons];constructor
   ·rintro (h | h | h)<;>simp [h]
   ·rintro (h | h | h)<;>simp [h]
theorem z5x(x:κ×ν):∀E:List (κ×ν),(mins kl x E).length=E.length+1
 | []=>rfl
 | y::r=>by
  unfold mins;split
  ·simp
  ·simp [z5x x r]
theorem z3m [DecidableEq κ](k:κ)(v:ν)(p:κ×ν)(E:List (κ×ν)):p∈z1r kl k v E↔p=(k,v)∨(p∈E∧p.1≠k):=by
 unfold z1r z1Z;rw [y0l,List.mem_filter];simp
theorem z4o [DecidableEq κ](k:κ)(p:κ×ν)(E:List (κ×ν)):p∈z1Z k E↔p∈E∧p.1≠k:=by
 unfold z1Z;rw [List.mem_filter];simp
variable {kl}
theorem y2Q(E:List (κ×ν)):Maps.size (MD kl f E)=E.length:=by unfold MD;rw [Maps.size_eq,List.length_map]
variable [DecidableEq κ]
theorem q3a(hs:∀a b,(kl a).sameKey (kl b)=true↔a=b)(k:κ)(v:ν)(E:List (κ×ν)):(MD kl f E).put (kl k) (.held (f v))=MD kl f (z1r kl k v E):=by
 unfold MD z1r DataW.put;simp only;rw [y4u,List.filter_map]
 congr 3
 unfold z1Z;apply List.filter_congr;intro p _;have h:=hs p.1 k;by_cases e:p.1=k
 ·simp [e,(hs k k).2 rfl]
 ·have h2:(kl p.1).sameKey (kl k)=false:=by cases h3:(kl p.1).sameKey (kl k) with
   | false=>rfl
   | true=>exact absurd (h.1 h3) e
  simp [e,h2]
theorem q2H(hs:∀a b,(kl a).sameKey (kl b)=true↔a=b)(k:κ)(E:List (κ×ν)):(MD kl f E).del (kl k)=MD kl f (z1Z k E):=by
 unfold MD z1Z DataW.del;simp only;rw [List.filter_map]
 congr 2
 apply List.filter_congr;intro p _;have h:=hs p.1 k;by_cases e:p.1=k
 ·simp [e,(hs k k).2 rfl]
 ·have h2:(kl p.1).sameKey (kl k)=false:=by cases h3:(kl p.1).sameKey (kl k) with
   | false=>rfl
   | true=>exact absurd (h.1 h3) e
  simp [e,h2]
theorem q2P(hs:∀a b,(kl a).sameKey (kl b)=true↔a=b)(k:κ)(E:List (κ×ν)):Maps.has (MD kl f E) (kl k)=(z0H k E).isSome:=by
 unfold MD z0H;rw [Maps.has_eq,List.any_map];rw [Option.isSome_map];rw [Bool.eq_iff_iff,List.any_eq_true,List.find?_isSome];simp [hs]
theorem y6G(hs:∀a b,(kl a).sameKey (kl b)=true↔a=b)(k:κ)(z:Value)(E:List (κ×ν)):(MD kl f E).atKey (kl k) (.held z)= .held (((z0H k E).map f).getD z):=by
 unfold MD z0H DataW.atKey;simp only [List.find?_map];have e:((fun p:Lit×DataW Value=>p.1.sameKey (kl k)) ∘ fun p:κ×ν=>(kl p.1,DataW.held (f p.2)))=fun p:κ×ν=>decide (p.1=k):=by
  funext p
  rw [Bool.eq_iff_iff];simp [hs]
 rw [e];cases E.find? fun p=>decide (p.1=k)<;>rfl
theorem z1w{k:κ}{v:ν}{E:List (κ×ν)}(h:z0H k E=some v):(k,v)∈E:=by
 unfold z0H at h;obtain ⟨p,hp,rfl⟩:=Option.map_eq_some_iff.1 h;have h1:=List.find?_some hp;have h2:=List.mem_of_find?_eq_some hp;simp only [decide_eq_true_eq] at h1;subst h1;exact h2
theorem z7c{k:κ}{E:List (κ×ν)}(h:z0H k E=none):∀p∈E,p.1≠k:=by
 unfold z0H at h;rw [Option.map_eq_none_iff,List.find?_eq_none] at h;intro p hp he;exact h p hp (by simpa using he)
def MOk(ok:κ→Prop)(E:List (κ×ν)):Prop:=E.Pairwise (fun p q=>p.1≠q.1)∧∀p∈E,ok p.1
theorem y4z{ok:κ→Prop}{E:List (κ×ν)}(h:MOk ok E){p:κ×ν}(hp:p∈E):z0H p.1 E=some p.2:=by
 cases hg:z0H p.1 E with
 | none=>exact absurd rfl (z7c hg p hp)
 | some v=>
  have hm:=z1w hg;by_cases e:(p.1,v)=p
  ·rw [←e]
  ·exfalso
   have key:∀L:List (κ×ν),L.Pairwise (fun p q=>p.1≠q.1)→∀a b,a∈L→b∈L→a.1=b.1→a=b:=by
    intro L
    induction L with
    | nil=>intro _ a b h;cases h
    | cons y r ih=>
     intro hL a b ha hb hab;obtain ⟨h1,h2⟩:=List.pairwise_cons.1 hL;rcases List.mem_cons.1 ha with e1 | ha'
     ·rcases List.mem_cons.1 hb with e2 | hb'
      ·rw [e1,e2]
      ·exact absurd (by rw [←e1];exact hab) (h1 b hb')
     ·rcases List.mem_cons.1 hb with e2 | hb'
      ·exact absurd (by rw [←e2];exact hab.symm) (h1 a ha')
      ·exact ih h2 a b ha' hb' hab
   exact e (key E h.1 _ _ hm hp rfl)
end
section
variable {κ ν:Type} {P:Program} {kT:TypeId} {kv:κ→Value} {kl:κ→Lit} {ok:κ→Prop}
def z3u(w:World)(P:Program)(kT:TypeId)(kl:κ→Lit)(sh:Value→Bool)(f:ν→Value)(b:Nat)(E:List (κ×ν)):Prop:=w.ownsMap P kT (z4m sh) b E.length (MD kl f E)
theorem z6e{w:World}{sh:Value→Bool}{f:ν→Value}{b n:Nat}{E:List (κ×ν)}(h:w.ownsMap P kT (z4m sh) b n (MD kl f E)):z3u w P kT kl sh f b E:=by
 obtain ⟨es,clock,hb,F,hs,hD⟩:=h;refine ⟨es,clock,hb,F,?_,hD⟩;unfold MD at hD;have h1:=congrArg (fun D:DataW Value=>Maps.size D) hD;simp only [Maps.size_eq,List.length_map,length_read] at h1;omega
variable {w w':World} {sh:Value→Bool} {f:ν→Value} {b:Nat} {E:List (κ×ν)}
theorem z3u.lt(h:z3u w P kT kl sh f b E):b<w.heap.size:=World.ownsMap.lt h
theorem z3u.same(h:z3u w P kT kl sh f b E)(hk:w'.heap[b]? =w.heap[b]?):z3u w' P kT kl sh f b E:=by
 obtain ⟨es,clock,hb,F,hs,hD⟩:=h;exact ⟨es,clock,hk.trans hb,F,hs,hD⟩
theorem z3u.chg{F F':List Nat}(h:z3u w P kT kl sh f b E)(hc:Chg F F' w w')(hb:b∉F):z3u w' P kT kl sh f b E:=h.same (hc.block b h.lt hb)
theorem z3u.low(h:z3u w P kT kl sh f b E)(hb:Below w.heap.size w w'):z3u w' P kT kl sh f b E:=h.same (hb.block b h.lt)
theorem y1p(w:World):z3u (w.alloc (.map #[] 0)) P kT kl sh f w.heap.size ([]:List (κ×ν)):=World.ownsMap_made w P kT (z4m sh)
theorem z3u.mok(h:z3u w P kT kl sh f b E)(K:z5j P kT kv kl ok):MOk ok E∧∀p∈E,sh (f p.2)=true:=by
 obtain ⟨es,clock,hb,F,hs,hD⟩:=h;unfold MD at hD;simp only [DataW.map.injEq] at hD;have hp:((es.toList.map (WideElems.rg P kT (z4m sh))).foldr DataW.insert []).Pairwise (fun p q=>p.1≠q.1):=((WideShapes.sorted_perm _).pairwise_iff (fun {_ _} hne=>Ne.symm hne)).2 (Maps.fit_apart K.keyed F);rw [←hD,List.pairwise_map] at hp;have hm:∀p∈E,ok p.1∧sh (f p.2)=true:=fun p hp=>by
  have h1:(kl p.1,DataW.held (f p.2))∈(es.toList.map (WideElems.rg P kT (z4m sh))).foldr DataW.insert []:=by
   rw [←hD];exact List.mem_map.2 ⟨p,hp,rfl⟩
  obtain ⟨x,hx,hxe⟩:=List.mem_map.1 (mem_sorted.1 h1);obtain ⟨y,hy⟩:=F.reads x hx;rw [WideElems.rg_of hy] at hxe;have h2:=WideElems.rd_key hy;obtain ⟨z,hz,hzd⟩:=WideElems.rd_val hy;obtain ⟨k,hk1,hk2,hk3⟩:=K.inv _ _ h2;have e1:=congrArg Prod.fst hxe;have e2:=congrArg Prod.snd hxe;simp only at e1 e2;rw [hk2] at e1;have e3:p.1=k:=(K.same _ _).1 (by
   have h4:=K.keyed.key h2;rw [←e1,hk2.symm];exact WideAt.sameKey_self h4)
  refine ⟨by rw [e3];exact hk3,?_⟩;unfold z4m at hz;split at hz
  ·rename_i hsh;simp only [Option.some.injEq] at hz;subst hz;rw [hzd] at e2;simp only [DataW.held.injEq] at e2;rw [←e2];exact hsh
  ·cases hz
 exact ⟨⟨hp.imp fun {a b} hab e=>hab (by rw [e]),fun p hp=>(hm p hp).1⟩,fun p hp=>(hm p hp).2⟩
variable {ops:Array Oper} {rest:List Oper} {o:Oper} {a:Act} {Q:Exit→Act→World→Prop}
theorem z8d{v:Value}(h:sh v=true):z4m sh v=some (.held v, []):=by unfold z4m;rw [if_pos h]
theorem z5P{v:Value}{y:DataW Value×List MemPlace}(h:z4m sh v=some y):y=(.held v, [])∧sh v=true:=by
 unfold z4m at h;split at h
 ·rename_i h1;simp only [Option.some.injEq] at h;exact ⟨h.symm,h1⟩
 ·cases h
theorem z6D(K:z5j P kT kv kl ok)(hg:o.guard=none)(m:Operand)(t:TypeId)(hop:o.op=Op.call {callee:=Callee.builtin Builtin.len,args:= #[m],argTypes:= #[t]})
  (e:TypeId) (ht:P.underlying t=some (.map kT e)) (hm:a.eval m= .map (some b)) (hown:z3u w P kT kl sh f b E) (hK:wpList P ops Q rest (a.put o.dst (.int .i64 E.length)) w):wpList P ops Q (o::rest) a w:=by
 refine wpList_len_own w hg m t hop kT e ht (z4m sh) b E.length (MD kl f E) hm hown ?_;rw [y2Q];exact hK
variable [DecidableEq κ]
theorem z6p(K:z5j P kT kv kl ok)(hg:o.guard=none)(m x:Operand)(t:TypeId)(hop:o.op=Op.lookup t m x true)
  (e:TypeId) (ht:P.underlying t=some (.map kT e)) {z:Value} (hz:(zeroValue e).run P w= .ok z w) (hzs:sh z=true)
  (hm:a.eval m= .map (some b)) (hown:z3u w P kT kl sh f b E) (k:κ) (hx:a.eval x=kv k) (hok:ok k) (g:Option ν) (hget:z0H k E=g) (u:Value) (hu:(g.map f).getD z=u) (bo:Bool) (hbo:g.isSome=bo)
  (hK:wpList P ops Q rest (a.put o.dst (.tuple #[u, .bool bo])) w):wpList P ops Q (o::rest) a w:=by
 refine wpList_lookup_own_ok w hg m x t hop kT e K.keyed ht (z4m sh) hz (.held z) [] (z8d hzs) b E.length (MD kl f E) hm hown (kv k) (kl k) hx (K.of k hok) fun v ps hv=>?_;rw [y6G f K.same,hget,hu] at hv;rw [q2P f K.same,hget,hbo];obtain ⟨h1,_⟩:=z5P hv;simp only [Prod.mk.injEq,DataW.held.injEq] at h1;rw [←h1.1];exact hK
theorem y8E(K:z5j P kT kv kl ok)(m x:Operand)(t:TypeId)(hop:o.op=Op.lookup t m x false){Kp:Act→World→Prop}
  (e:TypeId) (ht:P.underlying t=some (.map kT e)) {z:Value} (hz:(zeroValue e).run P w= .ok z w) (hzs:sh z=true)
  (hm:a.eval m= .map (some b)) (hown:z3u w P kT kl sh f b E) (k:κ) (hx:a.eval x=kv k) (hok:ok k) (g:Option ν) (hget:z0H k E=g) (u:Value) (hu:(g.map f).getD z=u)
  (hK:Kp (a.put o.dst u) w):o.wp P a w Kp Q:=by
 obtain ⟨v,ps,hrun,hv⟩:=World.ownsMap.lookup hown K.keyed ht hz (z8d hzs) (K.of k hok);rw [y6G f K.same,hget,hu] at hv;obtain ⟨h1,_⟩:=z5P hv;simp only [Prod.mk.injEq,DataW.held.injEq] at h1;unfold Oper.wp;simp [execOp,hop,hm,hx,hrun,Result.andThen];rw [←h1.1];exact hK
theorem z8P(K:z5j P kT kv kl ok)(t e:TypeId)(ht:P.underlying t=some (.map kT e)){z:Value}(hz:(zeroValue e).run P w= .ok z w)(hzs:sh z=true)
  (hown:z3u w P kT kl sh f b E) (k:κ) (hok:ok k) (g:Option ν) (hget:z0H k E=g) (u:Value) (hu:(g.map f).getD z=u):(Instr.lookup t (.map (some b)) (kv k) false).run P w= .ok u w:=by
 obtain ⟨v,ps,hrun,hv⟩:=World.ownsMap.lookup hown K.keyed ht hz (z8d hzs) (K.of k hok);rw [y6G f K.same,hget,hu] at hv;obtain ⟨h1,_⟩:=z5P hv;simp only [Prod.mk.injEq,DataW.held.injEq] at h1;rw [hrun,←h1.1]
theorem z6k(K:z5j P kT kv kl ok)(hg:o.guard=none)(m x:Operand)(t:TypeId)(hop:o.op=Op.lookup t m x false)
  (e:TypeId) (ht:P.underlying t=some (.map kT e)) {z:Value} (hz:(zeroValue e).run P w= .ok z w) (hzs:sh z=true)
  (hm:a.eval m= .map (some b)) (hown:z3u w P kT kl sh f b E) (k:κ) (hx:a.eval x=kv k) (hok:ok k) (g:Option ν) (hget:z0H k E=g) (u:Value) (hu:(g.map f).getD z=u)
  (hK:wpList P ops Q rest (a.put o.dst u) w):wpList P ops Q (o::rest) a w:=
 wpList_plain hg fun K' hK'=>y8E K m x t hop e ht hz hzs hm hown k hx hok g hget u hu (hK' _ _ hK)
theorem z3K(K:z5j P kT kv kl ok)(hg:o.guard=none)(m x v:Operand)(t:TypeId)(hop:o.op=Op.mapUpdate t m x v)
  (e:TypeId) (ht:P.underlying t=some (.map kT e)) (hm:a.eval m= .map (some b)) (hown:z3u w P kT kl sh f b E) (hn:E.length<maxLen) (k:κ) (hx:a.eval x=kv k) (hok:ok k) (y:ν) (hv:a.eval v=f y) (hsh:sh (f y)=true)
  (hK:∀w',z3u w' P kT kl sh f b (z1r kl k y E)→w.grownBy w' (some b)→w'.heap.size=w.heap.size→wpList P ops Q rest (a.put o.dst undef) w'):wpList P ops Q (o::rest) a w:=by
 refine wpList_mapUpdate_in w hg m x v t hop kT e K.keyed ht (z4m sh) b E.length (MD kl f E) hm hown hn (kv k) (f y) (kl k) hx hv (K.of k hok) (.held (f y)) [] (z8d hsh) fun w' h1 h2=>?_;rw [q3a f K.same] at h1;refine hK w' (z6e h1) h2.grown ?_;obtain ⟨_,_,_,_,_,rfl⟩:=h2;simp [ChangeMaps.setBlock]
theorem y3h(K:z5j P kT kv kl ok)(hg:o.guard=none)(m x:Operand)(t:TypeId)(hop:o.op=Op.call {callee:=Callee.builtin Builtin.delete,args:= #[m,x],argTypes:= #[t,kT]})
  (e:TypeId) (ht:P.underlying t=some (.map kT e)) (hm:a.eval m= .map (some b)) (hown:z3u w P kT kl sh f b E) (k:κ) (hx:a.eval x=kv k) (hok:ok k)
  (hK:∀w',z3u w' P kT kl sh f b (z1Z k E)→w.grownBy w' (some b)→w'.heap.size=w.heap.size→wpList P ops Q rest (a.put o.dst (.tuple #[])) w'):wpList P ops Q (o::rest) a w:=by
 refine wpList_delete_own w hg m x t kT hop e K.keyed ht (z4m sh) b E.length (MD kl f E) hm hown (kv k) (kl k) hx (K.of k hok) fun w' h1 h2=>?_;rw [q2H f K.same] at h1;refine hK w' (z6e h1) h2.grown ?_;obtain ⟨_,_,_,_,_,rfl⟩:=h2;simp [ChangeMaps.setBlock]
def z6n(w:World)(P:Program)(kT:TypeId)(kl:κ→Lit)(ok:κ→Prop)(sh:Value→Bool)(f:ν→Value)(b r:Nat)(E R:List (κ×ν)):Prop:=
 ∃left cnt,w.ranges P kT (z4m sh) b r E.length (MD kl f E) left cnt∧(∀k,ok k→left (kl k)=R.any fun p=>decide (p.1=k))∧(∀p∈R,p∈E)∧MOk ok R
theorem z6n.kept{r:Nat}{R:List (κ×ν)}(h:z6n w P kT kl ok sh f b r E R){row:Option Nat}(hg:w.grownBy w' row)(hb:some b≠row)(hr:some r≠row):z6n w' P kT kl ok sh f b r E R:=by
 obtain ⟨left,cnt,h1,h2⟩:=h;exact ⟨left,cnt,h1.kept hg hb hr,h2⟩
theorem z6n.owns{r:Nat}{R:List (κ×ν)}(h:z6n w P kT kl ok sh f b r E R):z3u w P kT kl sh f b E:=by
 obtain ⟨left,cnt,h1,h2⟩:=h;exact z6e h1.owns
theorem y1c(K:z5j P kT kv kl ok)(hg:o.guard=none)(m:Operand)(t:TypeId)(hop:o.op=Op.range t m)(e:TypeId)(ht:P.underlying t=some (.map kT e))(hm:a.eval m= .map (some b))(hown:z3u w P kT kl sh f b E)
  (hK:∀w',z6n w' P kT kl ok sh f b w.heap.size E E→w.grownBy w' none→w'.heap.size=w.heap.size+1→wpList P ops Q rest (a.put o.dst (.pointer (some ⟨w.heap.size,0,none⟩))) w'):wpList P ops Q (o::rest) a w:=by
 refine wpList_range_own w hg m t hop kT e K.keyed ht (z4m sh) b E.length (MD kl f E) hm hown fun w' h1 h2 h3=>hK w' ⟨_,_,h1,fun k hk=>?_,fun p hp=>hp,(hown.mok K).1⟩ h2 h3;unfold MD;rw [Maps.has_eq,List.any_map,Bool.eq_iff_iff,List.any_eq_true,List.any_eq_true];simp [K.same]
theorem y2C{β:Type}{r:Nat}{R:List (κ×ν)}(K:z5j P kT kv kl ok)(hg:o.guard=none)(it:Operand)(hop:o.op=Op.next it false)(mkV:β→Value)(invV:∀v,sh v=true→∃c,v=mkV c)
  (hit:a.eval it= .pointer (some ⟨r,0,none⟩)) (h:z6n w P kT kl ok sh f b r E R)
  (hDone:R= []→wpList P ops Q rest (a.put o.dst (.tuple #[.bool false])) w)
  (hMore:∀(p:κ×ν) (c:β) (w':World),p∈R→f p.2=mkV c→z6n w' P kT kl ok sh f b r E (z1Z p.1 R)→w.grownBy w' (some r)→w'.heap.size=w.heap.size→w'.rangeLeft b r<w.rangeLeft b r→
   (Instr.entry (.pointer (some ⟨r,0,none⟩))).run P w'= .ok (.tuple #[kv p.1,mkV c]) w'→wpList P ops Q rest (a.put o.dst (.tuple #[.bool true,kv p.1,mkV c])) w'):wpList P ops Q (o::rest) a w:=by
 obtain ⟨left,cnt,hrg,hl,hm,hok⟩:=h;have hkl:∀k,ok k→left (kl k)=R.any fun p=>decide (p.1=k):=hl;have hE:=(z6e hrg.owns).mok K;refine wpList_next_ranges w hg it hop kT K.keyed (z4m sh) kv mkV (fun key l hk=>by obtain ⟨k,h1,_⟩:=K.inv _ _ hk;exact ⟨k,h1⟩) (fun v y hv=>invV v (z5P hv).2) b r E.length (MD kl f E) left cnt hit hrg (fun h0 hlf=>?_) (fun x c l y w' cnt' hkey hlk hv hat hrg' hlt hgr hsz hen=>?_)
 ·refine hDone ?_
  match R,hok,hkl with
  | [],_,_=>rfl
  | p::R,hok,hkl=>
   have:=hkl p.1 (hok.2 p (by simp));rw [hlf] at this;simp at this
 ·obtain ⟨k,hk1,rfl,hk3⟩:=K.inv _ _ hkey;obtain rfl:=K.inj _ _ hk1;have h1:=hkl x hk3;rw [hlk] at h1;obtain ⟨p,hp,hpx⟩:=List.any_eq_true.1 h1.symm;simp only [decide_eq_true_eq] at hpx;subst hpx;have h2:=hat (.held undef);rw [y6G f K.same,y4z hE.1 (hm p hp),(z5P hv).1] at h2;simp only [Option.map_some,Option.getD_some,DataW.held.injEq] at h2;refine hMore p c w' hp h2 ⟨_,cnt',hrg',fun k hk=>?_,fun q hq=>hm q ((z4o p.1 q R).1 hq).1,⟨hok.1.filter _,fun q hq=>hok.2 q ((z4o p.1 q R).1 hq).1⟩⟩ hgr hsz (by rw [hrg'.left_eq,hrg.left_eq];exact hlt) hen;rw [hkl k hk,Bool.eq_iff_iff];simp only [Bool.and_eq_true,List.any_eq_true,decide_eq_true_eq,Bool.not_eq_true'];constructor
  ·rintro ⟨⟨q,hq,rfl⟩,hne⟩;refine ⟨q,(z4o _ _ _).2 ⟨hq,fun e=>?_⟩,rfl⟩;rw [e,(K.same _ _).2 rfl] at hne;cases hne
  ·rintro ⟨q,hq,rfl⟩;obtain ⟨h3,h4⟩:=(z4o _ _ _).1 hq;refine ⟨⟨q,h3,rfl⟩,?_⟩;cases hs:(kl q.1).sameKey (kl p.1) with
   | false=>rfl
   | true=>exact absurd ((K.same _ _).1 hs) h4
theorem y7t{E:List (κ×ν)}(h:MOk ok E){p:κ×ν}(hp:p∈E):(p::z1Z p.1 E).Perm E:=by
 obtain ⟨h1,h2⟩:=h;clear h2
 induction E with
 | nil=>cases hp
 | cons y r ih=>
  obtain ⟨g1,g2⟩:=List.pairwise_cons.1 h1;unfold z1Z;rw [List.filter_cons];rcases List.mem_cons.1 hp with rfl | hr
  ·have e:(r.filter fun q=>decide (q.1≠p.1))=r:=List.filter_eq_self.2 fun q hq=>by simpa using (g1 q hq).symm
   rw [if_neg (by simp),e]
  ·have hne:y.1≠p.1:=g1 p hr;rw [if_pos (by simpa using hne)];exact (List.Perm.swap y p _).trans ((ih hr g2).cons y)
end
end Go.Proofs.YtfcnapnopdomhaaGreatDoor

/- Laws on memory. -/
import Derived.WalkKit
import Derived.WalkSpells
import Derived.Laws.AppendOwnNone
import Derived.Deep.RegionLaw
import Derived.Deep.RegionHeld3
import Derived.Deep.QuietTactic
import Derived.BigQuiet
import Derived.Test.YtabnnclcpkdkeaaGreatDoorZB
theorem Go.RowKit.Hid.o{p:Prop}(h:Go.RowKit.Hid p):p:=h
namespace Go.Proofs.YtabnnclcpkdkeaaGreatDoor
open Go.Proofs.Tryz
set_option linter.all false
set_option maxRecDepth 100000
set_option maxHeartbeats 0
open Go.RowKit
section
open Go.RowKit
theorem hQ{p:Prop}[Decidable p](h:p:=by omega):decide p=true:=decide_eq_true h
theorem wC{p:Prop}[Decidable p](h:Not p:=by omega):decide p=false:=decide_eq_false h
theorem wD{n:Nat}{w:World}:Below n w w:=Below.refl _ _
theorem wE{n:Nat}:n<=n:=Nat.le_refl _
theorem wF{p:Prop}(h:p:=by omega):p:=h
theorem wG{p:Prop}(h:p:=by decide):p:=h
theorem wH{p:Prop}(h:p:=by simp):p:=h
def wI:=@Array.getElem?_eq_some_iff
def wJ:=@Nat.le_refl
def wK:=@Option.some.injEq
def wL:=@List.getElem?_eq_getElem
def wM:=@decide_eq_false
def wN:=@Below.refl
def wO:=@Value.slice.injEq
def wP:=@List.length_append
def wQ:=@decide_eq_true
def wR:=@if_neg
def wS:=@Nat.lt_of_lt_of_le
def wT:=@List.eq_nil_of_length_eq_zero
def wU:=@bodyPost_ret
def wV:=@Nat.le_trans
def wW:=@List.length_cons
def wX:=@List.mem_of_getElem?
def wY:=@List.getElem?_eq_some_iff
def wZ:=@if_pos
def we:=@List.length_map
def wj:=@List.append_assoc
def wk:=@Prod.mk.injEq
def wq:=@IntKind.wrap_u64
def wt:=@List.take_of_length_le
def wu:=@List.getD_eq_getElem?_getD
def wy:=@List.mem_cons
def wz:=@Calls.quiet_of_same
def uA:=@Nat.zero_le
def uB:=@List.mem_append
def uC:=@List.mem_map
def uD:=@List.mem_singleton
def uE:=@List.length_drop
def uF:=@List.getElem?_map
def uG:=@List.take_add_one
def uH:=@List.flatMap_cons
def uI:=@List.map_cons
def uJ:=@List.mem_cons_of_mem
def uK:=@List.mem_cons_self
def uL:=@IntKind.wrap_i64
def uM:=@Option.map_eq_some_iff
def uN:=@World.ownsRow_nil
def uO:=@List.getElem?_append_right
def uP:=@Array.getD_eq_getD_getElem?
def uQ:=@List.mem_append_left
def uR:=@List.length_take
def uS:=@congrArg
def uT:=@List.mem_append_right
def uU:=@Nat.pow_le_pow_right
def uV:=@List.map_append
def uW:=@List.nil_append
def uX:=@List.getElem?_append_left
def uY:=@List.cons_append
def uZ:=@Nat.zero_add
def ua:=@of_decide_eq_true
def ub:=@Below.heap_alloc
def uc:=@Bool.eq_iff_iff
def ud:=@World.cell?_of_block
def ue:=@List.append_nil
def ug:=@List.getElem_mem
def uh:=@Bool.and_eq_true
def ui:=@List.take_length
def uj:=@List.pairwise_cons
def uk:=@List.flatMap_append
def um:=@Option.some.inj
def uo:=@List.getElem?_set_self
def uu:=@cell?_setCell_some
def uv:=@List.getElem?_cons_zero
def uw:=@List.getElem?_eq_none
def ux:=@beq_eq_false_iff_ne
def uy:=@beq_false_of_ne
def oK:=@List.sum_cons
def oP:=@true_and
def oQ:=@World.size_alloc
def ob:=@List.length_nil
def od:=@decide_eq_true_eq
def oe:=@List.drop_drop
def og:=@Option.toList_some
def oh:=@Addr.mk.injEq
def oi:=@List.take_succ_eq_append_getElem
def oo:=@UInt8.toNat_ofNat'
def oq:=@info_parts
def ot:=@List.filter_cons
def ou:=@List.not_mem_nil
def ow:=@Bool.and_true
def oy:=@List.pairwise_map
def oz:=@List.size_toArray
def pC:=@Array.replicate_succ
def pD:=@Array.replicate_zero
def pE:=@List.take_append_of_le_length
def pF:=@Nat.mul_le_mul_right
def pG:=@List.drop_eq_getElem_cons
def pH:=@Nat.shiftRight_eq_div_pow
def pI:=@Nat.sub_self
def pJ:=@Nat.testBit_lt_two_pow
def pK:=@Option.map_some
def pL:=@Bool.true_and
def pM:=@Option.isSome_iff_exists
def pN:=@List.append_toArray
def pO:=@List.getElem_of_mem
def pP:=@List.length_singleton
def pQ:=@List.map_nil
def pR:=@Option.mem_toList
def pS:=@Nat.lt_of_le_of_lt
def pT:=@cell_of_row
def pU:=@List.all_cons
def pV:=@Nat.two_pow_pos
def pW:=@Array.getElem?_push
def pX:=@Int.toNat_of_nonneg
def pY:=@List.push_toArray
def pZ:=@List.take_append_drop
def pd:=@List.all_nil
def pg:=@List.foldl_cons
def pj:=@List.length_set
def po:=@Bool.false_eq_true
def pq:=@List.any_eq_true
def py:=@Nat.testBit_mod_two_pow
def pz:=@Ne.symm
def dK:=@List.drop_of_length_le
def dP:=@Nat.mul_comm
def dQ:=@Nat.testBit_shiftRight
def dc:=@and_true
def dd:=@Nat.div_le_self
def de:=@if_true
def dh:=@Nat.mod_eq_of_lt
def dm:=@of_decide_eq_false
def dp:=@Nat.add_zero
def dq:=@World.block_lt_of_cell?
def dt:=@List.find?_cons
def du:=@Array.length_toList
def dv:=@List.filter_eq_self
def dw:=@List.take_succ_cons
def dx:=@Value.pointer.injEq
def dy:=@List.map_map
def dz:=@Nat.mul_lt_mul_of_pos_right
def eK:=@results_none
def eP:=@IntKind.wrap_u32
def eQ:=@List.flatMap_nil
def eh:=@Int.ofNat_tmod
def ei:=@if_false
def ek:=@Ending.returned.injEq
def eo:=@List.mem_or_eq_of_mem_set
def et:=@List.pairwise_iff_getElem
def eu:=@World.cell?_setCell_other
def ev:=@List.mem_filter
def ew:=@List.nodup_cons
def ez:=@List.foldl_append
def gK:=@List.set_set
def gP:=@Nat.eq_of_testBit_eq
def gQ:=@Nat.lt_trans
def gd:=@Nat.zero_mul
def gg:=@Option.isSome_map
def gh:=@Sem.run_bind
def gi:=@Sem.run_pure
def gj:=@callsIn_wide
def gk:=@Nat.mod_lt
def gm:=@World.cell?_setCell_same
def gn:=@bne_iff_ne
def gq:=@List.mergeSort_perm
def gr:=@DataW.held.injEq
def gu:=@List.all_eq_true
def gx:=@List.flatMap_map
def gy:=@List.getElem_map
def gz:=@List.mem_flatMap
def iK:=@List.take_zero
def iQ:=@Nat.le_of_not_lt
def ia:=@decide_eq_false_iff_not
def ib:=@List.drop_append_of_le_length
def ic:=@Nat.add_mul
def ie:=@Array.getElem?_eq_none
def ig:=@List.drop_eq_nil_of_le
def ij:=@List.flatMap_singleton
def ik:=@List.getElem?_take
def il:=@Nat.eq_zero_or_pos
def im:=@Nat.add_assoc
def iq:=@Lib.run_eql_slice_nil
def ir:=@List.length_replicate
def iu:=@List.set_getElem_self
def ix:=@Nat.div_lt_iff_lt_mul
def iy:=@Nat.testBit_shiftLeft
def iz:=@List.nodup_append
def kK:=@Nat.le_succ_of_le
def kP:=@Nat.testBit_two_pow_sub_one
def kQ:=@List.drop_zero
def ke:=@Nat.pow_add
def kg:=@or_false
def kh:=@And.intro
def ki:=@Option.getD_some
def kj:=@Classical.byContradiction
def kk:=@List.map_congr_left
def km:=@bne_eq_false_iff_eq
def ko:=@List.filter_map
def kt:=@List.sum_append
def ku:=@Nat.min_eq_left
def kx:=@List.set_cons_zero
def ky:=@Nat.xor_lt_two_pow
def kz:=@List.getElem?_cons_succ
def mK:=@Bool.false_and
def mP:=@Bool.not_eq_true'
def mQ:=@Int.toNat_natCast
def ma:=@List.Perm.refl
def mc:=@Nat.pow_succ
def me:=@Result.andThen_ok
def mf:=@World.frozen?_of_block
def mh:=@Array.getElem?_setIfInBounds_ne
def mi:=@Array.getElem?_modify
def mj:=@Array.getElem?_toList
def ml:=@List.length_filter_le
def mm:=@List.length_mergeSort
def mn:=@List.set_append_right
def mo:=@Nat.shiftLeft_eq
def mq:=@beq_iff_eq
def mr:=@wpIn_wide
def mu:=@Bool.and_eq_true_iff
def mw:=@List.getLast?_eq_some_getLast
def mx:=@List.mem_of_mem_take
def my:=@u32_xor_nat
def mz:=@List.cons.injEq
def qA:=@Nat.zero_lt_one
def qC:=@List.drop_set_of_lt
def qD:=@List.length_pos_iff
def qE:=@List.take_set_of_le
def qF:=@Int.add_zero
def qG:=@Int.zero_add
def qH:=@Nat.le_of_eq
def qI:=@Nat.le_of_lt
def qJ:=@Nat.lt_or_ge
def qK:=@Nat.xor_zero
def qL:=@Bool.true_eq_false
def qM:=@DataW.trod_int
def qN:=@Int.ofNat_tdiv
def qO:=@List.Perm.swap
def qP:=@List.set_cons_succ
def qQ:=@Nat.and_one_is_mod
def qR:=@Nat.mod_two_eq_zero_or_one
def qS:=@Option.map_map
def qT:=@List.getElem_append_right
def qU:=@DataW.trod_struct
def qV:=@List.Pairwise.nil
def qW:=@List.ext_getElem?
def qX:=@Nat.add_mod
def qY:=@Nat.or_lt_two_pow
def qZ:=@Array.getElem?_push_size
def qd:=@Bool.false_or
def qe:=@List.take_add
def qg:=@Nat.lt_irrefl
def qh:=@callsIn_of_wp
def qi:=@List.drop_length
def qj:=@List.ext_getElem
def qk:=@List.getElem?_replicate
def ql:=@List.getElem_set
def qm:=@List.getLast?_cons_cons
def qn:=@List.pairwise_singleton
def qo:=@Nat.zero_testBit
def qp:=@World.cell?_drew
def qq:=@List.length_pos_of_mem
def qs:=@List.map_set
def qt:=@Nat.sub_zero
def qu:=@decide_false
def qw:=@wpList_plain
def qx:=@Int.natCast_inj
def qy:=@List.take_left'
def qz:=@Nat.testBit_and
def rA:=@Obj.cells.injEq
def rC:=@UInt8.toNat.inj
def rD:=@run_convert_to_unsafe
def rE:=@List.drop_left
def rG:=@List.getElem?_set_ne
def rH:=@List.mem_erase_of_ne
def rI:=@List.mem_range
def rJ:=@List.take_take
def rK:=@Nat.le_succ
def rL:=@Or.inl
def rM:=@Or.inr
def rN:=@World.ownsMap.lookup
def rO:=@decide_true
def rP:=@run_storeCells_cells
def rQ:=@run_underlying
def rR:=@u64_xor_nat
def rT:=@List.filter_sublist
def rU:=@List.flatten_append
def rV:=@Bool.or_false
def rW:=@Int.ofNat_inj
def rX:=@List.map_take
def rY:=@Array.ext_getElem?
def rZ:=@Below.heap_setCell
def rh:=@List.filter_append
def ri:=@List.getElem?_drop
def rj:=@Nat.add_sub_cancel
def rk:=@World.ownsRow_made
def rm:=@grownCap_le_maxLen
def rp:=@u64_or_nat
def rq:=@u8_and_nat
def ru:=@Bool.eq_false_iff
def r8:=@List.any_map
def tA:=@List.filter_congr
def tB:=@List.find?_filter
def tC:=@List.find?_isSome
def tD:=@List.getElem?_set
def tG:=@Nat.one_shiftLeft
def tH:=@Nat.zero_mod
def tI:=@Value.tuple.injEq
def tJ:=@World.cells?_some
def tK:=@World.ownsMap.len
def tL:=@results_tmp2
def tM:=@wpIn_mono
def tN:=@Maps.has_eq
def tO:=@Nat.mod_mod
def tP:=@Nat.mul_one
def tQ:=@leaves_cons
def tR:=@u32_and_nat
def tT:=@decide_not
end
theorem zN{α:Sort _}(a:α):∃x,x=a:=⟨_,rfl⟩
theorem z7{p:Prop}(h:p):Hid p:=h
def Rd(w:World)(x:Value)(size m:Nat)(xs:List Value):Prop:=
 xs.length=m*size/\((x= .slice none 0 0/\m=0)\/∃a c,x= .slice (some a) m c/\∀j u,xs[j]? =some u->w.cell? (a.add j)=some u)
theorem Rd.kept{w w':World}{x:Value}{A m:Nat}{N:List Value}(h:Rd w x A m N)(O:∀b,x.ownBlock=some b->b<w.heap.size->w'.heap[b]? =w.heap[b]?):Rd w' x A m N:=by
 refine⟨h.1,?_⟩;rcases h.2 with J|⟨a,c,rfl,J⟩
 .exact .inl J
 refine .inr ⟨a,c,rfl,fun j u R=>?_⟩;have L:=J j u R;have hb:(a.add j).block=a.block:=by unfold Addr.add;split<;>rfl
 have I:=dq _ _ L;rw[hb]at I;rw[ud (w:=w) (by rw[hb];exact O _ rfl I)];exact L
theorem Rd.alloc{w:World}{x:Value}{A m:Nat}{I:List Value}(h:Rd w x A m I)(o:Obj):Rd (w.alloc o) x A m I:=
 h.kept fun _ _ hb=>ub w o _ hb
theorem Rd.below{w w':World}{x:Value}{A m:Nat}{J:List Value}{B:Nat}(h:Rd w x A m J)(hb:Below B w w')(L:∀b,x.ownBlock=some b->b<B):Rd w' x A m J:=
 h.kept fun b I _=>hb.block b (L b I)
theorem z3t(w:World)(cs:Array Value)(e:TypeId)(m A:Nat)(L:0<m)(h:cs.size=m*A):Rd (w.alloc (.cells cs e)) (.slice (some ⟨w.heap.size,0,none⟩) m m) A m cs.toList:=by
 refine⟨by simpa using h,.inr ⟨_,_,rfl,fun j u J=>?_⟩⟩;have I:(⟨w.heap.size,0,none⟩:Addr).add j=⟨w.heap.size,j,none⟩:=by unfold Addr.add;split<;>simp_all
 rw[I,pT (w.alloc (.cells cs e)) w.heap.size j cs e (0,0) (by show(w.heap.push _)[w.heap.size]? =_;simp)];simpa using J
section
variable {P:Program} {w:World} {a:Act} {o:Oper} {K:Act->World->Prop} {Q:Exit->Act->World->Prop}
theorem z4a(base:Nat)(t ty e:TypeId)(i:TypeInfo)(z:Value)(I O:Nat)(ht:P.underlying t=some (.slice e))(hi:P.info? e=some i)(hz:i.zero=some z)
  (U:i.size=I) (a3:i.bytes=O) (aA:z.cells.size=I) (a8:0<I)
  (v:Value) (n:Nat) (xs:List Value) (J:w.ownsRow base e I v n xs)
  (x:Value) (m:Nat) (A:List Value) (hx:Rd w x I m A) (h1:∀u∈A,u.oneCell'=true)
  (a2:n+m<=maxLen) (L:(n+m)*O<=140737488355328) (a0:base<=w.heap.size):
  ∃v' w',(Builtin.append_ #[t,t] ty #[v,x]).run P w= .ok v' w'/\w'.ownsRow base e I v' (n+m) (xs++A)/\w.grownBy w' v.ownBlock/\
   (v'= .slice none 0 0↔v= .slice none 0 0/\m=0)/\(v'.ownBlock=v.ownBlock\/v'.ownBlock=some w.heap.size):=by
 obtain⟨hl,⟨rfl,rfl⟩|⟨ad,c,rfl,hc⟩⟩:=hx
 .have hn:A= []:=wT (by simpa using hl);subst hn;exact⟨v,w,run_append_owned_none w base t ty e i I ht hi v n xs J,by simpa using J,⟨rfl,rfl,rfl,wJ _,fun _ _ _=>rfl⟩,wH,.inl rfl⟩
 obtain⟨v',w',hr,ho,hg,hv⟩:=run_append_own w base t ty e i z I O ht hi hz U a3 aA a8 v n xs J ad m c A hl hc h1 a2 L a0;refine⟨v',w',hr,ho,hg,hv,?_⟩;subst U;subst a3;have a5:n+m<=9223372036854775807:=by simp only[maxLen]at a2;omega
 rcases J.2 with⟨rfl,rfl⟩|⟨g,Y,a1,rfl,aB,a7,aE,aC,a6,a9⟩
 .by_cases hm:m=0
  .have:=hv.2 ⟨rfl,hm⟩;subst this;exact .inl rfl
  have N:=run_append_nil (P:=P) w t ty e i z ht hi hz ad m c A hl hc wF wF (by have hb:=L;simp only[uZ]at hb;omega);rw[N]at hr
  injection hr with hr1 N
  subst hr1;exact .inr rfl
 by_cases R:n+m<=Y
 .have a4:n*i.size+A.length<=a1.size:=(by rw[hl,a6,<-ic];exact pF _ R);have N:=run_append_room (P:=P) w t ty e i ht hi g n Y a1 a7 ad m c A hl hc h1 R a4;rw[N]at hr
  injection hr with hr1 N
  subst hr1;exact .inl rfl
 have N:=run_append_grow (P:=P) w t ty e i z ht hi hz ⟨g,0,none⟩ n Y xs J.1 (J.cells (g:=g) rfl) ad m c A hl hc wF wF (growslice_fits wF L);rw[N]at hr
 injection hr with hr1 N
 subst hr1;exact .inr rfl
theorem z3V(s x:Operand)(t:TypeId)
  (ho:o.op= .call {callee:= .builtin .append,args:= #[s,x],argTypes:= #[t,t]})
  (base:Nat) (e:TypeId) (i:TypeInfo) (z:Value) (A I:Nat) (ht:P.underlying t=some (.slice e)) (hi:P.info? e=some i) (hz:i.zero=some z)
  (O:i.size=A) (a0:i.bytes=I) (a3:z.cells.size=A) (a2:0<A)
  (v:Value) (n:Nat) (xs:List Value) (hs:a.eval s=v) (U:w.ownsRow base e A v n xs)
  (xv:Value) (m:Nat) (J:List Value) (hx:a.eval x=xv) (a1:Rd w xv A m J) (h1:∀u∈J,u.oneCell'=true)
  (Y:n+m<=maxLen) (L:(n+m)*I<=140737488355328) (N:base<=w.heap.size)
  (h:∀R w',w'.ownsRow base e A R (n+m) (xs++J)->w.grownBy w' v.ownBlock->(R= .slice none 0 0↔v= .slice none 0 0/\m=0)->(R.ownBlock=v.ownBlock\/R.ownBlock=some w.heap.size)->K (a.put o.dst R) w'):o.wp P a w K Q:=by
 obtain⟨R,w',hr,h2,h3,h4,h5⟩:=z4a (P:=P) (w:=w) base t o.type e i z A I ht hi hz O a0 a3 a2 v n xs U xv m J a1 h1 Y L N;unfold Oper.wp execOp;simp only[ho,resolve,invoke,builtin,gh,gi,me,List.map_toArray,uI,pQ,hs,hx,hr];exact h R w' h2 h3 h4 h5
theorem z2r{ops:Array Oper}{rest:List Oper}(a1:o.guard=none)(s x:Operand)(t:TypeId)
  (ho:o.op= .call {callee:= .builtin .append,args:= #[s,x],argTypes:= #[t,t]})
  (base:Nat) (e:TypeId) (i:TypeInfo) (z:Value) (A I:Nat) (ht:P.underlying t=some (.slice e)) (hi:P.info? e=some i) (hz:i.zero=some z)
  (O:i.size=A) (a0:i.bytes=I) (a4:z.cells.size=A) (a3:0<A)
  (v:Value) (n:Nat) (xs:List Value) (hs:a.eval s=v) (U:w.ownsRow base e A v n xs)
  (xv:Value) (m:Nat) (J:List Value) (hx:a.eval x=xv) (a2:Rd w xv A m J) (h1:∀u∈J,u.oneCell'=true)
  (Y:n+m<=maxLen) (L:(n+m)*I<=140737488355328) (N:base<=w.heap.size)
  (h:∀R w',w'.ownsRow base e A R (n+m) (xs++J)->w.grownBy w' v.ownBlock->(R= .slice none 0 0↔v= .slice none 0 0/\m=0)->(R.ownBlock=v.ownBlock\/R.ownBlock=some w.heap.size)->wpList P ops Q rest (a.put o.dst R) w'):wpList P ops Q (o::rest) a w:=
 qw a1 fun _ hK=>z3V s x t ho base e i z A I ht hi hz O a0 a4 a3 v n xs hs U xv m J hx a2 h1 Y L N fun R w' h2 h3 h4 h5=>hK _ _ (h R w' h2 h3 h4 h5)
end
theorem y5n{B:Nat}{w w':World}(h:Below B w.drew w'):Below B w w':=⟨h.os,h.tape,h.output,h.size,h.block⟩
theorem z2b{w:World}{base e I n:Nat}{v:Value}{L:List Value}(h:w.ownsRow base e I v n L)(J:v≠ .slice none 0 0):∃g A,v= .slice (some ⟨g,0,none⟩) n A/\base<=g:=by
 rcases h.2 with⟨rfl,_⟩|⟨g,A,_,rfl,hb,_⟩
 .exact absurd rfl J
 exact⟨g,A,rfl,hb⟩
theorem z0f{w:World}{base A e I n:Nat}{v:Value}{O:List Value}(h:w.ownsRow base e I v n O)(hb:A<=base):w.ownsRow A e I v n O:=by
 refine⟨h.1,?_⟩;rcases h.2 with N|⟨g,J,L,R,N,U⟩
 .exact .inl N
 exact .inr ⟨g,J,L,R,wV hb N,U⟩
theorem j7{w w':World}{base e A n:Nat}{v:Value}{N:List Value}(h:w.ownsRow base e A v n N)(U:∀b,v.ownBlock=some b->w'.heap[b]? =w.heap[b]?):w'.ownsRow base e A v n N:=by
 refine⟨h.1,?_⟩;rcases h.2 with L|⟨g,I,J,rfl,L,O,R⟩
 .exact .inl L
 exact .inr ⟨g,I,J,rfl,L,(U g rfl).trans O,R⟩
theorem z0d{w:World}{base e A n:Nat}{v:Value}{L:List Value}(h:w.ownsRow base e A v n L):Rd w v A n L:=by
 refine⟨h.1,?_⟩;rcases h.2 with J|⟨g,I,N,rfl,J⟩
 .exact .inl J
 exact .inr ⟨⟨g,0,none⟩,I,rfl,h.cells rfl⟩
structure Chg (F F':List Nat) (w w':World):Prop where
 os:w'.os=w.os
 tape:w'.tape=w.tape
 output:w'.output=w.output
 size:w.heap.size<=w'.heap.size
 block:∀k,k<w.heap.size->k∉F->w'.heap[k]? =w.heap[k]?
 fresh:∀k,k∈F'->k∈F\/w.heap.size<=k
theorem Chg.refl(F:List Nat)(w:World):Chg F F w w:=⟨rfl,rfl,rfl,wJ _,fun _ _ _=>rfl,fun _ h=> .inl h⟩
theorem Chg.trans{F G H:List Nat}{a b c:World}(h:Chg F G a b)(k:Chg G H b c):Chg F H a c:=by
 refine⟨k.os.trans h.os,k.tape.trans h.tape,k.output.trans h.output,wV h.size k.size,fun i I J=>?_,fun i I=>?_⟩
 .refine(k.block i (wS I h.size) fun L=>?_).trans (h.block i I J);rcases h.fresh i L with A|A
  .exact J A
  omega
 rcases k.fresh i I with A|A
 .exact h.fresh i A
 exact .inr (wV h.size A)
theorem Chg.of_below{F:List Nat}{w w':World}(h:Below w.heap.size w w'):Chg F F w w':=⟨h.os,h.tape,h.output,h.size,fun k A _=>h.block k A,fun _ h=> .inl h⟩
theorem Chg.below{F I:List Nat}{w w':World}{B:Nat}(h:Chg F I w w')(L:B<=w.heap.size)(J:∀k∈F,B<=k):Below B w w':=
 ⟨h.os,h.tape,h.output,h.size,fun k N=>h.block k wF fun A=>by have:=J k A;omega⟩
theorem Chg.up{F A:List Nat}{w w':World}{B:Nat}(h:Chg F A w w')(N:B<=w.heap.size)(J:∀k∈F,B<=k):∀k∈A,B<=k:=fun k L=>by
 rcases h.fresh k L with I|I
 .exact J k I
 omega
theorem ownsRow_below{w w':World}{base e A n B:Nat}{v:Value}{J:List Value}(h:w.ownsRow base e A v n J)(hb:Below B w w')(L:w.heap.size<=B):w'.ownsRow base e A v n J:=
 j7 h fun b I=>hb.block b (wS (h.lt b I).2 L)
theorem q7{w:World}{b o k:Nat}{u:Value}(h:k≠b):(w.setCell ⟨b,o,none⟩ u).heap[k]? =w.heap[k]? :=rZ w ⟨b,o,none⟩ u k h
def laid(cur:List Value)(o:Nat)(vs:List Value):List Value:=cur.take o++vs++cur.drop (o+vs.length)
theorem y6h(A:List Value)(o:Nat)(I:List Value)(h:o+I.length<=A.length):(laid A o I).length=A.length:=by
 simp[laid];omega
theorem z0a{w:World}{b:Nat}{A:Array Value}{e:TypeId}{fr:Nat×Nat}(h:w.heap[b]? =some (.cells A e fr))(o:Nat)(u:Value):
  (w.setCell ⟨b,o,none⟩ u).heap[b]? =some (.cells (A.setIfInBounds o u) e fr):=by
 simp[World.setCell,mi,h]
theorem z0Y{b:Nat}{e:TypeId}{fr:Nat×Nat}:∀(I:List Value) (o:Nat) (w:World) (A:Array Value),w.heap[b]? =some (.cells A e fr)->o+I.length<=A.size->
  (w.setCells b o I).heap[b]? =some (.cells (laid A.toList o I).toArray e fr)
 | [],o,w,A,h,_=>by simpa[World.setCells,laid]using h
 | v::I,o,w,A,h,hle=>by
  rw[World.setCells,z0Y I (o+1) _ _ (z0a h o v) (by simp at hle ⊢;omega)];have:laid (A.setIfInBounds o v).toList (o+1) I=laid A.toList o (v::I):=by
   have J:o<A.toList.length:=(by simp at hle ⊢;omega);simp only[laid,Array.toList_setIfInBounds,wW];rw[oi (by simpa using J),qE wE,List.getElem_set_self,qC wF];rw[show o+1+I.length=o+(I.length+1)from by omega];simp
  rw[this]
theorem z1n{b k:Nat}(I:k≠b):∀(A:List Value) (o:Nat) (w:World),(w.setCells b o A).heap[k]? =w.heap[k]?
 | [],_,_=>rfl
 | v::A,o,w=>by rw[World.setCells,z1n I A,q7 I]
theorem z8X(b:Nat):∀(A:List Value) (o:Nat) (w:World),(w.setCells b o A).os=w.os/\(w.setCells b o A).tape=w.tape/\(w.setCells b o A).output=w.output/\(w.setCells b o A).heap.size=w.heap.size
 | [],_,_=>⟨rfl,rfl,rfl,rfl⟩
 | v::A,o,w=>by
  obtain⟨I,J,L,N⟩:=z8X b A (o+1) (w.setCell ⟨b,o,none⟩ v);exact⟨I,J,L,by rw[World.setCells,N];simp[World.setCell]⟩
theorem Chg.setCells{b:Nat}(I:List Value)(o:Nat)(w:World):Chg [b] [b] w (w.setCells b o I):=by
 obtain⟨J,L,N,O⟩:=z8X b I o w;exact⟨J,L,N,qH O.symm,fun k _ A=>z1n (by simpa using A) I o w,fun k A=> .inl A⟩
theorem Chg.cellAt{F I:List Nat}{w w':World}(h:Chg F I w w'){b:Nat}(o:Nat)(hb:b<w.heap.size)(A:b∉F):w'.cell? ⟨b,o,none⟩=w.cell? ⟨b,o,none⟩/\w'.frozen? ⟨b,o,none⟩=w.frozen? ⟨b,o,none⟩:=
 ⟨ud (w:=w) (a:=⟨b,o,none⟩) (h.block b hb A),mf (w:=w) (a:=⟨b,o,none⟩) (h.block b hb A)⟩
def z0c(l:List UInt8):List Value:=l.map fun b=> .int .u8 b.toNat
theorem z4X(l:List UInt8):∀u∈z0c l,u.oneCell'=true:=by
 intro u A;simp only[z0c,uC]at A;obtain⟨b,_,rfl⟩:=A;rfl
theorem z3B(l r:List UInt8):z0c (l++r)=z0c l++z0c r:=by simp[z0c]
def q4c(b:List UInt8)(i:Nat):Bool:=(b.getD (i/8) 0).toNat.testBit (7 - i%8)
structure z0S (b:List UInt8) (l:List Bool):Prop where
 len:b.length=(l.length+7)/8
 bit:∀i,i<8*b.length->q4c b i=l.getD i false
theorem q5C(b:List UInt8)(j k:Nat)(A:k<8):q4c b (8*j+k)=(b.getD j 0).toNat.testBit (7 - k):=by
 unfold q4c;rw[show(8*j+k)/8=j by omega,show(8*j+k)%8=k by omega]
theorem z0S.nil:z0S [] []:=⟨rfl,fun i h=>by simp at h⟩
theorem z0S.bits{b:List UInt8}{l m:List Bool}(h:z0S b l)(g:z0S b m)(J:l.length=m.length):l=m:=by
 apply qj J;intro i A I;have e:=(h.bit i (by rw[h.len];omega)).symm.trans (g.bit i (by rw[h.len];omega));simpa[wu,A,I]using e
theorem z2t{α:Type}{b c:List α}{j:Nat}{d:α}(h:j<b.length):(b++c).getD j d=b.getD j d:=by
 simp[wu,uX h]
theorem z2f{α:Type}{b c:List α}{j:Nat}{d:α}(h:b.length<=j):(b++c).getD j d=c.getD (j - b.length) d:=by
 simp[wu,uO h]
theorem z6d{α:Type}{b:List α}{j:Nat}{d:α}(h:b.length<=j):b.getD j d=d:=by
 simp[wu,uw h]
def z5X(y n:Nat):List Bool:=(List.range n).map fun j=>y.testBit (7 - j)
theorem z1z(y n:Nat):(z5X y n).length=n:=by simp[z5X]
theorem z8f{y n j:Nat}(h:j<n):(z5X y n).getD j false=y.testBit (7 - j):=by simp[z5X,wu,h]
def z9T(y n:Nat):Prop:=y<256/\∀j,n<=j->j<8->y.testBit (7 - j)=false
theorem y0M{y n j:Nat}(h:z9T y n)(A:j<8):(z5X y n).getD j false=y.testBit (7 - j):=by
 by_cases I:j<n
 .exact z8f I
 rw[z6d (by rw[z1z];omega),h.2 j wF A]
theorem y3K{b:List UInt8}{l:List Bool}(A:b.length=(l.length+7)/8)(h:∀j k,j<b.length->k<8->(b.getD j 0).toNat.testBit (7 - k)=l.getD (8*j+k) false):z0S b l:=
 ⟨A,fun i I=>by
  have:=h (i/8) (i%8) wF wF;unfold q4c;rw[this]
  congr 1
  omega⟩
theorem z0S.at{b:List UInt8}{l:List Bool}(h:z0S b l){j k:Nat}(I:j<b.length)(A:k<8):(b.getD j 0).toNat.testBit (7 - k)=l.getD (8*j+k) false:=by
 have:=h.bit (8*j+k) wF;rw[q5C _ _ _ A]at this;exact this
theorem q6K{b:List UInt8}{l:List Bool}{y n:Nat}(h:z0S b l)(R:l.length%8=0)(O:0<n)(Y:n<=8)(L:z9T y n):z0S (b++ [UInt8.ofNat y]) (l++z5X y n):=by
 have U:=h.len;refine y3K (by simp[z1z];omega) fun j k N J=>?_;have I:(UInt8.ofNat y).toNat=y:=by rw[oo];have:=L.1;omega
 by_cases A:j<b.length
 .rw[z2t A,z2t wF];exact h.at A J
 obtain rfl:j=b.length:=by simp at N;omega
 rw[z2f wE,z2f wF,show 8*b.length+k - l.length=k by omega,y0M L J];simp[I]
theorem q6a{b:List UInt8}{l:List Bool}{y n k z:Nat}(h:z0S b l)(hk:l.length%8=k)(a1:0<k)(hn:n<=8)(N:z9T y n)(hb:b.getD (b.length - 1) 0=UInt8.ofNat z)(hz:z<256):
  z0S (b.set (b.length - 1) (UInt8.ofNat (z ||| y/2^k))++(if 8 - k<n then [UInt8.ofNat (y*2^(8 - k)%256)]else [])) (l++z5X y n):=by
 have hl:=h.len;have a0:0<b.length:=wF
 have hd:y/2^k<=y:=dd _ _;have R:z ||| y/2^k<256:=qY (n:=8) hz (by have:=N.1;omega);refine y3K (by split<;>simp[z1z]<;>omega) fun j i O hi=>?_;by_cases J:j<b.length
 .rw[z2t (by simpa using J)];by_cases L:j=b.length - 1
  .subst L;have e:∀Y:UInt8,(b.set (b.length - 1) Y).getD (b.length - 1) 0=Y:=fun Y=>by simp[wu,tD,show b.length - 1<b.length by omega]
   rw[e,oo,dh R,Nat.testBit_or,<-pH,dQ];have U:=h.at (j:=b.length - 1) (k:=i) wF hi;rw[hb,oo,dh hz]at U;rw[U];by_cases I:i<k
   .rw[z2t wF,pJ (wS N.1 (show 2^8<=2^(k+(7 - i))from uU wG wF)),rV]
   rw[z6d (by omega:l.length<=8*(b.length - 1)+i),z2f wF,qd,show 8*(b.length - 1)+i - l.length=i - k by omega,y0M N wF,show k+(7 - i)=7 - (i - k) by omega]
  have e:(b.set (b.length - 1) (UInt8.ofNat (z ||| y/2^k))).getD j 0=b.getD j 0:=(by simp[wu,rG (pz L)]);rw[e,z2t wF];exact h.at J hi
 split at O
 .rename_i A;rw[wZ A];simp at O;obtain rfl:j=b.length:=wF
  rw[z2f wH,z2f wF];simp only[pj,pI,List.getD_cons_zero,oo,tO];rw[show(256:Nat)=2^8 from rfl];rw[py,<-mo,iy,show 8*b.length+i - l.length=i+(8 - k) by omega];rw[wQ (show 7 - i<8 by omega),pL];by_cases I:i+(8 - k)<8
  .rw[y0M N I,wQ (show 7 - i>=8 - k by omega),pL]
   congr 1
   omega
  rw[wM (show ¬7 - i>=8 - k by omega),mK,z6d (by rw[z1z];omega)]
 simp at O;omega
theorem q4v{b:List UInt8}{l:List Bool}{y:Nat}(h:z0S b l):z0S b (l++z5X y 0):=by simpa[z5X]using h
def z3o(v w:Nat):List Bool:=(List.range w).map fun j=>v.testBit (w - 1 - j)
theorem z1h(v w:Nat):(z3o v w).length=w:=by simp[z3o]
theorem z9Z{v w j:Nat}(h:j<w):(z3o v w).getD j false=v.testBit (w - 1 - j):=by simp[z3o,wu,h]
theorem q1r(v:Nat):z3o v 0= []:=rfl
theorem z5i{l m:List Bool}(h:l.length=m.length)(g:∀j,j<l.length->l.getD j false=m.getD j false):l=m:=by
 apply qj h;intro j A I;have:=g j A;simpa[wu,A,I]using this
def z7O(v w n:Nat):Nat:=v/2^(w - n)%256*2^(8 - n)%256
theorem y4h{v w n j:Nat}(J:n<=w)(A:n<=8)(I:j<8):(z7O v w n).testBit (7 - j)=if j<n then v.testBit (w - 1 - j)else false:=by
 unfold z7O;rw[show(256:Nat)=2^8 from rfl,py,<-mo,iy,py,<-pH,dQ];rw[wQ (show 7 - j<8 by omega),pL];split
 .rw[wQ (show 7 - j>=8 - n by omega),wQ (show 7 - j - (8 - n)<8 by omega),pL,pL]
  congr 1
  omega
 rw[wM (show ¬7 - j>=8 - n by omega),mK]
theorem y4a{v w n:Nat}(J:n<=w)(I:n<=8):z9T (z7O v w n) n:=by
 refine⟨gk _ wG,fun j L A=>?_⟩;rw[y4h J I A,wR wF]
theorem y9v{v w n:Nat}(J:n<=w)(I:n<=8):z3o v w=z5X (z7O v w n) n++z3o v (w - n):=by
 apply z5i (by simp[z1h,z1z];omega);intro j A;rw[z1h]at A;rw[z9Z A];by_cases h:j<n
 .rw[z2t (by rw[z1z];exact h),z8f h,y4h J I wF,wZ h]
 rw[z2f (by rw[z1z];omega),z1z,z9Z wF]
 congr 1
 omega
def z3R(l:List Bool):Nat:=l.foldl (fun a b=>2*a+b.toNat) 0
theorem y6s{P:List Bool->Prop}(A:P [])(I:∀l b,P l->P (l++ [b]))(l:List Bool):P l:=by
 have:∀m:List Bool,P m.reverse:=fun m=>by
  induction m with
  | nil=>exact A
  | cons b m ih=>rw[List.reverse_cons];exact I _ _ ih
 simpa using this l.reverse
theorem q5U(l:List Bool):∀a,l.foldl (fun a b=>2*a+b.toNat) a=a*2^l.length+z3R l:=by
 unfold z3R
 induction l with
 | nil=>intro a;simp
 | cons b l ih=>
  intro a;rw[pg,ih,pg,ih (2*0+b.toNat),wW,mc,ic];have:2*a*2^l.length=a*(2^l.length*2):=by rw[dP 2 a,Nat.mul_assoc,dP 2]
  rw[this,show 2*0+b.toNat=b.toNat by omega,im]
theorem z7R(l m:List Bool):z3R (l++m)=z3R l*2^m.length+z3R m:=by
 unfold z3R;rw[ez,q5U];rfl
theorem z7w(l:List Bool):z3R l<2^l.length:=by
 refine y6s (P:=fun l=>z3R l<2^l.length) wG (fun l b I=>?_) l
 rw[z7R,wP];have A:z3R [b]<=1:=by cases b<;>decide
 simp only[pP,Nat.pow_one,mc];omega
theorem q0F(l:List Bool)(b:Bool):z3R (l++ [b])=2*z3R l+b.toNat:=by
 rw[z7R];have A:z3R [b]=b.toNat:=by cases b<;>decide
 simp[A];omega
theorem z9L(l:List Bool):∀(j:Nat),j<l.length->(z3R l).testBit (l.length - 1 - j)=l.getD j false:=by
 refine y6s (P:=fun l=>∀j,j<l.length->(z3R l).testBit (l.length - 1 - j)=l.getD j false) (fun j h=>by simp at h) (fun l b I j h=>?_) l
 rw[q0F,wP,pP];have hb:b.toNat<2:=by cases b<;>decide
 by_cases A:j<l.length
 .rw[z2t A,<-I j A,show l.length+1 - 1 - j=l.length - 1 - j+1 by omega,Nat.testBit_succ]
  congr 1
  omega
 obtain rfl:j=l.length:=by simp at h;omega
 rw[z2f wE,show l.length+1 - 1 - l.length=0 by omega,Nat.testBit_zero];cases b<;>simp<;>omega
theorem q1H(l:List Bool):z3o (z3R l) l.length=l:=by
 apply z5i (z1h _ _);intro j A;rw[z1h]at A;rw[z9Z A,z9L l j A]
theorem q1G(v w:Nat):z3R (z3o v w)=v%2^w:=by
 apply gP;intro k;rw[py];by_cases h:k<w
 .have:=z9L (z3o v w) (w - 1 - k) (by rw[z1h];omega);rw[z1h,show w - 1 - (w - 1 - k)=k by omega,z9Z wF,show w - 1 - (w - 1 - k)=k by omega]at this;rw[this,wQ h,pL]
 have A:=z7w (z3o v w);rw[z1h]at A;rw[wM h,mK,pJ (wS A (uU wG wF))]
theorem q5c{b:List UInt8}{l:List Bool}(h:z0S b l){i:Nat}(U:i<l.length)(z N:Nat)(R:(b.getD (i/8) 0).toNat=z)(I:(b.getD (i/8+1) 0).toNat=N):
  ∀j,j<8->((z*2^(i%8)%256) ||| (if 0<i%8/\i/8+1<b.length then N/2^(8 - i%8)else 0)).testBit (7 - j)=l.getD (i+j) false:=by
 intro j Y;have hl:=h.len;have J:N<256:=by rw[<-I];exact(b.getD (i/8+1) 0).toNat_lt
 rw[Nat.testBit_or,show(256:Nat)=2^8 from rfl,py,<-mo,iy,wQ (show 7 - j<8 by omega),pL];by_cases L:i%8+j<8
 .have A:=h.at (j:=i/8) (k:=i%8+j) wF L;rw[R]at A;rw[wQ (show 7 - j>=i%8 by omega),pL,show 7 - j - i%8=7 - (i%8+j) by omega,A,show 8*(i/8)+(i%8+j)=i+j by omega];split
  .rw[<-pH,dQ,pJ (wS J (show 2^8<=2^(8 - i%8+(7 - j))from uU wG wF)),rV]
  rw[qo,rV]
 rw[wM (show ¬7 - j>=i%8 by omega),mK,qd];split
 .rename_i O;have A:=h.at (j:=i/8+1) (k:=i%8+j - 8) O.2 wF;rw[I]at A;rw[<-pH,dQ,show 8 - i%8+(7 - j)=7 - (i%8+j - 8) by omega,A]
  congr 1
  omega
 rw[qo,z6d wF]
theorem q2f{l:List Bool}{i n y:Nat}(L:y<256)(hb:∀j,j<8->y.testBit (7 - j)=l.getD (i+j) false)(O:n<=8)(N:i+n<=l.length):y/2^(8 - n)=z3R ((l.drop i).take n):=by
 have A:((l.drop i).take n).length=n:=by simp;omega
 apply gP;intro k;rw[<-pH,dQ];by_cases h:k<n
 .have I:=z9L ((l.drop i).take n) (n - 1 - k) wF;rw[A,show n - 1 - (n - 1 - k)=k by omega]at I;have J:=hb (n - 1 - k) wF;rw[show 7 - (n - 1 - k)=8 - n+k by omega]at J;rw[I,J];simp[wu,ik,show n - 1 - k<n by omega]
 have I:=z7w ((l.drop i).take n);rw[A]at I;rw[pJ (wS L (show 2^8<=2^(8 - n+k)from uU wG wF)),pJ (wS I (uU wG wF))]
theorem q1P{l:List Bool}{i n y:Nat}(hb:∀j,j<8->y.testBit (7 - j)=l.getD (i+j) false)(J:n<=8)(I:i+n<=l.length):z5X y n=(l.drop i).take n:=by
 apply z5i (by simp[z1z];omega);intro j A;rw[z1z]at A;rw[z8f A,hb j wF];simp[wu,ik,A]
theorem z0l{n:Int}(A: -9223372036854775808<=n)(I:n<=9223372036854775807):IntKind.i64.wrap n=n:=by rw[uL];omega
theorem y7d{n j:Nat}(I:n<=8)(A:j<8):(255*2^(8 - n)%256).testBit (7 - j)=decide (j<n):=by
 rw[show(256:Nat)=2^8 from rfl,py,<-mo,iy,wQ (show 7 - j<8 by omega),pL,show(255:Nat)=2^8 - 1 from rfl,kP];by_cases h:j<n
 .rw[wQ h,wQ (show 7 - j>=8 - n by omega),wQ (show 7 - j - (8 - n)<8 by omega)];rfl
 rw[wM h,wM (show ¬7 - j>=8 - n by omega)];rfl
theorem q4a{y n:Nat}(L:y<256)(I:n<=8):z9T (y&&&(255*2^(8 - n)%256)) n/\z5X (y&&&(255*2^(8 - n)%256)) n=z5X y n:=by
 refine⟨⟨pS Nat.and_le_left L,fun j N J=>?_⟩,?_⟩
 .rw[qz,y7d I J,wC,Bool.and_false]
 apply z5i (by simp[z1z]);intro j A;rw[z1z]at A;rw[z8f A,z8f A,qz,y7d I wF,wQ A,ow]
theorem z2V{b:List UInt8}{l:List Bool}(h:z0S b l):z2C b l.length=true:=by
 have L:=h.len;unfold z2C;simp only[uh,od,Bool.or_eq_true];refine⟨wF,wF,?_⟩;by_cases J:l.length%8=0
 .exact .inl wF
 refine .inr ?_;apply gP;intro k;rw[qz,qo,dQ,show(255:Nat)=2^8 - 1 from rfl,kP];by_cases I:((l.length:Int)%8).toNat+k<8
 .have A:=h.at (j:=b.length - 1) (k:=7 - k) wF wF;rw[show 7 - (7 - k)=k by omega]at A;rw[A,z6d wF,mK]
 rw[wM I,Bool.and_false]
theorem Chg.alloc{F A:List Nat}{w w':World}(h:Chg F A w w')(o:Obj):Chg F A w (w'.alloc o):=
 ⟨h.os,h.tape,h.output,by have:=h.size;simp;omega,fun k I J=>(ub w' o k (wS I h.size)).trans (h.block k I J),h.fresh⟩
structure Item where
 pre:List Value
 x:Value
 post:List Value
 b:List UInt8
def Item.cells(t:Item):List Value:=t.pre++t.x::t.post
def z8P(v:Value)(L:List Item):List Nat:=v.ownBlock.toList++L.flatMap fun t=>t.x.ownBlock.toList
structure z5A (w:World) (e size:Nat) (v:Value) (L:List Item):Prop where
 nodup:(z8P v L).Nodup
 row:w.ownsRow 0 e size v L.length (L.flatMap Item.cells)
 each:∀t∈L,t.cells.length=size/\(∀u∈t.cells,u.oneCell'=true)/\w.ownsRow 0 5 1 t.x t.b.length (z0c t.b)
theorem z5A.nil(w:World)(e A:Nat):z5A w e A (.slice none 0 0) []:=
 ⟨by simp[z8P,Value.ownBlock],by simpa using uN w 0 e A,fun _ h=>by cases h⟩
theorem z5A.same{w w':World}{e A:Nat}{v:Value}{L:List Item}(h:z5A w e A v L)(J:∀k∈z8P v L,w'.heap[k]? =w.heap[k]?):z5A w' e A v L:=by
 refine⟨h.nodup,j7 h.row fun b hb=>J b (by simp[z8P,hb]),fun t I=>⟨(h.each t I).1,(h.each t I).2.1,j7 (h.each t I).2.2 fun b hb=>J b ?_⟩⟩;simp only[z8P,uB,gz];exact .inr ⟨t,I,by simp[hb]⟩
theorem z5A.lt{w:World}{e I:Nat}{v:Value}{L:List Item}(h:z5A w e I v L):∀k∈z8P v L,k<w.heap.size:=by
 intro k A;simp only[z8P,uB,gz,pR]at A;rcases A with A|⟨t,J,A⟩
 .exact(h.row.lt k A).2
 exact((h.each t J).2.2.lt k A).2
theorem flat_get{A:Nat}:∀{L:List Item},(∀t∈L,t.cells.length=A)->∀{i j:Nat} {t:Item},L[i]? =some t->j<A->(L.flatMap Item.cells)[i*A+j]? =t.cells[j]?
 | t0::L,h,0,j,t,hi,hj=>by
  simp only[uv,wK]at hi;subst hi;rw[uH,gd,uZ,uX (by rw[h t0 wH];exact hj)]
 | t0::L,h,i+1,j,t,hi,hj=>by
  have I:=h t0 wH;rw[uH,uO (by rw[I,ic];omega),I,show(i+1)*A+j - A=i*A+j from by rw[ic];omega];exact flat_get (fun t J=>h t (by simp[J])) (by simpa using hi) hj
theorem z5A.get{w:World}{e A:Nat}{v:Value}{L:List Item}(h:z5A w e A v L){i:Nat}{t:Item}(O:L[i]? =some t):
  ∃g I,v= .slice (some ⟨g,0,none⟩) L.length I/\(∀j,j<A->w.cell? ⟨g,i*A+j,none⟩=t.cells[j]?)/\(∀o,w.frozen? ⟨g,o,none⟩=false)/\g<w.heap.size:=by
 have J:=(wY.1 O).1;obtain⟨g,I,rfl,_⟩:=z2b h.row (by
  intro R;rcases h.row.2 with⟨_,N⟩|⟨_,_,_,N,_⟩
  .omega
  rw[R]at N;cases N)
 refine⟨g,I,rfl,fun j U=>?_,h.row.frozenAt,(h.row.lt g rfl).2⟩;have hb:i*A+j<L.length*A:=by
  have:(i+1)*A<=L.length*A:=pF _ J;rw[ic]at this;omega
 rw[h.row.cellAt _ hb];exact flat_get (fun t Y=>(h.each t Y).1) O U
theorem z5A.head{w:World}{e A:Nat}{v:Value}{L:List Item}(h:z5A w e A v L):∃a c,v= .slice a L.length c:=by
 rcases h.row.2 with⟨rfl,J⟩|⟨g,I,_,rfl,_⟩
 .exact⟨none,0,by rw[J]⟩
 exact⟨_,_,rfl⟩
theorem y2C{v N:Value}{L:List Item}{t:Item}{B C:Nat}(h:(z8P v L).Nodup)(I:∀k∈z8P v L,k<B)(hx:∀g,t.x.ownBlock=some g->B<=g/\g<C)
  (Y:B<=C) (R:N.ownBlock=v.ownBlock\/N.ownBlock=some C):(z8P N (L++ [t])).Nodup:=by
 simp only[z8P,uk,uH,eQ,ue]at h I ⊢;rw[<-wj];have O:∀k∈L.flatMap (fun t=>t.x.ownBlock.toList),k<B:=fun k hk=>I k (uT _ hk);have U:=iz.1 h;have J:(N.ownBlock.toList++L.flatMap fun t=>t.x.ownBlock.toList).Nodup:=by
  rcases R with e|e
  .rw[e];exact h
  rw[e];simp only[og,uY,uW,ew];exact⟨fun hm=>by have:=O _ hm;omega,U.2.1⟩
 refine iz.2 ⟨J,by cases t.x.ownBlock<;>simp,fun a A b hb=>?_⟩;have a0:=hx b (by simpa using hb);rcases uB.1 A with A|A
 .rcases R with e|e
  .rw[e]at A;have:=I a (uQ _ A);omega
  rw[e]at A;simp only[og,uD]at A;omega
 have:=O a A;omega
theorem z5A.append{w w1 w2:World}{e J:Nat}{v v':Value}{L:List Item}{t:Item}(h:z5A w e J v L)(hb:Below w.heap.size w w1)(ht:t.cells.length=J)(a9:∀u∈t.cells,u.oneCell'=true)
  (hx:w1.ownsRow 0 5 1 t.x t.b.length (z0c t.b)) (a5:∀g,t.x.ownBlock=some g->w.heap.size<=g) (A:w1.grownBy w2 v.ownBlock)
  (R:w2.ownsRow 0 e J v' (L.length+1) (L.flatMap Item.cells++t.cells)) (a4:v'.ownBlock=v.ownBlock\/v'.ownBlock=some w1.heap.size):
  z5A w2 e J v' (L++ [t])/\Chg (z8P v L) (z8P v' (L++ [t])) w w2:=by
 have O:=h.lt;have a3:=hb.size;have Y:∀g,t.x.ownBlock=some g->w.heap.size<=g/\g<w1.heap.size:=fun g hg=>⟨a5 g hg,(hx.lt g hg).2⟩;have a8:=y2C (t:=t) h.nodup O Y a3 a4;have hk:∀k,k<w1.heap.size->some k≠v.ownBlock->w2.heap[k]? =w1.heap[k]? :=A.block;have a2:=iz.1 h.nodup;refine⟨⟨a8,by simpa using R,fun s U=>?_⟩,⟨A.os.trans hb.os,A.tape.trans hb.tape,A.output.trans hb.output,wV hb.size A.size,fun k a7 a1=>?_,fun k I=>?_⟩⟩
 .rcases uB.1 U with U|U
  .obtain⟨h1,h2,h3⟩:=h.each s U;refine⟨h1,h2,j7 h3 fun b N=>?_⟩;have a0:b∈L.flatMap fun t=>t.x.ownBlock.toList:=gz.2 ⟨s,U,by simp[N]⟩;have a6:=O b (uT _ a0);rw[hk b wF (fun e=>a2.2.2 b (by simp[<-e]) b a0 rfl),hb.block b a6]
  simp only[uD]at U;subst U;refine⟨ht,a9,j7 hx fun b N=>hk b (Y b N).2 fun e=>?_⟩;have:=O b (by simp[z8P,<-e]);have:=(Y b N).1;omega
 .simp only[z8P,uB,not_or,pR]at a1;rw[hk k wF (fun e=>a1.1 e.symm),hb.block k a7]
 simp only[z8P,uk,uH,eQ,ue,uB,pR]at I ⊢;rcases I with I|I|I
 .rcases a4 with e|e
  .exact .inl (.inl (e▸I))
  rw[e]at I;cases I;exact .inr a3
 .exact .inl (.inr I)
 exact .inr (a5 k I)
structure y1E (w:World) (size:Nat) (v:Value) (L:List Item):Prop where
 row:Rd w v size L.length (L.flatMap Item.cells)
 each:∀t∈L,t.cells.length=size/\Rd w t.x 1 t.b.length (z0c t.b)
theorem z5A.rd{w:World}{e A:Nat}{v:Value}{L:List Item}(h:z5A w e A v L):y1E w A v L:=
 ⟨z0d h.row,fun t I=>⟨(h.each t I).1,z0d (h.each t I).2.2⟩⟩
theorem y1E.same{w w':World}{A:Nat}{v:Value}{L:List Item}(h:y1E w A v L)(N:∀k,k<w.heap.size->(v.ownBlock=some k\/∃t∈L,t.x.ownBlock=some k)->w'.heap[k]? =w.heap[k]?):y1E w' A v L:=
 ⟨h.row.kept fun b hb I=>N b I (.inl hb),fun t J=>⟨(h.each t J).1,(h.each t J).2.kept fun b hb I=>N b I (.inr ⟨t,J,hb⟩)⟩⟩
theorem Rd.addr{w:World}{x:Value}{J m:Nat}{U:List Value}(h:Rd w x J m U)(hp:0<m)(hs:0<J):∃b A c,x= .slice (some ⟨b,A,none⟩) m c/\(∀j u,U[j]? =some u->w.cell? ⟨b,A+j,none⟩=some u)/\b<w.heap.size:=by
 obtain⟨hl,⟨_,hz⟩|⟨R,c,rfl,hc⟩⟩:=h
 .omega
 have h0:0<U.length:=by rw[hl];exact Nat.mul_pos hp hs
 have L:=hc 0 _ (wL h0);have I:R.add 0=R:=by unfold Addr.add;simp
 rw[I]at L;obtain⟨b,A,O⟩:=R;have N:O=none:=by
  obtain⟨e,n,_,_,N⟩:=World.shape?_of_cell? L;exact N
 subst N;refine⟨b,A,c,rfl,fun j u hu=>?_,dq _ _ L⟩;have Y:=hc j u hu;have I:(⟨b,A,none⟩:Addr).add j=⟨b,A+j,none⟩:=by unfold Addr.add;split<;>simp_all
 rw[I]at Y;exact Y
theorem Rd.head{w:World}{x:Value}{A m:Nat}{J:List Value}(h:Rd w x A m J):∃a c,x= .slice a m c:=by
 obtain⟨O,⟨rfl,I⟩|⟨L,c,rfl,N⟩⟩:=h
 .exact⟨none,0,by rw[I]⟩
 exact⟨_,_,rfl⟩
theorem Rd.low{w w':World}{x:Value}{A m:Nat}{J:List Value}(h:Rd w x A m J)(hb:Below w.heap.size w w'):Rd w' x A m J:=h.kept fun b _ I=>hb.block b I
theorem Rd.chg{w w':World}{x:Value}{A m:Nat}{J:List Value}{F L:List Nat}(h:Rd w x A m J)(N:Chg F L w w')(O:∀k,x.ownBlock=some k->k∉F):Rd w' x A m J:=h.kept fun b hb I=>N.block b I (O b hb)
theorem Rd.nil(w:World)(A:Nat):Rd w (.slice none 0 0) A 0 []:=⟨wH,.inl ⟨rfl,rfl⟩⟩
def RdB(w:World)(x:Value)(l:List UInt8):Prop:=Rd w x 1 l.length (z0c l)
theorem RdB.low{w w':World}{x:Value}{l:List UInt8}(h:RdB w x l)(hb:Below w.heap.size w w'):RdB w' x l:=Rd.low h hb
theorem RdB.chg{w w':World}{x:Value}{l:List UInt8}{F A:List Nat}(h:RdB w x l)(I:Chg F A w w')(J:∀k,x.ownBlock=some k->k∉F):RdB w' x l:=Rd.chg h I J
theorem RdB.nil(w:World):RdB w (.slice none 0 0) []:=Rd.nil w 1
theorem RdB.head{w:World}{x:Value}{l:List UInt8}(h:RdB w x l):∃a c,x= .slice a l.length c:=Rd.head h
theorem RdB.at{w:World}{x:Value}{l:List UInt8}(h:RdB w x l){k:Nat}(J:k<l.length):∃b A c,x= .slice (some ⟨b,A,none⟩) l.length c/\w.cell? ⟨b,A+k,none⟩=some (.int .u8 (l[k].toNat:Nat))/\b<w.heap.size:=by
 obtain⟨b,A,c,rfl,I,hb⟩:=Rd.addr h wF wF;exact⟨b,A,c,rfl,I k _ (by simp[z0c,J]),hb⟩
theorem RdB.oneCell{w:World}{x:Value}{l:List UInt8}(h:RdB w x l):x.oneCell'=true:=by obtain⟨a,c,rfl⟩:=h.head;rfl
def y1s(w:World)(x:Value)(ls:List (List UInt8)):Prop:=∃xs:List Value,Rd w x 1 ls.length xs/\xs.length=ls.length/\∀(i:Nat) (v:Value) (l:List UInt8),xs[i]? =some v->ls[i]? =some l->RdB w v l
theorem y1s.low{w w':World}{x:Value}{A:List (List UInt8)}(h:y1s w x A)(hb:Below w.heap.size w w'):y1s w' x A:=by
 obtain⟨R,I,J,L⟩:=h;exact⟨R,I.low hb,J,fun i v l O N=>(L i v l O N).low hb⟩
theorem y1s.head{w:World}{x:Value}{A:List (List UInt8)}(h:y1s w x A):∃a c,x= .slice a A.length c:=by
 obtain⟨J,I,_⟩:=h;exact Rd.head I
theorem y1s.nil(w:World):y1s w (.slice none 0 0) []:=⟨[],Rd.nil w 1,rfl,fun i v l h=>by simp at h⟩
theorem y1s.at{w:World}{x:Value}{I:List (List UInt8)}(h:y1s w x I){k:Nat}(U:k<I.length):∃b A c v,x= .slice (some ⟨b,A,none⟩) I.length c/\w.cell? ⟨b,A+k,none⟩=some v/\RdB w v I[k]/\b<w.heap.size:=by
 obtain⟨L,N,Y,O⟩:=h;obtain⟨b,A,c,rfl,R,hb⟩:=Rd.addr N wF wF;have J:L[k]? =some (L[k]'wF):=wL wF;exact⟨b,A,c,_,rfl,R k _ J,O k _ _ J (wL U),hb⟩
theorem z9X(l:List UInt8):(⟨l.toArray⟩:ByteArray).toList=l:=by
 have key:∀(n i:Nat) (r:List UInt8),l.length - i=n->ByteArray.toList.loop ⟨l.toArray⟩ i r=r.reverse++l.drop i:=by
  intro n
  induction n with
  | zero=>
   intro i r h;unfold ByteArray.toList.loop;have:¬i<(⟨l.toArray⟩:ByteArray).size:=(by simp[ByteArray.size];omega);rw[wR this,ig wF,ue]
  | succ n ih=>
   intro i r h;unfold ByteArray.toList.loop;have A:i<l.length:=wF;have:i<(⟨l.toArray⟩:ByteArray).size:=(by simpa[ByteArray.size]using A);rw[wZ this,ih (i+1) _ wF,pG A];have e:(⟨l.toArray⟩:ByteArray).get! i=l[i]:=(by simp[ByteArray.get!,A]);rw[e];simp
 have:=key (l.length - 0) 0 [] rfl;simpa[ByteArray.toList]using this
theorem z7D(b:List UInt8)(x:Value)(w:World)(h:RdB w x b):(convert 47 9 x).run prog w= .ok (.string ⟨b.toArray⟩) w:=by
 obtain⟨L,⟨rfl,J⟩|⟨a,c,rfl,A⟩⟩:=h
 .have:b= []:=wT J;subst this;exact run_convert_bytes_nil (P:=prog) (w:=w) 47 5 underlying47 underlying5 0 0 9 underlying9
 exact run_convert_bytes_back (P:=prog) w 47 9 5 a c b underlying47 underlying5 underlying9 (fun j I=>A j _ (by simp[z0c,wL I]))

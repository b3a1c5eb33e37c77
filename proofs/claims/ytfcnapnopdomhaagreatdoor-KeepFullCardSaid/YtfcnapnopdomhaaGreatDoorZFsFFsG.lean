/-
  The walk of a file system's Read.
-/
import Derived.Test.YtfcnapnopdomhaaGreatDoorZFsE
namespace Go.Proofs.YtfcnapnopdomhaaGreatDoor
set_option linter.unusedSimpArgs false
set_option linter.unusedVariables false
set_option maxRecDepth 100000
set_option maxHeartbeats 12800000
open Go.RowKit Go.Maps
theorem y3m(k:Bs)(L:List (Bs×Bs))(p:Bs×Bs):pieces k (L++ [p])=pieces k L++(if p.1=k then p.2 else []):=by
 unfold pieces;rw [List.filter_append,List.flatMap_append]
 congr 1
 by_cases e:p.1=k<;>simp [e]
theorem y1f(k:Bs)(L R:List (Bs×Bs)):pieces k (L++R)=pieces k L++pieces k R:=by simp [pieces]
theorem q1p{L:List (Bs×Ent)}{i:Nat}(h:i<L.length):(L.take (i+1)).map ct=(L.take i).map ct++ [ct L[i]]:=by
 rw [List.take_add_one,List.getElem?_eq_getElem h,List.map_append];rfl
def z1V(s:FsS)(k:Bs)(w:World)(e:Ending)(w':World):Prop:=
 if s.has k then ∃a n c,e= .returned (.tuple #[.slice a n c, .int .u16 0])∧z5t w w' a n c (s.get k)
 else e= .returned (.tuple #[.slice none 0 0, .int .u16 80])∧w=w'
theorem z4l(sb:Nat)(s:FsS)(F:List Nat)(k:Bs)(hk:k.length≤maxLen)(w:World)(h:z1p w sb s F)(ok:s.Ok):
  Calls Tryz.prog 89 #[.pointer (some ⟨sb,0,none⟩), .string ⟨k.toArray⟩] w (z1V s k w):=by
 have H:=z7 h;have OK:=z7 ok;clear h ok;cases hh:s.has k with
 | false=>
  have e:∀e' w',(e'= .returned (.tuple #[.slice none 0 0, .int .u16 80])∧w=w')→z1V s k w e' w':=fun e' w' h=>by unfold z1V;rw [hh,if_neg (by simp)];exact h
  have HE:=z7 e;clear e;go_enter Tryz.func89,Tryz.ntmps89;go_wp2_with (refine (z2q sb s _ k hk _ H.out).mono ?_;rintro e w' ⟨rfl,rfl⟩;rw [hh]);go_ret2;exact HE.out _ _ ⟨rfl,rfl⟩
 | true=>
  have e:∀e' w',(∃a n c,e'= .returned (.tuple #[.slice a n c, .int .u16 0])∧z5t w w' a n c (s.get k))→z1V s k w e' w':=fun e' w' h=>by unfold z1V;rw [hh,if_pos rfl];exact h
  have HE:=z7 e;have H':=H.out;obtain ⟨mb,wv,lp,E,L,h,rfl⟩:=H';obtain ⟨c0,c1,c2,c3,c4,fz⟩:=z2y h.blk;have hsb:=(Array.getElem?_eq_some_iff.1 h.blk).1;obtain ⟨wa,wc,rfl⟩:=(z0d h.row).head;have hm:=z7 h.map;have HC2:=z7 c2;have hll:Hid (L.length≤1048576):=z7 (by have:=OK.out.waits_le;rw [h.waits,List.length_map] at this;exact this);obtain ⟨en,hen⟩:∃en,z0H k E=some en:=by
   have h1:s.has k=(z0H k E).isSome:=by unfold FsS.has;rw [y0Q h,Option.isSome_map]
   rw [hh] at h1;exact Option.isSome_iff_exists.1 h1.symm
  have hget:Hid (s.get k=en.b++pieces k (L.map ct)):=z7 (by unfold FsS.get;rw [y0Q h,hen,h.waits];rfl);have hEN:z4u w _ en:=h.ent (k,en) (List.mem_append_left _ (z1w hen));have HEN:=z7 hEN;have hln:Hid ((en.b++pieces k (L.map ct)).length≤1048576):=z7 (by
   rw [←hget.out];have h1:=z5Q s k;have h2:=OK.out.used_le;omega)
  have hel:Hid (en.n≤1048576):=z7 (by have:=hln.out;rw [List.length_append] at this;have:=hEN.n;omega);have HG:=z7 hen;have H2:=z7 h;clear h c0 c2 c3 c4 fz e hen hEN;obtain ⟨eb,ea,en,ec⟩:=en;dsimp only [Ent.v] at*;go_enter Tryz.func89,Tryz.ntmps89;go_wp2_with (first | (refine (z2q sb s _ k hk _ H.out).mono ?_;rintro e w' ⟨rfl,rfl⟩;rw [hh]) | (at_lookup;refine z6k z3P rfl _ _ 116 rfl 46 Tryz.underlying116 (z7J _) rfl rfl hm.out k rfl hk (some ⟨eb,ea,en,ec⟩) HG.out (.slice ea en ec) rfl ?_));refine (y3S ea en ec eb w HEN.out.rd HEN.out.n (by have:=hel.out;omega)).mono ?_;rintro e w1 ⟨a1,c1,rfl,hf⟩;have HF:=z7 hf;have HB1:=z7 hf.2.2;have hs1:=hf.2.2.size;have hC2:w1.cell? ⟨sb,2,none⟩=some (.slice wa L.length wc):=(hf.2.2.cell (p:=⟨sb,2,none⟩) hsb).trans HC2.out;clear hf;go_wp2;go_loopw [6,8,25] (fun ov pv iv wr=>∃(O:Bs) (i nO cO:Nat) (aO:Option Addr),ov= .slice aO nO cO∧iv= .int .i64 i∧i≤L.length∧Hid (nO=O.length)∧Hid (O=eb++pieces k ((L.take i).map ct))∧Hid (z4I w w.heap.size (.slice aO nO cO) O wr)) (fun _ _ iv _=>match iv with | .int _ j=>L.length - j.toNat | _=>0)
  case atStart=>
   refine ⟨eb,0,en,c1,a1,rfl,rfl,Nat.zero_le _,z7 HEN.out.n,z7 (by simp [pieces]),z7 ⟨?_,HB1.out,hs1⟩⟩;have h1:=HF.out.1;have h2:en=eb.length:=HEN.out.n;rw [h2] at h1 ⊢;exact h1
  case round=>
   obtain ⟨O,i,nO,cO,aO,rfl,rfl,hi,hnO,hOe,hO⟩:=hrel;clear hC2 HB1 HF hs1;have hbw:=hO.out.2.1;by_cases hil:i<L.length
   ·have i0:(i:Int)<L.length:=by omega
    obtain ⟨g,pk,pb,pa,pn,pc,rfl,hpe,a1',a2,hg,hfz⟩:=(H2.out.low hbw).at hil;have hpE:z4u w (z1l sb mb (.slice (some ⟨g,0,none⟩) L.length wc) lp) (⟨pb,pa,pn,pc⟩:Ent):=by
     have:=H2.out.ent L[i] (List.mem_append_right _ (List.getElem_mem hil));rw [hpe] at this;exact this
    have hstep:Hid (pieces k ((L.take (i+1)).map ct)=pieces k ((L.take i).map ct)++(if pk=k then pb else [])):=z7 (by
     rw [q1p hil,y3m,hpe];rfl)
    have hln2:Hid ((eb++pieces k ((L.take (i+1)).map ct)).length≤1048576):=z7 (by
     have h1:=hln.out;have h2:pieces k (L.map ct)=pieces k ((L.take (i+1)).map ct)++pieces k ((L.drop (i+1)).map ct):=by
      rw [←y1f,←List.map_append,List.take_append_drop]
     rw [h2] at h1;simp only [List.length_append] at h1 ⊢;omega)
    have hw2:IntKind.i64.wrap ((i:Int)+1)=(i:Int)+1:=wrap64 (by omega) (by have:=hll.out;omega);have HPE:=z7 hpE;clear hpe hpE;by_cases hpk:pk=k
    ·subst hpk;have hst2:Hid (eb++pieces pk ((L.take (i+1)).map ct)=O++pb):=z7 (by rw [hstep.out,if_pos rfl,hOe.out,List.append_assoc]);have hl3:Hid (O.length+pb.length≤1048576):=z7 (by have:=hln2.out;rw [hst2.out,List.length_append] at this;exact this);have hr2:=z7 ((HPE.out.rd.low hbw).low (q5 wr (.cells #[.string ⟨pk.toArray⟩, .slice pa pn pc] 85)));have hO2:=z7 (hO.out.to (q5 wr (.cells #[.string ⟨pk.toArray⟩, .slice pa pn pc] 85)));have hrd3:Hid (RdB (wr.alloc (.cells #[.string ⟨pk.toArray⟩, .slice pa pn pc] 85)) (.slice pa pn pc) pb):=hr2;clear hstep;go_wp2_with (at_builtin;refine wpList_copy_own rfl _ _ 46 rfl w w.heap.size 5 Tryz.underlying46 (by kernel_rfl) _ O rfl (by exact hO2.out) _ pb rfl (by exact hrd3.out) (by have:=hl3.out;omega) ?_;intro a1 co1 w1 hown1 hb1;obtain ⟨n1,hn1⟩:∃n,n=(O++pb).length:=⟨_,rfl⟩;rw [←hn1] at hown1 ⊢;have N1:=z7 hn1;have HO1:=z7 hown1;have HB1:=z7 hb1;skip;clear hn1 hown1 hb1);refine ⟨⟨O++pb,i+1,n1,co1,a1,rfl,rfl,hil,N1,z7 hst2.out.symm,HO1⟩,?_⟩;show L.length - ((i:Int)+1).toNat<L.length - ((i:Nat):Int).toNat;omega
    ·have hst2:Hid (eb++pieces k ((L.take (i+1)).map ct)=O):=z7 (by rw [hstep.out,if_neg hpk,List.append_nil,hOe.out]);have hO2:=z7 (hO.out.to (q5 wr (.cells #[.string ⟨pk.toArray⟩, .slice pa pn pc] 85)));have hpb:(pk==k)=false:=by simpa using hpk
     clear hstep;go_wp2;refine ⟨⟨O,i+1,nO,cO,aO,rfl,rfl,hil,hnO,z7 hst2.out.symm,hO2⟩,?_⟩;show L.length - ((i:Int)+1).toNat<L.length - ((i:Nat):Int).toNat;omega
   ·obtain rfl:i=L.length:=by omega
    have hfin:Hid (O=s.get k):=z7 (by rw [hOe.out,hget.out,List.take_length]);clear hOe;go_wp2;go_ret2;refine HE.out _ _ ⟨aO,nO,cO,rfl,?_,?_,hbw⟩
    ·have h1:=hO.out.1;rw [←hnO.out,hfin.out] at h1;exact h1
    ·rw [←hfin.out];exact hnO.out
theorem y0I(pk k:Bs)(x:Value)(hx1:x.oneCell'=true)(a:Option Addr)(n c:Nat)(hx:x= .slice a n c)(nb:Nat)(w:World)(hc:w.cell? ⟨nb,0,none⟩=some (.string ⟨k.toArray⟩))(hnb:nb<w.heap.size):
  Calls Tryz.prog 217 #[.agg #[.string ⟨pk.toArray⟩,x], .pointer (some ⟨nb,0,none⟩)] w fun e w'=>e= .returned (.bool (decide (pk=k)))∧Below w.heap.size w w':=by
 subst hx;have hc2:(w.alloc (.cells #[.string ⟨pk.toArray⟩, .slice a n c] 85)).cell? ⟨nb,0,none⟩=some (.string ⟨k.toArray⟩):=((q5 w _).cell (p:=⟨nb,0,none⟩) hnb).trans hc;clear hc hx1;by_cases e:pk=k
 ·have e2:decide (pk=k)=true:=decide_eq_true e;rw [e2];subst e;go_enter Tryz.func217,Tryz.ntmps217;go_wp2;go_ret;exact ⟨rfl,q5 w _⟩
 ·have e2:decide (pk=k)=false:=decide_eq_false e;have e3:(pk==k)=false:=by simpa using e
  rw [e2];clear e2;go_enter Tryz.func217,Tryz.ntmps217;go_wp2;go_ret;exact ⟨rfl,q5 w _⟩
theorem y5X{w:World}{g n c:Nat}{L:List (Bs×Ent)}(h:w.ownsRow 0 85 2 (.slice (some ⟨g,0,none⟩) n c) n (z1u L))(hn:n=L.length){i:Nat}(hi:i<n):
  ∃pk pb pa pn pc,L[i]? =some (pk,⟨pb,pa,pn,pc⟩)∧w.cell? ⟨g,i*2,none⟩=some (.string ⟨pk.toArray⟩)∧w.cell? ⟨g,i*2+1,none⟩=some (.slice pa pn pc)∧g<w.heap.size∧∀j,w.frozen? ⟨g,j,none⟩=false:=by
 subst hn;obtain ⟨g1,g2⟩:=y2i hi;have a1:=h.cellAt (i*2) (by omega);have a2:=h.cellAt (i*2+1) (by omega);rw [Nat.mul_comm,g1] at a1;rw [Nat.mul_comm,g2] at a2;refine ⟨L[i].1,L[i].2.b,L[i].2.a,L[i].2.n,L[i].2.c,List.getElem?_eq_getElem hi,by rw [Nat.mul_comm];exact a1,by rw [Nat.mul_comm];exact a2,(h.lt g rfl).2,fun j=>h.frozenAt j⟩
theorem y2G(a:Option Addr)(n c:Nat)(k:Bs)(nb:Nat)(L:List (Bs×Ent))(w:World)(h:w.ownsRow 0 85 2 (.slice a n c) n (z1u L))(hn:n=L.length)(hl:n≤1048576)
  (hc:w.cell? ⟨nb,0,none⟩=some (.string ⟨k.toArray⟩)) (hnb:nb<w.heap.size):
  Calls Tryz.prog 266 #[.slice a n c, .func (.func 217) #[] #[.pointer (some ⟨nb,0,none⟩)]] w fun e w'=>(∃r:Int,e= .returned (.int .i64 r)∧((r= -1∧∀p∈L,p.1≠k)∨∃i:Nat,r=i∧i<n∧(∀p∈L.take i,p.1≠k)∧∃p,L[i]? =some p∧p.1=k))∧Below w.heap.size w w':=by
 have H:=z7 h;have HN:=z7 hn;have HC:=z7 hc;clear h hn hc;go_enter Tryz.func266,Tryz.ntmps266;go_wp2;go_loopw [5,8] (fun jv iv wr=>∃i:Nat,iv= .int .i64 i∧i≤n∧Hid (∀p∈L.take i,p.1≠k)∧Hid (Below w.heap.size w wr)) (fun _ iv _=>match iv with | .int _ j=>n - j.toNat | _=>0)
 case atStart=>exact ⟨0,rfl,Nat.zero_le _,z7 (by intro p hp;cases hp),z7 (Below.refl _ _)⟩
 case round=>
  obtain ⟨i,rfl,hi,hne,hb⟩:=hrel;by_cases hin:i<n
  ·have i0:(i:Int)<n:=by omega
   have hrow:wr.ownsRow 0 85 2 (.slice a n c) n (z1u L):=ownsRow_below H.out hb.out (Nat.le_refl _);obtain ⟨g,rfl⟩:∃g,a=some ⟨g,0,none⟩:=by
    rcases hrow.2 with ⟨h1,h2⟩ | ⟨g,cap,cur,h1,_⟩
    ·omega
    ·simp only [Value.slice.injEq] at h1;exact ⟨g,h1.1⟩
   obtain ⟨pk,pb,pa,pn,pc,hp,a1,a2,hg,hfz⟩:=y5X hrow HN.out hin;have hcw:Hid (wr.cell? ⟨nb,0,none⟩=some (.string ⟨k.toArray⟩)):=z7 ((hb.out.cell (p:=⟨nb,0,none⟩) hnb).trans HC.out);have HP:=z7 hp;clear hrow hp;go_wp2_with fail;refine (y0I pk k _ rfl pa pn pc rfl nb wr hcw.out (by have:=hb.out.size;omega)).mono ?_;rintro e w1 ⟨rfl,hb1⟩;have HB1:=z7 (hb.out.trans (hb1.mono hb.out.size));have hw2:IntKind.i64.wrap ((i:Int)+1)=(i:Int)+1:=wrap64 (by omega) (by omega);clear hb1 a1 a2 hfz;by_cases e:pk=k
   ·have e2:decide (pk=k)=true:=decide_eq_true e;rw [e2];have hend:Hid (∃p,L[i]? =some p∧p.1=k):=z7 ⟨_,HP.out,e⟩;clear e2 e;go_wp2;go_ret;exact ⟨⟨i,rfl, .inr ⟨i,rfl,hin,hne.out,hend.out⟩⟩,HB1.out⟩
   ·have e2:decide (pk=k)=false:=decide_eq_false e;rw [e2];have hne2:Hid (∀p∈L.take (i+1),p.1≠k):=z7 fun p hp=>by
     rw [List.take_add_one,HP.out] at hp;rcases List.mem_append.1 hp with h1 | h1
     ·exact hne.out p h1
     ·simp only [Option.toList_some,List.mem_singleton] at h1;subst h1;exact e
    clear e2 e;go_wp2;refine ⟨⟨i+1,rfl,hin,hne2,HB1⟩,?_⟩;show n - ((i:Int)+1).toNat<n - ((i:Nat):Int).toNat;omega
  ·obtain rfl:i=n:=by omega
   have hall:Hid (∀p∈L,p.1≠k):=z7 (by have:=hne.out;rw [HN.out,List.take_length] at this;exact this);go_wp2;go_ret;exact ⟨⟨-1,rfl, .inl ⟨rfl,hall.out⟩⟩,hb.out⟩
theorem y8d(w:World):(zeroValue 85).run Tryz.prog w= .ok (.agg #[.string ⟨#[]⟩, .slice none 0 0]) w:=by kernel_rfl
theorem y1d{P:Program}(w:World)(t e ty:TypeId)(z:Value)(ht:P.underlying t=some (.slice e))(hv:∀w,(zeroValue e).run P w= .ok z w)(h1:∀u∈z.cells.toList,u.oneCell'=true)(hz:0<z.cells.size)(b o m c:Nat)(cur:Array Value)(hh:w.heap[b]? =some (.cells cur e (0,0)))
  (hm:0<m) (hle:o+m*z.cells.size≤cur.size):
  (Builtin.clear_ #[t] ty #[.slice (some ⟨b,o,none⟩) m c]).run P w= .ok (.tuple #[]) (w.setCells b o (Builtin.zeroCells z.cells m).toList):=by
 have hl:(Builtin.zeroCells z.cells m).toList.length=m*z.cells.size:=by simp [Builtin.zeroCells]
 have hone:∀u∈(Builtin.zeroCells z.cells m).toList,u.oneCell'=true:=by
  intro u hu;simp only [Builtin.zeroCells,Array.toList_map,List.mem_map] at hu;obtain ⟨i,_,rfl⟩:=hu;have hi:i%z.cells.size<z.cells.size:=Nat.mod_lt _ hz;rw [getElem!_pos z.cells _ hi];exact h1 _ (by simp)
 have hst:=run_storeCells_cells (P:=P) b o (Builtin.zeroCells z.cells m).toList 0 w (fun j hj=>by simp [World.cell?,hh];rw [hl] at hj;omega) (fun j hj=>by simp [World.frozen?,hh]) hone;simp only [Nat.add_zero] at hst;obtain ⟨m',rfl⟩:∃m',m=m'+1:=⟨m - 1,by omega⟩;simp [Builtin.clear_,run_underlying ht,hv,hst]
theorem y1m{w:World}{base e size g n c:Nat}{xs:List Value}(h:w.ownsRow base e size (.slice (some ⟨g,0,none⟩) n c) n xs)(i:Nat)(hi:i≤n)(vs:List Value)(hv:i*size+vs.length≤n*size):
  (w.setCells g (i*size) vs).ownsRow base e size (.slice (some ⟨g,0,none⟩) i c) i (xs.take (i*size)):=by
 rcases h.2 with ⟨h',_⟩ | ⟨g',cap',cur,h',hb,hg,hnc,hcm,hcs,htake⟩
 ·simp at h'
 ·simp only [Value.slice.injEq,Option.some.injEq,Addr.mk.injEq,and_true,true_and] at h';obtain ⟨rfl,rfl⟩:=h';have hmul:i*size≤n*size:=Nat.mul_le_mul_right _ hi;have hns:n*size≤c*size:=Nat.mul_le_mul_right _ hnc;have hset:=z0I vs (i*size) w cur hg (by rw [hcs];omega);refine ⟨by rw [List.length_take,h.1];omega, .inr ⟨g,c,_,rfl,hb,hset,by omega,hcm,by rw [List.size_toArray,y4e _ _ _ (by simp [hcs];omega)];simpa using hcs,?_⟩⟩;have hcl:i*size≤cur.toList.length:=by rw [Array.length_toList,hcs];omega
  have hl2:(cur.toList.take (i*size)).length=i*size:=List.length_take_of_le hcl;rw [←htake];show List.take (i*size) (laid cur.toList (i*size) vs)=_;unfold laid;rw [List.append_assoc,List.take_append_of_le_length (by rw [hl2];exact Nat.le_refl _),List.take_take,List.take_take,Nat.min_self,Nat.min_eq_left hmul]
theorem y7d(L:List (Bs×Ent))(i:Nat)(hi:i<L.length)(p:Bs×Ent):z1u (L.set i p)=((z1u L).set (i*2) (.string ⟨p.1.toArray⟩)).set (i*2+1) p.2.v:=by
 induction L generalizing i with
 | nil=>simp at hi
 | cons q L ih=>
  have e:∀(r:Bs×Ent) (M:List (Bs×Ent)),z1u (r::M)= .string ⟨r.1.toArray⟩::r.2.v::z1u M:=fun r M=>by simp [z1u]
  cases i with
  | zero=>simp [e]
  | succ i=>
   rw [List.set_cons_succ,e,e,ih i (by simpa using hi),show (i+1)*2=i*2+1+1 by omega];simp
theorem y5O(L:List (Bs×Ent))(i:Nat):(z1u L).take (i*2)=z1u (L.take i):=by
 induction L generalizing i with
 | nil=>simp [z1u]
 | cons q L ih=>
  have e:∀(r:Bs×Ent) (M:List (Bs×Ent)),z1u (r::M)= .string ⟨r.1.toArray⟩::r.2.v::z1u M:=fun r M=>by simp [z1u]
  cases i with
  | zero=>simp [z1u]
  | succ i=>rw [e,show (i+1)*2=i*2+1+1 by omega,List.take_succ_cons,List.take_succ_cons,ih,List.take_succ_cons,e]
def z5d(k:Bs)(L:List (Bs×Ent)):List (Bs×Ent):=L.filter fun p=>decide (p.1≠k)
theorem y1T{k:Bs}{L:List (Bs×Ent)}(h:∀p∈L,p.1≠k):z5d k L=L:=List.filter_eq_self.2 fun p hp=>by simpa using h p hp
theorem z7R(k:Bs)(L:List (Bs×Ent))(p:Bs×Ent):z5d k (L++ [p])=z5d k L++(if p.1=k then [] else [p]):=by
 unfold z5d;rw [List.filter_append]
 congr 1
 by_cases e:p.1=k<;>simp [e]
def q2U(k:Bs)(L:List (Bs×Ent))(g n c:Nat)(nb:Nat)(w:World)(iv jv:Value)(wr:World):Prop:=
 ∃(i j:Nat) (A:List (Bs×Ent)),iv= .int .i64 i∧jv= .int .i64 j∧i<j∧j≤n∧Hid (wr.ownsRow 0 85 2 (.slice (some ⟨g,0,none⟩) n c) n (z1u A))∧Hid (A.length=n)∧Hid (A.drop j=L.drop j)∧Hid (A.take i=z5d k (L.take j))∧
  Hid (w.grownBy wr (some g))
theorem y1h(a:Option Addr)(n c:Nat)(k:Bs)(nb:Nat)(L:List (Bs×Ent))(w:World)(h:w.ownsRow 0 85 2 (.slice a n c) n (z1u L))(hn:n=L.length)(hl:n≤1048576)
  (hc:w.cell? ⟨nb,0,none⟩=some (.string ⟨k.toArray⟩)) (hnb:nb<w.heap.size) (hne:(Value.slice a n c).ownBlock≠some nb):
  Calls Tryz.prog 216 #[.slice a n c, .func (.func 217) #[] #[.pointer (some ⟨nb,0,none⟩)]] w fun e w'=>
   ∃m,e= .returned (.slice a m c)∧m=(z5d k L).length∧w'.ownsRow 0 85 2 (.slice a m c) m (z1u (z5d k L))∧w.grownBy w' (Value.slice a n c).ownBlock:=by
 have H:=z7 h;have HN:=z7 hn;have HC:=z7 hc;have HNE:=z7 hne;have hcap:=z1C h;clear h hn hc hne;go_enter Tryz.func216,Tryz.ntmps216;go_wp2_with fail;refine (y2G a n c k nb L w H.out HN.out hl HC.out hnb).mono ?_;rintro e w1 ⟨⟨r,rfl,hr⟩,hb1⟩;have H1:=z7 (ownsRow_below H.out hb1 (Nat.le_refl _));have HB1:=z7 hb1;clear hb1;rcases hr with ⟨rfl,hall⟩ | ⟨i,rfl,hin,hpre,p,hp,hpk⟩
 ·have hk:=z7 (y1T hall);clear hall;go_wp2;go_ret;refine ⟨n,rfl,by rw [hk.out];exact HN.out,by rw [hk.out];exact H1.out,z5O ⟨rfl,rfl,rfl,Nat.le_refl _,fun _ _ _=>rfl⟩ HB1.out⟩
 ·obtain ⟨g,rfl⟩:∃g,a=some ⟨g,0,none⟩:=by
   rcases H1.out.2 with ⟨h1,h2⟩ | ⟨g,cap,cur,h1,_⟩
   ·omega
   ·simp only [Value.slice.injEq] at h1;exact ⟨g,h1.1⟩
  have i0:((i:Int)== -1)=false:=by simp
  have hg1:=z7 (z5O (⟨rfl,rfl,rfl,Nat.le_refl _,fun _ _ _=>rfl⟩:w.grownBy w (some g)) HB1.out);have hst:Hid (L.take i=z5d k (L.take (i+1))):=z7 (by
   rw [List.take_add_one,hp,Option.toList_some,z7R,if_pos hpk,List.append_nil,y1T hpre])
  have hw2:IntKind.i64.wrap ((i:Int)+1)=(i:Int)+1:=wrap64 (by omega) (by omega);clear hpre hp hpk;go_wp2;go_loopw [5,6,7] (fun iv jv pv wr=>q2U k L g n c nb w iv jv wr) (fun _ jv _ _=>match jv with | .int _ j=>n - j.toNat | _=>0)
  case atStart=>exact ⟨i,i+1,L,rfl,by simp,by omega,hin,H1,z7 HN.out.symm,z7 rfl,hst,hg1⟩
  case round=>
   clear HB1 hg1 hst H1;obtain ⟨i,j,A,rfl,rfl,hij,hjn,hrow,hAl,hAd,hAt,hgr⟩:=hrel;by_cases hj:j<n
   ·have j0:(j:Int)<n:=by omega
    obtain ⟨pk,pb,pa,pn,pc,hp,a1,a2,hg,hfz⟩:=y5X hrow.out hAl.out.symm hj;have hcw:wr.cell? ⟨nb,0,none⟩=some (.string ⟨k.toArray⟩):=by
     have:=hgr.out.block nb hnb fun e=>HNE.out e.symm;exact (World.cell?_of_block (w:=w) (a:=⟨nb,0,none⟩) this).trans HC.out
    have HP:=z7 hp;have hnw:=hgr.out.size;have hb2:=z7 (q5 wr (.cells #[.string ⟨pk.toArray⟩, .slice pa pn pc] 85));have hcw2:Hid ((wr.alloc (.cells #[.string ⟨pk.toArray⟩, .slice pa pn pc] 85)).cell? ⟨nb,0,none⟩=some (.string ⟨k.toArray⟩)):=z7 ((hb2.out.cell (p:=⟨nb,0,none⟩) (Nat.lt_of_lt_of_le hnb hnw)).trans hcw);have hpl:Hid (L[j]? =some (pk,⟨pb,pa,pn,pc⟩)):=z7 (by
     have h1:=congrArg (fun X=>X[0]?) hAd.out;simp only [List.getElem?_drop,Nat.add_zero] at h1;rw [←h1];exact hp)
    clear hp hcw;go_wp2_with fail;refine (y0I pk k _ rfl pa pn pc rfl nb _ hcw2.out (by simp;omega)).mono ?_;rintro e w3 ⟨rfl,hb3⟩;have hrow3:=z7 (ownsRow_below (ownsRow_below hrow.out hb2.out (Nat.le_refl _)) hb3 (Nat.le_refl _));have hg3:=z7 (z5O hgr.out (hb2.out.trans (hb3.mono (by simp))));have hnew:(wr.alloc (.cells #[.string ⟨pk.toArray⟩, .slice pa pn pc] 85)).heap[wr.heap.size]? =some (.cells #[.string ⟨pk.toArray⟩, .slice pa pn pc] 85):=j8 _ _;have hn3:w3.heap[wr.heap.size]? =some (.cells #[.string ⟨pk.toArray⟩, .slice pa pn pc] 85):=(hb3.block _ (by simp)).trans hnew;have b1:w3.cell? ⟨wr.heap.size,0,none⟩=some (.string ⟨pk.toArray⟩):=by simp [World.cell?,hn3]
    have b2:w3.cell? ⟨wr.heap.size,1,none⟩=some (.slice pa pn pc):=by simp [World.cell?,hn3]
    have hw3:IntKind.i64.wrap ((j:Int)+1)=(j:Int)+1:=wrap64 (by omega) (by omega);have hw4:IntKind.i64.wrap ((i:Int)+1)=(i:Int)+1:=wrap64 (by omega) (by omega);have hjt:Hid (L.take (j+1)=L.take j++ [(pk,⟨pb,pa,pn,pc⟩)]):=z7 (by rw [List.take_add_one,hpl.out];rfl);clear hrow hgr hb2 hcw2 hb3 hnew hn3 hw2 a1 a2 hfz hg;by_cases hpk:pk=k
    ·have e2:decide (pk=k)=true:=decide_eq_true hpk;rw [e2];have hd2:Hid (A.drop (j+1)=L.drop (j+1)):=z7 (by rw [←List.drop_drop,←List.drop_drop,hAd.out]);have ht2:Hid (A.take i=z5d k (L.take (j+1))):=z7 (by rw [hjt.out,z7R,if_pos hpk,List.append_nil];exact hAt.out);clear e2 hpk b1 b2 hjt hAt hAd;go_wp2;refine ⟨⟨i,j+1,A,rfl,by simp,by omega,hj,hrow3,hAl,hd2,ht2,hg3⟩,?_⟩;show n - ((j:Int)+1).toNat<n - ((j:Nat):Int).toNat;omega
    ·have e2:decide (pk=k)=false:=decide_eq_false hpk;rw [e2];obtain ⟨_,_,_,_,_,_,a1,a2,hg,hfz⟩:=y5X hrow3.out hAl.out.symm (show i<n by omega);have f1:=hfz (i*2);have f2:=hfz (i*2+1);have i1:(i:Int)<n:=by omega
     obtain ⟨A',hA'⟩:∃A',A'=A.set i (pk,⟨pb,pa,pn,pc⟩):=⟨_,rfl⟩;have hd2:Hid (A'.drop (j+1)=L.drop (j+1)):=z7 (by rw [hA',List.drop_set_of_lt (by omega),←List.drop_drop,←List.drop_drop,hAd.out]);have ht2:Hid (A'.take (i+1)=z5d k (L.take (j+1))):=z7 (by
      rw [hjt.out,z7R,if_neg hpk,←hAt.out,hA',List.take_add_one,List.getElem?_set_self (by rw [hAl.out];omega),List.take_set_of_le (Nat.le_refl _)];rfl)
     have hAl2:Hid (A'.length=n):=z7 (by rw [hA',List.length_set];exact hAl.out);have hst2:Hid ((((w3.setCell ⟨g,i*2,none⟩ (.string ⟨pk.toArray⟩)).setCell ⟨g,i*2+1,none⟩ (.slice pa pn pc))).ownsRow 0 85 2 (.slice (some ⟨g,0,none⟩) n c) n (z1u A')):=z7 (by
      have h1:=(hrow3.out.stored (i*2) (.string ⟨pk.toArray⟩)).1;have h2:=(h1.stored (i*2+1) (.slice pa pn pc)).1;rw [hA',y7d A i (by rw [hAl.out];omega)];exact h2)
     have hg4:Hid (w.grownBy ((w3.setCell ⟨g,i*2,none⟩ (.string ⟨pk.toArray⟩)).setCell ⟨g,i*2+1,none⟩ (.slice pa pn pc)) (some g)):=z7 (by
      have h1:=hrow3.out.stored (i*2) (.string ⟨pk.toArray⟩);have h2:=h1.1.stored (i*2+1) (.slice pa pn pc);exact (hg3.out.trans h1.2).trans h2.2)
     clear e2 hpk hjt hAt hAd hA' hfz;go_wp2;refine ⟨⟨i+1,j+1,A',by simp,by simp,by omega,hj,hst2,hAl2,hd2,ht2,hg4⟩,?_⟩;show n - ((j:Int)+1).toNat<n - ((j:Nat):Int).toNat;omega
   ·obtain rfl:j=n:=by omega
    have hkk:Hid (A.take i=z5d k L):=z7 (by rw [hAt.out,HN.out,List.take_length]);have hcur:∃cur:Array Value,wr.heap[g]? =some (.cells cur 85 (0,0))∧j*2≤cur.size:=by
     rcases hrow.out.2 with ⟨h',_⟩ | ⟨g',cap',cur,h',hb,hg,hnc,hcm,hcs,htake⟩
     ·simp at h'
     ·simp only [Value.slice.injEq,Option.some.injEq,Addr.mk.injEq,and_true,true_and] at h';obtain ⟨rfl,rfl⟩:=h';exact ⟨cur,hg,by rw [hcs];exact Nat.mul_le_mul_right _ hnc⟩
    obtain ⟨cur,hcur1,hcur2⟩:=hcur;have hcl:=fun ty=>y1d (P:=Tryz.prog) wr 86 85 ty (.agg #[.string ⟨#[]⟩, .slice none 0 0]) Tryz.underlying86 y8d (by decide) (by decide) g (i*2) (j - i) (c - i) cur hcur1 (by omega) (by show i*2+(j - i)*2≤cur.size;omega);obtain ⟨Z,hZ⟩:∃Z,Z=(Builtin.zeroCells (Value.agg #[.string ⟨#[]⟩, .slice none 0 0]).cells (j - i)).toList:=⟨_,rfl⟩;rw [←hZ] at hcl;have hZl:Z.length=(j - i)*2:=by rw [hZ];simp [Builtin.zeroCells,Value.cells]
    have hfr:=z7 (y1m hrow.out i (by omega) Z (by rw [hZl];omega));have hch:=z7 (Chg.setCells (b:=g) Z (i*2) wr);have i1:(i:Int)≤j:=by omega
    have i2:(i:Int)≤c:=by omega
    have i3:c≠i:=by omega
    have hal:Hid ((z5d k L).length=i):=z7 (by rw [←hkk.out,List.length_take,hAl.out];omega);have hLE:=z7 hij;clear hcur1 hcur2 hZ hZl hAt hAd;go_wp2;go_ret;refine ⟨i,rfl,hal.out.symm,?_,?_⟩
    ·have h1:=hfr.out;rw [y5O,hkk.out] at h1;exact h1
    ·refine ⟨hch.out.os.trans hgr.out.os,hch.out.tape.trans hgr.out.tape,hch.out.output.trans hgr.out.output,Nat.le_trans hgr.out.size hch.out.size,fun q hq hn=>?_⟩;rw [hch.out.block q (Nat.lt_of_lt_of_le hq hgr.out.size) (by simp only [List.mem_singleton];exact fun e=>hn (by rw [e];rfl)),hgr.out.block q hq hn]
theorem z7l(sb:Nat)(s:FsS)(F:List Nat)(k:Bs)(w:World)(h:z1p w sb s F)(hwl:s.waits.length≤1048576):
  Calls Tryz.prog 159 #[.pointer (some ⟨sb,0,none⟩), .string ⟨k.toArray⟩] w fun e w'=>e= .returned (.tuple #[])∧z2v w sb F {s with waits:=z0R k s.waits} w':=by
 obtain ⟨mb,wv,lp,E,L,h,rfl⟩:=h;obtain ⟨c0,c1,c2,c3,c4,fz⟩:=z2y h.blk;have f2:=fz 2;have hsb:=(Array.getElem?_eq_some_iff.1 h.blk).1;obtain ⟨n1,n2,n3⟩:=h.ne;obtain ⟨wa,wc,rfl⟩:=(z0d h.row).head;have hll:L.length≤1048576:=by rw [h.waits,List.length_map] at hwl;exact hwl
 have hbx:=q5 w (.cells #[.string ⟨k.toArray⟩] 9);have H:=z7 h;have HBX:=z7 hbx;have d2:Hid ((w.alloc (.cells #[.string ⟨k.toArray⟩] 9)).cell? ⟨sb,2,none⟩=some (.slice wa L.length wc)):=z7 ((hbx.cell (p:=⟨sb,2,none⟩) hsb).trans c2);have hrow:=z7 (ownsRow_below h.row hbx (Nat.le_refl _));have hnb:Hid ((w.alloc (.cells #[.string ⟨k.toArray⟩] 9)).cell? ⟨w.heap.size,0,none⟩=some (.string ⟨k.toArray⟩)):=z7 (z0t (j8 _ _)).1;have hwb:Hid ((Value.slice wa L.length wc).ownBlock≠some w.heap.size):=z7 fun e=>by have:=(h.row.lt _ e).2;omega
 have hsw:Hid ((Value.slice wa L.length wc).ownBlock≠some sb):=z7 fun e=>(n2 sb e).1 rfl;have F2:=z7 f2;clear h c0 c1 c2 c3 c4 fz f2 n1 n2 n3 hbx hwl;go_enter Tryz.func159,Tryz.ntmps159;have d2':=d2.out;go_wp2_with fail;clear d2';refine (y1h wa L.length wc k w.heap.size L _ hrow.out rfl hll hnb.out (by simp) hwb.out).mono ?_;rintro e w' ⟨m,rfl,hm,hrow',hg⟩;have hg2:w.grownBy w' (Value.slice wa L.length wc).ownBlock:=((World.grownBy_alloc w _ none).but _).trans hg;have hst:=z7 (hg2.block sb hsb fun e=>hsw.out e.symm);have d3:w'.cell? ⟨sb,2,none⟩=some (.slice wa L.length wc):=(World.cell?_of_block (w:=w) (a:=⟨sb,2,none⟩) hst.out).trans (z2y H.out.blk).2.2.1;have d4:w'.frozen? ⟨sb,2,none⟩=false:=(World.frozen?_of_block (w:=w) (a:=⟨sb,2,none⟩) hst.out).trans F2.out;have HM:=z7 hm;have HR:=z7 hrow';have HG:=z7 hg2;clear hm hrow' hg hg2;go_wp2
 go_end0
 refine ⟨rfl,H.out.rowTo (L':=z5d k L) HG.out ?_ ?_ rfl rfl rfl rfl ?_ fun p hp=> .inl ?_⟩
 ·rw [←HM.out];exact HR.out
 ·intro j hj
  left
  revert hj
  cases wa<;>simp [Value.ownBlock]
 ·show z0R k s.waits=_;rw [H.out.waits];unfold z0R z5d;rw [List.filter_map];rfl
 ·unfold z5d at hp;exact (List.mem_filter.1 hp).1
end Go.Proofs.YtfcnapnopdomhaaGreatDoor

/-
  The walk of chunk's All.
-/
import Derived.Test.YtfcnapnopdomhaaGreatDoorZChC
import Derived.Test.YtfcnapnopdomhaaGreatDoorZTaMTaBTaC
namespace Go.Proofs.YtfcnapnopdomhaaGreatDoor
set_option linter.unusedSimpArgs false
set_option linter.unusedVariables false
set_option maxRecDepth 100000
set_option maxHeartbeats 12800000
open Go.RowKit Go.Shelf
attribute [local go_sem] Oper.semAt_some
def z1b(l:List z1K):List Value:=l.flatMap fun s=> [.int .i64 s.t, .int .u64 (s.v:Nat)]
theorem y0U(l:List z1K)(s:z1K):z1b (l++ [s])=z1b l++ [.int .i64 s.t, .int .u64 (s.v:Nat)]:=by simp [z1b]
theorem y3O{w:World}{a:Option Addr}{m c:Nat}{l:List Bool}{b:List UInt8}(h:z0o w a m c l b):0<b.length→∀k,(Value.slice a m c).ownBlock=some k→k<w.heap.size:=fun h0 k hk=>by
 obtain ⟨g,off,rfl,_,hg⟩:=h.cell (j:=0) (by rw [h.len];exact h0);simp only [Value.ownBlock,Option.some.injEq] at hk;omega
def SmI(B h rB:Nat)(W5:World)(pre:List z0V)(W:World):Prop:=∃v,W.heap[h]? =some (.cells #[v] 38 (0,0))∧W.ownsRow B 113 2 v pre.length (z1b (z3f pre))∧Chg [h,rB] [] W5 W
theorem z6L{B e s n:Nat}{w w':World}{v:Value}{xs:List Value}(hr:w.ownsRow B e s v n xs)(hk:∀k o,B≤k→w.heap[k]? =some o→o.isCells=true→w'.heap[k]? =w.heap[k]?):w'.ownsRow B e s v n xs:=
 j7 hr fun k hkk=>by
  rcases hr.2 with ⟨h1,_⟩ | ⟨g,cap,cur,h1,h2,h3,_⟩
  ·rw [h1] at hkk;cases hkk
  ·rw [h1] at hkk;simp only [Value.ownBlock,Option.some.injEq] at hkk;subst hkk;exact hk g _ h2 h3 rfl
theorem y1U{w:World}{B e s n k l:Nat}{v:Value}{xs:List Value}{o:Obj}(h:w.ownsRow B e s v n xs)(hk:v.ownBlock=some k)(hl:w.heap[l]? =some o)(ho:o.isCells=false):k≠l:=fun e'=>by
 subst e';rcases h.2 with ⟨h1,_⟩ | ⟨g,cap,cur,h1,_,h3,_⟩
 ·rw [h1] at hk;cases hk
 ·rw [h1] at hk;simp only [Value.ownBlock,Option.some.injEq] at hk;subst hk;rw [h3] at hl;simp only [Option.some.injEq] at hl;subst hl;cases ho
theorem y1F{w:World}{b:Nat}{t:TypeId}{fr:Nat×Nat}{y0 y1 y2 y3 y4 y5 y6:Value}(h:w.heap[b]? =some (.cells #[y0,y1,y2,y3,y4,y5,y6] t fr))(x0 x1 x2 x3 x4 x5 x6:Value):(((((((w.setCell ⟨b,0,none⟩ x0).setCell ⟨b,1,none⟩ x1).setCell ⟨b,2,none⟩ x2).setCell ⟨b,3,none⟩ x3).setCell ⟨b,4,none⟩ x4).setCell ⟨b,5,none⟩ x5).setCell ⟨b,6,none⟩ x6).heap[b]? =some (.cells #[x0,x1,x2,x3,x4,x5,x6] t fr):=by
 have h0:(w.setCell ⟨b,0,none⟩ x0).heap[b]? =some (.cells #[x0,y1,y2,y3,y4,y5,y6] t fr):=j9 h 0 x0;have h1:((w.setCell ⟨b,0,none⟩ x0).setCell ⟨b,1,none⟩ x1).heap[b]? =some (.cells #[x0,x1,y2,y3,y4,y5,y6] t fr):=j9 h0 1 x1;have h2:(((w.setCell ⟨b,0,none⟩ x0).setCell ⟨b,1,none⟩ x1).setCell ⟨b,2,none⟩ x2).heap[b]? =some (.cells #[x0,x1,x2,y3,y4,y5,y6] t fr):=j9 h1 2 x2;have h3:((((w.setCell ⟨b,0,none⟩ x0).setCell ⟨b,1,none⟩ x1).setCell ⟨b,2,none⟩ x2).setCell ⟨b,3,none⟩ x3).heap[b]? =some (.cells #[x0,x1,x2,x3,y4,y5,y6] t fr):=j9 h2 3 x3;have h4:(((((w.setCell ⟨b,0,none⟩ x0).setCell ⟨b,1,none⟩ x1).setCell ⟨b,2,none⟩ x2).setCell ⟨b,3,none⟩ x3).setCell ⟨b,4,none⟩ x4).heap[b]? =some (.cells #[x0,x1,x2,x3,x4,y5,y6] t fr):=j9 h3 4 x4;have h5:((((((w.setCell ⟨b,0,none⟩ x0).setCell ⟨b,1,none⟩ x1).setCell ⟨b,2,none⟩ x2).setCell ⟨b,3,none⟩ x3).setCell ⟨b,4,none⟩ x4).setCell ⟨b,5,none⟩ x5).heap[b]? =some (.cells #[x0,x1,x2,x3,x4,x5,y6] t fr):=j9 h4 5 x5;have h6:(((((((w.setCell ⟨b,0,none⟩ x0).setCell ⟨b,1,none⟩ x1).setCell ⟨b,2,none⟩ x2).setCell ⟨b,3,none⟩ x3).setCell ⟨b,4,none⟩ x4).setCell ⟨b,5,none⟩ x5).setCell ⟨b,6,none⟩ x6).heap[b]? =some (.cells #[x0,x1,x2,x3,x4,x5,x6] t fr):=j9 h5 6 x6;exact h6
theorem y1S{w:World}{b k:Nat}{x0 x1 x2 x3 x4 x5 x6:Value}(h:k≠b):(((((((w.setCell ⟨b,0,none⟩ x0).setCell ⟨b,1,none⟩ x1).setCell ⟨b,2,none⟩ x2).setCell ⟨b,3,none⟩ x3).setCell ⟨b,4,none⟩ x4).setCell ⟨b,5,none⟩ x5).setCell ⟨b,6,none⟩ x6).heap[k]? =w.heap[k]? :=by
 rw [q7 h,q7 h,q7 h,q7 h,q7 h,q7 h,q7 h]
theorem z6W(w:World):w.drew.heap=w.heap:=rfl
theorem z4J{B D:Nat}{w W:World}{o:Obj}(h:Below B w W)(hD:B≤D):Below B w (W.putObj D o):=
 ⟨h.os,h.tape,h.output,by rw [World.putObj_size];exact h.size,fun k hk=>(World.putObj_heap_other (by omega)).trans (h.block k hk)⟩
theorem y0d{B b:Nat}{w W:World}{x0 x1 x2 x3 x4 x5 x6:Value}(h:Below B w W)(hb:B≤b):Below B w (((((((W.setCell ⟨b,0,none⟩ x0).setCell ⟨b,1,none⟩ x1).setCell ⟨b,2,none⟩ x2).setCell ⟨b,3,none⟩ x3).setCell ⟨b,4,none⟩ x4).setCell ⟨b,5,none⟩ x5).setCell ⟨b,6,none⟩ x6):=by
 have h0:Below B w (W.setCell ⟨b,0,none⟩ x0):=h.setCell (show B≤b from hb) x0;have h1:Below B w ((W.setCell ⟨b,0,none⟩ x0).setCell ⟨b,1,none⟩ x1):=h0.setCell (show B≤b from hb) x1;have h2:Below B w (((W.setCell ⟨b,0,none⟩ x0).setCell ⟨b,1,none⟩ x1).setCell ⟨b,2,none⟩ x2):=h1.setCell (show B≤b from hb) x2;have h3:Below B w ((((W.setCell ⟨b,0,none⟩ x0).setCell ⟨b,1,none⟩ x1).setCell ⟨b,2,none⟩ x2).setCell ⟨b,3,none⟩ x3):=h2.setCell (show B≤b from hb) x3;have h4:Below B w (((((W.setCell ⟨b,0,none⟩ x0).setCell ⟨b,1,none⟩ x1).setCell ⟨b,2,none⟩ x2).setCell ⟨b,3,none⟩ x3).setCell ⟨b,4,none⟩ x4):=h3.setCell (show B≤b from hb) x4;have h5:Below B w ((((((W.setCell ⟨b,0,none⟩ x0).setCell ⟨b,1,none⟩ x1).setCell ⟨b,2,none⟩ x2).setCell ⟨b,3,none⟩ x3).setCell ⟨b,4,none⟩ x4).setCell ⟨b,5,none⟩ x5):=h4.setCell (show B≤b from hb) x5;have h6:Below B w (((((((W.setCell ⟨b,0,none⟩ x0).setCell ⟨b,1,none⟩ x1).setCell ⟨b,2,none⟩ x2).setCell ⟨b,3,none⟩ x3).setCell ⟨b,4,none⟩ x4).setCell ⟨b,5,none⟩ x5).setCell ⟨b,6,none⟩ x6):=h5.setCell (show B≤b from hb) x6;exact h6
theorem z8R{B:Nat}{F:List Nat}{w W5 W:World}(h:Below B w W5)(hc:Chg F [] W5 W)(hF:∀k∈F,B≤k)(hB:B≤W5.heap.size):Below B w W:=
 ⟨hc.os.trans h.os,hc.tape.trans h.tape,hc.output.trans h.output,Nat.le_trans h.size hc.size,fun k hk=>(hc.block k (by omega) (fun hm=>by have:=hF k hm;omega)).trans (h.block k hk)⟩
theorem y3g{B e s n D:Nat}{w:World}{v:Value}{xs:List Value}(h:w.ownsRow B e s v n xs)(hD:w.heap[D]? =some (.deferred (some [])))(o:Obj):(w.putObj D o).ownsRow B e s v n xs:=
 z6L h fun k o' _ ho hc=>World.putObj_heap_other (fun e=>by
  subst e;rw [ho] at hD;simp only [Option.some.injEq] at hD;subst hD;cases hc)
theorem SmI.turn{B h rB:Nat}{W5 W W':World}{L:List z0V}{row:Option Nat}(hI:SmI B h rB W5 L W)(hg:W.grownBy W' row)(hB:W5.heap.size≤B)(hr:∀r,row=some r→B≤r∧∃o:Obj,W.heap[r]? =some o∧o.isCells=false):SmI B h rB W5 L W':=by
 obtain ⟨v,h1,h2,h3⟩:=hI;have hr':=fun r e=>(hr r e).2;refine ⟨v,(grownBy_keeps_cells hg hr' h1 rfl).trans h1,z6L h2 fun k o _ ho hc=>grownBy_keeps_cells hg hr' ho hc,?_⟩;exact ⟨hg.os.trans h3.os,hg.tape.trans h3.tape,hg.output.trans h3.output,Nat.le_trans h3.size hg.size,fun k hk hn=>(hg.block k (Nat.lt_of_lt_of_le hk h3.size) (fun e=>by have:=(hr k e.symm).1;omega)).trans (h3.block k hk hn),h3.fresh⟩
theorem SmI.step{B h rB:Nat}{W5 W W':World}{L:List z0V}(hI:SmI B h rB W5 L W)(hst:y7s rB W W')(hB:rB<B)(hn:h≠rB):SmI B h rB W5 L W':=by
 obtain ⟨u,h1,h2,h3⟩:=hI;refine ⟨u,(hst.block h (Array.getElem?_eq_some_iff.1 h1).1 (by simpa using hn)).trans h1,z6L h2 fun k o hk ho _=>hst.block k (Array.getElem?_eq_some_iff.1 ho).1 (by simp;omega),?_⟩;exact ⟨hst.os.trans h3.os,hst.tape.trans h3.tape,hst.output.trans h3.output,Nat.le_trans h3.size hst.size,fun k hk hk2=>(hst.block k (Nat.lt_of_lt_of_le hk h3.size) (fun e=>hk2 (by simp at e;simp [e]))).trans (h3.block k hk hk2),h3.fresh⟩
theorem z9Y:∀(f:Nat) (e:z1A) (k:Nat) (l:List Bool),e.Ok→(z6v f e k l).1.length≤l.length
 | f,e,k, [],he=>by rw [z6J];simp
 | 0,e,k,b::l,he=>by simp [z6v]
 | f+1,e,k,b::l,he=>by
  rw [z8S];cases hc:z1e e (b::l) with
  | none=>simp
  | some q=>
   obtain ⟨s,e',r⟩:=q;have hsp:=z1B he hc;have h1:=z9Y f e' (k+((b::l).length - r.length)) r hsp.2.2.1;simp only;rw [List.length_cons];exact Nat.lt_of_le_of_lt h1 hsp.1
theorem z9Z:(Tryz.prog.info? 113).map (fun i=>(i.zero,i.size,i.bytes))=some (some (.agg #[.int .i64 0, .int .u64 0]),2,16):=by kernel_rfl
theorem q0H(a:Option Addr)(m c:Nat)(l:List Bool)(b:List UInt8)(w:World)(h:z0o w a m c l b)(hl:l.length≤549755812000)(hT:z1m w):
  Calls Tryz.prog 57 #[.agg #[.slice a m c, .int .i64 l.length]] w fun e w'=>
   ((∃st av cv,z5c l=some st∧e= .returned (.tuple #[.slice av st.length cv, .agg #[.int .i64 ((z0l z0e st).n:Nat), .int .i64 (z0l z0e st).last, .int .i64 (z0l z0e st).delta, .bool (z0l z0e st).val.has, .int .u64 ((z0l z0e st).val.prev:Nat), .int .u8 ((z0l z0e st).val.lead:Nat), .int .u8 ((z0l z0e st).val.width:Nat)], .int .u16 0])∧
     w'.ownsRow w.heap.size 113 2 (.slice av st.length cv) st.length (z1b (z3f st)))∨
    (z5c l=none∧e= .returned (.tuple #[.slice none 0 0, .agg #[.int .i64 0, .int .i64 0, .int .i64 0, .bool false, .int .u64 0, .int .u8 0, .int .u8 0], .int .u16 61])))∧Below w.heap.size w w':=by
 obtain ⟨iS,hiS,hyS0,hyS1,hyS2⟩:=info_parts z9Z;have HAP:=z7 (q0f l);obtain ⟨N,hN⟩:∃N,N=l.length:=⟨_,rfl⟩;rw [←hN];have HL5:=((((Loc.start w).new (.cells #[.slice a m c, .int .i64 (N:Nat)] 48)).new' (.cells #[.int .i64 0, .int .i64 0, .int .i64 0, .bool false, .int .u64 0, .int .u8 0, .int .u8 0] 139) (n:=w.heap.size+1) (by simp)).new' (.cells #[.slice a m c, .int .i64 (N:Nat), .int .i64 0, .int .i64 0, .int .i64 0, .int .i64 0, .bool false, .int .u64 0, .int .u8 0, .int .u8 0, .int .u16 0] 242) (n:=w.heap.size+1+1) (by simp)).new' (.cells #[.slice none 0 0] 38) (n:=w.heap.size+1+1+1) (by simp);obtain ⟨W5,hW5,HL5⟩:=HL5.named;have hsz:W5.heap.size=w.heap.size+4:=by rw [hW5];simp
 obtain ⟨rB,hrB⟩:∃rB,rB=w.heap.size+1+1:=⟨_,rfl⟩;have H:=z7 h;have HN:=z7 hN;have HT:=z7 hT;have HSZ:=z7 hsz;have HL5:=z7 HL5;have HRB:=z7 hrB;have HW5:=z7 hW5;clear h hN hT hsz hW5 hrB;refine (callsIn_wide (n:=3)).1 ?_;refine callsIn_of_wp_marks Tryz.func57 rfl trivial ?_ rfl;simp only [Tryz.ntmps57,List.size_toArray,List.length_cons,List.length_nil,Nat.reduceAdd,Nat.reduceSub,Array.replicate_succ,Array.replicate_zero,List.push_toArray,List.append_toArray,List.nil_append,List.cons_append]
 gi_wp2
 rw [←HW5.out];simp only [←HRB.out];have hl5:=HL5.out;simp only [←HRB.out] at hl5;have hsz:W5.heap.size=rB+2:=by have:=HSZ.out;have:=HRB.out;omega
 have k0:W5.heap[rB]? =some (wkO a m c l.length 0 z0e 0):=by rw [←HN.out];exact hl5.get 1 rfl
 have k1:W5.heap[rB+1]? =some (.cells #[.slice none 0 0] 38 (0,0)):=hl5.get 0 rfl;have kr:W5.heap[w.heap.size+1]? =some (.cells #[.int .i64 0, .int .i64 0, .int .i64 0, .bool false, .int .u64 0, .int .u8 0, .int .u8 0] 139 (0,0)):=hl5.get 2 rfl;have hB5:Below w.heap.size w W5:=hl5.low;have hw2:rB=w.heap.size+2:=HRB.out;have hlen:=z9Y (l.length - 0) z0e 0 (l.drop 0) z4p;have hlenS:(z1F l 0 z0e).1.length≤N:=by rw [HN.out];exact Nat.le_trans hlen (by simp)
 have hNl:N≤549755812000:=by have:=HN.out;omega
 have KR:=z7 kr;have HB5:=z7 hB5;have HSZ5:=z7 hsz;have HW2:=z7 hw2;refine z8w (encs:=fun x:z0V=> #[.agg #[.int .i64 x.s.t, .int .u64 (x.s.v:Nat)]]) rfl (by omega) (gf:=119) (la:= #[.pointer (some ⟨rB,0,none⟩)]) (lb:= #[]) rfl trivial (enters_of Tryz.func119 (by kernel_rfl) rfl) (fun _=>rfl)
  (q1W (z1F l 0 z0e).1 rB a m c l.length) (q3g (rB+2) (rB+1)) (y7s rB) (fun xs=>xs=(z1F l 0 z0e).1) (z7v (z1F l 0 z0e) rB a m c l.length)
  (y6h (3 - 1) (by omega) a m c l b (rB+2) (rB+1) rB W5 k0 (H.out.low HB5.out) (by omega) (fun h0 k hk=>by have:=y3O H.out h0 k hk;omega) (by omega) (by omega) (by omega) (fun w' hk=>by
   have h1:=HT.out.low HB5.out;intro j hj;have h2:=h1 j hj;have hg0:0<w.heap.size:=by
    by_cases hx:0<w.heap.size
    ·exact hx
    ·have h3:=HT.out j hj;simp [World.cell?,Array.getElem?_eq_none (Nat.le_of_not_lt hx)] at h3
   exact (World.cell?_of_block (w:=W5) (a:=⟨0,j,none⟩) (hk 0 (by omega) (by omega) (by omega))).trans h2))
  (fun X l o o' hX hl ho hc=>(World.putObj_heap_other (show rB≠l by omega)).trans hX)
  (fun h1 h2=>⟨Nat.le_trans h1.1 h2.1,fun k hk hn=>(h2.2 k hk hn).trans (h1.2 k hk hn)⟩)
  (fun W l o o' hl hl2 ho=>⟨by simp,fun k hk hn=>World.putObj_heap_other (by omega)⟩)
  (fun pre W=>SmI (rB+2) (rB+1) rB W5 pre W)
  (fun s X X' hs hst=>hs.step hst (by omega) (by omega))
  (fun X X' hst=>⟨hst.size,fun k o hk ho hc=>(hst.block k (Array.getElem?_eq_some_iff.1 ho).1 (by simp;omega)).trans ho⟩)
  (fun s X X' row hs hg hr=>hs.turn hg (by omega) (fun r e=>by have:=hr r e;rw [hsz] at this;exact this))
  (fun s x X l o o' hok hl hl2 ho=>⟨hok.1,(World.putObj_heap_other (show rB≠l by omega)).trans hok.2⟩)
  ⟨_,k1,World.ownsRow_nil _ _ _ _,⟨rfl,rfl,rfl,Nat.le_refl _,fun _ _ _=>rfl,fun x hx=>by cases hx⟩⟩
  (fun x=> .cells #[.int .i64 x.s.t, .int .u64 (x.s.v:Nat)] 113)
  (fun x sz=>{tmps:= #[.agg #[.slice a m c, .int .i64 (N:Nat)], .pointer (some ⟨w.heap.size,0,none⟩), .slice none 0 0, .pointer (some ⟨w.heap.size+1,0,none⟩), .int .u16 0, .pointer (some ⟨rB,0,none⟩), .pointer (some ⟨rB+1,0,none⟩), .pointer (some ⟨sz,0,none⟩), .agg #[.slice a m c, .int .i64 (N:Nat)], .agg #[.slice a m c, .int .i64 (N:Nat), .int .i64 0, .int .i64 0, .int .i64 0, .int .i64 0, .bool false, .int .u64 0, .int .u8 0, .int .u8 0, .int .u16 0], .pointer (some ⟨rB,0,none⟩), .pointer (some ⟨rB,0,none⟩), .func (.func 119) #[.pointer (some ⟨rB,0,none⟩)] #[], .agg #[.int .i64 x.s.t, .int .u64 (x.s.v:Nat)],undef,undef,undef,undef,undef,undef,undef,undef,undef,undef,undef,undef,undef,undef,undef,undef,undef,undef,undef],defers:= []}) ?assign ?body ?done
 case assign=>
  clear hw2 hsz;intro lq x W K hK
  gi_wp2
  exact hK
 case body=>
  rintro lq pre x W ⟨v,c1,hrow,hchg⟩ ⟨⟨r,hr⟩,hwk⟩;obtain ⟨av,cv,rfl⟩:=(z0d hrow).head;obtain ⟨pm,hpm⟩:∃pm,pm=pre.length:=⟨_,rfl⟩;have hpl:pre.length≤N:=by
   have:=congrArg List.length hr;rw [List.length_append] at this;omega
  obtain ⟨⟨st,sv⟩,xe,xa⟩:=x;dsimp only at hr hwk ⊢;rw [←hpm] at hrow hpl c1;obtain ⟨f1,f2,f3⟩:=z0t c1;have HROW:=z7 hrow;have HCHG:=z7 hchg;have C1:=z7 c1;have HPM:=z7 hpm;clear hr hwk hrow hchg c1 hpm k0 k1 kr hl5 hlen hlenS;obtain ⟨W2,hW2,hW2b⟩:∃W2,W2=(W.alloc (.cells #[.int .i64 st, .int .u64 (sv:Nat)] 113)).alloc (.cells #[.int .i64 st, .int .u64 (sv:Nat)] 113)∧Below W.heap.size W W2:=⟨_,rfl,(q5 _ _).trans ((q5 _ _).mono (by simp))⟩;subst hW2;have hrow4:=z7 (ownsRow_below HROW.out hW2b (Nat.le_refl _));have hrd4:=z7 (y2y (W.alloc (.cells #[.int .i64 st, .int .u64 (sv:Nat)] 113)) #[.int .i64 st, .int .u64 (sv:Nat)] 113 (W.heap.size+1) 1 2 (by simp) (by decide) rfl);have hsz2:((W.alloc (.cells #[.int .i64 st, .int .u64 (sv:Nat)] 113)).alloc (.cells #[.int .i64 st, .int .u64 (sv:Nat)] 113)).heap.size=W.heap.size+2:=by simp
  have hsz4:rB+2≤W.heap.size:=by have:=HCHG.out.size;omega
  have HW2b:=z7 hW2b;have HSZ2:=z7 hsz2;clear hw2 hsz hW2b hsz2
  gi_wp2_with (gi_at_builtin;refine z4F rfl _ _ 38 rfl (rB+2) 113 iS (.agg #[.int .i64 0, .int .u64 0]) 2 16 Tryz.underlying38 hiS hyS0 hyS1 hyS2 rfl (by decide) _ pm _ rfl hrow4.out _ 1 [.int .i64 st, .int .u64 (sv:Nat)] rfl (by exact hrd4.out) (by simp [Value.oneCell']) (by unfold maxLen;omega) (by omega) (by simp;omega) ?_;intro v1 w1 hown1 hg1 hb1;obtain ⟨a1,co1,rfl⟩:=(z0d hown1).head;have HO1:=z7 hown1;have HG1:=z7 hg1;have hbx:=((hg1.block (rB+1) (by simp;omega) (fun e=>by have:=(HROW.out.lt _ e.symm).1;omega)).trans (HW2b.out.block _ f3)).trans C1.out;obtain ⟨e1,e2,e3⟩:=z0t hbx;have HBX:=z7 hbx;clear hown1 hg1 hb1 hbx)
  have hI:SmI (rB+2) (rB+1) rB W5 (pre++ [⟨⟨st,sv⟩,xe,xa⟩]) (w1.setCell ⟨rB+1,0,none⟩ (.slice a1 (pm+1) co1)):=by
   refine ⟨.slice a1 (pm+1) co1,?_,?_,?_⟩
   ·have:=j9 HBX.out 0 (.slice a1 (pm+1) co1);simpa using this
   ·have e:z1b (z3f (pre++ [⟨⟨st,sv⟩,xe,xa⟩]))=z1b (z3f pre)++ [.int .i64 st, .int .u64 (sv:Nat)]:=by
     unfold z3f;rw [List.map_append];exact y0U _ _
    rw [List.length_append,←HPM.out,e];exact j7 HO1.out fun k hk=>q7 (by have:=(HO1.out.lt k hk).1;omega)
   ·have h1:=HCHG.out;have h2:=HG1.out;have h4:=HW2b.out;refine ⟨(h2.os.trans h4.os).trans h1.os,(h2.tape.trans h4.tape).trans h1.tape,(h2.output.trans h4.output).trans h1.output,by have:=h2.size;have:=h1.size;have:=h4.size;rw [z6w];omega,fun k hk hn=>?_,fun k hk=>by cases hk⟩;have h3:k≠rB+1:=fun e=>hn (by simp [e]);have hs5:=HSZ5.out;rw [q7 h3,h2.block k (by have:=h1.size;have:=h4.size;omega) (fun e=>by have:=(HROW.out.lt _ e.symm).1;omega),h4.block k (by have:=h1.size;omega)];exact h1.block k hk hn
  refine ⟨?_,?_,hI⟩
  ·rw [HSZ5.out];refine ⟨by have:=HG1.out.size;have:=HW2b.out.size;rw [z6w];omega,fun k o hk ho hc=>?_⟩;have h1:=(Array.getElem?_eq_some_iff.1 ho).1;have h2:k≠rB+1:=by omega
   rw [q7 h2,HG1.out.block k (by have:=HW2b.out.size;omega) (fun e'=>(y1U HROW.out e'.symm ho hc) rfl),HW2b.out.block k h1];exact ho
  ·refine ⟨by have:=HG1.out.size;have:=HW2b.out.size;rw [z6w];omega,fun k hk hn=>?_⟩;rw [q7 hn,HG1.out.block k (by have:=HW2b.out.size;omega) (fun e=>by have:=(HROW.out.lt _ e.symm).1;omega)];exact HW2b.out.block k (by omega)
 case done=>
  rintro D xs W hD hS hF ⟨v,c1,hrow,hchg⟩ hK;have hxs:xs=(z1F l 0 z0e).1:=hS;obtain ⟨ST,hST⟩:∃ST,ST=z1F l 0 z0e:=⟨_,rfl⟩;have HST:=z7 hST;rw [←hST] at hxs hF;have hap:=HAP.out;rw [←hST] at hap;obtain ⟨wh,hwh⟩:∃wh,wh=ST.2:=⟨_,rfl⟩;unfold z7v at hF;rw [←hwh] at hF hap;rw [←hxs] at hF hap;obtain ⟨av,cv,rfl⟩:=(z0d hrow).head;have hkr:=(hchg.block (w.heap.size+1) (by omega) (by simp;omega)).trans kr;obtain ⟨f1,f2,f3⟩:=z0t c1;obtain ⟨x0,x1,x2,x3,x4,x5,x6,xf⟩:=z2G hkr;have HROW:=z7 hrow;have HCHG:=z7 hchg;have HK:=z7 hK;have HKR:=z7 hkr;have HAP2:=z7 hap;have HF:=z7 hF;have hneD:Hid (w.heap.size+1<D∧rB+1<D):=z7 (by omega);have hWs:Hid (w.heap.size+1<W.heap.size):=z7 ((Array.getElem?_eq_some_iff.1 hkr).1);clear hxs hST hwh hap hrow hchg hK hkr hF hS c1 k0 k1 kr hl5 hlen hlenS hw2 hsz;cases wh with
  | true=>
   have hF2:W.heap[rB]? =some (wkO a m c l.length l.length (z0l z0e xs) 0):=by have:=HF.out;rwa [if_pos rfl] at this
   obtain ⟨u0,u1,u2,u3,u4,u5,u6,u7,u8,u9,u10,uf⟩:=z0q hF2;clear hF2
   gi_wp2_with fail
   refine wpIn_wide.2 ?_;go_region
   go_wp2
   gi_wp2
   obtain ⟨Wf,hWf⟩:∃Wf,Wf=(((((((W.setCell ⟨w.heap.size+1,0,none⟩ (.int .i64 ((z0l z0e xs).n:Nat))).setCell ⟨w.heap.size+1,1,none⟩ (.int .i64 (z0l z0e xs).last)).setCell ⟨w.heap.size+1,2,none⟩ (.int .i64 (z0l z0e xs).delta)).setCell ⟨w.heap.size+1,3,none⟩ (.bool (z0l z0e xs).val.has)).setCell ⟨w.heap.size+1,4,none⟩ (.int .u64 ((z0l z0e xs).val.prev:Nat))).setCell ⟨w.heap.size+1,5,none⟩ (.int .u8 ((z0l z0e xs).val.lead:Nat))).setCell ⟨w.heap.size+1,6,none⟩ (.int .u8 ((z0l z0e xs).val.width:Nat))).drew:=⟨_,rfl⟩;rw [←hWf];have hgr:Wf.heap[w.heap.size+1]? =some (.cells #[.int .i64 ((z0l z0e xs).n:Nat), .int .i64 (z0l z0e xs).last, .int .i64 (z0l z0e xs).delta, .bool (z0l z0e xs).val.has, .int .u64 ((z0l z0e xs).val.prev:Nat), .int .u8 ((z0l z0e xs).val.lead:Nat), .int .u8 ((z0l z0e xs).val.width:Nat)] 139 (0,0)):=by rw [hWf,z6W];exact y1F HKR.out (.int .i64 ((z0l z0e xs).n:Nat)) (.int .i64 (z0l z0e xs).last) (.int .i64 (z0l z0e xs).delta) (.bool (z0l z0e xs).val.has) (.int .u64 ((z0l z0e xs).val.prev:Nat)) (.int .u8 ((z0l z0e xs).val.lead:Nat)) (.int .u8 ((z0l z0e xs).val.width:Nat))
   have hK1:Wf.heap[D]? =some (.deferred (some [])):=by rw [hWf,z6W];exact (y1S (x0:=(.int .i64 ((z0l z0e xs).n:Nat))) (x1:=(.int .i64 (z0l z0e xs).last)) (x2:=(.int .i64 (z0l z0e xs).delta)) (x3:=(.bool (z0l z0e xs).val.has)) (x4:=(.int .u64 ((z0l z0e xs).val.prev:Nat))) (x5:=(.int .u8 ((z0l z0e xs).val.lead:Nat))) (x6:=(.int .u8 ((z0l z0e xs).val.width:Nat))) (b:=w.heap.size+1) (show D≠w.heap.size+1 by have:=hneD.out;omega)).trans HK.out
   have hbW:Below w.heap.size w W:=z8R HB5.out HCHG.out (fun k hk=>by have:=HW2.out;simp at hk;omega) HB5.out.size;have hbF:Below w.heap.size w Wf:=by rw [hWf];exact (y0d (x0:=(.int .i64 ((z0l z0e xs).n:Nat))) (x1:=(.int .i64 (z0l z0e xs).last)) (x2:=(.int .i64 (z0l z0e xs).delta)) (x3:=(.bool (z0l z0e xs).val.has)) (x4:=(.int .u64 ((z0l z0e xs).val.prev:Nat))) (x5:=(.int .u8 ((z0l z0e xs).val.lead:Nat))) (x6:=(.int .u8 ((z0l z0e xs).val.width:Nat))) (b:=w.heap.size+1) hbW (by omega)).drew
   have hbl:=z4J (o:= .deferred none) hbF (show w.heap.size≤D by have:=hneD.out;omega);have hrF:Wf.ownsRow (rB+2) 113 2 (.slice av xs.length cv) xs.length (z1b (z3f xs)):=by rw [hWf];exact z3R (z4K (x0:=(.int .i64 ((z0l z0e xs).n:Nat))) (x1:=(.int .i64 (z0l z0e xs).last)) (x2:=(.int .i64 (z0l z0e xs).delta)) (x3:=(.bool (z0l z0e xs).val.has)) (x4:=(.int .u64 ((z0l z0e xs).val.prev:Nat))) (x5:=(.int .u8 ((z0l z0e xs).val.lead:Nat))) (x6:=(.int .u8 ((z0l z0e xs).val.width:Nat))) (b:=w.heap.size+1) HROW.out (by have:=HW2.out;omega))
   clear hWf;refine ⟨by simp, .inl ⟨_,_,rfl,run_takeDeferred hK1,?_⟩⟩;refine ⟨_,y3t rfl _ _ (w.heap.size+1) _ _ _ _ _ _ _ rfl ((World.putObj_heap_other (show w.heap.size+1≠D by have:=hneD.out;omega)).trans hgr) rfl,?_,hbl⟩;have ha:z5c l=some xs:=by simpa using HAP2.out
   exact .inl ⟨xs,av,cv,ha,rfl,z0i (y3g hrF hK1 _) (by have:=HW2.out;omega)⟩
  | false=>
   have hF2:W.heap[rB]? =some (wkO a m c l.length 0 z0e 61):=by have:=HF.out;rwa [if_neg (by decide)] at this
   obtain ⟨u0,u1,u2,u3,u4,u5,u6,u7,u8,u9,u10,uf⟩:=z0q hF2;clear hF2
   gi_wp2_with fail
   refine wpIn_wide.2 ?_;go_region
   go_wp2
   gi_wp2
   obtain ⟨Wf,hWf⟩:∃Wf,Wf=(((((((W.setCell ⟨w.heap.size+1,0,none⟩ (.int .i64 0)).setCell ⟨w.heap.size+1,1,none⟩ (.int .i64 0)).setCell ⟨w.heap.size+1,2,none⟩ (.int .i64 0)).setCell ⟨w.heap.size+1,3,none⟩ (.bool false)).setCell ⟨w.heap.size+1,4,none⟩ (.int .u64 0)).setCell ⟨w.heap.size+1,5,none⟩ (.int .u8 0)).setCell ⟨w.heap.size+1,6,none⟩ (.int .u8 0)).drew:=⟨_,rfl⟩;rw [←hWf];have hgr:Wf.heap[w.heap.size+1]? =some (.cells #[.int .i64 0, .int .i64 0, .int .i64 0, .bool false, .int .u64 0, .int .u8 0, .int .u8 0] 139 (0,0)):=by rw [hWf,z6W];exact y1F HKR.out (.int .i64 0) (.int .i64 0) (.int .i64 0) (.bool false) (.int .u64 0) (.int .u8 0) (.int .u8 0)
   have hK1:Wf.heap[D]? =some (.deferred (some [])):=by rw [hWf,z6W];exact (y1S (x0:=(.int .i64 0)) (x1:=(.int .i64 0)) (x2:=(.int .i64 0)) (x3:=(.bool false)) (x4:=(.int .u64 0)) (x5:=(.int .u8 0)) (x6:=(.int .u8 0)) (b:=w.heap.size+1) (show D≠w.heap.size+1 by have:=hneD.out;omega)).trans HK.out
   have hbW:Below w.heap.size w W:=z8R HB5.out HCHG.out (fun k hk=>by have:=HW2.out;simp at hk;omega) HB5.out.size;have hbF:Below w.heap.size w Wf:=by rw [hWf];exact (y0d (x0:=(.int .i64 0)) (x1:=(.int .i64 0)) (x2:=(.int .i64 0)) (x3:=(.bool false)) (x4:=(.int .u64 0)) (x5:=(.int .u8 0)) (x6:=(.int .u8 0)) (b:=w.heap.size+1) hbW (by omega)).drew
   have hbl:=z4J (o:= .deferred none) hbF (show w.heap.size≤D by have:=hneD.out;omega);have hrF:Wf.ownsRow (rB+2) 113 2 (.slice av xs.length cv) xs.length (z1b (z3f xs)):=by rw [hWf];exact z3R (z4K (x0:=(.int .i64 0)) (x1:=(.int .i64 0)) (x2:=(.int .i64 0)) (x3:=(.bool false)) (x4:=(.int .u64 0)) (x5:=(.int .u8 0)) (x6:=(.int .u8 0)) (b:=w.heap.size+1) HROW.out (by have:=HW2.out;omega))
   clear hWf;refine ⟨by simp, .inl ⟨_,_,rfl,run_takeDeferred hK1,?_⟩⟩;refine ⟨_,y3t rfl _ _ (w.heap.size+1) _ _ _ _ _ _ _ rfl ((World.putObj_heap_other (show w.heap.size+1≠D by have:=hneD.out;omega)).trans hgr) rfl,?_,hbl⟩;have ha:z5c l=none:=by simpa using HAP2.out
   exact .inr ⟨ha,rfl⟩
attribute [local go_sem] Oper.semAt_some
theorem z8H{F:Fence}{n':Nat}{P:Program}{w:World}{a:Act}{o:Oper}{Q:Exit→Act→World→Prop}{K:Act→World→Prop}{ops:Array Oper}{E:Prop}(hgd:o.guard=none)(s x:Operand)(t:TypeId)
  (ho:o.op= .call {callee:= .builtin .append,args:= #[s,x],argTypes:= #[t,t]})
  (base:Nat) (e:TypeId) (i:TypeInfo) (z:Value) (size bytes:Nat) (ht:P.underlying t=some (.slice e)) (hi:P.info? e=some i) (hz:i.zero=some z)
  (hsize:i.size=size) (hby:i.bytes=bytes) (hzs:z.cells.size=size) (hsz:0<size)
  (v:Value) (n:Nat) (xs:List Value) (hs:a.eval s=v) (hown:w.ownsRow base e size v n xs)
  (xv:Value) (m:Nat) (news:List Value) (hx:a.eval x=xv) (hrd:Rd w xv size m news) (h1:∀u∈news,u.oneCell'=true)
  (h63:n+m≤maxLen) (hbytes:(n+m)*bytes≤140737488355328) (hbase:base≤w.heap.size)
  (h:∀v' w',w'.ownsRow base e size v' (n+m) (xs++news)→w.grownBy w' v.ownBlock→K (a.put o.dst v') w'):
  if Region.wanted o (yielded ops a.tmps)=true then Oper.wpIn F n' P o a w K Q else E:=by
 have hw:Region.wanted o (yielded ops a.tmps)=true:=by simp [Region.wanted,hgd]
 rw [if_pos hw];obtain ⟨v',w',hrun,r1,r2,r3,r4⟩:=z3t (P:=P) (w:=w) base t o.type e i z size bytes ht hi hz hsize hby hzs hsz v n xs hown xv m news hrd h1 h63 hbytes hbase;unfold Oper.wpIn;refine ⟨?_,?_⟩
 ·simp [Oper.about,ho,resolve,Target.leads,Sem.run_pure]
 ·rw [Oper.semAt_plain F _ _ (by rw [ho];intro c hc';cases hc')];simp [execOp,ho,resolve,invoke,builtin,hs,hx,hrun,Result.andThen];exact h v' w' r1 r2
def z2h(l:List Nat):List Value:=l.map fun n=> .int .i64 (n:Nat)
def EnI(B h rB:Nat)(W5:World)(pre:List z0V)(W:World):Prop:=∃v,W.heap[h]? =some (.cells #[v] 135 (0,0))∧W.ownsRow B 3 1 v pre.length (z2h (z1i pre))∧Chg [h,rB] [] W5 W
theorem EnI.turn{B h rB:Nat}{W5 W W':World}{L:List z0V}{row:Option Nat}(hI:EnI B h rB W5 L W)(hg:W.grownBy W' row)(hB:W5.heap.size≤B)(hr:∀r,row=some r→B≤r∧∃o:Obj,W.heap[r]? =some o∧o.isCells=false):EnI B h rB W5 L W':=by
 obtain ⟨v,h1,h2,h3⟩:=hI;have hr':=fun r e=>(hr r e).2;refine ⟨v,(grownBy_keeps_cells hg hr' h1 rfl).trans h1,z6L h2 fun k o _ ho hc=>grownBy_keeps_cells hg hr' ho hc,?_⟩;exact ⟨hg.os.trans h3.os,hg.tape.trans h3.tape,hg.output.trans h3.output,Nat.le_trans h3.size hg.size,fun k hk hn=>(hg.block k (Nat.lt_of_lt_of_le hk h3.size) (fun e=>by have:=(hr k e.symm).1;omega)).trans (h3.block k hk hn),h3.fresh⟩
theorem EnI.step{B h rB:Nat}{W5 W W':World}{L:List z0V}(hI:EnI B h rB W5 L W)(hst:y7s rB W W')(hB:rB<B)(hn:h≠rB):EnI B h rB W5 L W':=by
 obtain ⟨u,h1,h2,h3⟩:=hI;refine ⟨u,(hst.block h (Array.getElem?_eq_some_iff.1 h1).1 (by simpa using hn)).trans h1,z6L h2 fun k o hk ho _=>hst.block k (Array.getElem?_eq_some_iff.1 ho).1 (by simp;omega),?_⟩;exact ⟨hst.os.trans h3.os,hst.tape.trans h3.tape,hst.output.trans h3.output,Nat.le_trans h3.size hst.size,fun k hk hk2=>(hst.block k (Nat.lt_of_lt_of_le hk h3.size) (fun e=>hk2 (by simp at e;simp [e]))).trans (h3.block k hk hk2),h3.fresh⟩
theorem y4b:(Tryz.prog.info? 3).map (fun i=>(i.zero,i.size,i.bytes))=some (some (.int .i64 0),1,8):=by kernel_rfl
def y9C(l:List Bool)(w:World)(e:Ending)(w':World):Prop:=
 ((∃st av cv,z5c l=some st∧e= .returned (.tuple #[.slice av st.length cv, .int .u16 0])∧w'.ownsRow w.heap.size 3 1 (.slice av st.length cv) st.length (z2h (z1i st)))∨
  (z5c l=none∧e= .returned (.tuple #[.slice none 0 0, .int .u16 61])))∧Below w.heap.size w w'
theorem q0Z(a:Option Addr)(m c:Nat)(l:List Bool)(b:List UInt8)(w:World)(h:z0o w a m c l b)(hl:l.length≤549755812000)(hT:z1m w):
  Calls Tryz.prog 220 #[.agg #[.slice a m c, .int .i64 l.length]] w (y9C l w):=by
 obtain ⟨iS,hiS,hyS0,hyS1,hyS2⟩:=info_parts y4b;have HAP:=z7 (q0f l);obtain ⟨N,hN⟩:∃N,N=l.length:=⟨_,rfl⟩;rw [←hN];have HL5:=((((Loc.start w).new (.cells #[.slice a m c, .int .i64 (N:Nat)] 48)).new' (.cells #[.slice a m c, .int .i64 (N:Nat), .int .i64 0, .int .i64 0, .int .i64 0, .int .i64 0, .bool false, .int .u64 0, .int .u8 0, .int .u8 0, .int .u16 0] 242) (n:=w.heap.size+1) (by simp)).new' (.cells #[.pointer (some ⟨w.heap.size+1,0,none⟩)] 240) (n:=w.heap.size+1+1) (by simp)).new' (.cells #[.slice none 0 0] 135) (n:=w.heap.size+1+1+1) (by simp);obtain ⟨W5,hW5,HL5⟩:=HL5.named;have hsz:W5.heap.size=w.heap.size+4:=by rw [hW5];simp
 obtain ⟨rB,hrB⟩:∃rB,rB=w.heap.size+1:=⟨_,rfl⟩;have H:=z7 h;have HN:=z7 hN;have HT:=z7 hT;have HSZ:=z7 hsz;have HL5:=z7 HL5;have HRB:=z7 hrB;have HW5:=z7 hW5;clear h hN hT hsz hW5 hrB;refine (callsIn_wide (n:=3)).1 ?_;refine callsIn_of_wp_marks Tryz.func220 rfl trivial ?_ rfl;simp only [Tryz.ntmps220,List.size_toArray,List.length_cons,List.length_nil,Nat.reduceAdd,Nat.reduceSub,Array.replicate_succ,Array.replicate_zero,List.push_toArray,List.append_toArray,List.nil_append,List.cons_append]
 gi_wp2
 rw [←HW5.out];simp only [←HRB.out];have hl5:=HL5.out;simp only [←HRB.out] at hl5;have hsz:W5.heap.size=rB+3:=by have:=HSZ.out;have:=HRB.out;omega
 have k0:W5.heap[rB]? =some (wkO a m c l.length 0 z0e 0):=by rw [←HN.out];exact hl5.get 2 rfl
 have k1:W5.heap[rB+1+1]? =some (.cells #[.slice none 0 0] 135 (0,0)):=hl5.get 0 rfl;have kp:W5.heap[rB+1]? =some (.cells #[.pointer (some ⟨rB,0,none⟩)] 240 (0,0)):=hl5.get 1 rfl;have hB5:Below w.heap.size w W5:=hl5.low;have hw2:rB=w.heap.size+1:=HRB.out;have hlen:=z9Y (l.length - 0) z0e 0 (l.drop 0) z4p;have hlenS:(z1F l 0 z0e).1.length≤N:=by rw [HN.out];exact Nat.le_trans hlen (by simp)
 have hNl:N≤549755812000:=by have:=HN.out;omega
 have KP:=z7 kp;have HB5:=z7 hB5;have HSZ5:=z7 hsz;have HW2:=z7 hw2;refine z5v (encs:=fun x:z0V=> #[.agg #[.int .i64 x.s.t, .int .u64 (x.s.v:Nat)]]) rfl (by omega) (gf:=119) (la:= #[.pointer (some ⟨rB,0,none⟩)]) (lb:= #[]) rfl trivial (enters_of Tryz.func119 (by kernel_rfl) rfl) (fun _=>rfl)
  (q1W (z1F l 0 z0e).1 rB a m c l.length) (q3g (rB+3) (rB+1+1)) (y7s rB) (fun xs=>xs=(z1F l 0 z0e).1) (z7v (z1F l 0 z0e) rB a m c l.length)
  (y6h (3 - 1) (by omega) a m c l b (rB+3) (rB+1+1) rB W5 k0 (H.out.low HB5.out) (by omega) (fun h0 k hk=>by have:=y3O H.out h0 k hk;omega) (by omega) (by omega) (by omega) (fun w' hk=>by
   have h1:=HT.out.low HB5.out;intro j hj;have h2:=h1 j hj;have hg0:0<w.heap.size:=by
    by_cases hx:0<w.heap.size
    ·exact hx
    ·have h3:=HT.out j hj;simp [World.cell?,Array.getElem?_eq_none (Nat.le_of_not_lt hx)] at h3
   exact (World.cell?_of_block (w:=W5) (a:=⟨0,j,none⟩) (hk 0 (by omega) (by omega) (by omega))).trans h2))
  (fun X l o o' hX hl ho hc=>(World.putObj_heap_other (show rB≠l by omega)).trans hX)
  (fun h1 h2=>⟨Nat.le_trans h1.1 h2.1,fun k hk hn=>(h2.2 k hk hn).trans (h1.2 k hk hn)⟩)
  (fun W l o o' hl hl2 ho=>⟨by simp,fun k hk hn=>World.putObj_heap_other (by omega)⟩)
  (fun pre W=>EnI (rB+3) (rB+1+1) rB W5 pre W)
  (fun s X X' hs hst=>hs.step hst (by omega) (by omega))
  (fun X X' hst=>⟨hst.size,fun k o hk ho hc=>(hst.block k (Array.getElem?_eq_some_iff.1 ho).1 (by simp;omega)).trans ho⟩)
  (fun s X X' row hs hg hr=>hs.turn hg (by omega) (fun r e=>by have:=hr r e;rw [hsz] at this;exact this))
  (fun s x X l o o' hok hl hl2 ho=>⟨hok.1,(World.putObj_heap_other (show rB≠l by omega)).trans hok.2⟩)
  ⟨_,k1,World.ownsRow_nil _ _ _ _,⟨rfl,rfl,rfl,Nat.le_refl _,fun _ _ _=>rfl,fun x hx=>by cases hx⟩⟩
  (fun x=>{tmps:= #[.agg #[.slice a m c, .int .i64 (N:Nat)], .pointer (some ⟨w.heap.size,0,none⟩), .slice none 0 0, .int .u16 0, .pointer (some ⟨rB+1,0,none⟩), .pointer (some ⟨rB+1+1,0,none⟩), .agg #[.slice a m c, .int .i64 (N:Nat)], .agg #[.slice a m c, .int .i64 (N:Nat), .int .i64 0, .int .i64 0, .int .i64 0, .int .i64 0, .bool false, .int .u64 0, .int .u8 0, .int .u8 0, .int .u16 0], .pointer (some ⟨rB,0,none⟩), .pointer (some ⟨rB,0,none⟩), .func (.func 119) #[.pointer (some ⟨rB,0,none⟩)] #[], .agg #[.int .i64 x.s.t, .int .u64 (x.s.v:Nat)],undef,undef,undef,undef,undef,undef,undef,undef,undef,undef,undef,undef,undef,undef,undef,undef,undef],defers:= []}) ?assign ?body ?done
 case assign=>
  clear hw2 hsz;intro lq x W K hK
  gi_wp2
  simpa using hK
 case body=>
  rintro lq pre x W ⟨v,c1,hrow,hchg⟩ ⟨⟨r,hr⟩,hwk⟩;obtain ⟨av,cv,rfl⟩:=(z0d hrow).head;obtain ⟨pm,hpm⟩:∃pm,pm=pre.length:=⟨_,rfl⟩;have hpl:pre.length≤N:=by
   have:=congrArg List.length hr;rw [List.length_append] at this;omega
  obtain ⟨⟨st,sv⟩,xe,xa⟩:=x;dsimp only at hr hwk ⊢;rw [←hpm] at hrow hpl c1;obtain ⟨f1,f2,f3⟩:=z0t c1;have hkp:=(hchg.block (rB+1) (by omega) (by simp)).trans kp;obtain ⟨p1,p2,p3⟩:=z0t hkp;obtain ⟨u0,u1,u2,u3,u4,u5,u6,u7,u8,u9,u10,uf⟩:=z0q hwk;have HROW:=z7 hrow;have HCHG:=z7 hchg;have C1:=z7 c1;have HPM:=z7 hpm;clear hr hwk hrow hchg c1 hpm k0 k1 kp hl5 hlen hlenS hkp u0 u1 u3 u4 u5 u6 u7 u8 u9 u10 uf;obtain ⟨Wd,hWd⟩:∃Wd,Wd=W.drew:=⟨_,rfl⟩;have hbd:Below W.heap.size W Wd:=by rw [hWd];exact (Below.refl _ _).drew
  have f1d:Wd.cell? ⟨rB+1+1,0,none⟩=some (.slice av pm cv):=by rw [hWd];exact f1
  have f2d:Wd.frozen? ⟨rB+1+1,0,none⟩=false:=by rw [hWd];exact f2
  have p1d:Wd.cell? ⟨rB+1,0,none⟩=some (.pointer (some ⟨rB,0,none⟩)):=by rw [hWd];exact p1
  have u2d:Wd.cell? ⟨rB,2,none⟩=some (.int .i64 (xa:Nat)):=by rw [hWd];exact u2
  have f3d:rB+1+1<Wd.heap.size:=by rw [hWd];exact f3
  have p3d:rB+1<Wd.heap.size:=by omega
  have hsd:Wd.heap.size=W.heap.size:=by rw [hWd];rfl
  have hW2b:=hbd.trans ((q5 Wd (.cells #[.int .i64 (xa:Nat)] 3)).mono hbd.size);have hrow4:=z7 (ownsRow_below HROW.out hW2b (Nat.le_refl _));have hrd4:=z7 (y2y Wd #[.int .i64 (xa:Nat)] 3 W.heap.size 1 1 (by rw [hsd]) (by decide) rfl);have hsz4:rB+3≤W.heap.size:=by have:=HCHG.out.size;omega
  have HW2b:=z7 hW2b;have HWD:=z7 hWd;have hmx:Tryz.prog.follows .mixedOrders=true:=by kernel_rfl
  clear hw2 hsz hW2b f1 f2 p1 p2 u2 hbd hWd
  gi_wp2_with fail
  refine wpIn_region_any hmx ?_;change wpAnyIn _ _ _ _ _ _ _ _ _ (World.drew _);rw [←HWD.out]
  refine wpAnyIn_ready (rs:= [0,1]) (by kernel_rfl) (by simp) ?_;refine AllReadyIn.cons rfl (fun K hK=>?g01) (AllReadyIn.cons rfl (fun K hK=>?g11) AllReadyIn.nil);(case' g01=>(go_simp;refine hK _ _ ?_;clear hK K;refine wpAnyIn_ready (rs:= [1]) (by kernel_rfl) (by simp) ?_;refine AllReadyIn.cons rfl (fun K hK=>?_) AllReadyIn.nil;go_simp;refine hK _ _ ?_;clear hK K;refine wpAnyIn_ready (rs:= [2]) (by kernel_rfl) (by simp) ?_;refine AllReadyIn.cons rfl (fun K hK=>?_) AllReadyIn.nil;go_simp;refine hK _ _ ?_;clear hK K;refine wpAnyIn_ready (rs:= [3]) (by kernel_rfl) (by simp) ?_;refine AllReadyIn.cons rfl (fun K hK=>?_) AllReadyIn.nil;go_simp;refine hK _ _ ?_;clear hK K;refine wpAnyIn_ready (rs:= [4]) (by kernel_rfl) (by simp) ?_;refine AllReadyIn.cons rfl (fun K hK=>?_) AllReadyIn.nil;go_simp;refine hK _ _ ?_;clear hK K;refine wpAnyIn_ready (rs:= [5]) (by kernel_rfl) (by simp) ?_;refine AllReadyIn.cons rfl (fun K hK=>?_) AllReadyIn.nil;go_simp;refine hK _ _ ?_;clear hK K));(case' g11=>(go_simp;refine hK _ _ ?_;clear hK K;refine wpAnyIn_ready (rs:= [0,2]) (by kernel_rfl) (by simp) ?_;refine AllReadyIn.cons rfl (fun K hK=>?g02) (AllReadyIn.cons rfl (fun K hK=>?g12) AllReadyIn.nil);(case' g02=>(go_simp;refine hK _ _ ?_;clear hK K;refine wpAnyIn_ready (rs:= [2]) (by kernel_rfl) (by simp) ?_;refine AllReadyIn.cons rfl (fun K hK=>?_) AllReadyIn.nil;go_simp;refine hK _ _ ?_;clear hK K;refine wpAnyIn_ready (rs:= [3]) (by kernel_rfl) (by simp) ?_;refine AllReadyIn.cons rfl (fun K hK=>?_) AllReadyIn.nil;go_simp;refine hK _ _ ?_;clear hK K;refine wpAnyIn_ready (rs:= [4]) (by kernel_rfl) (by simp) ?_;refine AllReadyIn.cons rfl (fun K hK=>?_) AllReadyIn.nil;go_simp;refine hK _ _ ?_;clear hK K;refine wpAnyIn_ready (rs:= [5]) (by kernel_rfl) (by simp) ?_;refine AllReadyIn.cons rfl (fun K hK=>?_) AllReadyIn.nil;go_simp;refine hK _ _ ?_;clear hK K));(case' g12=>(go_simp;refine hK _ _ ?_;clear hK K;refine wpAnyIn_ready (rs:= [0,3]) (by kernel_rfl) (by simp) ?_;refine AllReadyIn.cons rfl (fun K hK=>?g03) (AllReadyIn.cons rfl (fun K hK=>?g13) AllReadyIn.nil);(case' g03=>(go_simp;refine hK _ _ ?_;clear hK K;refine wpAnyIn_ready (rs:= [3]) (by kernel_rfl) (by simp) ?_;refine AllReadyIn.cons rfl (fun K hK=>?_) AllReadyIn.nil;go_simp;refine hK _ _ ?_;clear hK K;refine wpAnyIn_ready (rs:= [4]) (by kernel_rfl) (by simp) ?_;refine AllReadyIn.cons rfl (fun K hK=>?_) AllReadyIn.nil;go_simp;refine hK _ _ ?_;clear hK K;refine wpAnyIn_ready (rs:= [5]) (by kernel_rfl) (by simp) ?_;refine AllReadyIn.cons rfl (fun K hK=>?_) AllReadyIn.nil;go_simp;refine hK _ _ ?_;clear hK K));(case' g13=>(go_simp;refine hK _ _ ?_;clear hK K;refine wpAnyIn_ready (rs:= [0,4]) (by kernel_rfl) (by simp) ?_;refine AllReadyIn.cons rfl (fun K hK=>?g04) (AllReadyIn.cons rfl (fun K hK=>?g14) AllReadyIn.nil);(case' g04=>(go_simp;refine hK _ _ ?_;clear hK K;refine wpAnyIn_ready (rs:= [4]) (by kernel_rfl) (by simp) ?_;refine AllReadyIn.cons rfl (fun K hK=>?_) AllReadyIn.nil;go_simp;refine hK _ _ ?_;clear hK K;refine wpAnyIn_ready (rs:= [5]) (by kernel_rfl) (by simp) ?_;refine AllReadyIn.cons rfl (fun K hK=>?_) AllReadyIn.nil;go_simp;refine hK _ _ ?_;clear hK K));(case' g14=>(go_simp;refine hK _ _ ?_;clear hK K;refine wpAnyIn_ready (rs:= [0,5]) (by kernel_rfl) (by simp) ?_;refine AllReadyIn.cons rfl (fun K hK=>?g05) (AllReadyIn.cons rfl (fun K hK=>?g15) AllReadyIn.nil);(case' g05=>(go_simp;refine hK _ _ ?_;clear hK K;refine wpAnyIn_ready (rs:= [5]) (by kernel_rfl) (by simp) ?_;refine AllReadyIn.cons rfl (fun K hK=>?_) AllReadyIn.nil;go_simp;refine hK _ _ ?_;clear hK K));(case' g15=>(go_simp;refine hK _ _ ?_;clear hK K;refine wpAnyIn_ready (rs:= [0]) (by kernel_rfl) (by simp) ?_;refine AllReadyIn.cons rfl (fun K hK=>?_) AllReadyIn.nil;go_simp;refine hK _ _ ?_;clear hK K))))))))))
  all_goals (
   refine wpAnyIn_ready (rs:= [6]) (by kernel_rfl) (by simp) ?_;refine AllReadyIn.cons rfl (fun K hK=>z8H rfl _ _ 135 rfl (rB+3) 3 iS (.int .i64 0) 1 8 Tryz.underlying135 hiS hyS0 hyS1 hyS2 rfl (by decide) _ pm _ rfl (by exact hrow4.out) _ 1 [.int .i64 (xa:Nat)] rfl (by exact hrd4.out) (by simp [Value.oneCell']) (by unfold maxLen;omega) (by omega) (by simp;omega) ?_) AllReadyIn.nil;intro v1 w1 hown1 hg1;obtain ⟨a1,co1,rfl⟩:=(z0d hown1).head;have HO1:=z7 hown1;have HG1:=z7 hg1;have hbx:=((hg1.block (rB+1+1) (by simp;omega) (fun e=>by have:=(HROW.out.lt _ e.symm).1;omega)).trans (HW2b.out.block _ f3)).trans C1.out;obtain ⟨e1,e2,e3⟩:=z0t hbx;have HBX:=z7 hbx;clear hown1 hg1 hbx;refine hK _ _ ?_;clear hK K;refine wpAnyIn_ready (rs:= [7]) (by kernel_rfl) (by simp) ?_;refine AllReadyIn.cons rfl (fun K hK=>?_) AllReadyIn.nil;go_simp;refine hK _ _ ?_;clear hK K;refine wpAnyIn_done (by kernel_rfl) ?_ _
   gi_wp2
   have hI:EnI (rB+3) (rB+1+1) rB W5 (pre++ [⟨⟨st,sv⟩,xe,xa⟩]) (w1.setCell ⟨rB+1+1,0,none⟩ (.slice a1 (pm+1) co1)):=by
    refine ⟨.slice a1 (pm+1) co1,?_,?_,?_⟩
    ·have:=j9 HBX.out 0 (.slice a1 (pm+1) co1);simpa using this
    ·have e:z2h (z1i (pre++ [⟨⟨st,sv⟩,xe,xa⟩]))=z2h (z1i pre)++ [.int .i64 (xa:Nat)]:=by simp [z2h,z1i]
     rw [List.length_append,←HPM.out,e];exact j7 HO1.out fun k hk=>q7 (by have:=(HO1.out.lt k hk).1;omega)
    ·have h1:=HCHG.out;have h2:=HG1.out;have h4:=HW2b.out;refine ⟨(h2.os.trans h4.os).trans h1.os,(h2.tape.trans h4.tape).trans h1.tape,(h2.output.trans h4.output).trans h1.output,by have:=h2.size;have:=h1.size;have:=h4.size;rw [z6w];omega,fun k hk hn=>?_,fun k hk=>by cases hk⟩;have h3:k≠rB+1+1:=fun e=>hn (by simp [e]);have hs5:=HSZ5.out;rw [q7 h3,h2.block k (by have:=h1.size;have:=h4.size;omega) (fun e=>by have:=(HROW.out.lt _ e.symm).1;omega),h4.block k (by have:=h1.size;omega)];exact h1.block k hk hn
   refine ⟨?_,?_,hI⟩
   ·rw [HSZ5.out];refine ⟨by have:=HG1.out.size;have:=HW2b.out.size;rw [z6w];omega,fun k o hk ho hc=>?_⟩;have h1:=(Array.getElem?_eq_some_iff.1 ho).1;have h2:k≠rB+1+1:=by omega
    rw [q7 h2,HG1.out.block k (by have:=HW2b.out.size;omega) (fun e'=>(y1U HROW.out e'.symm ho hc) rfl),HW2b.out.block k h1];exact ho
   ·refine ⟨by have:=HG1.out.size;have:=HW2b.out.size;rw [z6w];omega,fun k hk hn=>?_⟩;rw [q7 hn,HG1.out.block k (by have:=HW2b.out.size;omega) (fun e=>by have:=(HROW.out.lt _ e.symm).1;omega)];exact HW2b.out.block k (by omega))
 case done=>
  rintro D xs W hD hS hF ⟨v,c1,hrow,hchg⟩ hK;have hxs:xs=(z1F l 0 z0e).1:=hS;obtain ⟨ST,hST⟩:∃ST,ST=z1F l 0 z0e:=⟨_,rfl⟩;rw [←hST] at hxs hF;have hap:=HAP.out;rw [←hST] at hap;obtain ⟨wh,hwh⟩:∃wh,wh=ST.2:=⟨_,rfl⟩;unfold z7v at hF;rw [←hwh] at hF hap;rw [←hxs] at hF hap;obtain ⟨av,cv,rfl⟩:=(z0d hrow).head;obtain ⟨xm,hxm⟩:∃xm,xm=xs.length:=⟨_,rfl⟩;rw [←hxm] at hrow c1;have hkp:=(hchg.block (rB+1) (by omega) (by simp)).trans kp;obtain ⟨p1,p2,p3⟩:=z0t hkp;obtain ⟨f1,f2,f3⟩:=z0t c1;have HROW:=z7 hrow;have HCHG:=z7 hchg;have HK:=z7 hK;have HAP2:=z7 hap;have HF:=z7 hF;have HXM:=z7 hxm;have hneD:Hid (rB+1+1<D):=z7 (by omega);have hbW:Hid (Below w.heap.size w W):=z7 (z8R HB5.out hchg (fun k hk=>by have:=HW2.out;simp at hk;omega) HB5.out.size);clear hxs hST hwh hap hrow hchg hK hF hS c1 k0 k1 kp hkp hl5 hlen hlenS hw2 hsz hxm;cases wh with
  | true=>
   have hF2:W.heap[rB]? =some (wkO a m c l.length l.length (z0l z0e xs) 0):=by have:=HF.out;rwa [if_pos rfl] at this
   obtain ⟨u0,u1,u2,u3,u4,u5,u6,u7,u8,u9,u10,uf⟩:=z0q hF2;clear hF2
   gi_wp2
   refine ⟨by simp, .inl ⟨_,_,rfl,run_takeDeferred HK.out,?_⟩⟩;refine ⟨_,results_tmp2 rfl _ _ _,?_⟩;have ha:z5c l=some xs:=by simpa using HAP2.out
   refine ⟨.inl ⟨xs,av,cv,ha,by rw [←HXM.out];rfl,?_⟩,z4J hbW.out (by have:=hneD.out;have:=HW2.out;omega)⟩;rw [←HXM.out];exact z0i (y3g HROW.out HK.out _) (by have:=HW2.out;omega)
  | false=>
   have hF2:W.heap[rB]? =some (wkO a m c l.length 0 z0e 61):=by have:=HF.out;rwa [if_neg (by decide)] at this
   obtain ⟨u0,u1,u2,u3,u4,u5,u6,u7,u8,u9,u10,uf⟩:=z0q hF2;clear hF2
   gi_wp2_with fail
   refine wpIn_wide.2 ?_;go_quiet (fail)
   go_wp2
   gi_wp2
   have hK1:(W.drewN nq).heap[D]? =some (.deferred (some [])):=HK.out;refine ⟨by simp, .inl ⟨_,_,rfl,run_takeDeferred hK1,?_⟩⟩;refine ⟨_,results_tmp2 rfl _ _ _,?_⟩;have ha:z5c l=none:=by simpa using HAP2.out
   exact ⟨.inr ⟨ha,rfl⟩,z4J (z0k hbW.out) (by have:=hneD.out;have:=HW2.out;omega)⟩
end Go.Proofs.YtfcnapnopdomhaaGreatDoor

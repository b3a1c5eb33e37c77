/-
  Results that lie in cells.
-/
import Derived.Test.YtfcnapnopdomhaaGreatDoorZChMZiAZiCLz
namespace Go.Proofs.YtfcnapnopdomhaaGreatDoor
set_option linter.unusedSimpArgs false
set_option linter.unusedVariables false
set_option maxRecDepth 100000
set_option maxHeartbeats 12800000
open Go.RowKit
theorem z7m{fn:Func}{t0 t1:Tmp}(h:fn.results= #[.tmp t0, .cell t1 350])(tmps:Array Value)(w:World)(r1:Nat)(x1_0 x1_1 x1_2:Value)(h1:tmps.getD t1 undef= .pointer (some ⟨r1,0,none⟩))(hg1:w.heap[r1]? =some (.cells #[x1_0,x1_1,x1_2] 350 (0,0)))(hx1:([x1_0,x1_1,x1_2].all Value.oneCell')=true):
  (results fn tmps).run Tryz.prog w= .ok (.tuple #[tmps.getD t0 undef, .agg #[x1_0,x1_1,x1_2]]) w:=by
 simp only [List.all_cons,List.all_nil,Bool.and_true,Bool.and_eq_true] at hx1;have c1_0:w.cell? ⟨r1,0,none⟩=some x1_0:=by simp [World.cell?,hg1]
 have c1_1:w.cell? ⟨r1,1,none⟩=some x1_1:=by simp [World.cell?,hg1]
 have c1_2:w.cell? ⟨r1,2,none⟩=some x1_2:=by simp [World.cell?,hg1]
 simp only [Array.getD_eq_getD_getElem?] at h1;simp [results,h,go_sem,c1_0,c1_1,c1_2,h1]
theorem y3T{fn:Func}{t0:Tmp}(h:fn.results= #[.cell t0 408])(tmps:Array Value)(w:World)(r0:Nat)(x0_0 x0_1:Value)(h0:tmps.getD t0 undef= .pointer (some ⟨r0,0,none⟩))(hg0:w.heap[r0]? =some (.cells #[x0_0,x0_1] 408 (0,0)))(hx0:([x0_0,x0_1].all Value.oneCell')=true):
  (results fn tmps).run Tryz.prog w= .ok (.agg #[x0_0,x0_1]) w:=by
 simp only [List.all_cons,List.all_nil,Bool.and_true,Bool.and_eq_true] at hx0;have c0_0:w.cell? ⟨r0,0,none⟩=some x0_0:=by simp [World.cell?,hg0]
 have c0_1:w.cell? ⟨r0,1,none⟩=some x0_1:=by simp [World.cell?,hg0]
 simp only [Array.getD_eq_getD_getElem?] at h0;simp [results,h,go_sem,c0_0,c0_1,h0]
theorem z8v{fn:Func}{t0 t1:Tmp}(h:fn.results= #[.tmp t0, .cell t1 137])(tmps:Array Value)(w:World)(r1:Nat)(x1_0 x1_1 x1_2 x1_3:Value)(h1:tmps.getD t1 undef= .pointer (some ⟨r1,0,none⟩))(hg1:w.heap[r1]? =some (.cells #[x1_0,x1_1,x1_2,x1_3] 137 (0,0)))(hx1:([x1_0,x1_1,x1_2,x1_3].all Value.oneCell')=true):
  (results fn tmps).run Tryz.prog w= .ok (.tuple #[tmps.getD t0 undef, .agg #[x1_0,x1_1,x1_2,x1_3]]) w:=by
 simp only [List.all_cons,List.all_nil,Bool.and_true,Bool.and_eq_true] at hx1;have c1_0:w.cell? ⟨r1,0,none⟩=some x1_0:=by simp [World.cell?,hg1]
 have c1_1:w.cell? ⟨r1,1,none⟩=some x1_1:=by simp [World.cell?,hg1]
 have c1_2:w.cell? ⟨r1,2,none⟩=some x1_2:=by simp [World.cell?,hg1]
 have c1_3:w.cell? ⟨r1,3,none⟩=some x1_3:=by simp [World.cell?,hg1]
 simp only [Array.getD_eq_getD_getElem?] at h1;simp [results,h,go_sem,c1_0,c1_1,c1_2,c1_3,h1]
theorem y9n{fn:Func}{t0 t1 t2:Tmp}(h:fn.results= #[.cell t0 48, .cell t1 137, .tmp t2])(tmps:Array Value)(w:World)(r0:Nat)(x0_0 x0_1:Value)(h0:tmps.getD t0 undef= .pointer (some ⟨r0,0,none⟩))(hg0:w.heap[r0]? =some (.cells #[x0_0,x0_1] 48 (0,0)))(hx0:([x0_0,x0_1].all Value.oneCell')=true)(r1:Nat)(x1_0 x1_1 x1_2 x1_3:Value)(h1:tmps.getD t1 undef= .pointer (some ⟨r1,0,none⟩))(hg1:w.heap[r1]? =some (.cells #[x1_0,x1_1,x1_2,x1_3] 137 (0,0)))(hx1:([x1_0,x1_1,x1_2,x1_3].all Value.oneCell')=true):
  (results fn tmps).run Tryz.prog w= .ok (.tuple #[.agg #[x0_0,x0_1], .agg #[x1_0,x1_1,x1_2,x1_3],tmps.getD t2 undef]) w:=by
 simp only [List.all_cons,List.all_nil,Bool.and_true,Bool.and_eq_true] at hx0;have c0_0:w.cell? ⟨r0,0,none⟩=some x0_0:=by simp [World.cell?,hg0]
 have c0_1:w.cell? ⟨r0,1,none⟩=some x0_1:=by simp [World.cell?,hg0]
 simp only [Array.getD_eq_getD_getElem?] at h0;simp only [List.all_cons,List.all_nil,Bool.and_true,Bool.and_eq_true] at hx1;have c1_0:w.cell? ⟨r1,0,none⟩=some x1_0:=by simp [World.cell?,hg1]
 have c1_1:w.cell? ⟨r1,1,none⟩=some x1_1:=by simp [World.cell?,hg1]
 have c1_2:w.cell? ⟨r1,2,none⟩=some x1_2:=by simp [World.cell?,hg1]
 have c1_3:w.cell? ⟨r1,3,none⟩=some x1_3:=by simp [World.cell?,hg1]
 simp only [Array.getD_eq_getD_getElem?] at h1;simp [results,h,go_sem,c0_0,c0_1,h0,c1_0,c1_1,c1_2,c1_3,h1]
theorem z5L{fn:Func}{t0 t1 t2:Tmp}(h:fn.results= #[.tmp t0, .cell t1 408, .tmp t2])(tmps:Array Value)(w:World)(r1:Nat)(x1_0 x1_1:Value)(h1:tmps.getD t1 undef= .pointer (some ⟨r1,0,none⟩))(hg1:w.heap[r1]? =some (.cells #[x1_0,x1_1] 408 (0,0)))(hx1:([x1_0,x1_1].all Value.oneCell')=true):
  (results fn tmps).run Tryz.prog w= .ok (.tuple #[tmps.getD t0 undef, .agg #[x1_0,x1_1],tmps.getD t2 undef]) w:=by
 simp only [List.all_cons,List.all_nil,Bool.and_true,Bool.and_eq_true] at hx1;have c1_0:w.cell? ⟨r1,0,none⟩=some x1_0:=by simp [World.cell?,hg1]
 have c1_1:w.cell? ⟨r1,1,none⟩=some x1_1:=by simp [World.cell?,hg1]
 simp only [Array.getD_eq_getD_getElem?] at h1;simp [results,h,go_sem,c1_0,c1_1,h1]
theorem z2p{fn:Func}{t0 t1 t2 t3:Tmp}(h:fn.results= #[.tmp t0, .tmp t1, .cell t2 137, .tmp t3])(tmps:Array Value)(w:World)(r2:Nat)(x2_0 x2_1 x2_2 x2_3:Value)(h2:tmps.getD t2 undef= .pointer (some ⟨r2,0,none⟩))(hg2:w.heap[r2]? =some (.cells #[x2_0,x2_1,x2_2,x2_3] 137 (0,0)))(hx2:([x2_0,x2_1,x2_2,x2_3].all Value.oneCell')=true):
  (results fn tmps).run Tryz.prog w= .ok (.tuple #[tmps.getD t0 undef,tmps.getD t1 undef, .agg #[x2_0,x2_1,x2_2,x2_3],tmps.getD t3 undef]) w:=by
 simp only [List.all_cons,List.all_nil,Bool.and_true,Bool.and_eq_true] at hx2;have c2_0:w.cell? ⟨r2,0,none⟩=some x2_0:=by simp [World.cell?,hg2]
 have c2_1:w.cell? ⟨r2,1,none⟩=some x2_1:=by simp [World.cell?,hg2]
 have c2_2:w.cell? ⟨r2,2,none⟩=some x2_2:=by simp [World.cell?,hg2]
 have c2_3:w.cell? ⟨r2,3,none⟩=some x2_3:=by simp [World.cell?,hg2]
 simp only [Array.getD_eq_getD_getElem?] at h2;simp [results,h,go_sem,c2_0,c2_1,c2_2,c2_3,h2]
theorem y4w{fn:Func}{t0 t1 t2:Tmp}(h:fn.results= #[.cell t0 48, .cell t1 139, .tmp t2])(tmps:Array Value)(w:World)(r0:Nat)(x0_0 x0_1:Value)(h0:tmps.getD t0 undef= .pointer (some ⟨r0,0,none⟩))(hg0:w.heap[r0]? =some (.cells #[x0_0,x0_1] 48 (0,0)))(hx0:([x0_0,x0_1].all Value.oneCell')=true)(r1:Nat)(x1_0 x1_1 x1_2 x1_3 x1_4 x1_5 x1_6:Value)(h1:tmps.getD t1 undef= .pointer (some ⟨r1,0,none⟩))(hg1:w.heap[r1]? =some (.cells #[x1_0,x1_1,x1_2,x1_3,x1_4,x1_5,x1_6] 139 (0,0)))(hx1:([x1_0,x1_1,x1_2,x1_3,x1_4,x1_5,x1_6].all Value.oneCell')=true):
  (results fn tmps).run Tryz.prog w= .ok (.tuple #[.agg #[x0_0,x0_1], .agg #[x1_0,x1_1,x1_2,x1_3,x1_4,x1_5,x1_6],tmps.getD t2 undef]) w:=by
 simp only [List.all_cons,List.all_nil,Bool.and_true,Bool.and_eq_true] at hx0;have c0_0:w.cell? ⟨r0,0,none⟩=some x0_0:=by simp [World.cell?,hg0]
 have c0_1:w.cell? ⟨r0,1,none⟩=some x0_1:=by simp [World.cell?,hg0]
 simp only [Array.getD_eq_getD_getElem?] at h0;simp only [List.all_cons,List.all_nil,Bool.and_true,Bool.and_eq_true] at hx1;have c1_0:w.cell? ⟨r1,0,none⟩=some x1_0:=by simp [World.cell?,hg1]
 have c1_1:w.cell? ⟨r1,1,none⟩=some x1_1:=by simp [World.cell?,hg1]
 have c1_2:w.cell? ⟨r1,2,none⟩=some x1_2:=by simp [World.cell?,hg1]
 have c1_3:w.cell? ⟨r1,3,none⟩=some x1_3:=by simp [World.cell?,hg1]
 have c1_4:w.cell? ⟨r1,4,none⟩=some x1_4:=by simp [World.cell?,hg1]
 have c1_5:w.cell? ⟨r1,5,none⟩=some x1_5:=by simp [World.cell?,hg1]
 have c1_6:w.cell? ⟨r1,6,none⟩=some x1_6:=by simp [World.cell?,hg1]
 simp only [Array.getD_eq_getD_getElem?] at h1;simp [results,h,go_sem,c0_0,c0_1,h0,c1_0,c1_1,c1_2,c1_3,c1_4,c1_5,c1_6,h1]
theorem y0x{fn:Func}{t0 t1 t2 t3:Tmp}(h:fn.results= #[.cell t0 113, .tmp t1, .cell t2 139, .tmp t3])(tmps:Array Value)(w:World)(r0:Nat)(x0_0 x0_1:Value)(h0:tmps.getD t0 undef= .pointer (some ⟨r0,0,none⟩))(hg0:w.heap[r0]? =some (.cells #[x0_0,x0_1] 113 (0,0)))(hx0:([x0_0,x0_1].all Value.oneCell')=true)(r2:Nat)(x2_0 x2_1 x2_2 x2_3 x2_4 x2_5 x2_6:Value)(h2:tmps.getD t2 undef= .pointer (some ⟨r2,0,none⟩))(hg2:w.heap[r2]? =some (.cells #[x2_0,x2_1,x2_2,x2_3,x2_4,x2_5,x2_6] 139 (0,0)))(hx2:([x2_0,x2_1,x2_2,x2_3,x2_4,x2_5,x2_6].all Value.oneCell')=true):
  (results fn tmps).run Tryz.prog w= .ok (.tuple #[.agg #[x0_0,x0_1],tmps.getD t1 undef, .agg #[x2_0,x2_1,x2_2,x2_3,x2_4,x2_5,x2_6],tmps.getD t3 undef]) w:=by
 simp only [List.all_cons,List.all_nil,Bool.and_true,Bool.and_eq_true] at hx0;have c0_0:w.cell? ⟨r0,0,none⟩=some x0_0:=by simp [World.cell?,hg0]
 have c0_1:w.cell? ⟨r0,1,none⟩=some x0_1:=by simp [World.cell?,hg0]
 simp only [Array.getD_eq_getD_getElem?] at h0;simp only [List.all_cons,List.all_nil,Bool.and_true,Bool.and_eq_true] at hx2;have c2_0:w.cell? ⟨r2,0,none⟩=some x2_0:=by simp [World.cell?,hg2]
 have c2_1:w.cell? ⟨r2,1,none⟩=some x2_1:=by simp [World.cell?,hg2]
 have c2_2:w.cell? ⟨r2,2,none⟩=some x2_2:=by simp [World.cell?,hg2]
 have c2_3:w.cell? ⟨r2,3,none⟩=some x2_3:=by simp [World.cell?,hg2]
 have c2_4:w.cell? ⟨r2,4,none⟩=some x2_4:=by simp [World.cell?,hg2]
 have c2_5:w.cell? ⟨r2,5,none⟩=some x2_5:=by simp [World.cell?,hg2]
 have c2_6:w.cell? ⟨r2,6,none⟩=some x2_6:=by simp [World.cell?,hg2]
 simp only [Array.getD_eq_getD_getElem?] at h2;simp [results,h,go_sem,c0_0,c0_1,h0,c2_0,c2_1,c2_2,c2_3,c2_4,c2_5,c2_6,h2]
theorem y3t{fn:Func}{t0 t1 t2:Tmp}(h:fn.results= #[.tmp t0, .cell t1 139, .tmp t2])(tmps:Array Value)(w:World)(r1:Nat)(x1_0 x1_1 x1_2 x1_3 x1_4 x1_5 x1_6:Value)(h1:tmps.getD t1 undef= .pointer (some ⟨r1,0,none⟩))(hg1:w.heap[r1]? =some (.cells #[x1_0,x1_1,x1_2,x1_3,x1_4,x1_5,x1_6] 139 (0,0)))(hx1:([x1_0,x1_1,x1_2,x1_3,x1_4,x1_5,x1_6].all Value.oneCell')=true):
  (results fn tmps).run Tryz.prog w= .ok (.tuple #[tmps.getD t0 undef, .agg #[x1_0,x1_1,x1_2,x1_3,x1_4,x1_5,x1_6],tmps.getD t2 undef]) w:=by
 simp only [List.all_cons,List.all_nil,Bool.and_true,Bool.and_eq_true] at hx1;have c1_0:w.cell? ⟨r1,0,none⟩=some x1_0:=by simp [World.cell?,hg1]
 have c1_1:w.cell? ⟨r1,1,none⟩=some x1_1:=by simp [World.cell?,hg1]
 have c1_2:w.cell? ⟨r1,2,none⟩=some x1_2:=by simp [World.cell?,hg1]
 have c1_3:w.cell? ⟨r1,3,none⟩=some x1_3:=by simp [World.cell?,hg1]
 have c1_4:w.cell? ⟨r1,4,none⟩=some x1_4:=by simp [World.cell?,hg1]
 have c1_5:w.cell? ⟨r1,5,none⟩=some x1_5:=by simp [World.cell?,hg1]
 have c1_6:w.cell? ⟨r1,6,none⟩=some x1_6:=by simp [World.cell?,hg1]
 simp only [Array.getD_eq_getD_getElem?] at h1;simp [results,h,go_sem,c1_0,c1_1,c1_2,c1_3,c1_4,c1_5,c1_6,h1]
def y1o(n:Nat)(w:World)(e:Ending)(w':World):Prop:=
 Below w.heap.size w w'∧∃x y z,e= .returned (.tuple #[.int .i64 (z0A n:Nat), .agg #[x,y,z]])∧z3N[z0A n*3]? =some x∧z3N[z0A n*3+1]? =some y∧z3N[z0A n*3+2]? =some z
theorem z4Q{n k:Nat}{w W:World}(hf:z0A n=k)(hb:Below w.heap.size w W){x y z:Value}(h0:z3N[k*3]? =some x)(h1:z3N[k*3+1]? =some y)(h2:z3N[k*3+2]? =some z):
  y1o n w (.returned (.tuple #[.int .i64 (k:Nat), .agg #[x,y,z]])) (((W.setCell ⟨w.heap.size,0,none⟩ x).setCell ⟨w.heap.size,1,none⟩ y).setCell ⟨w.heap.size,2,none⟩ z).drew:=by
 subst hf;exact ⟨((((hb.setCell (Nat.le_refl _) _).setCell (Nat.le_refl _) _).setCell (Nat.le_refl _) _).drew),x,y,z,rfl,h0,h1,h2⟩
theorem z3J{W:World}{r:Nat}(hg:W.heap[r]? =some (.cells #[.int .u64 0, .int .i64 0, .int .i64 0] 350 (0,0)))(x y z:Value):
  (((W.setCell ⟨r,0,none⟩ x).setCell ⟨r,1,none⟩ y).setCell ⟨r,2,none⟩ z).drew.heap[r]? =some (.cells #[x,y,z] 350 (0,0)):=by
 have:=j9 (j9 (j9 hg 0 x) 1 y) 2 z;simpa [World.drew] using this
theorem y9v(n:Nat)(h:n<18446744073709551616)(w:World):
  Calls Tryz.prog 212 #[.int .u64 (n:Nat)] w (y1o n w):=by
 go_enter Tryz.func212,Tryz.ntmps212;go_wp2
 go_step3
 go_wp2_with fail;refine (z6d _).mono ?_;rintro e w2 ⟨rfl,hb2⟩;unfold z5U;go_wp2
 go_step3
 go_wp2;have hgs:Hid (w2.heap[w.heap.size]? =some (.cells #[.int .u64 0, .int .i64 0, .int .i64 0] 350 (0,0))):=z7 ((hb2.block _ (by simp)).trans (j8 _ _));have hbs:Hid (Below w.heap.size w w2):=z7 ((q5 _ _).trans (hb2.mono (q5 w _).size));have hl2:w.heap.size<w2.heap.size:=(Array.getElem?_eq_some_iff.1 hgs.out).1;obtain ⟨W,hW⟩:∃W,W=w2.alloc (.cells z3N 405):=⟨_,rfl⟩;have hg:=j8 w2 (.cells z3N 405);rw [←hW] at hg;have hc:Hid (∀j u,z3N[j]? =some u→W.cell? ⟨w2.heap.size,j,none⟩=some u):=z7 fun j u hu=>by rw [cell_of_row _ w2.heap.size j _ _ (0,0) hg];exact hu
 have hba:Below w2.heap.size w2 W:=by rw [hW];exact q5 _ _
 have hgz:Hid (W.heap[w.heap.size]? =some (.cells #[.int .u64 0, .int .i64 0, .int .i64 0] 350 (0,0))):=z7 ((hba.block _ hl2).trans hgs.out);have hbW:Hid (Below w.heap.size w W):=z7 (hbs.out.trans (hba.mono hbs.out.size));clear hba hb2 hl2;unfold z3N at hW;rw [←hW];have HW:=z7 hW;clear hW hg;have hz:Hid (W.cell? ⟨w.heap.size,0,none⟩=some (.int .u64 0)∧W.cell? ⟨w.heap.size,1,none⟩=some (.int .i64 0)∧W.cell? ⟨w.heap.size,2,none⟩=some (.int .i64 0)∧W.frozen? ⟨w.heap.size,0,none⟩=false∧W.frozen? ⟨w.heap.size,1,none⟩=false∧W.frozen? ⟨w.heap.size,2,none⟩=false):=z7 (by have:=hgz.out;refine ⟨?_,?_,?_,?_,?_,?_⟩<;>simp [World.cell?,World.frozen?,this]);obtain ⟨rv,hrv⟩:∃rv,rv=z5U:=⟨_,rfl⟩;unfold z5U at hrv;rw [←hrv];clear hrv;go_loopw [5] (fun kv wr=>∃k:Nat,kv= .int .i64 (k:Nat)∧k≤z0A n∧wr=W) (fun kv _=>match kv with | .int _ x=>5 - x.toNat | _=>0)
 case atStart=>exact ⟨0,rfl,by omega,rfl⟩
 case round=>
  obtain ⟨k,rfl,hk,rfl⟩:=hrel;have hk5:k<6:=by have:=z4P n;omega
  have hks:k=0∨k=1∨k=2∨k=3∨k=4∨k=5:=by omega
  clear hk5;obtain rfl | rfl | rfl | rfl | rfl | rfl:=hks
  ·skip
   have y0:wr.cell? ⟨w2.heap.size,0,none⟩=some (.int .u64 0):=hc.out 0 _ rfl;have y1:wr.cell? ⟨w2.heap.size,1,none⟩=some (.int .i64 1):=hc.out 1 _ rfl;have y2:wr.cell? ⟨w2.heap.size,2,none⟩=some (.int .i64 0):=hc.out 2 _ rfl;by_cases hn:n<1
   ·obtain rfl:n=0:=by omega
    have hf:z0A 0=0:=rfl;have HF:=z7 hf;clear hf hk h;obtain ⟨z0,z1,z2,f0,f1,f2⟩:=hz.out;go_wp2;go_region
    all_goals
     go_wp2;refine bodyPost_ret (z7m rfl _ _ w.heap.size _ _ _ rfl (z3J hgz.out _ _ _) rfl) rfl ?_;exact z4Q HF.out hbW.out rfl rfl rfl
   ·have d0:((n:Int)==0)=false:=by simp;omega
    have hf:1≤z0A n:=by revert hk;unfold z0A;(repeat' split)<;>omega
    clear hk hn h;go_wp2;exact ⟨⟨1,rfl,hf,trivial⟩,by show 5 - (1:Int).toNat<5 - ((0:Nat):Int).toNat;decide⟩
  ·skip
   have y0:wr.cell? ⟨w2.heap.size,3,none⟩=some (.int .u64 2):=hc.out 3 _ rfl;have y1:wr.cell? ⟨w2.heap.size,4,none⟩=some (.int .i64 2):=hc.out 4 _ rfl;have y2:wr.cell? ⟨w2.heap.size,5,none⟩=some (.int .i64 7):=hc.out 5 _ rfl;by_cases hn:n<128
   ·have d0:(n:Int)/128=0:=by omega
    have hf:z0A n=1:=by revert hk;unfold z0A;(repeat' split)<;>omega
    have HF:=z7 hf;clear hf hk h;obtain ⟨z0,z1,z2,f0,f1,f2⟩:=hz.out;go_wp2;go_region
    all_goals
     go_wp2;refine bodyPost_ret (z7m rfl _ _ w.heap.size _ _ _ rfl (z3J hgz.out _ _ _) rfl) rfl ?_;exact z4Q HF.out hbW.out rfl rfl rfl
   ·have d0:((n:Int)/128==0)=false:=by simp;omega
    have hf:2≤z0A n:=by revert hk;unfold z0A;(repeat' split)<;>omega
    clear hk hn h;go_wp2;exact ⟨⟨2,rfl,hf,trivial⟩,by show 5 - (2:Int).toNat<5 - ((1:Nat):Int).toNat;decide⟩
  ·skip
   have y0:wr.cell? ⟨w2.heap.size,6,none⟩=some (.int .u64 6):=hc.out 6 _ rfl;have y1:wr.cell? ⟨w2.heap.size,7,none⟩=some (.int .i64 3):=hc.out 7 _ rfl;have y2:wr.cell? ⟨w2.heap.size,8,none⟩=some (.int .i64 9):=hc.out 8 _ rfl;by_cases hn:n<512
   ·have d0:(n:Int)/512=0:=by omega
    have hf:z0A n=2:=by revert hk;unfold z0A;(repeat' split)<;>omega
    have HF:=z7 hf;clear hf hk h;obtain ⟨z0,z1,z2,f0,f1,f2⟩:=hz.out;go_wp2;go_region
    all_goals
     go_wp2;refine bodyPost_ret (z7m rfl _ _ w.heap.size _ _ _ rfl (z3J hgz.out _ _ _) rfl) rfl ?_;exact z4Q HF.out hbW.out rfl rfl rfl
   ·have d0:((n:Int)/512==0)=false:=by simp;omega
    have hf:3≤z0A n:=by revert hk;unfold z0A;(repeat' split)<;>omega
    clear hk hn h;go_wp2;exact ⟨⟨3,rfl,hf,trivial⟩,by show 5 - (3:Int).toNat<5 - ((2:Nat):Int).toNat;decide⟩
  ·skip
   have y0:wr.cell? ⟨w2.heap.size,9,none⟩=some (.int .u64 14):=hc.out 9 _ rfl;have y1:wr.cell? ⟨w2.heap.size,10,none⟩=some (.int .i64 4):=hc.out 10 _ rfl;have y2:wr.cell? ⟨w2.heap.size,11,none⟩=some (.int .i64 12):=hc.out 11 _ rfl;by_cases hn:n<4096
   ·have d0:(n:Int)/4096=0:=by omega
    have hf:z0A n=3:=by revert hk;unfold z0A;(repeat' split)<;>omega
    have HF:=z7 hf;clear hf hk h;obtain ⟨z0,z1,z2,f0,f1,f2⟩:=hz.out;go_wp2;go_region
    all_goals
     go_wp2;refine bodyPost_ret (z7m rfl _ _ w.heap.size _ _ _ rfl (z3J hgz.out _ _ _) rfl) rfl ?_;exact z4Q HF.out hbW.out rfl rfl rfl
   ·have d0:((n:Int)/4096==0)=false:=by simp;omega
    have hf:4≤z0A n:=by revert hk;unfold z0A;(repeat' split)<;>omega
    clear hk hn h;go_wp2;exact ⟨⟨4,rfl,hf,trivial⟩,by show 5 - (4:Int).toNat<5 - ((3:Nat):Int).toNat;decide⟩
  ·skip
   have y0:wr.cell? ⟨w2.heap.size,12,none⟩=some (.int .u64 30):=hc.out 12 _ rfl;have y1:wr.cell? ⟨w2.heap.size,13,none⟩=some (.int .i64 5):=hc.out 13 _ rfl;have y2:wr.cell? ⟨w2.heap.size,14,none⟩=some (.int .i64 32):=hc.out 14 _ rfl;by_cases hn:n<4294967296
   ·have d0:(n:Int)/4294967296=0:=by omega
    have hf:z0A n=4:=by revert hk;unfold z0A;(repeat' split)<;>omega
    have HF:=z7 hf;clear hf hk h;obtain ⟨z0,z1,z2,f0,f1,f2⟩:=hz.out;go_wp2;go_region
    all_goals
     go_wp2;refine bodyPost_ret (z7m rfl _ _ w.heap.size _ _ _ rfl (z3J hgz.out _ _ _) rfl) rfl ?_;exact z4Q HF.out hbW.out rfl rfl rfl
   ·have d0:((n:Int)/4294967296==0)=false:=by simp;omega
    have hf:5≤z0A n:=by revert hk;unfold z0A;(repeat' split)<;>omega
    clear hk hn h;go_wp2;exact ⟨⟨5,rfl,hf,trivial⟩,by show 5 - (5:Int).toNat<5 - ((4:Nat):Int).toNat;decide⟩
  ·skip
   have y0:wr.cell? ⟨w2.heap.size,15,none⟩=some (.int .u64 31):=hc.out 15 _ rfl;have y1:wr.cell? ⟨w2.heap.size,16,none⟩=some (.int .i64 5):=hc.out 16 _ rfl;have y2:wr.cell? ⟨w2.heap.size,17,none⟩=some (.int .i64 64):=hc.out 17 _ rfl;have hf:z0A n=5:=by have:=z4P n;omega
   have HF:=z7 hf;clear hf hk h;obtain ⟨z0,z1,z2,f0,f1,f2⟩:=hz.out;go_wp2;go_region
   all_goals
    go_wp2;refine bodyPost_ret (z7m rfl _ _ w.heap.size _ _ _ rfl (z3J hgz.out _ _ _) rfl) rfl ?_;exact z4Q HF.out hbW.out rfl rfl rfl
def y0o(k:Nat):Nat:= [0,2,6,14,30,31].getD k 31
def y4N(k:Nat):Nat:= [1,2,3,4,5,5].getD k 5
theorem z6f{k:Nat}(h:k≤5):z9f k=z2L (y0o k) (y4N k)∧y0o k<18446744073709551616∧y4N k≤64∧z3l k≤64:=by
 match k,h with
 | 0,_=>decide
 | 1,_=>decide
 | 2,_=>decide
 | 3,_=>decide
 | 4,_=>decide
 | 5,_=>decide
theorem q1t{k:Nat}(h:k≤5):z3N[k*3]? =some (.int .u64 (y0o k:Nat))∧z3N[k*3+1]? =some (.int .i64 (y4N k:Nat))∧z3N[k*3+2]? =some (.int .i64 (z3l k:Nat)):=by
 match k,h with
 | 0,_=>exact ⟨rfl,rfl,rfl⟩
 | 1,_=>exact ⟨rfl,rfl,rfl⟩
 | 2,_=>exact ⟨rfl,rfl,rfl⟩
 | 3,_=>exact ⟨rfl,rfl,rfl⟩
 | 4,_=>exact ⟨rfl,rfl,rfl⟩
 | 5,_=>exact ⟨rfl,rfl,rfl⟩
theorem z4e(n:Nat)(h:n<18446744073709551616)(w:World):
  Calls Tryz.prog 212 #[.int .u64 (n:Nat)] w fun e w'=>e= .returned (.tuple #[.int .i64 (z0A n:Nat), .agg #[.int .u64 (y0o (z0A n):Nat), .int .i64 (y4N (z0A n):Nat), .int .i64 (z3l (z0A n):Nat)]])∧Below w.heap.size w w':=by
 refine (y9v n h w).mono ?_;rintro e w' ⟨hb,x,y,z,rfl,h0,h1,h2⟩;obtain ⟨g0,g1,g2⟩:=q1t (z4P n);rw [g0] at h0;rw [g1] at h1;rw [g2] at h2;cases h0;cases h1;cases h2;exact ⟨rfl,hb⟩
theorem q3d(a:Option Addr)(n c:Nat)(l:List Bool)(b:List UInt8)(v:Int)(w:World)(h:z0o w a n c l b)(hl:l.length≤549755813000)(h1: -9223372036854775808≤v)(h2:v≤9223372036854775807):
  Calls Tryz.prog 152 #[.agg #[.slice a n c, .int .i64 l.length], .int .i64 v] w (z6X w (l++z8M v)):=by
 obtain ⟨N,hN⟩:∃N,N=l.length:=⟨_,rfl⟩;rw [←hN];have hF:=y0b h1 h2;obtain ⟨m,hm⟩:∃x,x=z3X v:=⟨_,rfl⟩;have hfold:=q1U v h1 h2;rw [←hm] at hfold hF;have hm64:m<18446744073709551616:=hF;obtain ⟨k,hk⟩:∃x,x=z0A m:=⟨_,rfl⟩;have hfirst:=z4e m hm64;rw [←hk] at hfirst;have hk5:k≤5:=by rw [hk];exact z4P m
 obtain ⟨ha1,ha2,ha3,ha4⟩:=z6f hk5;obtain ⟨A,hA⟩:∃x,x=y0o k:=⟨_,rfl⟩;obtain ⟨M,hM⟩:∃x,x=y4N k:=⟨_,rfl⟩;obtain ⟨D,hD⟩:∃x,x=z3l k:=⟨_,rfl⟩;obtain ⟨R,hR⟩:∃R,R=(l++z2L A M)++z2L m D:=⟨_,rfl⟩;have hgoal:l++z8M v=R:=by
  unfold z8M;rw [←hm,←hk,ha1,hR,hA,hM,hD,List.append_assoc]
 rw [hgoal];rw [←hA] at hfirst ha2;rw [←hM] at hfirst ha3;rw [←hD] at hfirst ha4;have HFO:=z7 hfold;have HFI:=z7 hfirst;have H:=z7 h;have HN:=z7 hN;have HR:=z7 hR;have hNl:N≤549755813000:=by omega
 clear hfold hfirst hm hk hA hM hD hgoal ha1 hF h hN hl hR;have HL0:=z7 (((Loc.start w).new (.cells #[.slice a n c, .int .i64 (N:Nat)] 48)).new' (.cells #[.slice none 0 0, .int .i64 0] 48) (n:=w.heap.size+1) (by simp));go_enter Tryz.func152,Tryz.ntmps152;go_wp2_with fail;refine (HFO.out _).mono ?_;rintro e w1 ⟨rfl,rfl⟩;go_wp2_with fail;refine (HFI.out _).mono ?_;rintro e w2 ⟨rfl,hb2⟩;have HL2:=z7 (HL0.out.call hb2);clear hb2;obtain ⟨c0,c1,cf⟩:=z0g (HL2.out.get 1 rfl);have l0:=HL2.out.lt 1 rfl;have l1:=HL2.out.lt 0 rfl;go_wp2_with fail;have hP:=y2B a n c l b A M (w2.alloc (.cells #[.int .u64 (A:Nat), .int .i64 (M:Nat), .int .i64 (D:Nat)] 350)) ((H.out.low HL2.out.low).low (q5 _ _)) (by have:=HN.out;omega) ha2 ha3;rw [←HN.out] at hP;refine hP.mono ?_;rintro e w4 ⟨a4,n4,c4,b4,rfl,hrow4,hn4,hbits4,hb4⟩;have HL4:=z7 ((HL2.out.new (.cells #[.int .u64 (A:Nat), .int .i64 (M:Nat), .int .i64 (D:Nat)] 350)).call hb4);have H4:=z7 (z4O hrow4 hn4 hbits4);obtain ⟨q4,hl4⟩:∃x,x=l++z2L A M:=⟨_,rfl⟩;rw [←hl4] at H4 HR;obtain ⟨N4,hN4⟩:∃x,x=q4.length:=⟨_,rfl⟩;have hN4l:N4≤549755813888:=by rw [hN4,hl4,List.length_append,z0P];have:=HN.out;omega
 rw [←hl4,←hN4];have HN4:=z7 hN4;clear hb4 hrow4 hn4 hbits4 hl4 hN4 hP c0 c1 cf;obtain ⟨d0,d1,d2,df⟩:=cells3 (HL4.out.get 0 rfl);have l4:=HL4.out.lt 0 rfl;have l5:=HL4.out.lt 1 rfl;go_wp2_with fail;have hP:=y2B a4 n4 c4 q4 b4 m D (w4.alloc (.cells #[.slice a4 n4 c4, .int .i64 (N4:Nat)] 48)) (H4.out.low (q5 _ _)) (by have:=HN4.out;omega) hm64 ha4;rw [←HN4.out,←HR.out] at hP;refine hP.mono ?_;rintro e w6 ⟨a6,n6,c6,b6,rfl,hrow6,hn6,hbits6,hb6⟩;have HL6:=z7 (((HL4.out.new (.cells #[.slice a4 n4 c4, .int .i64 (N4:Nat)] 48)).call hb6).less.less);obtain ⟨N6,hN6⟩:∃x,x=R.length:=⟨_,rfl⟩;rw [←hN6];have HN6:=z7 hN6;have HROW:=z7 hrow6;have HLN:=z7 hn6;have HBITS:=z7 hbits6;clear hb6 hrow6 hn6 hbits6 hN6 hP d0 d1 d2 df;obtain ⟨d0,d1,df⟩:=z0g (HL6.out.get 0 rfl);go_wp2_with fail;have HL7:=(HL6.out.set 0 rfl 0 (.slice a6 n6 c6)).set 0 rfl 1 (.int .i64 (N6:Nat));refine bodyPost_ret (z6l rfl _ _ (w.heap.size+1) (.slice a6 n6 c6) (.int .i64 (N6:Nat)) rfl (HL7.get 0 rfl) rfl rfl) rfl ?_;rw [HN6.out];have h9:=HL4.out.ge 1 rfl;exact q0C HROW.out (by show w.heap.size≤(w4.alloc _).heap.size;simp;omega) HLN.out HBITS.out (by rw [←HN6.out];exact HL7.low) fun k hk _=>by
  have:w.heap.size+1<k:=by simp at hk;omega
  rw [q7 (by omega),q7 (by omega)]
end Go.Proofs.YtfcnapnopdomhaaGreatDoor

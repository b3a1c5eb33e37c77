/-
  The walks of xor's wrong, write.
-/
import Derived.Test.YtfcnapnopdomhaaGreatDoorZZiFXoA
namespace Go.Proofs.YtfcnapnopdomhaaGreatDoor
set_option linter.unusedSimpArgs false
set_option linter.unusedVariables false
set_option maxRecDepth 100000
set_option maxHeartbeats 12800000
open Go.RowKit
theorem y4x(a:Option Addr)(n c:Nat)(l:List Bool)(b:List UInt8)(has:Bool)(prev lead width:Nat)(hl8:lead<256)(hw:width<256)(hs:z1c ⟨has,prev,lead,width⟩=true)(w:World)(h:z0o w a n c l b)(hl:l.length≤549755813888):
  Calls Tryz.prog 213 #[.agg #[.slice a n c, .int .i64 l.length], .agg #[.bool has, .int .u64 (prev:Nat), .int .u8 (lead:Nat), .int .u8 (width:Nat)]] w fun e w'=>e= .returned (.int .u16 0)∧Below w.heap.size w w':=by
 obtain ⟨N,hN⟩:∃N,N=l.length:=⟨_,rfl⟩;rw [←hN];have HSB:=z7 (z2s h.bits);have HLEN:=z7 h.len;have hnl:n≤70368744177665:=by have:=h.bits.len;have:=h.len;omega
 have hNl:N≤549755813888:=by omega
 have HS:=z7 (y3u has prev lead width hl8 hw);rw [hs] at HS;have H:=z7 h;have HN:=z7 hN;clear h hN hs hl hl8 hw;have HL0:=z7 (((Loc.start w).new (.cells #[.slice a n c, .int .i64 (N:Nat)] 48)).new' (.cells #[.bool has, .int .u64 (prev:Nat), .int .u8 (lead:Nat), .int .u8 (width:Nat)] 137) (n:=w.heap.size+1) (by simp));go_enter Tryz.func213,Tryz.ntmps213;go_wp2_with fail;have hsn:=z2x a c b N _ (by have:=(H.out.low HL0.out.low).rd;rw [HLEN.out] at this;exact this) (by have:=HLEN.out;omega) (by omega) (by omega);rw [←HLEN.out,HN.out,HSB.out,←HN.out] at hsn;refine hsn.mono ?_;rintro e w2 ⟨rfl,hb2⟩;have HL2:=z7 (HL0.out.call hb2);clear hb2 hsn;obtain ⟨c0,c1,c2,c3,cf⟩:=z0u (HL2.out.get 0 rfl);go_wp2_with fail;refine (HS.out _).mono ?_;rintro e w3 ⟨rfl,hb3⟩;have HL3:=z7 (HL2.out.call hb3);clear hb3;go_wp2;go_ret;exact ⟨rfl,HL3.out.low⟩
def z3a(s:z4B)(v:Nat):List (Nat×Nat):=
 if s.has=false then [(v,64)]
 else if v^^^s.prev=0 then [(0,1)]
 else if z4x s.lead s.width (v^^^s.prev) then [(2,2),((v^^^s.prev)/2^(64 - s.lead - s.width),s.width)]
 else [(3,2),(z2Z (v^^^s.prev),5),(z1E (v^^^s.prev) - 1,6),((v^^^s.prev)/2^tz (v^^^s.prev),z1E (v^^^s.prev))]
def z3E(ps:List (Nat×Nat)):List Bool:=ps.flatMap fun p=>z2L p.1 p.2
theorem y6Z(s:z4B)(v:Nat):z3E (z3a s v)=(z4r s v).1:=by
 unfold z3a z4r;split
 ·simp [z3E]
 ·split
  ·rfl
  ·split
   ·simp only [z3E,List.flatMap_cons,List.flatMap_nil,List.append_nil];rfl
   ·simp only [z3E,List.flatMap_cons,List.flatMap_nil,List.append_nil,List.append_assoc];rfl
theorem q0a{s:z4B}{v:Nat}(hs:z1c s=true)(hv:v<2^64)(hp:s.prev<2^64):∀p∈z3a s v,p.1<18446744073709551616∧p.2≤64:=by
 have hx:=y0g hv hp;unfold z3a;split
 ·intro p hp;simp only [List.mem_singleton] at hp;subst hp;exact ⟨hv,Nat.le_refl _⟩
 ·rename_i hh;have hh:s.has=true:=by simpa using hh
  unfold z1c at hs;rw [if_pos hh] at hs;have hs:=of_decide_eq_true hs;split
  ·intro p hp;simp only [List.mem_singleton] at hp;subst hp;exact ⟨by decide,by decide⟩
  ·rename_i hd;split
   ·intro p hp;simp only [List.mem_cons,List.not_mem_nil,or_false] at hp;rcases hp with rfl | rfl
    ·exact ⟨by decide,by decide⟩
    ·exact ⟨Nat.lt_of_le_of_lt (Nat.div_le_self _ _) hx,by simp only;omega⟩
   ·have h1:=z7Y hx hd;intro p hp;simp only [List.mem_cons,List.not_mem_nil,or_false] at hp;rcases hp with rfl | rfl | rfl | rfl
    ·exact ⟨by decide,by decide⟩
    ·exact ⟨by simp only;omega,by simp⟩
    ·exact ⟨by simp only;omega,by simp⟩
    ·exact ⟨Nat.lt_of_le_of_lt (Nat.div_le_self _ _) hx,by simp only;omega⟩
def z5N(ps:List (Nat×Nat)):List Value:=ps.flatMap fun p=> [.int .u64 (p.1:Nat), .int .i64 (p.2:Nat)]
def z8V(s:z4B)(v:Nat)(w:World)(e:Ending)(w':World):Prop:=
 ∃g cs,e= .returned (.tuple #[.slice (some ⟨g,0,none⟩) (z3a s v).length (z3a s v).length, .agg #[.bool (z4r s v).2.has, .int .u64 ((z4r s v).2.prev:Nat), .int .u8 ((z4r s v).2.lead:Nat), .int .u8 ((z4r s v).2.width:Nat)]])∧
  w'.heap[g]? =some (.cells cs 358 (0,0))∧cs.toList=z5N (z3a s v)∧w.heap.size≤g∧Below w.heap.size w w'
theorem z9e{s s2:z4B}{v g n:Nat}{ps:List (Nat×Nat)}{w w':World}{cs:Array Value}(h:z3a s v=ps∧(z4r s v).2=s2)(hg:w'.heap[g]? =some (.cells cs 358 (0,0)))(hn:n=ps.length)(hc:cs.toList=z5N ps)(hge:w.heap.size≤g)(hb:Below w.heap.size w w'):
  z8V s v w (.returned (.tuple #[.slice (some ⟨g,0,none⟩) n n, .agg #[.bool s2.has, .int .u64 (s2.prev:Nat), .int .u8 (s2.lead:Nat), .int .u8 (s2.width:Nat)]])) w':=by
 obtain ⟨rfl,rfl⟩:=h;subst hn;exact ⟨g,cs,rfl,hg,hc,hge,hb⟩
theorem q0j(has:Bool)(prev lead width v:Nat)(hs:z1c ⟨has,prev,lead,width⟩=true)(hp:prev<18446744073709551616)(hv:v<18446744073709551616)(w:World)(hT:z1m w):
  Calls Tryz.prog 214 #[.agg #[.bool has, .int .u64 (prev:Nat), .int .u8 (lead:Nat), .int .u8 (width:Nat)], .int .u64 (v:Nat)] w (z8V ⟨has,prev,lead,width⟩ v w):=by
 have HL0:=z7 (((Loc.start w).new (.cells #[.bool has, .int .u64 (prev:Nat), .int .u8 (lead:Nat), .int .u8 (width:Nat)] 137)).new' (.cells #[.bool true, .int .u64 (v:Nat), .int .u8 0, .int .u8 0] 137) (n:=w.heap.size+1) (by simp));cases has with
 | false=>
  have HL1:=z7 (HL0.out.new' (.cells #[.int .u64 (v:Nat), .int .i64 64] 358) (n:=w.heap.size+1+1) (by simp));clear hs hp hv hT;go_enter Tryz.func214,Tryz.ntmps214;go_wp2;refine bodyPost_ret (z8v rfl _ _ (w.heap.size+1) _ _ _ _ rfl (HL1.out.get 1 rfl) rfl) rfl ?_;exact ⟨w.heap.size+1+1,_,rfl,HL1.out.get 0 rfl,rfl,HL1.out.ge 0 rfl,HL1.out.low⟩
 | true=>
  obtain ⟨d,hd⟩:∃d,d=v^^^prev:=⟨_,rfl⟩;have hx:bits .xor .u64 (v:Int) (prev:Int)=(d:Int):=by rw [hd];exact u64_xor_nat _ _ hv hp
  have hd64:d<18446744073709551616:=by rw [hd];exact y0g hv hp
  have hsd:=hs;unfold z1c at hsd;simp only [if_true] at hsd;have hsd:=of_decide_eq_true hsd;have hlw:lead≤31∧width≤64∧lead+width≤64:=by omega
  have HL0:=z7 (((Loc.start w).new (.cells #[.bool true, .int .u64 (v:Nat), .int .u8 (lead:Nat), .int .u8 (width:Nat)] 137)).new' (.cells #[.bool false, .int .u64 0, .int .u8 0, .int .u8 0] 137) (n:=w.heap.size+1) (by simp));have HOF:=z7 (y9L true v lead width (by omega) (by omega));have HD:=z7 hd;clear hs hsd hd hp hv;go_enter Tryz.func214,Tryz.ntmps214;go_wp2_with fail;refine (HOF.out _).mono ?_;rintro e w2 ⟨rfl,hb2⟩;have HL2:=z7 (HL0.out.call hb2);have HT:=z7 (fun w' (hb:Below w.heap.size w w')=>hT.low hb);clear hb2 hT;obtain ⟨c0,c1,c2,c3,cf⟩:=z0u (HL2.out.get 1 rfl);obtain ⟨r0,r1,r2,r3,rf⟩:=z0u (HL2.out.get 0 rfl);have l0:=HL2.out.lt 0 rfl;have l1:=HL2.out.lt 1 rfl;by_cases h0:d=0
  ·subst h0;go_wp2;go_region
   have HLF:=((((((HL2.out.set 0 rfl 0 (.bool true)).set 0 rfl 1 (.int .u64 (v:Nat))).set 0 rfl 2 (.int .u8 (lead:Nat))).set 0 rfl 3 (.int .u8 (width:Nat))).new (.cells #[.int .i64 (lead:Nat), .int .i64 (width:Nat)] 408)).new' (.cells #[.int .u64 0, .int .i64 1] 358) (n:=w2.heap.size+1) (by simp)).drew;have hps:Hid (z3a ⟨true,prev,lead,width⟩ v= [(0,1)]∧(z4r ⟨true,prev,lead,width⟩ v).2=⟨true,v,lead,width⟩):=z7 (by
    unfold z3a z4r;simp [HD.out.symm])
   go_wp2;refine bodyPost_ret (z8v rfl _ _ (w.heap.size+1) _ _ _ _ rfl (HLF.get 2 rfl) rfl) rfl ?_;exact z9e hps.out (HLF.get 0 rfl) rfl rfl (HLF.ge 0 rfl) HLF.low
  ·have d0:((d:Int)==0)=false:=by simp;omega
   have HH:=z7 (q0w lead width d hlw.2.2 hd64);have HDN:=z7 (z9F lead width hlw.2.2);obtain ⟨D,hD⟩:∃D,D=64 - lead - width:=⟨_,rfl⟩;rw [←hD] at HDN;have HDD:=z7 hD;have hD64:D≤64:=by omega
   have HH0:=z7 h0;clear hD h0;go_wp2_with fail;refine (HH.out _ (HT.out _ (HL2.out.new _).low)).mono ?_;rintro e w3 ⟨rfl,hb3⟩;have HL3:=z7 ((HL2.out.new (.cells #[.int .i64 (lead:Nat), .int .i64 (width:Nat)] 408)).call hb3);clear hb3 c0 c1 c2 c3 cf r0 r1 r2 r3 rf;obtain ⟨c0,c1,c2,c3,cf⟩:=z0u (HL3.out.get 2 rfl);obtain ⟨r0,r1,r2,r3,rf⟩:=z0u (HL3.out.get 1 rfl);obtain ⟨b0,b1,bf⟩:=z0g (HL3.out.get 0 rfl);have l2:=HL3.out.lt 0 rfl;have l3:=HL3.out.lt 1 rfl;have l4:=HL3.out.lt 2 rfl;have hcl:Hid (∀w',Below w3.heap.size w3 w'→w'.cell? ⟨w.heap.size,0,none⟩=some (.bool true)∧w'.cell? ⟨w.heap.size,1,none⟩=some (.int .u64 (v:Nat))∧w'.cell? ⟨w.heap.size,2,none⟩=some (.int .u8 (lead:Nat))∧w'.cell? ⟨w.heap.size,3,none⟩=some (.int .u8 (width:Nat))∧w'.cell? ⟨w2.heap.size,0,none⟩=some (.int .i64 (lead:Nat))∧w'.cell? ⟨w2.heap.size,1,none⟩=some (.int .i64 (width:Nat))):=z7 fun w' hb=>by
    obtain ⟨c0,c1,c2,c3,cf⟩:=z0u ((HL3.out.call hb).get 2 rfl);obtain ⟨b0,b1,bf⟩:=z0g ((HL3.out.call hb).get 0 rfl);exact ⟨c0,c1,c2,c3,b0,b1⟩
   cases hin:z4x lead width d with
   | true=>
    obtain ⟨q,hq⟩:∃q,q=d/2^D:=⟨_,rfl⟩;have hq1:(d:Int)/2^D=(q:Int):=by rw [hq];simp
    have hps:Hid (z3a ⟨true,prev,lead,width⟩ v= [(2,2),(q,width)]∧(z4r ⟨true,prev,lead,width⟩ v).2=⟨true,v,lead,width⟩):=z7 (by
     unfold z3a z4r;simp [HD.out.symm,HH0.out,hin,hq,HDD.out])
    clear hq hin;go_upto_region 9 with fail
    clear c0 c1 c2 c3 cf b0 b1 bf;refine q6 11 73 (by kernel_rfl) (by kernel_rfl) rfl (by kernel_rfl) (fun D v w'=>SlS w3 358 2 8 10 #[.int .u64 2, .int .i64 2, .int .u64 (q:Nat), .int .i64 (width:Nat)] D v w') (fun _=>undef) (SlS.start _ _ _ _ _ _) ?_;simp only [List.take_succ_cons,List.take_zero,List.drop_succ_cons,List.drop_zero];iterate 3 (refine q8.read (e:=?_) (fun v=>by rfl) (fun D v w h=>⟨h.low,h.made,h.asg⟩) (fun D v w' hD hS=>?_) ?_;rotate_left;(obtain ⟨c0,c1,c2,c3,b0,b1⟩:=hcl.out w' hS.low;clear hS hD;first | (go_simp;done) | (go_simp;with_reducible rfl));go_simp)
    refine q8.call (.int .i64 (D:Nat)) (fun v=>by rfl) (fun D v w' hD hS=>?_) ?_
    ·have HS:=z7 hS;clear hS hD;go_simp;go_at_call 263;refine (HDN.out w').mono ?_;rintro e w'' ⟨rfl,hb'⟩;exact ⟨rfl,HS.out.call 3 (by decide) (by decide) hb'⟩
    go_simp;iterate 4 (refine q8.read (e:=?_) (fun v=>by rfl) (fun D v w h=>⟨h.low,h.made,h.asg⟩) (fun D v w' hD hS=>?_) ?_;rotate_left;(obtain ⟨c0,c1,c2,c3,b0,b1⟩:=hcl.out w' hS.low;clear hS hD;first | (go_simp;done) | (go_simp;with_reducible rfl));go_simp)
    refine q8.rel (fun v=>by rfl) (fun D v w' hD hS=>?_) ?_
    ·have dj:D 10=false:=hD.post 10 _ rfl (by kernel_rfl);have HS3:=z7 (SlS.make (by decide) hS dj);clear hS hD;go_simp;exact HS3.out
    go_simp;iterate 1 (refine q8.read (e:=?_) (fun v=>by rfl) (fun D v w h=>⟨h.low,h.made,h.asg⟩) (fun D v w' hD hS=>?_) ?_;rotate_left;(obtain ⟨c0,c1,c2,c3,b0,b1⟩:=hcl.out w' hS.low;clear hS hD;first | (go_simp;done) | (go_simp;with_reducible rfl));go_simp)
    refine q8.rel (fun v=>by rfl) (fun D v w' hD hS=>?_) ?_
    ·have dn:=hD.pre 8 (by kernel_rfl);have HS3:=z7 (SlS.assign (by decide) hS dn);clear hD hS dn;go_simp;first | exact HS3.out | exact ⟨_,rfl,HS3.out,trivial⟩
    go_simp;refine q8.fin (fun vv w5 hS=>?_);obtain ⟨g,hv8,hg,hgh⟩:=hS.made rfl;have hv10:=(hS.asg rfl).2.trans hv8;have HL5:=z7 (HL3.out.call hS.low);have HGH:=z7 hgh;clear hS hgh;clear hcl;obtain ⟨r0,r1,r2,r3,rf⟩:=z0u (HL5.out.get 1 rfl);rw [hv10];go_wp2;have HL6:=(((HL5.out.set 1 rfl 0 (.bool true)).set 1 rfl 1 (.int .u64 (v:Nat))).set 1 rfl 2 (.int .u8 (lead:Nat))).set 1 rfl 3 (.int .u8 (width:Nat));refine bodyPost_ret (z8v rfl _ _ (w.heap.size+1) _ _ _ _ rfl (HL6.get 1 rfl) rfl) rfl ?_;exact z9e hps.out (by rw [q7 (by omega),q7 (by omega),q7 (by omega),q7 (by omega)];exact HGH.out) rfl rfl (by omega) HL6.low
   | false=>
    have HAR:=z7 (y2l d hd64 HH0.out);obtain ⟨z1,z2,z3,z4⟩:=z7Y hd64 HH0.out;obtain ⟨A,hA⟩:∃A,A=z2Z d:=⟨_,rfl⟩;obtain ⟨S,hS⟩:∃S,S=z1E d:=⟨_,rfl⟩;obtain ⟨T,hTz⟩:∃T,T=tz d:=⟨_,rfl⟩;obtain ⟨q,hq⟩:∃q,q=d/2^T:=⟨_,rfl⟩;have hq1:(d:Int)/2^T=(q:Int):=by rw [hq];simp
    have hps:Hid (z3a ⟨true,prev,lead,width⟩ v= [(3,2),(A,5),(S - 1,6),(q,S)]∧(z4r ⟨true,prev,lead,width⟩ v).2=⟨true,v,A,S⟩):=z7 (by
     unfold z3a z4r;simp [HD.out.symm,HH0.out,hin,hq,hA,hS,hTz])
    rw [←hA,←hS] at HAR z3 z4;rw [←hA] at z2;rw [←hS] at z1;rw [←hTz] at z4;have HDN2:=z7 (z9F A S z3);rw [z4] at HDN2;have hT64:T≤64:=by omega
    have hA8:(A:Int)%256=A:=by omega
    have hS8:(S:Int)%256=S:=by omega
    have hSm:IntKind.i64.wrap ((S:Int) - 1)=((S - 1:Nat):Int):=by rw [z0n (by omega) (by omega)];omega
    have hSu:IntKind.u64.wrap ((S - 1:Nat):Int)=((S - 1:Nat):Int):=by rw [IntKind.wrap_u64];omega
    have hAu:IntKind.u64.wrap (A:Int)=(A:Int):=by rw [IntKind.wrap_u64];omega
    clear hq hin hA hS hTz z2 z3 z4 z1 hcl;go_wp2_with fail;refine (HAR.out _ (HT.out _ HL3.out.low)).mono ?_;rintro e w4 ⟨rfl,hb4⟩;have HL4:=z7 (HL3.out.call hb4);clear hb4 c0 c1 c2 c3 cf r0 r1 r2 r3 rf b0 b1 bf;obtain ⟨c0,c1,c2,c3,cf⟩:=z0u (HL4.out.get 2 rfl);obtain ⟨r0,r1,r2,r3,rf⟩:=z0u (HL4.out.get 1 rfl);obtain ⟨b0,b1,bf⟩:=z0g (HL4.out.get 0 rfl);have m2:=HL4.out.lt 0 rfl;have m3:=HL4.out.lt 1 rfl;have m4:=HL4.out.lt 2 rfl;go_wp2_with fail;go_region
    go_upto_region 12 with fail
    obtain ⟨W6,hW6,HL6⟩:=((((HL4.out.set 0 rfl 0 (.int .i64 (A:Nat))).set 0 rfl 1 (.int .i64 (S:Nat))).set 2 rfl 2 (.int .u8 (A:Nat))).set 2 rfl 3 (.int .u8 (S:Nat))).drew.named;rw [←hW6];have HL6:=z7 HL6;have hcl:Hid (∀w',Below W6.heap.size W6 w'→w'.cell? ⟨w.heap.size,0,none⟩=some (.bool true)∧w'.cell? ⟨w.heap.size,1,none⟩=some (.int .u64 (v:Nat))∧w'.cell? ⟨w.heap.size,2,none⟩=some (.int .u8 (A:Nat))∧w'.cell? ⟨w.heap.size,3,none⟩=some (.int .u8 (S:Nat))∧w'.cell? ⟨w2.heap.size,0,none⟩=some (.int .i64 (A:Nat))∧w'.cell? ⟨w2.heap.size,1,none⟩=some (.int .i64 (S:Nat))):=z7 fun w' hb=>by
     obtain ⟨c0,c1,c2,c3,cf⟩:=z0u ((HL6.out.call hb).get 2 rfl);obtain ⟨b0,b1,bf⟩:=z0g ((HL6.out.call hb).get 0 rfl);exact ⟨c0,c1,c2,c3,b0,b1⟩
    clear hW6 c0 c1 c2 c3 cf r0 r1 r2 r3 rf b0 b1 bf;refine q6 20 73 (by kernel_rfl) (by kernel_rfl) rfl (by kernel_rfl) (fun D v w'=>SlS W6 358 4 17 19 #[.int .u64 3, .int .i64 2, .int .u64 (A:Nat), .int .i64 5, .int .u64 (S - 1:Nat), .int .i64 6, .int .u64 (q:Nat), .int .i64 (S:Nat)] D v w') (fun _=>undef) (SlS.start _ _ _ _ _ _) ?_;simp only [List.take_succ_cons,List.take_zero,List.drop_succ_cons,List.drop_zero];iterate 12 (refine q8.read (e:=?_) (fun v=>by rfl) (fun D v w h=>⟨h.low,h.made,h.asg⟩) (fun D v w' hD hS=>?_) ?_;rotate_left;(obtain ⟨c0,c1,c2,c3,b0,b1⟩:=hcl.out w' hS.low;clear hS hD;first | (go_simp;done) | (go_simp;with_reducible rfl));go_simp)
    refine q8.call (.int .i64 (T:Nat)) (fun v=>by rfl) (fun D v w' hD hS=>?_) ?_
    ·have HS:=z7 hS;clear hS hD;go_simp;go_at_call 263;refine (HDN2.out w').mono ?_;rintro e w'' ⟨rfl,hb'⟩;exact ⟨rfl,HS.out.call 12 (by decide) (by decide) hb'⟩
    go_simp;iterate 4 (refine q8.read (e:=?_) (fun v=>by rfl) (fun D v w h=>⟨h.low,h.made,h.asg⟩) (fun D v w' hD hS=>?_) ?_;rotate_left;(obtain ⟨c0,c1,c2,c3,b0,b1⟩:=hcl.out w' hS.low;clear hS hD;first | (go_simp;done) | (go_simp;with_reducible rfl));go_simp)
    refine q8.rel (fun v=>by rfl) (fun D v w' hD hS=>?_) ?_
    ·have dj:D 19=false:=hD.post 19 _ rfl (by kernel_rfl);have HS3:=z7 (SlS.make (by decide) hS dj);clear hS hD;go_simp;exact HS3.out
    go_simp;iterate 1 (refine q8.read (e:=?_) (fun v=>by rfl) (fun D v w h=>⟨h.low,h.made,h.asg⟩) (fun D v w' hD hS=>?_) ?_;rotate_left;(obtain ⟨c0,c1,c2,c3,b0,b1⟩:=hcl.out w' hS.low;clear hS hD;first | (go_simp;done) | (go_simp;with_reducible rfl));go_simp)
    refine q8.rel (fun v=>by rfl) (fun D v w' hD hS=>?_) ?_
    ·have dn:=hD.pre 17 (by kernel_rfl);have HS3:=z7 (SlS.assign (by decide) hS dn);clear hD hS dn;go_simp;first | exact HS3.out | exact ⟨_,rfl,HS3.out,trivial⟩
    go_simp;refine q8.fin (fun vv w7 hS=>?_);obtain ⟨g,hv8,hg,hgh⟩:=hS.made rfl;have hv10:=(hS.asg rfl).2.trans hv8;have HL7:=z7 (HL6.out.call hS.low);have HGH:=z7 hgh;have hsz:=HL6.out.lt 1 rfl;clear hS hgh hcl;obtain ⟨r0,r1,r2,r3,rf⟩:=z0u (HL7.out.get 1 rfl);rw [hv10];go_wp2;have HL8:=(((HL7.out.set 1 rfl 0 (.bool true)).set 1 rfl 1 (.int .u64 (v:Nat))).set 1 rfl 2 (.int .u8 (A:Nat))).set 1 rfl 3 (.int .u8 (S:Nat));refine bodyPost_ret (z8v rfl _ _ (w.heap.size+1) _ _ _ _ rfl (HL8.get 1 rfl) rfl) rfl ?_;exact z9e hps.out (by rw [q7 (by omega),q7 (by omega),q7 (by omega),q7 (by omega)];exact HGH.out) rfl rfl (by omega) HL8.low
theorem z3R{w:World}{base e size n:Nat}{v:Value}{xs:List Value}(h:w.ownsRow base e size v n xs):w.drew.ownsRow base e size v n xs:=j7 h fun _ _=>rfl
theorem q1Q{ps:List (Nat×Nat)}{k:Nat}{p:Nat×Nat}(h:ps[k]? =some p):(z5N ps)[k*2]? =some (.int .u64 (p.1:Nat))∧(z5N ps)[k*2+1]? =some (.int .i64 (p.2:Nat)):=by
 induction ps generalizing k with
 | nil=>simp at h
 | cons q ps ih=>
  unfold z5N at ih ⊢;rw [List.flatMap_cons];cases k with
  | zero=>
   simp only [List.getElem?_cons_zero,Option.some.injEq] at h;subst h;exact ⟨rfl,rfl⟩
  | succ k=>
   rw [List.getElem?_cons_succ] at h;obtain ⟨h1,h2⟩:=ih h;rw [show (k+1)*2=k*2+2 by omega];exact ⟨h1,h2⟩
theorem y3q{ps:List (Nat×Nat)}{k:Nat}{p:Nat×Nat}(h:ps[k]? =some p):z3E (ps.take (k+1))=z3E (ps.take k)++z2L p.1 p.2:=by
 unfold z3E;rw [List.take_add_one,h];simp
theorem y7Q(s:z4B)(v:Nat):0<(z3a s v).length∧(z3a s v).length≤4:=by
 unfold z3a;split
 ·exact ⟨by simp,by simp⟩
 ·split
  ·exact ⟨by simp,by simp⟩
  ·split
   ·exact ⟨by simp,by simp⟩
   ·exact ⟨by simp,by simp⟩
def z9W(W:World)(l:List Bool)(s:z4B)(e:Ending)(w':World):Prop:=
 ∃a n c b,e= .returned (.tuple #[.agg #[.slice a n c, .int .i64 l.length], .agg #[.bool s.has, .int .u64 (s.prev:Nat), .int .u8 (s.lead:Nat), .int .u8 (s.width:Nat)], .int .u16 0])∧w'.ownsRow W.heap.size 5 1 (.slice a n c) n (z0b b)∧n=b.length∧z0U b l∧Below W.heap.size W w'
theorem q2G(a:Option Addr)(n c:Nat)(l:List Bool)(b:List UInt8)(has:Bool)(prev lead width v:Nat)(hs:z1c ⟨has,prev,lead,width⟩=true)(hp:prev<18446744073709551616)(hv:v<18446744073709551616)(w:World)(h:z0o w a n c l b)(hl:l.length≤549755813000)(hT:z1m w):
  Calls Tryz.prog 153 #[.agg #[.slice a n c, .int .i64 l.length], .agg #[.bool has, .int .u64 (prev:Nat), .int .u8 (lead:Nat), .int .u8 (width:Nat)], .int .u64 (v:Nat)] w (z9W w (l++(z4r ⟨has,prev,lead,width⟩ v).1) (z4r ⟨has,prev,lead,width⟩ v).2):=by
 have hlw:lead<256∧width<256:=by
  cases has with
  | false=>
   have:z1c ⟨false,prev,lead,width⟩=decide (prev=0∧lead=0∧width=0):=by unfold z1c zeroV;simp
   rw [this] at hs;have:=of_decide_eq_true hs;omega
  | true=>
   unfold z1c at hs;simp only [if_true] at hs;have:=of_decide_eq_true hs;omega
 obtain ⟨N,hN⟩:∃N,N=l.length:=⟨_,rfl⟩;rw [←hN];have HWR:=z7 (fun w' (hb:z0o w' a n c l b)=>y4x a n c l b has prev lead width hlw.1 hlw.2 hs w' hb (by omega));rw [←hN] at HWR;have HWT:=z7 (fun w'=>q0j has prev lead width v hs hp hv w');have HPK:=z7 (q0a hs hv hp);obtain ⟨s,hse⟩:∃s,s=(⟨has,prev,lead,width⟩:z4B):=⟨_,rfl⟩;rw [←hse] at HPK HWT ⊢;have hpx:=y6Z s v;have hfew:=y7Q s v;rw [←hpx];obtain ⟨ps,hps⟩:∃ps,ps=z3a s v:=⟨_,rfl⟩;obtain ⟨s2,hs2⟩:∃s2,s2=(z4r s v).2:=⟨_,rfl⟩;obtain ⟨sh,sp,sl,sw⟩:=s2;unfold z8V at HWT;rw [←hps] at HPK hfew ⊢;rw [←hps,←hs2] at HWT;rw [←hs2];simp only at HWT;obtain ⟨m,hm⟩:∃m,m=ps.length:=⟨_,rfl⟩;rw [←hm] at HWT hfew;have H:=z7 h;have HN:=z7 hN;have HM:=z7 hm;have HT:=z7 (fun w' (hb:Below w.heap.size w w')=>hT.low hb);have hNl:N≤549755813000:=by omega
 have HL0:=z7 (((((Loc.start w).new (.cells #[.slice a n c, .int .i64 (N:Nat)] 48)).new' (.cells #[.bool has, .int .u64 (prev:Nat), .int .u8 (lead:Nat), .int .u8 (width:Nat)] 137) (n:=w.heap.size+1) (by simp)).new' (.cells #[.slice none 0 0, .int .i64 0] 48) (n:=w.heap.size+1+1) (by simp)).new' (.cells #[.bool false, .int .u64 0, .int .u8 0, .int .u8 0] 137) (n:=w.heap.size+1+1+1) (by simp));clear hs hp hv h hl hT hlw hN hse hpx hps hs2 hm;go_enter Tryz.func153,Tryz.ntmps153;go_wp2_with fail;refine (HWR.out _ (H.out.low HL0.out.low)).mono ?_;rintro e w2 ⟨rfl,hb2⟩;have HL2:=z7 (HL0.out.call hb2);clear hb2;obtain ⟨c0,c1,c2,c3,cf⟩:=z0u (HL2.out.get 2 rfl);go_wp2_with fail;refine (HWT.out _ (HT.out _ HL2.out.low)).mono ?_;rintro e w3 ⟨g,cs,rfl,hg,hcs,hge,hb3⟩;have HL3:=z7 (HL2.out.add hb3 hg hge);have HCS:=z7 hcs;clear hb3 hg hge hcs c0 c1 c2 c3 cf;obtain ⟨c0,c1,c2,c3,cf⟩:=z0u (HL3.out.get 3 rfl);go_wp2_with fail;obtain ⟨W4,hW4,HL4⟩:=((((HL3.out.set 3 rfl 0 (.bool sh)).set 3 rfl 1 (.int .u64 (sp:Nat))).set 3 rfl 2 (.int .u8 (sl:Nat))).set 3 rfl 3 (.int .u8 (sw:Nat))).named;rw [←hW4];have HL4:=z7 (show Loc w [(g, .cells cs 358 (0,0)),(w.heap.size+1+1+1, .cells #[.bool false, .int .u64 0, .int .u8 0, .int .u8 0] 137 (0,0)),(w.heap.size+1+1, .cells #[.slice none 0 0, .int .i64 0] 48 (0,0)),(w.heap.size+1, .cells #[.bool sh, .int .u64 (sp:Nat), .int .u8 (sl:Nat), .int .u8 (sw:Nat)] 137 (0,0)),(w.heap.size, .cells #[.slice a n c, .int .i64 (N:Nat)] 48 (0,0))] W4 from HL4)
 clear hW4 c0 c1 c2 c3 cf;go_loopw [29] (fun kv wr=>∃k ak nk ck bk Nk,kv= .int .i64 (k:Nat)∧k≤m∧Nk≤N+64*k∧Hid (Loc w [(g, .cells cs 358 (0,0)),(w.heap.size+1+1+1, .cells #[.bool false, .int .u64 0, .int .u8 0, .int .u8 0] 137 (0,0)),(w.heap.size+1+1, .cells #[.slice none 0 0, .int .i64 0] 48 (0,0)),(w.heap.size+1, .cells #[.bool sh, .int .u64 (sp:Nat), .int .u8 (sl:Nat), .int .u8 (sw:Nat)] 137 (0,0)),(w.heap.size, .cells #[.slice ak nk ck, .int .i64 (Nk:Nat)] 48 (0,0))] wr)∧
   Hid (Nk=(l++z3E (ps.take k)).length)∧Hid (z0o wr ak nk ck (l++z3E (ps.take k)) bk)∧Hid (k=0∨wr.ownsRow (w.heap.size+1+1+1+1) 5 1 (.slice ak nk ck) nk (z0b bk))) (fun kv _=>match kv with | .int _ x=>m - x.toNat | _=>0)
 case atStart=>exact ⟨0,a,n,c,b,N,rfl,Nat.zero_le _,by omega,HL4,z7 (by simpa [z3E] using HN.out),z7 (by simpa [z3E] using H.out.low HL4.out.low),z7 (.inl rfl)⟩
 case round=>
  obtain ⟨k,ak,nk,ck,bk,Nk,rfl,hk,hNk,hLk,hNe,hBk,hOw⟩:=hrel;clear HL4;obtain ⟨c0,c1,cf⟩:=z0g (hLk.out.get 4 rfl);have l0:=hLk.out.lt 4 rfl;by_cases hkm:k<m
  ·have d0:(k:Int)<m:=by omega
   obtain ⟨p,hpk⟩:∃p,ps[k]? =some p:=⟨_,List.getElem?_eq_getElem (by have:=HM.out;omega)⟩;obtain ⟨pv,pw⟩:=p;have hpe:=q1Q hpk;rw [←HCS.out] at hpe;have hg:=hLk.out.get 0 rfl;have g0:wr.cell? ⟨g,k*2,none⟩=some (.int .u64 (pv:Nat)):=by rw [cell_of_row wr g (k*2) _ _ (0,0) hg];simpa using hpe.1
   have g1:wr.cell? ⟨g,k*2+1,none⟩=some (.int .i64 (pw:Nat)):=by rw [cell_of_row wr g (k*2+1) _ _ (0,0) hg];simpa using hpe.2
   obtain ⟨hpv,hpw⟩:=HPK.out _ (List.mem_of_getElem? hpk);simp only at hpv hpw;have hwk:IntKind.i64.wrap ((k:Int)+1)=((k+1:Nat):Int):=z0n (by omega) (by omega);obtain ⟨k',hk'⟩:∃k',k'=k+1:=⟨_,rfl⟩;rw [←hk'] at hwk;have htk:Hid (l++z3E (ps.take k')=(l++z3E (ps.take k))++z2L pv pw):=z7 (by rw [hk',y3q hpk,List.append_assoc]);have HLp:=z7 (hLk.out.new (.cells #[.int .u64 (pv:Nat), .int .i64 (pw:Nat)] 358));have hP:=y2B ak nk ck (l++z3E (ps.take k)) bk pv pw (wr.alloc (.cells #[.int .u64 (pv:Nat), .int .i64 (pw:Nat)] 358)) (hBk.out.low (q5 _ _)) (by rw [←hNe.out];omega) hpv hpw;rw [←hNe.out,←htk.out] at hP;have HP:=z7 hP;have hk'm:k'≤m∧k<k':=by omega
   have hN2:Nk+pw≤N+64*k':=by omega
   have hNl2:Hid ((l++z3E (ps.take k')).length=Nk+pw):=z7 (by rw [htk.out,List.length_append,←hNe.out,z0P]);have HSZ:=z7 (hLk.out.ge 1 rfl);clear hg hpe hpk hP hk' hBk hOw;go_wp2_with fail;refine HP.out.mono ?_;rintro e w6 ⟨a6,n6,c6,b6,rfl,hrow6,hn6,hbits6,hb6⟩;have HL6:=z7 (HLp.out.call hb6).less;have HROW:=z7 hrow6;have HLN:=z7 hn6;have HBITS:=z7 hbits6;rw [hNl2.out];obtain ⟨N6,hN6⟩:∃N6,N6=Nk+pw:=⟨_,rfl⟩;rw [←hN6] at hN2 hNl2 ⊢;have hbs:Hid (w.heap.size+1+1+1+1≤(wr.alloc (.cells #[.int .u64 (pv:Nat), .int .i64 (pw:Nat)] 358)).heap.size):=z7 (by have:=hLk.out.lt 1 rfl;simp;omega);clear hrow6 hn6 hbits6 hb6 hN6 c0 c1 cf g0 g1;obtain ⟨c0,c1,cf⟩:=z0g (HL6.out.get 4 rfl);go_wp2;have hne:∀q,(Value.slice a6 n6 c6).ownBlock=some q→q≠w.heap.size:=fun q hq=>by have:=(HROW.out.lt q hq).1;have:=hbs.out;omega
   have hro:=z0i (j7 (j7 HROW.out fun q hq=>q7 (o:=0) (u:= .slice a6 n6 c6) (hne q hq)) fun q hq=>q7 (o:=1) (u:= .int .i64 (N6:Nat)) (hne q hq)) hbs.out;exact ⟨⟨k',a6,n6,c6,b6,N6,rfl,hk'm.1,hN2,z7 ((HL6.out.set 4 rfl 0 (.slice a6 n6 c6)).set 4 rfl 1 (.int .i64 (N6:Nat))),z7 hNl2.out.symm,z7 (z4O hro HLN.out HBITS.out),z7 (.inr hro)⟩,by show m - (k':Int).toNat<m - (k:Int).toNat;omega⟩
  ·obtain rfl:k=m:=by omega
   have d0:decide ((k:Int)<k)=false:=decide_eq_false (by omega);obtain ⟨v0,v1,v2,v3,vf⟩:=z0u (hLk.out.get 3 rfl);obtain ⟨r0,r1,rf⟩:=z0g (hLk.out.get 2 rfl);obtain ⟨q0,q1,q2,q3,qf⟩:=z0u (hLk.out.get 1 rfl);have l1:=hLk.out.lt 3 rfl;have l2:=hLk.out.lt 2 rfl;have l3:=hLk.out.lt 1 rfl;go_wp2_with fail;go_region
   go_wp2;have HL9:=((((((hLk.out.set 2 rfl 0 (.slice ak nk ck)).set 2 rfl 1 (.int .i64 (Nk:Nat))).set 1 rfl 0 (.bool sh)).set 1 rfl 1 (.int .u64 (sp:Nat))).set 1 rfl 2 (.int .u8 (sl:Nat))).set 1 rfl 3 (.int .u8 (sw:Nat))).drew;refine bodyPost_ret (y9n rfl _ _ (w.heap.size+1+1) _ _ rfl (HL9.get 2 rfl) rfl (w.heap.size+1+1+1) _ _ _ _ rfl (HL9.get 1 rfl) rfl) rfl ?_;have htk:ps.take k=ps:=List.take_of_length_le (by have:=HM.out;omega);have hNe':=hNe.out;have hBk':=hBk.out;rw [htk] at hNe' hBk';rcases hOw.out with h0 | hrow
   ·omega
   ·have hne:∀q,(Value.slice ak nk ck).ownBlock=some q→q≠w.heap.size+1+1∧q≠w.heap.size+1+1+1:=fun q hq=>by have:=(hrow.lt q hq).1;omega
    refine ⟨ak,nk,ck,bk,by rw [←hNe'];rfl,?_,hBk'.len,hBk'.bits,HL9.low⟩;have e1:=j7 hrow fun q hq=>q7 (o:=0) (u:= .slice ak nk ck) (hne q hq).1;have e2:=j7 e1 fun q hq=>q7 (o:=1) (u:= .int .i64 (Nk:Nat)) (hne q hq).1;have e3:=j7 e2 fun q hq=>q7 (o:=0) (u:= .bool sh) (hne q hq).2;have e4:=j7 e3 fun q hq=>q7 (o:=1) (u:= .int .u64 (sp:Nat)) (hne q hq).2;have e5:=j7 e4 fun q hq=>q7 (o:=2) (u:= .int .u8 (sl:Nat)) (hne q hq).2;have e6:=j7 e5 fun q hq=>q7 (o:=3) (u:= .int .u8 (sw:Nat)) (hne q hq).2;exact z0i (z3R e6) (by omega)
def y6Q(w:World)(q:Nat)(o o':Obj)(w':World):Prop:=∀w0 K i,Loc w0 K w→K[i]? =some (q,o)→Loc w0 (K.set i (q,o')) w'
theorem y6Q.same(w:World)(q:Nat)(o:Obj):y6Q w q o o w:=fun w0 K i h hi=>by
 have hlt:=(List.getElem?_eq_some_iff.1 hi).1;have:K.set i (q,o)=K:=by
  apply List.ext_getElem?;intro j;by_cases hj:j=i
  ·subst hj;rw [List.getElem?_set_self hlt,hi]
  ·rw [List.getElem?_set_ne (Ne.symm hj)]
 rw [this];exact h
def tkN(e:Nat)(l:List Bool)(p w:Nat):Nat:=if e=0 then z2r l p w else 0
def tkE(e:Nat)(l:List Bool)(p w:Nat):Nat:=if e=0 then z1S l p w else e
def tkP(e:Nat)(p w:Nat):Nat:=if e=0 then p+w else p
def z0j(a:Option Addr)(n c N p e:Nat):Obj:= .cells #[.slice a n c, .int .i64 (N:Nat), .int .i64 (p:Nat), .int .u16 (e:Nat)] 428 (0,0)
theorem z5q(l:List Bool)(p w:Nat):z1S l p w<100:=by unfold z1S;split<;>decide
theorem y8W(l:List Bool)(p w:Nat)(hw:w≤64):z2r l p w<18446744073709551616:=by
 unfold z2r;split
 ·exact Nat.lt_of_lt_of_le (z5m _) (Nat.pow_le_pow_right (by decide) (by simp;omega):2^_≤2^64)
 ·decide
theorem y2z(e:Nat)(l:List Bool)(p w:Nat)(hw:w≤64):tkN e l p w<18446744073709551616:=by
 unfold tkN;split
 ·exact y8W l p w hw
 ·decide
theorem z6Y(e:Nat)(l:List Bool)(p w:Nat):tkN e l p w<2^w:=by
 unfold tkN z2r;split
 ·split
  ·exact Nat.lt_of_lt_of_le (z5m _) (Nat.pow_le_pow_right (by decide) (by simp;omega))
  ·exact Nat.two_pow_pos _
 ·exact Nat.two_pow_pos _
theorem y6m(q:Nat)(a:Option Addr)(n c:Nat)(l:List Bool)(b:List UInt8)(p er width:Nat)(w:World)(h:z0o w a n c l b)(hl:l.length≤549755813888)(hp:p≤1099511627000)(he:er<100)(hw:width≤64)(hq:w.heap[q]? =some (z0j a n c l.length p er)):
  Calls Tryz.prog 277 #[.pointer (some ⟨q,0,none⟩), .int .i64 (width:Nat)] w fun e w'=>e= .returned (.int .u64 (tkN er l p width:Nat))∧y6Q w q (z0j a n c l.length p er) (z0j a n c l.length (tkP er p width) (tkE er l p width)) w':=by
 obtain ⟨N,hN⟩:∃N,N=l.length:=⟨_,rfl⟩;rw [←hN] at hq ⊢;have hql:=(Array.getElem?_eq_some_iff.1 hq).1;obtain ⟨c0,c1,c2,c3,cf⟩:=z0u hq;by_cases h0:er=0
 ·subst h0;have e1:tkN 0 l p width=z2r l p width:=rfl;have e2:tkE 0 l p width=z1S l p width:=rfl;have e3:tkP 0 p width=p+width:=rfl;rw [e1,e2,e3];obtain ⟨p',hp'⟩:∃p',p'=p+width:=⟨_,rfl⟩;rw [←hp'];have hwp:IntKind.i64.wrap ((p:Int)+width)=(p':Int):=by rw [z0n (by omega) (by omega)];omega
  have hcl:Hid (∀w',Below w.heap.size w w'→w'.heap[q]? =some (z0j a n c N p 0)):=z7 fun w' hb=>(hb.block q hql).trans hq;have hG:Hid (∀w',z0o w' a n c l b→Calls Tryz.prog 275 #[.agg #[.slice a n c, .int .i64 (N:Nat)], .int .i64 (p:Nat), .int .i64 (width:Nat)] w' fun e w''=>e= .returned (.tuple #[.int .u64 (z2r l p width:Nat), .int .u16 (z1S l p width:Nat)])∧Below w'.heap.size w' w''):=z7 fun w' hb=>by
   have:=y0B a n c l b p width w' hb hl (by omega) hw;rw [←hN] at this;exact this
  have H:=z7 h;obtain ⟨E0,hE0⟩:∃E0,E0=z1S l p width:=⟨_,rfl⟩;obtain ⟨N0,hN0⟩:∃N0,N0=z2r l p width:=⟨_,rfl⟩;rw [←hE0,←hN0] at hG ⊢;clear e1 e2 e3 hp' hq h hE0 hN0 hl he hw hN;go_enter Tryz.func277,Tryz.ntmps277;go_wp2_with fail;clear c0 c1 c2 c3 cf;refine q6 17 36 (by kernel_rfl) (by kernel_rfl) rfl (by kernel_rfl) (fun D v w'=>Below w.heap.size w w') (fun _=>undef) (Below.refl _ _).drew ?_;simp only [List.take_succ_cons,List.take_zero,List.drop_succ_cons,List.drop_zero];iterate 10 (refine q8.rd (e:=?_) (fun D v w' hD hS=>?_) ?_;rotate_left;(obtain ⟨c0,c1,c2,c3,cf⟩:=z0u (hcl.out w' hS);clear hS hD;first | (go_simp;done) | (go_simp;with_reducible rfl));go_simp)
  refine q8.call (.tuple #[.int .u64 (N0:Nat), .int .u16 (E0:Nat)]) (fun v=>by rfl) (fun D v w' hD hS=>?_) ?_
  ·have HS:=z7 hS;clear hS hD;go_simp;go_at_call 275;refine (hG.out w' (H.out.low HS.out)).mono ?_;rintro e w'' ⟨rfl,hb'⟩;exact ⟨rfl,HS.out.trans (hb'.mono HS.out.size)⟩
  go_simp;iterate 6 (refine q8.rd (e:=?_) (fun D v w' hD hS=>?_) ?_;rotate_left;(obtain ⟨c0,c1,c2,c3,cf⟩:=z0u (hcl.out w' hS);clear hS hD;first | (go_simp;done) | (go_simp;with_reducible rfl));go_simp)
  refine q8.fin (fun v w5 hS=>?_);have HB:=z7 hS;obtain ⟨c0,c1,c2,c3,cf⟩:=z0u (hcl.out w5 hS);clear hS;go_wp2;go_ret;refine ⟨rfl,fun w0 K i hL hi=>?_⟩;have h1:=(hL.call HB.out).set i hi 3 (.int .u16 (E0:Nat));have h2:=h1.set i (by rw [List.getElem?_set_self (List.getElem?_eq_some_iff.1 hi).1]) 2 (.int .i64 (p':Nat));rw [List.set_set] at h2;exact h2
 ·have h0':((er:Int)==0)=false:=by simp;omega
  have e1:tkN er l p width=0:=if_neg h0;have e2:tkE er l p width=er:=if_neg h0;have e3:tkP er p width=p:=if_neg h0;rw [e1,e2,e3];have HT:=z7 (y6Q.same w q (z0j a n c N p er));clear e1 e2 e3 h hq hN;go_enter Tryz.func277,Tryz.ntmps277;go_wp2;go_ret;exact ⟨rfl,HT.out⟩
theorem z4U(q:Nat)(a:Option Addr)(n c N p er v:Nat)(sh:Bool)(sp sl sw:Nat)(w:World)(he:er<100)(hq:w.heap[q]? =some (z0j a n c N p er)):
  Calls Tryz.prog 278 #[.pointer (some ⟨q,0,none⟩), .int .u64 (v:Nat), .agg #[.bool sh, .int .u64 (sp:Nat), .int .u8 (sl:Nat), .int .u8 (sw:Nat)]] w fun e w'=>
   (er=0→e= .returned (.tuple #[.int .u64 (v:Nat), .int .i64 (p:Nat), .agg #[.bool sh, .int .u64 (sp:Nat), .int .u8 (sl:Nat), .int .u8 (sw:Nat)], .int .u16 0]))∧
   (er≠0→e= .returned (.tuple #[.int .u64 0, .int .i64 0, .agg #[.bool false, .int .u64 0, .int .u8 0, .int .u8 0], .int .u16 (er:Nat)]))∧Below w.heap.size w w':=by
 have hql:=(Array.getElem?_eq_some_iff.1 hq).1;obtain ⟨c0,c1,c2,c3,cf⟩:=z0u hq;have hqn:q≠w.heap.size∧q≠w.heap.size+1:=by omega
 by_cases h0:er=0
 ·subst h0;have HL:=z7 (((Loc.start w).new (.cells #[.bool sh, .int .u64 (sp:Nat), .int .u8 (sl:Nat), .int .u8 (sw:Nat)] 137)).new' (.cells #[.bool sh, .int .u64 (sp:Nat), .int .u8 (sl:Nat), .int .u8 (sw:Nat)] 137) (n:=w.heap.size+1) (by simp)).drew;clear hq;go_enter Tryz.func278,Tryz.ntmps278;go_wp2_with fail;go_region
  go_wp2;refine bodyPost_ret (z2p rfl _ _ (w.heap.size+1) _ _ _ _ rfl (HL.out.get 0 rfl) rfl) rfl ?_;exact ⟨fun _=>rfl,fun h=>absurd rfl h,HL.out.low⟩
 ·have h0':((er:Int)==0)=false:=by simp;omega
  have HL:=z7 (((Loc.start w).new (.cells #[.bool sh, .int .u64 (sp:Nat), .int .u8 (sl:Nat), .int .u8 (sw:Nat)] 137)).new' (.cells #[.bool false, .int .u64 0, .int .u8 0, .int .u8 0] 137) (n:=w.heap.size+1) (by simp)).drew;have H0:=z7 h0;clear hq h0;go_enter Tryz.func278,Tryz.ntmps278;go_wp2_with fail;go_region
  go_wp2;refine bodyPost_ret (z2p rfl _ _ (w.heap.size+1) _ _ _ _ rfl (HL.out.get 0 rfl) rfl) rfl ?_;exact ⟨fun h=>absurd h H0.out,fun _=>rfl,HL.out.low⟩
end Go.Proofs.YtfcnapnopdomhaaGreatDoor

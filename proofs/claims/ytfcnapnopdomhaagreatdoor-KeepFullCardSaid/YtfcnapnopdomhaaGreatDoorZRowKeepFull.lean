/-
  KeepFull returns true for every input, and leaves its arguments as they were. No condition.
-/
import Derived.Test.YtfcnapnopdomhaaGreatDoorZKfAKfBKfC
import Derived.Test.YtfcnapnopdomhaaGreatDoorCards
import Derived.Test.YtfcnapnopdomhaaGreatDoorTie
import Derived.LaidMore
import Derived.Lay
import Derived.SevenTiedAt
import Derived.Stop.Joined
namespace Go.Proofs.YtfcnapnopdomhaaGreatDoor
set_option linter.unusedSimpArgs false
set_option linter.unusedVariables false
set_option maxRecDepth 100000
set_option maxHeartbeats 12800000
open Go.RowKit Go.ChangeShapes Go.WideShapes Go.ChangeAt Go.Deep
theorem z9z(os:Os)(started:os.Started)(H:Type)(enc:TypeId×Value→H):
  ReturnsInHanded {} Tryz.checked os 3 .any (fun w args=>(Rows.keepFullSpec.pre enc Tryz.prog Tryz.f3 Rows.keepFullRow.domain false w args∧laidMetH Tryz.prog Rows.keepFullRow.laid w)∧sizedMet enc Tryz.prog Tryz.f3 (OpenSpec.ofChange Rows.keepFullSpec) false w args)
   (Rows.keepFullSpec.post enc Tryz.prog Tryz.f3 false true false false):=by
 refine returnsInHanded_of_change_and (C:=Tryz.checked) (X:=fun w _=>laidMetH Tryz.prog Rows.keepFullRow.laid w) (fun _ _ _ hh h=>h.of_heap hh) own started (by kernel_rfl) Tryz.func3
  (ChangeSpec.witness_shaped (enc:=enc) (C:=Tryz.checked) (os:=os) (X:=fun w _=>laidMetH Tryz.prog Rows.keepFullRow.laid w) false (World.laidAll Tryz.prog os Rows.keepFullRow.laid) #[.int .u16 0, .int .i64 0, .slice none 0 0] 8 (World.laidAll_os _ _ _)
   (World.shaped_of_ZipB (by kernel_rfl) (by kernel_rfl)) (by kernel_rfl) (by kernel_rfl) (by kernel_rfl)
   (by rw [MakeChecks.laidMetH_plain _ _ _ (by kernel_rfl)];exact laidMet_laidAll _ (by kernel_rfl) (by kernel_rfl))) ?_
 intro W base args ds gs before hval0 hW hcnd _ hL _;have hval:∀(j:Nat) t v,Tryz.f3.params[j]? =some t→args[j]? =some v→Value.okWide Tryz.prog W .any base t v:=hval0;have hW':=hW;obtain ⟨p,q,hA0,hV,rfl,hfz,hnd⟩:=hW;have hA:DataW.TrodAll enc Tryz.prog W 0 (fun _=>true) true Tryz.f3.params.toList args.toList ds p:=hA0;rw [Tryz.params3] at hA hval;obtain ⟨v0,v1,v2,d0,d1,d2,p0,p1,p2,rfl,rfl,rfl,h0,h1,⟨f2,h2⟩⟩:=trodAll_three hA;obtain ⟨rfl,rfl⟩:=trodVars_none hV;obtain ⟨n0,rfl,rfl,rfl,wt0⟩:=open_int Tryz.underlying22 (hval 0 22 v0 rfl rfl) h0;obtain ⟨n1,rfl,rfl,rfl,wt1⟩:=open_int Tryz.underlying3 (hval 1 3 v1 rfl rfl) h1;obtain ⟨x2,b2,e2,hx2⟩:=y5e h2;obtain ⟨a2,l2,c2,rfl⟩:=okWide_slice Tryz.underlying23 (hval 2 23 v2 rfl rfl);obtain rfl:x2= .slice a2 l2 c2:=by simpa [Value.cells] using e2.symm
 obtain ⟨a3,l3,c3,he3,ho2,hok2,hm2⟩:=hx2;cases he3;obtain ⟨m0,rfl⟩:∃m:Nat,n0=m:=⟨n0.toNat,by have:=wf_u16 wt0;omega⟩;have hm0:m0<65536:=by have:=wf_u16 wt0;omega
 have hs1: -9223372036854775808≤n1∧n1≤9223372036854775807:=by have:=wf_i64 wt1;omega
 refine (y2p m0 hm0 n1 hs1 a2 l2 c2 b2 hok2 W ho2 (y5h hL)).mono fun e W' ⟨he,hb⟩=>?_;subst he;exact ⟨_,rfl,q0Q hW' hb rfl (by kernel_rfl) rfl (by kernel_rfl)⟩
theorem keepFull_holds:Rows.KeepFullSaid:=
 OpenClaim.holds_of_wide 3 Tryz.f3 rfl rfl rfl rfl rfl rfl rfl ⟨rfl,rfl,rfl,rfl,rfl⟩ rfl rfl rfl rfl rfl (by as_aux_lemma=>kernel_rfl) Tryz.func3 (by unfold joinedFacts;(repeat' with_reducible refine Bool.and_eq_true_iff.2 ⟨?_,?_⟩);all_goals (as_aux_lemma=>kernel_rfl))
  (of_decide_eq_true (by as_aux_lemma=>kernel_rfl)) (by unfold Func.isWrapper;first | (rw [if_pos (by decide+kernel)];kernel_rfl) | (rw [if_neg (by decide+kernel)];exact ⟨rfl,rfl⟩))
  (fun os started H enc _=>z9z os started H enc)
theorem keepFull_card:Rows.KeepFullCardSaid:=
 Claim7.holds_tied_plain_at .later [] [.data, .data, .pinned] true (true, "78d75ac4598d3a5a1c02bc668b687222219c68a62719af5c775d249fb2060df5") true keepFull_holds (fun _ h=>by cases h) (by as_aux_lemma=>kernel_rfl) (fun _ h=>by cases h) keepFull_row_tie rfl ⟨rfl,rfl⟩ (by as_aux_lemma=>kernel_rfl) rfl
  (fun f fn hf hfn=>by
   obtain rfl:f=3:=Option.some.inj ((show Tryz.prog.funcNamed "drayman/draymanlaw18.KeepFull" =some 3 by as_aux_lemma=>kernel_rfl).symm.trans hf) |>.symm;obtain rfl:fn=Tryz.f3:=(Option.some.inj (Tryz.func3.symm.trans hfn)).symm;exact ⟨by as_aux_lemma=>kernel_rfl,fun j t ht=>by
    rw [Tryz.params3] at ht;have hm:t∈ [22,3,23]:=by simpa using Array.mem_of_getElem? ht
    have hall:([22,3,23].all fun u=>!Tryz.prog.wantsStandIn u)=true:=by as_aux_lemma=>kernel_rfl
    exact (show Tryz.prog.wantsStandIn t=false by simpa using List.all_eq_true.1 hall t hm)⟩)
  (by as_aux_lemma=>kernel_rfl)
#print axioms keepFull_card
end Go.Proofs.YtfcnapnopdomhaaGreatDoor

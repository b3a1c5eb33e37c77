/-
  KeepRefuses returns true for every input, and leaves its arguments as they were. No condition.
-/
import Derived.Test.YtpocjegemokjgaaGreatDoorZKrD
import Derived.Test.YtpocjegemokjgaaGreatDoorCards
import Derived.Test.YtpocjegemokjgaaGreatDoorTie
import Derived.LaidMore
import Derived.Lay
import Derived.SevenTiedAt
import Derived.Stop.Joined
namespace Go.Proofs.YtpocjegemokjgaaGreatDoor
open Go.Proofs.Tryz
set_option linter.all false
set_option maxRecDepth 100000
set_option maxHeartbeats 12800000
open Go.RowKit Go.ChangeShapes Go.WideShapes Go.ChangeAt Go.Deep
theorem z8G(os:Os)(started:os.Started)(H:Type)(enc:TypeId×Value->H):
  ReturnsInHanded {} Tryz.checked os 3 .any (fun w args=>(Rows.keepRefusesSpec.pre enc prog Tryz.f3 Rows.keepRefusesRow.domain false w args/\laidMetH prog Rows.keepRefusesRow.laid w)/\sizedMet enc prog Tryz.f3 (OpenSpec.ofChange Rows.keepRefusesSpec) false w args)
   (Rows.keepRefusesSpec.post enc prog Tryz.f3 false true false false):=by
 refine returnsInHanded_of_change_and (C:=Tryz.checked) (X:=fun w _=>laidMetH prog Rows.keepRefusesRow.laid w) (fun _ _ _ hh h=>h.of_heap hh) own started (by kernel_rfl) func3
  (ChangeSpec.witness_shaped (enc:=enc) (C:=Tryz.checked) (os:=os) (X:=fun w _=>laidMetH prog Rows.keepRefusesRow.laid w) false (World.laidAll prog os Rows.keepRefusesRow.laid) #[.int .i64 0,.slice none 0 0,.slice none 0 0] 8 (World.laidAll_os _ _ _)
   (World.shaped_of_ZipB (by kernel_rfl) (by kernel_rfl)) (by kernel_rfl) (by kernel_rfl) (by kernel_rfl)
   (by rw[MakeChecks.laidMetH_plain _ _ _ (by kernel_rfl)];exact laidMet_laidAll _ (by kernel_rfl) (by kernel_rfl))) ?_
 intro W base args ds gs before B hW a4 _ hL _;have A:∀(j:Nat) t v,Tryz.f3.params[j]? =some t->args[j]? =some v->Value.okWide prog W .any base t v:=B;have L:=hW;obtain⟨p,q,J,hV,rfl,a5,a8⟩:=hW;have hA:DataW.TrodAll enc prog W 0 (fun _=>true) true Tryz.f3.params.toList args.toList ds p:=J;rw[Tryz.params3]at hA A;obtain⟨v0,v1,v2,d0,d1,d2,p0,p1,p2,rfl,rfl,rfl,h0,⟨f1,h1⟩,⟨f2,h2⟩⟩:=trodAll_three hA;obtain⟨rfl,rfl⟩:=trodVars_none hV;obtain⟨n0,rfl,rfl,rfl,a0⟩:=open_int underlying3 (A 0 3 v0 rfl rfl) h0;obtain⟨x1,b1,e1,U⟩:=y6t h1;obtain⟨a1,l1,c1,rfl⟩:=okWide_slice underlying22 (A 1 22 v1 rfl rfl);obtain rfl:x1= .slice a1 l1 c1:=by simpa[Value.cells]using e1.symm
 obtain⟨a3,l3,c3,N,O,I,a7⟩:=U;cases N;have R: -9223372036854775808<=n0/\n0<=9223372036854775807:=by have:=wf_i64 a0;omega
 obtain⟨x2,b2,e2,Y,a6⟩:=y6u h2;obtain⟨a2,l2,c2,rfl⟩:=okWide_slice underlying23 (A 2 23 v2 rfl rfl);obtain rfl:x2= .slice a2 l2 c2:=by simpa[Value.cells]using e2.symm
 refine(y0n n0 R a1 l1 c1 b1 I a2 l2 c2 b2 W O Y (y7n (show laidMetH prog Rows.keepRefusesRow.laid W from hL))).mono fun e W' ⟨he,hb⟩=>?_;subst he;exact⟨_,rfl,q0X L hb rfl (by kernel_rfl) rfl (by kernel_rfl)⟩
theorem keepRefuses_holds:Rows.KeepRefusesSaid:=
 OpenClaim.holds_of_wide 3 Tryz.f3 rfl rfl rfl rfl rfl rfl rfl ⟨rfl,rfl,rfl,rfl,rfl⟩ rfl rfl rfl rfl rfl (by as_aux_lemma=>kernel_rfl) func3 (by unfold joinedFacts;(repeat' with_reducible refine Bool.and_eq_true_iff.2 ⟨?_,?_⟩);all_goals (as_aux_lemma=>kernel_rfl))
  (of_decide_eq_true (by as_aux_lemma=>kernel_rfl)) (by unfold Func.isWrapper;first|(rw[if_pos (by decide+kernel)];kernel_rfl)|(rw[if_neg (by decide+kernel)];exact⟨rfl,rfl⟩))
  (fun os started H enc _=>z8G os started H enc)
theorem keepRefuses_card:Rows.KeepRefusesCardSaid:=
 Claim7.holds_tied_plain_at .later [] [.data,.data,.pinned] true (true, "3a3135ef4b32cb6edca065fd3af986fd019f10820361a26a9e0d8c96af7dcee1") true keepRefuses_holds (fun _ h=>by cases h) (by as_aux_lemma=>kernel_rfl) (fun _ h=>by cases h) keepRefuses_row_tie rfl ⟨rfl,rfl⟩ (by as_aux_lemma=>kernel_rfl) rfl
  (fun f fn J B=>by
   obtain rfl:f=3:=Option.some.inj ((show prog.funcNamed "drayman/draymanlaw18.KeepRefuses" =some 3 by as_aux_lemma=>kernel_rfl).symm.trans J) |>.symm;obtain rfl:fn=Tryz.f3:=(Option.some.inj (func3.symm.trans B)).symm;exact⟨by as_aux_lemma=>kernel_rfl,fun j t I=>by
    rw[Tryz.params3]at I;have L:t∈ [3,22,23]:=(by simpa using Array.mem_of_getElem? I);have A:([3,22,23].all fun u=>!prog.wantsStandIn u)=true:=(by as_aux_lemma=>kernel_rfl);exact(show prog.wantsStandIn t=false by simpa using List.all_eq_true.1 A t L)⟩)
  (by as_aux_lemma=>kernel_rfl)
#print axioms keepRefuses_card
end Go.Proofs.YtpocjegemokjgaaGreatDoor

/-
  KeepSame returns true for every input, and leaves its arguments as they were. No condition.
-/
import Derived.Test.YtabnnclcpkdkeaaGreatDoorZt
import Derived.Test.YtabnnclcpkdkeaaGreatDoorZu
import Derived.Test.YtabnnclcpkdkeaaGreatDoorCards
import Derived.Test.YtabnnclcpkdkeaaGreatDoorTie
import Derived.LaidMore
import Derived.Lay
import Derived.SevenTiedAt
import Derived.Stop.Joined
namespace Go.Proofs.YtabnnclcpkdkeaaGreatDoor
open Go.Proofs.Tryz
set_option linter.all false
set_option maxRecDepth 100000
set_option maxHeartbeats 0
open Go.RowKit Go.ChangeShapes Go.WideShapes Go.ChangeAt Go.Deep
theorem y1v(os:Os)(I:os.Started)(H:Type)(enc:TypeId×Value->H):
  ReturnsInHanded {} Tryz.checked os 3 .any (fun w args=>(Rows.keepSameSpec.pre enc prog Tryz.f3 Rows.keepSameRow.domain false w args/\laidMetH prog Rows.keepSameRow.laid w)/\sizedMet enc prog Tryz.f3 (OpenSpec.ofChange Rows.keepSameSpec) false w args)
   (Rows.keepSameSpec.post enc prog Tryz.f3 false true false false):=by
 refine returnsInHanded_of_change_and (C:=Tryz.checked) (X:=fun w _=>laidMetH prog Rows.keepSameRow.laid w) (fun _ _ _ hh h=>h.of_heap hh) own I (by kernel_rfl) func3
  (ChangeSpec.witness_shaped (enc:=enc) (C:=Tryz.checked) (os:=os) (X:=fun w _=>laidMetH prog Rows.keepSameRow.laid w) false (World.laidAll prog os Rows.keepSameRow.laid) #[.int .i64 0,.slice none 0 0,.agg #[.slice none 0 0,.int .i64 0]] 8 (World.laidAll_os _ _ _)
   (World.shaped_of_ZipB (by kernel_rfl) (by kernel_rfl)) (by kernel_rfl) (by kernel_rfl) (by kernel_rfl)
   (by rw[MakeChecks.laidMetH_plain _ _ _ (by kernel_rfl)];exact laidMet_laidAll _ (by kernel_rfl) (by kernel_rfl))) ?_
 intro W base args ds gs N J hW aA _ hL _;have A:∀(j:Nat) t v,Tryz.f3.params[j]? =some t->args[j]? =some v->Value.okWide prog W .any base t v:=J;have R:=hW;obtain⟨p,q,O,hV,rfl,aB,aE⟩:=hW;have hA:DataW.TrodAll enc prog W 0 (fun _=>true) true Tryz.f3.params.toList args.toList ds p:=O;rw[Tryz.params3]at hA A;obtain⟨v0,v1,v2,d0,d1,d2,p0,p1,p2,rfl,rfl,rfl,h0,⟨f1,h1⟩,h2⟩:=trodAll_three hA;obtain⟨rfl,rfl⟩:=trodVars_none hV;obtain⟨n0,rfl,rfl,rfl,a9⟩:=open_int underlying3 (A 0 3 v0 rfl rfl) h0;obtain⟨x1,b1,e1,a6⟩:=y8O h1;obtain⟨a1,l1,c1,rfl⟩:=okWide_slice underlying22 (A 1 22 v1 rfl rfl);obtain rfl:x1= .slice a1 l1 c1:=by simpa[Value.cells]using e1.symm
 obtain⟨a3,l3,c3,U,a4,L,aC⟩:=a6;cases U;have a5: -9223372036854775808<=n0/\n0<=9223372036854775807:=by have:=wf_i64 a9;omega
 obtain⟨a2,m2,c2,K2,t2,rfl,a7,a0,a8,Y⟩:=q1T (A 2 25 v2 rfl rfl) h2;refine(y5s n0 a5 a1 l1 c1 b1 L a2 m2 c2 t2 K2 a0 a8 Y W a4 a7 (y9z (show laidMetH prog Rows.keepSameRow.laid W from hL))).mono fun e W' ⟨he,hb⟩=>?_;subst he;exact⟨_,rfl,q2q R hb rfl (by kernel_rfl) rfl (by kernel_rfl)⟩
theorem keepSame_holds:Rows.KeepSameSaid:=
 OpenClaim.holds_of_wide 3 Tryz.f3 rfl rfl rfl rfl rfl rfl rfl ⟨rfl,rfl,rfl,rfl,rfl⟩ rfl rfl rfl rfl rfl (by as_aux_lemma=>kernel_rfl) func3 (by unfold joinedFacts;(repeat' with_reducible refine mu.2 ⟨?_,?_⟩);all_goals (as_aux_lemma=>kernel_rfl))
  (ua (by as_aux_lemma=>kernel_rfl)) (by unfold Func.isWrapper;first|(rw[wZ (by decide+kernel)];kernel_rfl)|(rw[wR (by decide+kernel)];exact⟨rfl,rfl⟩))
  (fun os A H enc _=>y1v os A H enc)
theorem keepSame_card:Rows.KeepSameCardSaid:=
 Claim7.holds_tied_plain_at .later [] [.data,.data,.pinned] true (true, "933da6e14fb6077325e662a66775b87ede223158f7067025019b50bb77b2f074") true keepSame_holds (fun _ h=>by cases h) (by as_aux_lemma=>kernel_rfl) (fun _ h=>by cases h) keepSame_row_tie rfl ⟨rfl,rfl⟩ (by as_aux_lemma=>kernel_rfl) rfl
  (fun f fn L I=>by
   obtain rfl:f=3:=um ((show prog.funcNamed "drayman/draymanlaw18.KeepSame" =some 3 by as_aux_lemma=>kernel_rfl).symm.trans L) |>.symm;obtain rfl:fn=Tryz.f3:=(um (func3.symm.trans I)).symm;exact⟨by as_aux_lemma=>kernel_rfl,fun j t J=>by
    rw[Tryz.params3]at J;have N:t∈ [3,22,25]:=(by simpa using Array.mem_of_getElem? J);have A:([3,22,25].all fun u=>!prog.wantsStandIn u)=true:=(by as_aux_lemma=>kernel_rfl);exact(show prog.wantsStandIn t=false by simpa using gu.1 A t N)⟩)
  (by as_aux_lemma=>kernel_rfl)
#print axioms keepSame_card
end Go.Proofs.YtabnnclcpkdkeaaGreatDoor

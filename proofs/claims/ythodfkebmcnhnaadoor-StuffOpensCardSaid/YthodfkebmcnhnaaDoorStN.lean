/-
  The walk of StuffWraps.
-/
import Derived.Test.YthodfkebmcnhnaaDoorStL
namespace Go.Proofs.YthodfkebmcnhnaaDoor
open Go.RowKit
set_option linter.unusedVariables false
set_option linter.unusedSimpArgs false

theorem wpList_cloneN {P : Program} {w : World} {a : Act} {o : Oper} {Q : Exit → Act → World → Prop} {ops : Array Oper} {rest : List Oper} (hgd : o.guard = none) (s x : Operand) (t : TypeId)
    (ho : o.op = .call { callee := .builtin .append, args := #[s, x], argTypes := #[t, t] })
    (e : TypeId) (ht : P.underlying t = some (.slice e)) (hinfo : (P.info? e).map (fun i => (i.zero, i.size, i.bytes)) = some (some (.int .u8 0), 1, 1))
    (hs : a.eval s = .slice none 0 0) (xv : Value) (l : List UInt8) (hx : a.eval x = xv) (hrd : RdB w xv l) (n : Nat) (hn : n = l.length) (hl : n ≤ 70368744177664)
    (h : ∀ ao co w', w'.ownsRow w.heap.size e 1 (.slice ao n co) n (bcells l) → Below w.heap.size w w' → wpList P ops Q rest (a.put o.dst (.slice ao n co)) w') : wpList P ops Q (o :: rest) a w := by
  subst hn
  exact wpList_clone_rd hgd s x t ho e ht hinfo hs xv l hx hrd hl h

set_option maxRecDepth 100000 in
set_option maxHeartbeats 800000 in
theorem law_StuffWraps (W : World) (a0 : Option Addr) (c0 : Nat) (b0 : List UInt8) (hx0 : RdB W (.slice a0 b0.length c0) b0) (hc0 : b0.length ≤ c0) (hd0 : c0 ≤ 9223372036854775807) (hl0 : ∀ k, (Value.slice a0 b0.length c0).ownBlock = some k → k < W.heap.size) :
    Calls Tryd.prog 4 #[.slice a0 b0.length c0] W fun e w' => e = .returned (.bool true) ∧ Below W.heap.size W w' := by
  obtain ⟨n0, hn0⟩ : ∃ n0, n0 = b0.length := ⟨_, rfl⟩
  rw [← hn0] at hx0 hc0 hl0 ⊢
  have HL0 := hide hl0
  have HX0 := hide hx0
  have HN := hide hn0
  clear hl0 hx0 hn0
  by_cases hbig0 : 2000 < n0
  · have i0 : (2000 : Int) < n0 := by omega
    go_enter Tryd.func4, Tryd.ntmps4
    go_wp2_with (refine (st_known _).mono ?_; rintro e w' ⟨rfl, hb⟩; have HB := hide hb; clear hb)
    go_ret
    exact ⟨rfl, HB.out⟩
  have i0 : ¬ ((2000 : Int) < n0) := by omega
  go_enter Tryd.func4, Tryd.ntmps4
  go_wp2_with fail
  refine (st_known _).mono ?_
  rintro e w1 ⟨rfl, hb1⟩
  have HB1 := hide hb1
  have hs1 := hb1.size
  have R01 := hide (HX0.out.low hb1)
  clear hb1
  go_upto_region 5 with (at_builtin; refine wpList_cloneN rfl _ _ 22 rfl 5 Tryd.underlying22 (by kernel_rfl) rfl _ b0 rfl (by exact R01.out) n0 HN.out (by omega) ?_; intro a2 c2 w2 ho2 hb2; have HO2 := hide ho2; have HB2 := hide (HB1.out.trans (hb2.mono hs1)); have R02 := hide (R01.out.low hb2); clear ho2 hb2)
  have r2 : RdB w2 (.slice a2 n0 c2) b0 := by unfold RdB; rw [← HN.out]; exact ownsRow_rd HO2.out
  have HR2 := hide r2
  have hcap := ownsRow_cap HO2.out
  have HLW : Hid (∀ k, (Value.slice a2 n0 c2).ownBlock = some k → k < w2.heap.size) := hide fun k hk => (HO2.out.lt k hk).2
  have hs2 := HB2.out.size
  clear r2
  go_wp2
  refine wp_region_three 14 29 (by kernel_rfl) (by kernel_rfl) rfl (by kernel_rfl) (fun D v w' => Below w2.heap.size w2 w' ∧ (D 1 = true → RdB w' (v 1) (wrapW b0)) ∧ (D 4 = true → RdB w' (v 4) (wrapW b0))) (fun _ => undef) ⟨(Below.refl _ _).drew, (fun h => by cases h), (fun h => by cases h)⟩ ?_
  simp only [List.take_succ_cons, List.take_zero, List.drop_succ_cons, List.drop_zero]
  iterate 1 (refine Hav3.read (e := ?_) (fun v => by rfl) (fun D v w h => h) (fun D v w' hD hS => ?_) ?_; rotate_left; (skip; clear hS hD; first | (go_simp; done) | (go_simp; with_reducible rfl)); go_simp)
  refine Hav3.rel (fun v => by rfl) (fun D v w' hD hS => ?_) ?_
  · have HS := hide hS
    clear hS hD
    have HR' := hide (HR2.out.low HS.out.1)
    have hs' := HS.out.1.size
    go_simp
    go_at_call 10
    refine (st_WrapN b0 a2 n0 c2 w' HN.out HR'.out hcap.1 hcap.2 (by omega) (fun k hk => by have := HLW.out k hk; omega)).mono ?_
    rintro e w'' ⟨a3, n3, c3, rfl, hn3, _, _, ho3, hb3⟩
    refine ⟨HS.out.1.trans (hb3.mono hs'), ?_, ?_⟩
    · intro _
      subst hn3
      exact ownsRow_rd ho3
    · intro h
      exact RdB.low (HS.out.2.2 h) hb3
  go_simp
  iterate 1 (refine Hav3.read (e := ?_) (fun v => by rfl) (fun D v w h => h) (fun D v w' hD hS => ?_) ?_; rotate_left; (have v1 := convert_rd _ _ _ (hS.2.1 (hD.pre 1 (by kernel_rfl))); clear hS hD; first | (go_simp; done) | (go_simp; with_reducible rfl)); go_simp)
  iterate 1 (refine Hav3.read (e := ?_) (fun v => by rfl) (fun D v w h => h) (fun D v w' hD hS => ?_) ?_; rotate_left; (skip; clear hS hD; first | (go_simp; done) | (go_simp; with_reducible rfl)); go_simp)
  refine Hav3.rel (fun v => by rfl) (fun D v w' hD hS => ?_) ?_
  · have HS := hide hS
    clear hS hD
    have HR' := hide (R02.out.low HS.out.1)
    have hs' := HS.out.1.size
    go_simp
    go_at_call 12
    refine (ref_Wrap b0 a0 n0 c0 w' HN.out HR'.out hc0 hd0 (by omega) (fun k hk => by have := HL0.out k hk; omega)).mono ?_
    rintro e w'' ⟨a3, n3, c3, rfl, hn3, ho3⟩
    refine ⟨HS.out.1.trans (ho3.2.1.mono hs'), ?_, ?_⟩
    · intro h
      exact RdB.low (HS.out.2.1 h) ho3.2.1
    · intro _
      subst hn3
      exact ownsRow_rd ho3.1
  go_simp
  iterate 1 (refine Hav3.read (e := ?_) (fun v => by rfl) (fun D v w h => h) (fun D v w' hD hS => ?_) ?_; rotate_left; (have v1 := convert_rd _ _ _ (hS.2.2 (hD.pre 4 (by kernel_rfl))); clear hS hD; first | (go_simp; done) | (go_simp; with_reducible rfl)); go_simp)
  iterate 3 (refine Hav3.read (e := ?_) (fun v => by rfl) (fun D v w h => h) (fun D v w' hD hS => ?_) ?_; rotate_left; (skip; clear hS hD; first | (go_simp; done) | (go_simp; with_reducible rfl)); go_simp)
  iterate 1 (refine Hav3.read (e := ?_) (fun v => by rfl) (fun D v w h => h) (fun D v w' hD hS => ?_) ?_; rotate_left; (have v1 := convert_rd _ _ _ (HR2.out.low hS.1); clear hS hD; first | (go_simp; done) | (go_simp; with_reducible rfl)); go_simp)
  iterate 1 (refine Hav3.read (e := ?_) (fun v => by rfl) (fun D v w h => h) (fun D v w' hD hS => ?_) ?_; rotate_left; (skip; clear hS hD; first | (go_simp; done) | (go_simp; with_reducible rfl)); go_simp)
  iterate 1 (refine Hav3.read (e := ?_) (fun v => by rfl) (fun D v w h => h) (fun D v w' hD hS => ?_) ?_; rotate_left; (have v1 := convert_rd _ _ _ (R02.out.low hS.1); clear hS hD; first | (go_simp; done) | (go_simp; with_reducible rfl)); go_simp)
  iterate 2 (refine Hav3.read (e := ?_) (fun v => by rfl) (fun D v w h => h) (fun D v w' hD hS => ?_) ?_; rotate_left; (skip; clear hS hD; first | (go_simp; done) | (go_simp; with_reducible rfl)); go_simp)
  refine Hav3.fin (fun v w' hS => ?_)
  have HS := hide hS.1
  clear hS
  go_wp2
  go_ret
  exact ⟨rfl, HB2.out.trans (HS.out.mono HB2.out.size)⟩
end Go.Proofs.YthodfkebmcnhnaaDoor

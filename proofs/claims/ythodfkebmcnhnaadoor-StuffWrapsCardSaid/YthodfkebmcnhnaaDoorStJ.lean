/-
  The walk of StuffOnly.
-/
import Derived.Test.YthodfkebmcnhnaaDoorStI
import Derived.Test.YthodfkebmcnhnaaDoorReg3
namespace Go.Proofs.YthodfkebmcnhnaaDoor
open Go.RowKit
set_option linter.unusedVariables false
set_option linter.unusedSimpArgs false

theorem joinZ_le : ∀ ps : List (List UInt8), (joinZ ps).length ≤ (ps.flatMap part).length
  | [] => by simp [joinZ]
  | [p] => by
    have := part_length p.length p (Nat.le_refl _)
    simp [joinZ]
    omega
  | p :: q :: ps => by
    have ih := joinZ_le (q :: ps)
    have := part_length p.length p (Nat.le_refl _)
    rw [List.flatMap_cons, joinZ_cons (by simp), List.length_append, List.length_append, List.length_cons]
    omega
theorem body_length (b : List UInt8) : b.length ≤ (bodyW b).length := by
  have := joinZ_le (splitZ b)
  rw [join_split] at this
  exact this
/-- what is opened is wrapped just so -/
theorem opened_only {b x : List UInt8} (h : opened b = some x) : wrapW x = b.take ((nul b).length + 1) ∧ (nul b).length + 1 ≤ b.length ∧ x.length ≤ b.length := by
  unfold opened at h
  split at h
  · cases h
  · rename_i hne
    have h1 : nul b ≠ [] := fun e => hne (.inl e)
    have h2 : nul b ≠ b := fun e => hne (.inr e)
    obtain ⟨hz, ⟨h3, _⟩ | ⟨r, h3, _⟩⟩ := nul_is b
    · exact absurd h3 h2
    · have h4 := body_open _ _ _ _ (Nat.le_refl _) h1 hz h
      have h5 : b.take ((nul b).length + 1) = nul b ++ [0] := by
        rw [show b.take ((nul b).length + 1) = (nul b ++ 0 :: r).take ((nul b).length + 1) by rw [← h3]]
        rw [show nul b ++ 0 :: r = (nul b ++ [0]) ++ r by simp, List.take_left' (by simp)]
      have h6 : b.length = (nul b).length + 1 + r.length := by
        have := congrArg List.length h3
        rw [List.length_append, List.length_cons] at this
        omega
      refine ⟨?_, by omega, ?_⟩
      · rw [h5]
        unfold wrapW
        rw [← h4]
      · have h7 := congrArg List.length h4
        have h8 := body_length x
        omega

theorem st_WrapN (b : List UInt8) (ao : Option Addr) (n c : Nat) (w : World) (hn : n = b.length) (hx : RdB w (.slice ao n c) b) (hle : n ≤ c) (hc : c ≤ 9223372036854775807) (hlen : n ≤ 1000000) (hlt : ∀ k, (Value.slice ao n c).ownBlock = some k → k < w.heap.size) :
    Calls Tryd.prog 10 #[.slice ao n c] w fun e w' => ∃ a n c', e = .returned (.slice a n c') ∧ n = (wrapW b).length ∧ n ≤ c' ∧ c' ≤ 9223372036854775807 ∧ w'.ownsRow w.heap.size 5 1 (.slice a n c') n (bcells (wrapW b)) ∧ Below w.heap.size w w' := by
  subst hn
  exact st_Wrap' b ao c w hx hle hc hlen hlt

set_option maxRecDepth 100000 in
set_option maxHeartbeats 1600000 in
theorem law_StuffOnly (W : World) (a0 : Option Addr) (c0 : Nat) (b0 : List UInt8) (hx0 : RdB W (.slice a0 b0.length c0) b0) (hc0 : b0.length ≤ c0) (hd0 : c0 ≤ 9223372036854775807) (hl0 : ∀ k, (Value.slice a0 b0.length c0).ownBlock = some k → k < W.heap.size) :
    Calls Tryd.prog 7 #[.slice a0 b0.length c0] W fun e w' => e = .returned (.bool true) ∧ Below W.heap.size W w' := by
  have HL0 := hide hl0
  have HX0 := hide hx0
  clear hl0 hx0
  by_cases hbig0 : 2000 < b0.length
  · have i0 : (2000 : Int) < b0.length := by omega
    go_enter Tryd.func7, Tryd.ntmps7
    go_wp2_with (refine (st_known _).mono ?_; rintro e w' ⟨rfl, hb⟩; have HB := hide hb; clear hb)
    go_ret
    exact ⟨rfl, HB.out⟩
  have i0 : ¬ ((2000 : Int) < b0.length) := by omega
  go_enter Tryd.func7, Tryd.ntmps7
  go_wp2_with fail
  refine (st_known _).mono ?_
  rintro e w1 ⟨rfl, hb1⟩
  have HB1 := hide hb1
  have hs1 := hb1.size
  have R01 := hide (HX0.out.low hb1)
  clear hb1
  go_wp2_with fail
  refine (st_Open b0 a0 c0 w1 R01.out hc0 hd0 (by omega)).mono ?_
  rintro e w2 ⟨a2, n2, c2, rfl, ho2, hn2, hb2⟩
  have HB2 := hide (HB1.out.trans (hb2.mono hs1))
  have R02 := hide (R01.out.low hb2)
  cases hop : opened b0 with
  | none =>
    obtain ⟨o1, o2, o3⟩ := opened_none hop
    rw [o1] at ho2 hn2
    have hn0 : n2 = 0 := hn2
    subst hn0
    rw [o2, o3]
    clear o1 o2 o3 ho2 hn2 hb2 hop
    go_wp2
    go_ret
    exact ⟨rfl, HB2.out⟩
  | some x =>
    obtain ⟨o1, o2, o3⟩ := opened_some hop
    obtain ⟨w1', w2', w3'⟩ := opened_only hop
    rw [o1] at ho2 hn2
    rw [o2, o3]
    obtain ⟨m, hm⟩ : ∃ m, m = (nul b0).length + 1 := ⟨_, rfl⟩
    rw [← hm] at w1' w2' ⊢
    have HW := hide w1'
    have hm0 : 0 < m := by omega
    have hcap : n2 ≤ c2 ∧ c2 ≤ 9223372036854775807 := ownsRow_cap ho2
    have hlw : ∀ k, (Value.slice a2 n2 c2).ownBlock = some k → k < w2.heap.size := fun k hk => (ho2.lt k hk).2
    have rx : RdB w2 (.slice a2 n2 c2) x := by subst hn2; exact ownsRow_rd ho2
    have HRX := hide rx
    have HN2 := hide hn2
    have HLW := hide hlw
    have hnx : n2 ≤ 2000 := by rw [HN2.out]; omega
    clear o1 o2 o3 ho2 hn2 hb2 hop rx hlw w1' hm
    have j1 : (1 : Int) ≤ m := by omega
    have j2 : (m : Int) ≤ b0.length := by omega
    have j3 : (m : Int) ≤ c0 := by omega
    obtain ⟨ad, rfl⟩ : ∃ ad, a0 = some ad := by
      rcases R02.out.2 with ⟨he, hz⟩ | ⟨ad2, c2, he, _⟩
      · have : b0.length = 0 := hz
        omega
      · simp only [Value.slice.injEq] at he
        exact ⟨ad2, he.1⟩
    have RT := hide (R02.out.upto rfl m c0 m (by simp; omega))
    have hxm : Hid ((wrapW x == b0.take m) = true) := hide (by rw [HW.out]; simp)
    obtain ⟨T, hT⟩ : ∃ T, T = b0.take m := ⟨_, rfl⟩
    rw [← hT] at RT hxm
    clear hT HW
    go_wp2
    refine wp_region_three 18 47 (by kernel_rfl) (by kernel_rfl) rfl (by kernel_rfl) (fun D v w' => Below w2.heap.size w2 w' ∧ (D 10 = true → RdB w' (v 10) (wrapW x))) (fun _ => undef) ⟨(Below.refl _ _).drew, fun h => by cases h⟩ ?_
    simp only [List.take_succ_cons, List.take_zero, List.drop_succ_cons, List.drop_zero]
    iterate 10 (refine Hav3.read (e := ?_) (fun v => by rfl) (fun D v w h => h) (fun D v w' hD hS => ?_) ?_; rotate_left; (skip; clear hS hD; first | (go_simp; done) | (go_simp; with_reducible rfl)); go_simp)
    refine Hav3.rel (fun v => by rfl) (fun D v w' hD hS => ?_) ?_
    · have HS := hide hS.1
      clear hS hD
      have HR' := hide (HRX.out.low HS.out)
      have hs' := HS.out.size
      go_simp
      go_at_call 10
      refine (st_WrapN x a2 n2 c2 w' HN2.out HR'.out hcap.1 hcap.2 (by omega) (fun k hk => by have := HLW.out k hk; omega)).mono ?_
      rintro e w'' ⟨a3, n3, c3, rfl, hn3, _, _, ho3, hb3⟩
      refine ⟨HS.out.trans (hb3.mono hs'), ?_⟩
      intro _
      subst hn3
      exact ownsRow_rd ho3
    go_simp
    iterate 1 (refine Hav3.read (e := ?_) (fun v => by rfl) (fun D v w h => h) (fun D v w' hD hS => ?_) ?_; rotate_left; (have v1 := convert_rd _ _ _ (hS.2 (hD.pre 10 (by kernel_rfl))); clear hS hD; first | (go_simp; done) | (go_simp; with_reducible rfl)); go_simp)
    iterate 2 (refine Hav3.read (e := ?_) (fun v => by rfl) (fun D v w h => h) (fun D v w' hD hS => ?_) ?_; rotate_left; (skip; clear hS hD; first | (go_simp; done) | (go_simp; with_reducible rfl)); go_simp)
    iterate 1 (refine Hav3.read (e := ?_) (fun v => by rfl) (fun D v w h => h) (fun D v w' hD hS => ?_) ?_; rotate_left; (have j4 := RT.out; clear hS hD; first | (go_simp; done) | (go_simp; with_reducible rfl)); go_simp)
    iterate 1 (refine Hav3.read (e := ?_) (fun v => by rfl) (fun D v w h => h) (fun D v w' hD hS => ?_) ?_; rotate_left; (have v1 := convert_rd _ _ _ (RT.out.low hS.1); clear hS hD; first | (go_simp; done) | (go_simp; with_reducible rfl)); go_simp)
    iterate 2 (refine Hav3.read (e := ?_) (fun v => by rfl) (fun D v w h => h) (fun D v w' hD hS => ?_) ?_; rotate_left; (skip; clear hS hD; first | (go_simp; done) | (go_simp; with_reducible rfl)); go_simp)
    refine Hav3.fin (fun v w' hS => ?_)
    have HS := hide hS.1
    clear hS
    rw [hxm.out]
    go_wp2
    go_ret
    exact ⟨rfl, HB2.out.trans (HS.out.mono HB2.out.size)⟩
end Go.Proofs.YthodfkebmcnhnaaDoor

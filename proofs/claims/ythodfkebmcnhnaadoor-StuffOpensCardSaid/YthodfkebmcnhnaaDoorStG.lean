/-
  What stuff's laws say, plainly; the walk of StuffApart.
-/
import Derived.Test.YthodfkebmcnhnaaDoorStF
namespace Go.Proofs.YthodfkebmcnhnaaDoor
open Go.RowKit
set_option linter.unusedVariables false
set_option linter.unusedSimpArgs false

/-- what is wrapped is opened, whatever stands behind it -/
theorem opened_wrap (b more : List UInt8) : opened (wrapW b ++ more) = some b ∧ nul (wrapW b ++ more) = bodyW b := by
  have e : wrapW b ++ more = bodyW b ++ 0 :: more := by unfold wrapW; simp
  have h := nul_app (bodyW_noZ b) more
  rw [e]
  refine ⟨?_, h⟩
  unfold opened
  rw [h, if_neg ?_, open_body]
  intro hc
  rcases hc with hc | hc
  · exact body_ne b hc
  · have := congrArg List.length hc
    simp at this
theorem wrapW_length (b : List UInt8) : (wrapW b).length = (bodyW b).length + 1 := by unfold wrapW; simp
theorem opens (b more : List UInt8) : oB (wrapW b ++ more) = b ∧ oN (wrapW b ++ more) = (wrapW b).length ∧ oE (wrapW b ++ more) = 0 := by
  obtain ⟨h1, h2⟩ := opened_wrap b more
  obtain ⟨o1, o2, o3⟩ := opened_some h1
  exact ⟨o1, by rw [o2, h2, wrapW_length], o3⟩
theorem wrap_le {b : List UInt8} (h : b.length ≤ 2000) : (wrapW b).length ≤ 2010 := by
  have := wrap_length b
  omega
theorem str_eq (a b : List UInt8) : ((⟨a.toArray⟩ : ByteArray) = ⟨b.toArray⟩) = (a = b) := by
  apply propext
  constructor
  · intro h
    have := congrArg ByteArray.data h
    simpa using this
  · intro h
    rw [h]
theorem wrap_eq (a b : List UInt8) : (wrapW a = wrapW b) = (a = b) := propext ⟨wrap_inj, fun h => by rw [h]⟩
theorem lows {w : World} {a : Option Addr} {n c : Nat} {l : List UInt8} (hx : RdB w (.slice a n c) l) (hn : 0 < l.length) : ∀ k, (Value.slice a n c).ownBlock = some k → k < w.heap.size := fun k hk => by
  obtain ⟨b0, o0, c0, he, _, hb0⟩ := RdB.at (k := 0) hx hn
  simp only [Value.slice.injEq] at he
  obtain ⟨rfl, _⟩ := he
  have : k = b0 := by simpa [Value.ownBlock] using hk.symm
  omega

set_option maxRecDepth 100000 in
set_option maxHeartbeats 6400000 in
theorem st_Wrap' (b : List UInt8) (ao : Option Addr) (c : Nat) (w : World) (hx : RdB w (.slice ao b.length c) b) (hle : b.length ≤ c) (hc : c ≤ 9223372036854775807) (hlen : b.length ≤ 1000000) (hlt : ∀ k, (Value.slice ao b.length c).ownBlock = some k → k < w.heap.size) :
    Calls Tryd.prog 10 #[.slice ao b.length c] w fun e w' => ∃ a n c', e = .returned (.slice a n c') ∧ n = (wrapW b).length ∧ n ≤ c' ∧ c' ≤ 9223372036854775807 ∧ w'.ownsRow w.heap.size 5 1 (.slice a n c') n (bcells (wrapW b)) ∧ Below w.heap.size w w' := by
  refine (st_Wrap b ao c w hx hle hc hlen hlt).mono ?_
  rintro e w' ⟨a, c', rfl, ho, hb⟩
  obtain ⟨h1, h2⟩ := ownsRow_cap ho
  exact ⟨a, _, c', rfl, rfl, h1, h2, ho, hb⟩

theorem st_Open' (b : List UInt8) (ao : Option Addr) (n c : Nat) (w : World) (hn : n = b.length) (hx : RdB w (.slice ao n c) b) (hle : n ≤ c) (hc : c ≤ 9223372036854775807) (hlen : n ≤ 1100000) :
    Calls Tryd.prog 11 #[.slice ao n c] w (OpTold b w) := by
  subst hn
  exact st_Open b ao c w hx hle hc hlen
/-- what Open tells of what was wrapped -/
theorem st_Open_wrap (b more s : List UInt8) (hs : s = wrapW b ++ more) (ao : Option Addr) (n c : Nat) (w : World) (hn : n = s.length) (hx : RdB w (.slice ao n c) s) (hle : n ≤ c) (hc : c ≤ 9223372036854775807) (hlen : n ≤ 1100000) (m : Nat) (hm : m = (wrapW b).length) :
    Calls Tryd.prog 11 #[.slice ao n c] w fun e w' => ∃ a n' c', e = .returned (.tuple #[.slice a n' c', .int .i64 m, .int .u16 0]) ∧ RdB w' (.slice a n' c') b ∧ Below w.heap.size w w' := by
  refine (st_Open' s ao n c w hn hx hle hc hlen).mono ?_
  rintro e w' ⟨a, n', c', rfl, ho, hn', hb⟩
  subst hs
  obtain ⟨o1, o2, o3⟩ := opens b more
  rw [o1] at ho hn'
  rw [o2, o3, ← hm]
  subst hn'
  exact ⟨a, _, c', rfl, ownsRow_rd ho, hb⟩

set_option maxRecDepth 100000 in
set_option maxHeartbeats 6400000 in
theorem law_StuffApart (W : World) (a0 : Option Addr) (c0 : Nat) (b0 : List UInt8) (hx0 : RdB W (.slice a0 b0.length c0) b0) (hc0 : b0.length ≤ c0) (hd0 : c0 ≤ 9223372036854775807) (hl0 : ∀ k, (Value.slice a0 b0.length c0).ownBlock = some k → k < W.heap.size)
    (a1 : Option Addr) (c1 : Nat) (b1 : List UInt8) (hx1 : RdB W (.slice a1 b1.length c1) b1) (hc1 : b1.length ≤ c1) (hd1 : c1 ≤ 9223372036854775807) (hl1 : ∀ k, (Value.slice a1 b1.length c1).ownBlock = some k → k < W.heap.size) :
    Calls Tryd.prog 3 #[.slice a0 b0.length c0, .slice a1 b1.length c1] W fun e w' => e = .returned (.bool true) ∧ Below W.heap.size W w' := by
  have HL0 := hide hl0; have HL1 := hide hl1
  have HX0 := hide hx0; have HX1 := hide hx1
  clear hl0 hl1 hx0 hx1
  by_cases hbig0 : 2000 < b0.length
  · have i0 : (2000 : Int) < b0.length := by omega
    go_enter Tryd.func3, Tryd.ntmps3
    go_wp2_with (refine (st_known _).mono ?_; rintro e w' ⟨rfl, hb⟩; have HB := hide hb; clear hb)
    go_ret
    exact ⟨rfl, HB.out⟩
  by_cases hbig1 : 2000 < b1.length
  · have i0 : (2000 : Int) < b1.length := by omega
    have i1 : ¬ ((2000 : Int) < b0.length) := by omega
    go_enter Tryd.func3, Tryd.ntmps3
    go_wp2_with (refine (st_known _).mono ?_; rintro e w' ⟨rfl, hb⟩; have HB := hide hb; clear hb)
    go_ret
    exact ⟨rfl, HB.out⟩
  have i0 : ¬ ((2000 : Int) < b0.length) := by omega
  have i1 : ¬ ((2000 : Int) < b1.length) := by omega
  go_enter Tryd.func3, Tryd.ntmps3
  go_wp2_with fail
  refine (st_known _).mono ?_
  rintro e w1 ⟨rfl, hb1⟩
  have HB1 := hide hb1
  have hs1 := hb1.size
  have R01 := hide (HX0.out.low hb1)
  have R11 := hide (HX1.out.low hb1)
  clear hb1
  go_wp2_with fail
  refine (st_Wrap' b0 a0 c0 w1 R01.out hc0 hd0 (by omega) (fun k hk => by have := HL0.out k hk; omega)).mono ?_
  rintro e w2 ⟨ax, nx, cx, rfl, hnx, hx1, hx2, hox, hbx⟩
  have HNX := hide hnx
  have HOX := hide hox
  have HB2 := hide (HB1.out.trans (hbx.mono hs1))
  have hs2 := hbx.size
  have R02 := hide (R01.out.low hbx)
  have R12 := hide (R11.out.low hbx)
  clear hnx hox hbx
  go_wp2_with fail
  refine (st_Wrap' b1 a1 c1 w2 R12.out hc1 hd1 (by omega) (fun k hk => by have := HL1.out k hk; omega)).mono ?_
  rintro e w3 ⟨ay, ny, cy, rfl, hny, hy1, hy2, hoy, hby⟩
  have HNY := hide hny
  have HOY := hide hoy
  have HB3 := hide (HB2.out.trans (hby.mono (by omega)))
  have hs3 := hby.size
  have R03 := hide (R02.out.low hby)
  have R13 := hide (R12.out.low hby)
  have X3 : Hid (RdB w3 (.slice ax nx cx) (wrapW b0)) := hide (by have := ownsRow_rd (ownsRow_below HOX.out hby (Nat.le_refl _)); rw [HNX.out] at this ⊢; exact this)
  have Y3 : Hid (RdB w3 (.slice ay ny cy) (wrapW b1)) := hide (by have := ownsRow_rd HOY.out; rw [HNY.out] at this ⊢; exact this)
  have lx : nx ≤ 2010 := by rw [HNX.out]; exact wrap_le (by omega)
  have ly : ny ≤ 2010 := by rw [HNY.out]; exact wrap_le (by omega)
  clear hny hoy hby
  go_wp2_with (first
    | (at_builtin; refine wpList_clone_rd rfl _ _ 22 rfl 5 Tryd.underlying22 (by kernel_rfl) rfl _ (wrapW b0) rfl (by exact X3.out) (by rw [← HNX.out]; omega) ?_; intro a4 co4 w4 ho4 hb4; obtain ⟨n4, hn4⟩ : ∃ n4, n4 = (wrapW b0).length := ⟨_, rfl⟩; have hr4 : RowIn w3 w3.heap.size 5 (.slice a4 (wrapW b0).length co4) (wrapW b0) w4 := ⟨ho4, hb4, hb4.size⟩; rw [← hn4] at hr4 ⊢; have HR4 := hide hr4; have N4 := hide hn4; have Y4 := hide (RdB.low Y3.out hb4); clear ho4 hb4 hr4 hn4)
    | (at_builtin; refine wpList_copy_own rfl _ _ 22 rfl w3 w3.heap.size 5 Tryd.underlying22 (by kernel_rfl) _ (wrapW b0) rfl (by exact HR4.out) _ (wrapW b1) rfl (by exact Y4.out) (by rw [← HNX.out, ← HNY.out]; omega) ?_; intro a5 co5 w5 hr5 hb5; obtain ⟨n5, hn5⟩ : ∃ n5, n5 = (wrapW b0 ++ wrapW b1).length := ⟨_, rfl⟩; rw [← hn5] at hr5 ⊢; have HR5 := hide hr5; have N5 := hide hn5; clear hr5 hb5 hn5))
  obtain ⟨hcap1, hcap2⟩ := ownsRow_cap (by have := HR5.out.1; rw [← N5.out] at this; exact this)
  have hn5 : n5 = nx + ny := by rw [N5.out, List.length_append, HNX.out, HNY.out]
  have hnx0 : 0 < nx := by rw [HNX.out, wrapW_length]; omega
  have rd5 : RdB w5 (.slice a5 n5 co5) (wrapW b0 ++ wrapW b1) := by have := ownsRow_rd HR5.out.1; rw [← N5.out] at this; unfold RdB; rw [← N5.out]; exact this
  obtain ⟨ad, rfl⟩ : ∃ ad, a5 = some ad := by
    rcases rd5.2 with ⟨he, hz⟩ | ⟨ad2, c2, he, _⟩
    · simp only [Value.slice.injEq] at he; omega
    · simp only [Value.slice.injEq] at he
      exact ⟨ad2, he.1⟩
  have RD5 := hide rd5
  have HN5 := hide hn5
  have hB35 := HR5.out.2.1
  have hs5 := hB35.size
  have i2 : (nx : Int) ≤ n5 := by omega
  have i3 : (n5 : Int) ≤ co5 := by omega
  have hl5 : n5 ≤ 5000 := by omega
  have hny0 : 0 < ny := by rw [HNY.out, wrapW_length]; omega
  have i4 : ¬ (co5 = nx) := by omega
  clear rd5 hn5
  refine (st_Open_wrap b0 (wrapW b1) _ rfl _ _ _ w5 N5.out RD5.out hcap1 hcap2 (by omega) nx HNX.out).mono ?_
  rintro e w6 ⟨a6, n6, c6, rfl, r6, hb6⟩
  have v1 := convert_rd b0 _ w6 r6
  have v2 := convert_rd b0 _ w6 ((R03.out.low hB35).low hb6)
  have RD6 := hide (RD5.out.low hb6)
  have hB36 := hB35.trans (hb6.mono hs5)
  have hs6 := hb6.size
  clear r6 hb6 hB35
  have HB36 := hide hB36
  clear hB36
  go_wp2_with fail
  refine (st_Open_wrap b1 [] (wrapW b1) (by simp) _ _ _ w6 ?_ ?_ (by omega) (by omega) (by omega) ny HNY.out).mono ?_
  · rw [← HNY.out, HN5.out]; omega
  · have h1 := RD6.out.from N5.out nx (co5 - nx) (n5 - nx) (by rw [HNX.out, List.drop_left' rfl, ← HNY.out, HN5.out, ← HNX.out]; omega) (by rw [← N5.out, HN5.out]; omega)
    rw [show (wrapW b0 ++ wrapW b1).drop nx = wrapW b1 by rw [HNX.out, List.drop_left' rfl]] at h1
    exact h1
  rintro e w7 ⟨a7, n7, c7, rfl, r7, hb7⟩
  have hB37 := HB36.out.trans (hb7.mono (by omega))
  have v3 := convert_rd b1 _ w7 r7
  have v4 := convert_rd b1 _ w7 (R13.out.low hB37)
  have v5 := convert_rd b0 _ w7 (R03.out.low hB37)
  have v6 := convert_rd (wrapW b0) _ w7 (X3.out.low hB37)
  have v7 := convert_rd (wrapW b1) _ w7 (Y3.out.low hB37)
  have HB7 := hide (HB3.out.trans (hB37.mono (by omega)))
  clear r7 hb7 hB37 v1 v2
  have hq1 : ((wrapW b0 == wrapW b1) == (b0 == b1)) = true := by
    by_cases hab : b0 = b1
    · simp [hab]
    · have h2 : wrapW b0 ≠ wrapW b1 := fun e => hab (wrap_inj e)
      have h3 : (b0 == b1) = false := by simpa using hab
      have h4 : (wrapW b0 == wrapW b1) = false := by simpa using h2
      rw [h3, h4]
      rfl
  have HQ := hide hq1
  clear hq1
  go_wp2_with fail
  rw [HQ.out]
  go_ret
  exact ⟨rfl, HB7.out⟩
end Go.Proofs.YthodfkebmcnhnaaDoor

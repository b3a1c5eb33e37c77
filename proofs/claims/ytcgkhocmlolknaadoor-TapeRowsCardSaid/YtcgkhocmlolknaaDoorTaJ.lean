/-
  The walk of TapeRows.
-/
import Derived.Test.YtcgkhocmlolknaaDoorTaI
import Derived.Deep.DeepCutAuto
namespace Go.Proofs.YtcgkhocmlolknaaDoor
open Go.RowKit Go.Maps
set_option linter.unusedVariables false
set_option linter.unusedSimpArgs false

theorem nul_wrap (x r : Bs) : nul (wrapW x ++ r) = bodyW x := by
  unfold wrapW
  rw [List.append_assoc]
  exact nul_app (bodyW_noZ x) r
theorem opened_wrap (x r : Bs) : opened (wrapW x ++ r) = some x := by
  unfold opened
  rw [nul_wrap, if_neg ?_, open_body]
  rintro (h | h)
  · exact body_ne x h
  · have := congrArg List.length h
    unfold wrapW at this
    simp at this
theorem opened_nil : opened [] = none := by simp [opened, nul]
theorem opened_zero (r : Bs) : opened (0 :: r) = none := by simp [opened, nul]
theorem tpRead_wrap (x r : Bs) (hx : x.length ≤ 600) : tpRead (wrapW x ++ r) = (x :: (tpRead r).1, (wrapW x).length + (tpRead r).2) := by
  rw [tpRead_some (opened_wrap x r) hx, nul_wrap]
  have e : (wrapW x ++ r).drop ((bodyW x).length + 1) = r := by
    have : (wrapW x).length = (bodyW x).length + 1 := by unfold wrapW; simp
    rw [← this, List.drop_left]
  have e2 : (wrapW x).length = (bodyW x).length + 1 := by unfold wrapW; simp
  rw [e, e2]
theorem tpRead_wraps : ∀ (l : List Bs) (r : Bs), (∀ x ∈ l, x.length ≤ 600) → tpRead (l.flatMap wrapW ++ r) = (l ++ (tpRead r).1, (l.flatMap wrapW).length + (tpRead r).2)
  | [], r, _ => by simp
  | x :: l, r, h => by
    rw [List.flatMap_cons, List.append_assoc, tpRead_wrap x _ (h x (by simp)), tpRead_wraps l r fun y hy => h y (List.mem_cons_of_mem _ hy)]
    simp [Nat.add_assoc]
/-- one call that has notes alone -/
def optL (l : List Bs) (la : Option Addr) (ln lc : Nat) : Opt := ⟨0, [], none, 0, 0, l, la, ln, lc, 0, none, 0, 0, [], 0⟩
theorem optL_ok {W : World} {l : List Bs} {la : Option Addr} {ln lc : Nat} (h : RdNs W (.slice la ln lc) l) (hn : ln = l.length) (hm : ln ≤ maxLen) : (optL l la ln lc).Ok W :=
  ⟨by show 0 < 256; decide, RdB.nil W, rfl, Nat.le_refl _, by show 0 ≤ 9223372036854775807; decide, h, hn, hm, by show 0 < 256; decide, ⟨rfl, .inl ⟨rfl, rfl⟩⟩, rfl, by show (-9223372036854775808 : Int) ≤ 0; decide, by show (0 : Int) ≤ 9223372036854775807; decide⟩
theorem rdOpts_made (w : World) (L : List Opt) (n : Nat) (cs : Array Value) (hn : n = L.length) (h0 : 0 < n) (hcs : cs = (L.flatMap Opt.cells).toArray) (hok : ∀ o ∈ L, o.Ok w) (hm : n ≤ maxLen) : RdOpts (w.alloc (.cells cs 29)) (.slice (some ⟨w.heap.size, 0, none⟩) n n) L := by
  have hl : (L.flatMap Opt.cells).length = n * 6 := by
    rw [hn]
    clear hn h0 hcs hok hm
    induction L with
    | nil => simp
    | cons o L ih => rw [List.flatMap_cons, List.length_append, ih, List.length_cons, Nat.add_mul]; show 6 + _ = _; omega
  subst hcs
  refine ⟨?_, fun o ho => (hok o ho).low (below_alloc _ _), by rw [← hn]; exact hm⟩
  have h := rd_new w (L.flatMap Opt.cells).toArray 29 n 6 h0 (by simpa using hl)
  rw [← hn]
  simpa using h

/-- notes handed on, so far -/
def WantAt (W : World) (l : List Bs) (B : Nat) (v : Value) (i : Nat) (w : World) : Prop := ∃ xs : List Value, w.ownsRow B 23 1 v i xs ∧ xs.length = i ∧ ∀ (j : Nat) (u : Value) (x : Bs), xs[j]? = some u → l[j]? = some x → RdB W u x ∧ ∃ a c, u = .slice a x.length c ∧ x.length ≤ c ∧ c ≤ 9223372036854775807
theorem WantAt.low {W w w' : World} {l : List Bs} {B i : Nat} {v : Value} (h : WantAt W l B v i w) (hb : Below w.heap.size w w') : WantAt W l B v i w' := by
  obtain ⟨xs, h1, h2, h3⟩ := h
  exact ⟨xs, ownsRow_below h1 hb (Nat.le_refl _), h2, h3⟩
theorem WantAt.other {W w w' : World} {l : List Bs} {B i n e : Nat} {v v' : Value} {ys : List Value} (h : WantAt W l B v i w) (hr : w.ownsRow B e 1 v' n ys) (he : e ≠ 23) (hg : w.grownBy w' v'.ownBlock) : WantAt W l B v i w' := by
  obtain ⟨xs, h1, h2, h3⟩ := h
  exact ⟨xs, ownsRow_same h1 fun k hk => hg.block k (h1.lt k hk).2 fun e' => row_two hr h1 (Ne.symm he) e'.symm hk, h2, h3⟩
theorem WantAt.rd {W w : World} {l : List Bs} {B i : Nat} {v : Value} (h : WantAt W l B v i w) (hi : i ≤ l.length) (hb : Below W.heap.size W w) : RdNs w v (l.take i) := by
  obtain ⟨xs, h1, h2, h3⟩ := h
  have hl : (l.take i).length = i := by rw [List.length_take]; omega
  refine ⟨xs, by rw [hl]; exact ownsRow_rd h1, by rw [hl]; exact h2, fun j u x hu hx => ?_⟩
  have hj : j < i := by have := (List.getElem?_eq_some_iff.1 hu).1; omega
  rw [List.getElem?_take_of_lt hj] at hx
  obtain ⟨g1, g2⟩ := h3 j u x hu hx
  exact ⟨g1.low hb, g2⟩

/-- bytes laid behind a row, and what grew -/
theorem wpList_copy_gb {P : Program} {w : World} {a : Act} {o : Oper} {Q : Exit → Act → World → Prop} {ops : Array Oper} {rest : List Oper} (hgd : o.guard = none) (s x : Operand) (t : TypeId)
    (ho : o.op = .call { callee := .builtin .append, args := #[s, x], argTypes := #[t, t] })
    (W : World) (base : Nat) (e : TypeId) (ht : P.underlying t = some (.slice e)) (hinfo : (P.info? e).map (fun i => (i.zero, i.size, i.bytes)) = some (some (.int .u8 0), 1, 1))
    (v : Value) (l0 : List UInt8) (hs : a.eval s = v) (hown : RowIn W base e v l0 w)
    (xv : Value) (l : List UInt8) (hx : a.eval x = xv) (hrd : RdB w xv l) (hl : l0.length + l.length ≤ 70368744177664)
    (h : ∀ ao co w', RowIn W base e (.slice ao (l0 ++ l).length co) (l0 ++ l) w' → w.grownBy w' v.ownBlock → wpList P ops Q rest (a.put o.dst (.slice ao (l0 ++ l).length co)) w') : wpList P ops Q (o :: rest) a w := by
  refine wpList_copy_rd hgd s x t ho base e ht hinfo v l0 hs hown.1 xv l hx hrd hl hown.2.2 fun ao co w' h1 h2 h3 => ?_
  have e0 : l0.length + l.length = (l0 ++ l).length := by simp
  rw [e0] at h1 ⊢
  have hb : Below base w w' := (Below.refl base w).grown h2 hown.2.2 fun k hk => (hown.1.lt k hk).1
  exact h ao co w' ⟨h1, hown.2.1.trans hb, Nat.le_trans hown.2.2 hb.size⟩ h2
theorem wraps_len : ∀ (l : List Bs), (∀ x ∈ l, x.length ≤ 600) → (l.flatMap wrapW).length ≤ l.length * 700
  | [], _ => by simp
  | x :: l, h => by
    rw [List.flatMap_cons, List.length_append, List.length_cons]
    have h1 := wraps_len l fun y hy => h y (List.mem_cons_of_mem _ hy)
    have h2 := wrap_length x
    have h3 := h x (by simp)
    omega

theorem row_keep {w w' : World} {C e n : Nat} {v : Value} {xs : List Value} {b : Option Nat} (h : w.ownsRow C e 1 v n xs) (hg : w.grownBy w' b) (hb : ∀ k, b = some k → k < C) : w'.ownsRow C e 1 v n xs :=
  ownsRow_same h fun k hk => hg.block k (h.lt k hk).2 fun e' => by have := hb k e'.symm; have := (h.lt k hk).1; omega
theorem RdB.lt0 {w : World} {a : Option Addr} {n c : Nat} {l : Bs} (h : RdB w (.slice a n c) l) (hn : n = l.length) : 0 < n → ∀ k, (Value.slice a n c).ownBlock = some k → k < w.heap.size := by
  intro h0 k hk
  obtain ⟨b, off, c', e, _, hb⟩ := Rd.addr h (by omega) (by omega)
  simp only [Value.slice.injEq] at e
  obtain ⟨rfl, -, -⟩ := e
  simp only [Value.ownBlock, Option.map_some, Option.some.injEq] at hk
  omega
theorem RowIn.other {W w w' : World} {B e n : Nat} {v v' : Value} {l : Bs} {ys : List Value} (h : RowIs W B v l w) (hr : w.ownsRow B e 1 v' n ys) (he : e ≠ 5) (hg : w.grownBy w' v'.ownBlock) : RowIs W B v l w' := by
  have hb : Below B w w' := (Below.refl B w).grown hg h.2.2 fun k hk => (hr.lt k hk).1
  exact ⟨ownsRow_same h.1 fun k hk => hg.block k (h.1.lt k hk).2 fun e' => row_two hr h.1 (Ne.symm he) e'.symm hk, h.2.1.trans hb, Nat.le_trans h.2.2 hb.size⟩
theorem tmod12 (y : Nat) : ((y : Int)).tmod 12 = ((y % 12 : Nat) : Int) := by rw [Int.tmod_eq_emod_of_nonneg (by omega)]; omega

set_option maxRecDepth 100000 in
set_option maxHeartbeats 3200000 in
theorem law_TapeRows (W : World) (v0 : Value) (l : List Bs) (h0 : RdNs W v0 l ∧ l.length ≤ maxLen) (u : UInt8) (a2 : Option Addr) (c2 : Nat) (b2 : List UInt8) (hx2 : RdB W (.slice a2 b2.length c2) b2) (hc2 : b2.length ≤ c2) (hd2 : c2 ≤ 9223372036854775807) (hl2 : ∀ k, (Value.slice a2 b2.length c2).ownBlock = some k → k < W.heap.size) :
    Calls Tryd.prog 3 #[v0, .int .u8 (u.toNat : Int), .slice a2 b2.length c2] W fun e w' => e = .returned (.bool true) ∧ Below W.heap.size W w' := by
  obtain ⟨a0, c0, rfl⟩ := h0.1.head
  obtain ⟨n, hn⟩ : ∃ n, n = l.length := ⟨_, rfl⟩
  obtain ⟨n2, hn2⟩ : ∃ n, n = b2.length := ⟨_, rfl⟩
  rw [← hn] at h0 ⊢
  rw [← hn2] at hx2 hc2 hl2 ⊢
  obtain ⟨y, hy⟩ : ∃ y, y = u.toNat := ⟨_, rfl⟩
  have hy2 : y < 256 := by rw [hy]; exact u.toNat_lt
  rw [← hy]
  have HN := hide hn; have HN2 := hide hn2; have H0 := hide h0.1; have HX2 := hide hx2; have HL2 := hide hl2
  have hro := hide (rdOpts_made W [optL l a0 n c0] 1 #[.int .u8 0, .slice none 0 0, .slice a0 n c0, .int .u8 0, .slice none 0 0, .int .i64 0] rfl (by decide) rfl (by
    intro o ho
    rw [List.mem_singleton] at ho
    subst ho
    exact optL_ok h0.1 hn h0.2) (by decide))
  have HB0 := hide (below_alloc W (.cells #[.int .u8 0, .slice none 0 0, .slice a0 n c0, .int .u8 0, .slice none 0 0, .int .i64 0] 29))
  clear hn hn2 h0 hx2 hl2 hy
  go_enter Tryd.func3, Tryd.ntmps3
  go_wp2_with fail
  refine (tp_heavy _ _ _ hro.out).mono ?_
  rintro e w1 ⟨rfl | ⟨rfl, -, hlight⟩, rfl⟩
  · clear hro
    go_wp2_with (refine (tp_known _).mono ?_; rintro e w' ⟨rfl, hb⟩; have HB := hide hb; clear hb)
    go_ret
    exact ⟨rfl, HB0.out.trans (HB.out.mono HB0.out.size)⟩
  have hn10 : n ≤ 10 := (hlight (optL l a0 n c0) (by simp)).2.1
  clear hlight hro
  by_cases big : 500 < n2
  · have d1 : decide ((500 : Int) < n2) = true := decide_eq_true (by omega)
    go_wp2_with (refine (tp_known _).mono ?_; rintro e w' ⟨rfl, hb⟩; have HB := hide hb; clear hb)
    go_ret
    exact ⟨rfl, HB0.out.trans (HB.out.mono HB0.out.size)⟩
  have d1 : decide ((500 : Int) < n2) = false := decide_eq_false (by omega)
  go_wp2_with fail
  refine (tp_known _).mono ?_
  rintro e w1 ⟨rfl, hb1⟩
  have HB1 := hide (HB0.out.trans (hb1.mono HB0.out.size))
  clear hb1 HB0
  obtain ⟨iS, hiS, hyS0, hyS1, hyS2⟩ := info_parts sl8_info
  go_upto_block 0 with fail
  go_cut [7, 8] (fun bv wv wx => ∃ (ba wa : Option Addr) (bn bc wn wc : Nat) (r : Bs), bv = .slice ba bn bc ∧ wv = .slice wa wn wc ∧ wn ≤ 10 ∧ bn ≤ 9000 ∧ wn ≤ n ∧ Hid (bn = ((l.take wn).flatMap wrapW ++ r).length) ∧ Hid (RowIs W W.heap.size (.slice ba bn bc) ((l.take wn).flatMap wrapW ++ r) wx) ∧ Hid (WantAt W l W.heap.size (.slice wa wn wc) wn wx) ∧ Hid (opened r = none) ∧ Hid (∀ x ∈ l.take wn, x.length ≤ 600))
  case first =>
    go_wp2_with fail
    go_loopw [7, 8, 9] (fun bv wv iv wr => ∃ (ba wa : Option Addr) (i bn bc wc : Nat), bv = .slice ba bn bc ∧ wv = .slice wa i wc ∧ iv = .int .i64 i ∧ i ≤ n ∧ bn ≤ i * 700 ∧ Hid (bn = ((l.take i).flatMap wrapW).length) ∧ Hid (RowIs W W.heap.size (.slice ba bn bc) ((l.take i).flatMap wrapW) wr) ∧ Hid (WantAt W l W.heap.size (.slice wa i wc) i wr) ∧ Hid (∀ x ∈ l.take i, x.length ≤ 600)) (fun _ _ iv _ => match iv with | .int _ j => n - j.toNat | _ => 0)
    case atStart => exact ⟨none, none, 0, 0, 0, 0, rfl, rfl, rfl, Nat.zero_le _, Nat.zero_le _, hide (by simp), hide ⟨by simpa [bcells] using World.ownsRow_nil _ _ _ _, HB1.out, HB1.out.size⟩, hide ⟨[], World.ownsRow_nil _ _ _ _, rfl, fun j u x h => by simp at h⟩, hide (by simp)⟩
    case round =>
      obtain ⟨ba, wa, i, bn, bc, wc, rfl, rfl, rfl, hi, hbi, hbn, hB, hW, hall⟩ := hrel
      have hBr := hB.out.2.1
      have hBs := hB.out.2.2
      by_cases hil : i < n
      · have i0 : decide ((i : Int) < n) = true := by simpa using hil
        obtain ⟨bb, off, cc, xa, xn, xc, he, e1, er, en, g1, g2, hbb⟩ := H0.out.at (k := i) (by have := HN.out; omega)
        obtain ⟨x, hx⟩ : ∃ x, x = l[i]'(by have := HN.out; omega) := ⟨_, rfl⟩
        rw [← hx] at er en
        simp only [Value.slice.injEq] at he
        obtain ⟨rfl, -, rfl⟩ := he
        have hlx : l[i]? = some x := by rw [hx]; exact List.getElem?_eq_getElem _
        have hcl : Hid (∀ w', Below W.heap.size W w' → w'.cell? ⟨bb, off + i, none⟩ = some (.slice xa xn xc)) := hide fun w' h => (h.cell (p := ⟨bb, _, none⟩) hbb).trans e1
        have hcr := hcl.out wr hBr
        have HER := hide er; have HEN := hide en; have HLX := hide hlx
        clear e1 er en hlx hx
        have hwi : IntKind.i64.wrap ((i : Int) + 1) = (i : Int) + 1 := wrap64 (by omega) (by omega)
        have htk : Hid (xn ≤ 600 → ∀ z ∈ l.take (i + 1), z.length ≤ 600) := hide fun g z hz => by
          rw [List.take_add_one, HLX.out] at hz
          rcases List.mem_append.1 hz with hz | hz
          · exact hall.out z hz
          · simp only [Option.toList_some, List.mem_singleton] at hz
            subst hz
            rw [← HEN.out]; exact g
        by_cases h6 : 600 < xn
        · have d6 : decide ((600 : Int) < xn) = true := decide_eq_true (by omega)
          clear htk
          go_wp2
          go_ret
          exact ⟨rfl, hBr⟩
        have d6 : decide ((600 : Int) < xn) = false := decide_eq_false (by omega)
        have htk1 := hide (htk.out (by omega))
        have hxw := HER.out.low hBr
        have hxlt := hxw.lt0 HEN.out
        have HXW := hide hxw; have HXLT := hide hxlt
        clear htk hxw hxlt
        obtain ⟨M, hM⟩ : ∃ M, M = (l.take i).flatMap wrapW := ⟨_, rfl⟩
        rw [← hM] at hbn hB
        have hMx : Hid ((l.take (i + 1)).flatMap wrapW = M ++ wrapW x) := hide (by
          rw [List.take_add_one, HLX.out, List.flatMap_append, hM]
          simp)
        have HM := hide hM
        clear hM
        obtain ⟨wb, hwb⟩ : ∃ wb, wb = wr := ⟨_, rfl⟩
        go_wp2_with fail
        refine (ref_Wrap0 x xa xn xc wr HEN.out HXW.out g1 g2 (by omega) HXLT.out).mono ?_
        rintro e w2 ⟨pa, pn, pc, rfl, hpn, hp⟩
        have hpl : pn ≤ 700 := by have := wrap_length x; have := HEN.out; omega
        have HPN := hide hpn; have HP := hide hp
        have hb2 := hp.2.1
        have HB2 := hide hb2
        have hs2 := hp.2.2
        have hB2 := hide (hB.out.to hb2)
        have hW2 := hide (hW.out.low hb2)
        have hblk : Hid (∀ k, (Value.slice ba bn bc).ownBlock = some k → k < wr.heap.size) := hide fun k hk => (hB.out.1.lt k hk).2
        clear hpn hp hb2 hcr hB hW
        have hmod := tmod12 y
        obtain ⟨z, hz⟩ : ∃ z, z = y % 12 := ⟨_, rfl⟩
        have hz12 : z < 12 := by omega
        rw [← hz] at hmod
        clear hz
        have hwz : IntKind.u8.wrap (z : Int) = z := by rw [IntKind.wrap_u8]; omega
        have hwz2 : IntKind.i64.wrap (z : Int) = z := wrap64 (by omega) (by omega)
        by_cases hiz : i = z
        · subst hiz
          have dz : ((i : Int) == (i : Int)) = true := by simp
          have hal := hide (below_alloc w2 (.cells #[.int .u8 0] 5))
          have hrd1 := hide (rd_new w2 #[.int .u8 0] 5 1 1 (by decide) rfl)
          have HBa := hide (hB2.out.to hal.out)
          have HPa := hide (HP.out.to hal.out)
          have HWa := hide (hW2.out.low hal.out)
          have hMl : Hid (M.length ≤ 7000) := hide (by have := hbn.out; omega)
          go_upto_region 13 with (at_builtin; refine wpList_copy_gb rfl _ _ 23 rfl W W.heap.size 5 Tryd.underlying23 (by kernel_rfl) _ M rfl (by exact HBa.out) _ [0] rfl (by exact hrd1.out) (by have := hMl.out; have := HPN.out; have := HN2.out; simp; omega) ?_; intro b3 q3 w3 hr3 hg3; obtain ⟨m3, hm3⟩ : ∃ m, m = (M ++ [0]).length := ⟨_, rfl⟩; rw [← hm3] at hr3 ⊢; have HM3 := hide hm3; have HB3 := hide hr3; have HG3 := hide hg3; clear hm3 hr3 hg3)
          have HP3 := hide (row_keep HPa.out.1 HG3.out hblk.out)
          have HR3 : Hid (RdB w3 (.slice pa pn pc) (wrapW x)) := hide (ownsRow_rd HP3.out)
          have HW3 := hide (HWa.out.other HBa.out.1 (by decide) HG3.out)
          go_upto_region 14 with (at_builtin; refine wpList_copy_gb rfl _ _ 23 rfl W W.heap.size 5 Tryd.underlying23 (by kernel_rfl) _ (M ++ [0]) rfl (by exact HB3.out) _ (wrapW x) rfl (by exact HR3.out) (by have := hMl.out; have := HPN.out; have := HN2.out; simp; omega) ?_; intro b4 q4 w4 hr4 hg4; obtain ⟨m4, hm4⟩ : ∃ m, m = ((M ++ [0]) ++ (wrapW x)).length := ⟨_, rfl⟩; rw [← hm4] at hr4 ⊢; have HM4 := hide hm4; have HB4 := hide hr4; have HG4 := hide hg4; clear hm4 hr4 hg4)
          have HW4 := hide (HW3.out.other HB3.out.1 (by decide) HG4.out)
          have HX4 := hide (HX2.out.low HB4.out.2.1)
          go_wp2_with (at_builtin; refine wpList_copy_gb rfl _ _ 23 rfl W W.heap.size 5 Tryd.underlying23 (by kernel_rfl) _ (M ++ [0] ++ wrapW x) rfl (by exact HB4.out) _ b2 rfl (by exact HX4.out) (by have := hMl.out; have := HPN.out; have := HN2.out; simp; omega) ?_; intro b5 q5 w5 hr5 hg5; obtain ⟨m5, hm5⟩ : ∃ m, m = ((M ++ [0] ++ wrapW x) ++ b2).length := ⟨_, rfl⟩; rw [← hm5] at hr5 ⊢; have HM5 := hide hm5; have HB5 := hide hr5; have HG5 := hide hg5; clear hm5 hr5 hg5)
          have HW5 := hide (HW4.out.other HB4.out.1 (by decide) HG5.out)
          go_meet
          have e5 : M ++ [0] ++ wrapW x ++ b2 = (l.take i).flatMap wrapW ++ (0 :: (wrapW x ++ b2)) := by rw [HM.out]; simp
          have HB6 := HB5.out
          rw [e5] at HB6
          have hm6 := HM5.out
          refine ⟨_, wa, _, _, i, wc, 0 :: (wrapW x ++ b2), rfl, rfl, by omega, ?_, hi, hide (by rw [← e5]; exact hm6), hide HB6, HW5, hide (opened_zero _), hall⟩
          have := hMl.out; have := HPN.out; have := HN2.out
          simp only [List.length_append, List.length_cons, List.length_nil] at hm6
          omega
        · have dz : ((i : Int) == (z : Int)) = false := by simpa using fun e : (i : Int) = z => hiz (by omega)
          have hMl : Hid (M.length ≤ 7000) := hide (by have := hbn.out; omega)
          have HR2 : Hid (RdB w2 (.slice pa pn pc) (wrapW x)) := hide (ownsRow_rd HP.out.1)
          go_upto_region 16 with (at_builtin; refine wpList_copy_gb rfl _ _ 23 rfl W W.heap.size 5 Tryd.underlying23 (by kernel_rfl) _ M rfl (by exact hB2.out) _ (wrapW x) rfl (by exact HR2.out) (by have := hMl.out; have := HPN.out; have := HN2.out; simp; omega) ?_; intro b3 q3 w3 hr3 hg3; obtain ⟨m3, hm3⟩ : ∃ m, m = (M ++ (wrapW x)).length := ⟨_, rfl⟩; rw [← hm3] at hr3 ⊢; have HM3 := hide hm3; have HB3 := hide hr3; have HG3 := hide hg3; clear hm3 hr3 hg3)
          have HW3 := hide (hW2.out.other hB2.out.1 (by decide) HG3.out)
          obtain ⟨xs, hrow, hxs, hent⟩ := HW3.out
          have HROW := hide hrow; have HXS := hide hxs; have HENT := hide hent
          have hrow4 : Hid (∀ o, (w3.alloc o).ownsRow W.heap.size 23 1 (.slice wa i wc) i xs) := hide fun o => HROW.out.alloc o
          have hrd4 := hide (rd_new w3 #[.slice xa xn xc] 23 1 1 (by decide) rfl)
          have hs3 := HB3.out.2.2
          have hc3 := hcl.out w3 HB3.out.2.1
          have HB4 := hide (HB3.out.to (below_alloc w3 (.cells #[.slice xa xn xc] 23)))
          clear hrow hxs hent
          go_wp2_with (at_builtin; refine wpList_append_rd rfl _ _ 22 rfl W.heap.size 23 iS (.slice none 0 0) 1 24 Tryd.underlying22 hiS hyS0 hyS1 hyS2 rfl (by decide) _ i _ rfl (hrow4.out _) _ 1 [.slice xa xn xc] rfl (by exact hrd4.out) (by simp [Value.oneCell']) (by unfold maxLen; omega) (by omega) (by simp; omega) ?_; intro v5 w5 hown5 hg5 hnil5 hb5; obtain ⟨a5, co5, rfl⟩ := (ownsRow_rd hown5).head; have HO5 := hide hown5; have HG5 := hide hg5; clear hown5 hg5 hnil5 hb5)
          have HB5 := HB4.out.other (hrow4.out _) (by decide) HG5.out
          refine ⟨⟨b3, a5, i + 1, m3, q3, co5, rfl, rfl, by simp, by omega, ?_, hide (by rw [hMx.out]; exact HM3.out), hide (by rw [hMx.out]; exact HB5), hide ⟨xs ++ [.slice xa xn xc], HO5.out, by simp [HXS.out], fun j v' x' hv hx' => ?_⟩, htk1⟩, ?_⟩
          · have hm3 := HM3.out
            rw [List.length_append] at hm3
            have := HPN.out; have := hbn.out
            omega
          · by_cases hj : j < i
            · rw [List.getElem?_append_left (by rw [HXS.out]; exact hj)] at hv
              exact HENT.out j v' x' hv hx'
            · have hji : j = i := by
                have := (List.getElem?_eq_some_iff.1 hv).1
                rw [List.length_append, HXS.out] at this
                simp at this
                omega
              subst hji
              rw [List.getElem?_append_right (by rw [HXS.out]; omega), HXS.out, Nat.sub_self] at hv
              obtain rfl : _ = v' := by simpa using hv
              rw [HLX.out] at hx'
              obtain rfl : x = x' := by simpa using hx'
              exact ⟨HER.out, xa, xc, by rw [HEN.out], by rw [← HEN.out]; exact g1, g2⟩
          · show n - ((i : Int) + 1).toNat < n - ((i : Nat) : Int).toNat
            omega
      · have i0 : decide ((i : Int) < n) = false := decide_eq_false (by omega)
        obtain rfl : i = n := by omega
        go_wp2
        go_meet
        refine ⟨ba, wa, bn, bc, i, wc, [], rfl, rfl, hn10, by omega, Nat.le_refl _, hide (by rw [List.append_nil]; exact hbn.out), hide (by rw [List.append_nil]; exact hB.out), hW, hide opened_nil, hall⟩
  case rest =>
    obtain ⟨ba, wa, bn, bc, wn, wq, r, rfl, rfl, hw10, hbn8, hwn, hbn, hB, hW, hr, hall⟩ := hcut
    obtain ⟨P, hP⟩ : ∃ P, P = (l.take wn).flatMap wrapW ++ r := ⟨_, rfl⟩
    rw [← hP] at hbn hB
    obtain ⟨ls, hls⟩ : ∃ ls, ls = l.take wn := ⟨_, rfl⟩
    have hlsn : Hid (wn = ls.length) := hide (by rw [hls, List.length_take]; have := HN.out; omega)
    have htp : Hid ((tpRead P).1 = ls ∧ (tpRead P).2 = (ls.flatMap wrapW).length) := hide (by
      rw [hP, ← hls, tpRead_wraps ls r (by rw [hls]; exact hall.out), tpRead_none hr.out]
      simp)
    have hlong := hide (wraps_len ls (by rw [hls]; exact hall.out))
    have hall2 : Hid (∀ x ∈ ls, x.length ≤ 600) := hide (by rw [hls]; exact hall.out)
    have hWx := hide (hW.out.rd (by have := HN.out; omega) hB.out.2.1)
    rw [← hls] at hWx
    have hB1 := hB.out.1
    rw [← hbn.out] at hB1
    have hPc := hide (ownsRow_cap hB1)
    have hPr : Hid (RdB wc (.slice ba bn bc) P) := hide (ownsRow_rd hB.out.1)
    have hPl : Hid (∀ k, (Value.slice ba bn bc).ownBlock = some k → k < wc.heap.size) := hide fun k hk => (hB.out.1.lt k hk).2
    have hbc : bn ≤ bc ∧ bc ≤ 9223372036854775807 := hPc.out
    have HBX := hide hB.out.2.1
    have HSX := hide hB.out.2.2
    clear hB1 hP hls hall hr hW hB hPc
    go_wp2_with fail
    refine (tp_Read P ba bn bc wc hbn.out hPr.out hbc.1 hbc.2 (by omega) hPl.out).mono ?_
    rintro e w2 ⟨ga, gc, xs, rfl, hat, hxs, hb2⟩
    obtain ⟨m2, hm2⟩ : ∃ m, m = xs.length := ⟨_, rfl⟩
    rw [← hm2] at hat ⊢
    obtain ⟨nx, hnx⟩ : ∃ nx, nx = (tpRead P).2 := ⟨_, rfl⟩
    rw [← hnx]
    have hxs2 := hide (hxs.trans htp.out.1)
    have hnx2 := hide (hnx.trans htp.out.2)
    have HAT := hide hat
    have HW2 := hide (hWx.out.low hb2)
    have HB2 := hide (HBX.out.trans (hb2.mono HSX.out))
    have hm2n : m2 = wn := by have := congrArg List.length hxs2.out; rw [List.length_map, ← hlsn.out] at this; omega
    subst hm2n
    have HM2 := hide hm2
    clear hm2 hat hb2 hxs hnx htp hWx hPr hPl hbn
    obtain ⟨w3, hw3⟩ : ∃ w3, w3 = w2 := ⟨_, rfl⟩
    go_wp2
    go_loopw [13, 14] (fun av iv wr => ∃ i t : Nat, av = .int .i64 t ∧ iv = .int .i64 i ∧ i ≤ m2 ∧ t ≤ 700 * i ∧ Hid (t = ((ls.take i).flatMap wrapW).length) ∧ Hid (Below w2.heap.size w2 wr)) (fun _ iv _ => match iv with | .int _ j => m2 - j.toNat | _ => 0)
    case atStart => exact ⟨0, 0, rfl, rfl, Nat.zero_le _, Nat.zero_le _, hide (by simp), hide (Below.refl _ _)⟩
    case round =>
      obtain ⟨i, t, rfl, rfl, hi, ht7, ht, hb⟩ := hrel
      by_cases hil : i < m2
      · have i0 : decide ((i : Int) < m2) = true := by simpa using hil
        obtain ⟨bb, off, cc, xa, xn, xc, he, e1, er, en, g1, g2, hbb⟩ := HW2.out.at (k := i) (by have := hlsn.out; omega)
        obtain ⟨x, hx⟩ : ∃ x, x = ls[i]'(by have := hlsn.out; omega) := ⟨_, rfl⟩
        rw [← hx] at er en
        simp only [Value.slice.injEq] at he
        obtain ⟨rfl, -, rfl⟩ := he
        have hlx : ls[i]? = some x := by rw [hx]; exact List.getElem?_eq_getElem _
        have hcl : Hid (∀ w', Below wr.heap.size wr w' → w'.cell? ⟨bb, off + i, none⟩ = some (.slice xa xn xc)) := hide fun w' h => (h.cell (p := ⟨bb, _, none⟩) (Nat.lt_of_lt_of_le hbb hb.out.size)).trans ((hb.out.cell (p := ⟨bb, _, none⟩) hbb).trans e1)
        have hcr := hcl.out wr (Below.refl _ _)
        have HER := hide (er.low hb.out); have HEN := hide en; have HLX := hide hlx
        clear e1 er en hlx hx
        have hwi : IntKind.i64.wrap ((i : Int) + 1) = (i : Int) + 1 := wrap64 (by omega) (by omega)
        have hx6 : xn ≤ 600 := by
          rw [HEN.out]
          exact hall2.out x (List.mem_of_getElem? HLX.out)
        have HXLT := hide (HER.out.lt0 HEN.out)
        obtain ⟨wb, hwb⟩ : ∃ wb, wb = wr := ⟨_, rfl⟩
        go_wp2_with fail
        refine (ref_Wrap0 x xa xn xc wr HEN.out HER.out g1 g2 (by omega) HXLT.out).mono ?_
        rintro e w4 ⟨pa, pn, pc, rfl, hpn, hp⟩
        have hpl : pn ≤ 700 := by have := wrap_length x; have := HEN.out; omega
        have HB4 := hide (hb.out.trans (hp.2.1.mono hb.out.size))
        have hwt : IntKind.i64.wrap ((t : Int) + (pn : Int)) = (t : Int) + (pn : Int) := wrap64 (by omega) (by omega)
        have HT : Hid (t + pn = ((ls.take (i + 1)).flatMap wrapW).length) := hide (by
          rw [List.take_add_one, HLX.out, List.flatMap_append, List.length_append, ← ht.out, hpn]
          simp)
        clear hpn hp hcr ht
        go_wp2
        exact ⟨⟨i + 1, t + pn, by simp, by simp, by omega, by omega, HT, HB4⟩, by show m2 - ((i : Int) + 1).toNat < m2 - ((i : Nat) : Int).toNat; omega⟩
      · have i0 : decide ((i : Int) < m2) = false := decide_eq_false (by omega)
        obtain rfl : i = m2 := by omega
        have htn : t = nx := by
          rw [ht.out, List.take_of_length_le (by have := hlsn.out; omega), hnx2.out]
        subst htn
        have e9 : ((t : Int) == (t : Int)) = true := by simp
        clear hnx2 ht
        go_wp2_with fail
        refine (ref_SameNotes ga wa i gc i wq (xs.map Prod.snd) ls wr (HAT.out.low hb.out).rd (by rw [List.length_map]; exact HM2.out) (HW2.out.low hb.out).bs hlsn.out (by omega) (by omega)).mono ?_
        rintro e w4 ⟨rfl, hb4⟩
        have hsame : decide (xs.map Prod.snd = ls) = true := decide_eq_true hxs2.out
        rw [hsame]
        have HB4 := hide ((HB2.out.trans (hb.out.mono HB2.out.size)).trans (hb4.mono (Nat.le_trans HB2.out.size hb.out.size)))
        clear hb4 hsame
        go_wp2
        go_ret
        exact ⟨rfl, HB4.out⟩
end Go.Proofs.YtcgkhocmlolknaaDoor

/-
  The walk of TapeBack.
-/
import Derived.Test.YtglgjakjhkdoaaaDoorTaO
import Derived.Test.YtglgjakjhkdoaaaDoorTaG
namespace Go.Proofs.YtglgjakjhkdoaaaDoor
open Go.RowKit Go.Maps
set_option linter.unusedVariables false
set_option linter.unusedSimpArgs false

theorem FsOwn.grew {W w w' : World} {sb : Nat} {s : FsS} {F : List Nat} {row : Option Nat} (h : FsOwn W w sb s F) (hg : w.grownBy w' row) (hr : ∀ k, row = some k → W.heap.size ≤ k ∧ k ∉ F) : FsOwn W w' sb s F :=
  ⟨h.rep.same (fun k hk => hg.block k (h.rep.lt k hk) fun e => (hr k e.symm).2 hk) hg.size, h.up, h.low.grown hg h.low.size fun k hk => (hr k hk).1, h.ok⟩
theorem tp_open_own {W w : World} {sb : Nat} {s s' : FsS} {F : List Nat} {k : Bs} {N : List Bs} (hO : FsOwn W w sb s F) (hk : k.length ≤ maxLen) (ho : tpOpen s k = (0, s', N)) :
    Calls Tryd.prog 14 #[.pointer (some ⟨sb, 0, none⟩), .string ⟨k.toArray⟩] w fun e w' => ∃ (F' : List Nat) (tb m : Nat) (a : Option Addr) (cc : Nat) (xs : List (Value × Bs)), e = .returned (.tuple #[.pointer (some ⟨tb, 0, none⟩), .slice a m cc, .int .u16 0]) ∧ m = xs.length ∧ FsOwn W w' sb s' F' ∧ Chg F F' w w' ∧ TpBlk w' tb sb k ∧ w.heap.size ≤ tb ∧ tb ∉ F' ∧ NotesAt w.heap.size w' (.slice a m cc) xs ∧ xs.map Prod.snd = N ∧ NFar F' (.slice a m cc) xs := by
  refine (tp_Open sb s F k hk w hO.rep hO.ok).mono ?_
  rintro e w' ⟨F', hr, hc, hcase⟩
  have hok := tpOpen_ok hO.ok k
  rw [ho] at hr hcase hok
  rcases hcase with ⟨h1, _⟩ | ⟨_, tb, a, cc, xs, rfl, hblk, htb, htn, hat, hxs, hfar⟩
  · exact absurd rfl h1
  · exact ⟨F', tb, xs.length, a, cc, xs, rfl, rfl, ⟨hr, hc.up hO.low.size hO.up, hO.low.trans (hc.below hO.low.size hO.up), hok⟩, hc, hblk, htb, htn, hat, hxs, hfar⟩
theorem WantAt.chg {W w w' : World} {l : List Bs} {B i : Nat} {v : Value} {F F' : List Nat} (h : WantAt W l B v i w) (hc : Chg F F' w w') (hn : ∀ k, v.ownBlock = some k → k ∉ F) : WantAt W l B v i w' ∧ ∀ k, v.ownBlock = some k → k ∉ F' := by
  obtain ⟨xs, h1, h2, h3⟩ := h
  refine ⟨⟨xs, ownsRow_same h1 fun k hk => hc.block k (h1.lt k hk).2 (hn k hk), h2, h3⟩, fun k hk hm => ?_⟩
  rcases hc.fresh k hm with h | h
  · exact hn k hk h
  · have := (h1.lt k hk).2; omega
/-- a note that fits -/
theorem note_fits {k : Bs} {s : FsS} {M : List Bs} {i : Nat} (h : Jn k s [] M) (h0 : s.left = none) (h1 : s.halted = false) (hr : s.room = 100000) (hu : s.used ≤ 700 * i) (hi : i ≤ 20) (x : Bs) (hx : x.length ≤ 600) :
    ∃ s1, tpAppend s k x = (0, s1) ∧ Jn k s1 [] (M ++ [x]) ∧ s1.left = none ∧ s1.halted = false ∧ s1.room = 100000 ∧ s1.used ≤ 700 * (i + 1) := by
  have hw := wrap_length x
  have hj := h.note h1 x
  have e : tpAppend s k x = (0, { s.went with waits := s.waits ++ [(k, wrapW x)] }) := by
    unfold tpAppend fsAppend
    rw [if_neg (by omega), if_neg (by rw [h.has]; simp), if_neg (wrapW_pos x), if_neg (by rw [hr]; omega), if_pos (by unfold FsS.go; rw [h0]; rfl)]
  have ew : s.went = s := by unfold FsS.went; rw [h0]
  rw [e] at hj
  refine ⟨_, e, ?_, by show s.went.left = _; rw [ew]; exact h0, by show s.went.halted = _; rw [ew]; exact h1, by show s.went.room = _; rw [ew]; exact hr, ?_⟩
  · rcases hj with ⟨_, hj | hj⟩ | ⟨_, _, hj⟩
    · have : s.went.halted = true := hj
      rw [ew, h1] at this; cases this
    · exact absurd rfl hj
    · exact hj
  · show total s.went.files + total (s.waits ++ [(k, wrapW x)]) ≤ _
    rw [ew, total_append, total_cons]
    unfold FsS.used at hu
    have : total ([] : List (Bs × Bs)) = 0 := rfl
    simp only
    omega
/-- what is so in a round -/
structure Bk (W w : World) (sb tb : Nat) (s : FsS) (F : List Nat) (M : List Bs) (v : Value) (n : Nat) : Prop where
  own : FsOwn W w sb s F
  blk : TpBlk w tb sb [106]
  tn : tb ∉ F
  want : WantAt W M W.heap.size v n w
  nof : ∀ k, v.ownBlock = some k → k ∉ F
  not : ∀ k, v.ownBlock = some k → k ≠ tb
  len : n = M.length
  jn : Jn [106] s [] M
  left : s.left = none
  live : s.halted = false
theorem Bk.step {W w w' : World} {sb tb : Nat} {s s' : FsS} {F F' : List Nat} {M : List Bs} {v : Value} {n : Nat} (h : Bk W w sb tb s F M v n) (ho : FsOwn W w' sb s' F') (hc : Chg F F' w w') : FsOwn W w' sb s' F' ∧ TpBlk w' tb sb [106] ∧ tb ∉ F' ∧ WantAt W M W.heap.size v n w' ∧ (∀ k, v.ownBlock = some k → k ∉ F') := by
  obtain ⟨h1, h2⟩ := h.want.chg hc h.nof
  refine ⟨ho, h.blk.chg hc h.tn, fun hm => ?_, h1, h2⟩
  rcases hc.fresh _ hm with h9 | h9
  · exact h.tn h9
  · have := h.blk.lt; omega

set_option maxRecDepth 100000 in
set_option maxHeartbeats 3200000 in
theorem law_TapeBack (W : World) (v0 : Value) (l : List Bs) (h0 : RdNs W v0 l ∧ l.length ≤ maxLen) (v1 : Value) (m : List Bs) (h1 : RdNs W v1 m ∧ m.length ≤ maxLen) :
    Calls Tryd.prog 5 #[v0, v1] W fun e w' => e = .returned (.bool true) ∧ Below W.heap.size W w' := by
  obtain ⟨a0, c0, rfl⟩ := h0.1.head
  obtain ⟨a1, c1, rfl⟩ := h1.1.head
  obtain ⟨n, hn⟩ : ∃ n, n = l.length := ⟨_, rfl⟩
  obtain ⟨n1, hn1⟩ : ∃ n, n = m.length := ⟨_, rfl⟩
  rw [← hn] at h0 ⊢
  rw [← hn1] at h1 ⊢
  have HN := hide hn; have HN1 := hide hn1; have H0 := hide h0.1; have H1 := hide h1.1
  have hm1 := h1.2
  have hro := hide (rdOpts_made W [optL l a0 n c0, optL m a1 n1 c1] 2 #[.int .u8 0, .slice none 0 0, .slice a0 n c0, .int .u8 0, .slice none 0 0, .int .i64 0, .int .u8 0, .slice none 0 0, .slice a1 n1 c1, .int .u8 0, .slice none 0 0, .int .i64 0] rfl (by decide) rfl (by
    intro o ho
    rcases List.mem_cons.1 ho with rfl | ho
    · exact optL_ok h0.1 hn h0.2
    · rw [List.mem_singleton] at ho
      subst ho
      exact optL_ok h1.1 hn1 h1.2) (by decide))
  have HB0 := hide (below_alloc W (.cells #[.int .u8 0, .slice none 0 0, .slice a0 n c0, .int .u8 0, .slice none 0 0, .int .i64 0, .int .u8 0, .slice none 0 0, .slice a1 n1 c1, .int .u8 0, .slice none 0 0, .int .i64 0] 29))
  clear hn hn1 h0 h1
  have hk : ([106] : Bs).length ≤ maxLen := by decide
  have hnk : named [106] = true := by decide
  go_enter Tryd.func5, Tryd.ntmps5
  go_wp2_with fail
  refine (tp_heavy _ _ _ hro.out).mono ?_
  rintro e w1 ⟨rfl | ⟨rfl, -, hlight⟩, rfl⟩
  · clear hro
    go_wp2_with (refine (tp_known _).mono ?_; rintro e w' ⟨rfl, hb⟩; have HB := hide hb; clear hb)
    go_ret
    exact ⟨rfl, HB0.out.trans (HB.out.mono HB0.out.size)⟩
  have hn10 : n ≤ 10 := (hlight (optL l a0 n c0) (by simp)).2.1
  have hn110 : n1 ≤ 10 := (hlight (optL m a1 n1 c1) (by simp)).2.1
  clear hlight hro
  go_wp2_with fail
  refine (tp_known _).mono ?_
  rintro e w1 ⟨rfl, hb1⟩
  have HB1 := hide (HB0.out.trans (hb1.mono HB0.out.size))
  clear hb1 HB0
  obtain ⟨iS, hiS, hyS0, hyS1, hyS2⟩ := info_parts sl8_info
  go_wp2_with fail
  refine (fs_New' 100000 (by omega) (by omega) W w1 HB1.out).mono ?_
  rintro e w2 ⟨sb, F0, rfl, hf0, _, _⟩
  have HF0 := hide hf0
  clear hf0 HB1
  go_wp2_with fail
  refine (tp_open_own HF0.out hk (open_new 100000 [106] hnk (by decide) (by decide))).mono ?_
  rintro e w3 ⟨F1, tb, m0, ga, gc, gxs, rfl, -, hO1, -, hblk, -, htn, -, -, -⟩
  have HO1 := hide hO1; have HBLK := hide hblk; have HTN := hide htn
  clear hO1 hblk htn HF0
  obtain ⟨w30, hw30⟩ : ∃ w, w = w3 := ⟨_, rfl⟩
  go_wp2_with fail
  go_loopw [9, 10] (fun ov iv wr => ∃ (i on oc : Nat) (oa : Option Addr) (M : List Bs) (s : FsS) (F : List Nat), ov = .slice oa on oc ∧ iv = .int .i64 i ∧ i ≤ n ∧ on ≤ i ∧ Hid (Bk W wr sb tb s F M (.slice oa on oc) on) ∧ Hid (s.room = 100000 ∧ s.used ≤ 700 * i)) (fun _ iv _ => match iv with | .int _ j => n - j.toNat | _ => 0)
  case atStart => exact ⟨0, 0, 0, none, [], _, F1, rfl, rfl, Nat.zero_le _, Nat.zero_le _, hide ⟨HO1.out, HBLK.out, HTN.out, ⟨[], World.ownsRow_nil _ _ _ _, rfl, fun j u x h => by simp at h⟩, (fun k hk => by cases hk), (fun k hk => by cases hk), rfl, jn_new _ _, rfl, rfl⟩, hide ⟨rfl, Nat.zero_le _⟩⟩
  case round =>
    obtain ⟨i, on, oc, oa, M, s, F, rfl, rfl, hi, hon, hB, hR⟩ := hrel
    clear HO1 HBLK HTN
    by_cases hil : i < n
    · have i0 : decide ((i : Int) < n) = true := by simpa using hil
      obtain ⟨bb, off, cc, xa, xn, xc, he, e1, er, en, g1, g2, hbb⟩ := H0.out.at (k := i) (by have := HN.out; omega)
      obtain ⟨x, hx⟩ : ∃ x, x = l[i]'(by have := HN.out; omega) := ⟨_, rfl⟩
      rw [← hx] at er en
      simp only [Value.slice.injEq] at he
      obtain ⟨rfl, -, rfl⟩ := he
      have hcl : Hid (∀ w', Below W.heap.size W w' → w'.cell? ⟨bb, off + i, none⟩ = some (.slice xa xn xc)) := hide fun w' h => (h.cell (p := ⟨bb, _, none⟩) hbb).trans e1
      have HER := hide er; have HEN := hide en
      have hcr := hcl.out wr hB.out.own.low
      have hwi : IntKind.i64.wrap ((i : Int) + 1) = (i : Int) + 1 := wrap64 (by omega) (by omega)
      clear e1 er en hx
      obtain ⟨wb, hwb⟩ : ∃ wb, wb = wr := ⟨_, rfl⟩
      go_wp2_with fail
      refine (tp_Append tb sb s F [106] (by decide) xa xn xc x wr hB.out.blk hB.out.own.rep hB.out.own.ok (HER.out.low hB.out.own.low) HEN.out g1 g2 (fun h9 j hj => Nat.lt_of_lt_of_le (HER.out.lt0 HEN.out h9 j hj) hB.out.own.low.size)).mono ?_
      rintro e w4 ⟨rfl, ht⟩
      by_cases hbig : 600 < xn
      · have e9 : tpAppend s [106] x = (1, s) := by unfold tpAppend; rw [← HEN.out, if_pos hbig]
        rw [e9] at ht ⊢
        obtain ⟨F4, hO4, hC4⟩ := hB.out.own.step ht hB.out.own.ok
        obtain ⟨_, q2, q3, q4, q5⟩ := hB.out.step hO4 hC4
        have HBK := hide (show Bk W w4 sb tb s F4 M (.slice oa on oc) on from ⟨hO4, q2, q3, q4, q5, hB.out.not, hB.out.len, hB.out.jn, hB.out.left, hB.out.live⟩)
        have hc4 := hcl.out w4 hO4.low
        have d6 : decide ((xn : Int) ≤ 600) = false := decide_eq_false (by omega)
        clear ht hO4 hC4 q2 q3 q4 q5 e9
        go_wp2
        exact ⟨⟨i + 1, on, oc, oa, M, s, F4, rfl, by simp, hil, by omega, HBK, hide ⟨hR.out.1, by have := hR.out.2; omega⟩⟩, by show n - ((i : Int) + 1).toNat < n - ((i : Nat) : Int).toNat; omega⟩
      · obtain ⟨s1, e9, hj1, hl1, hh1, hr1, hu1⟩ := note_fits hB.out.jn hB.out.left hB.out.live hR.out.1 hR.out.2 (by omega) x (by rw [← HEN.out]; omega)
        have ok1 := tpAppend_ok hB.out.own.ok [106] x
        rw [e9] at ht ok1 ⊢
        obtain ⟨F4, hO4, hC4⟩ := hB.out.own.step ht ok1
        obtain ⟨_, q2, q3, q4, q5⟩ := hB.out.step hO4 hC4
        have HO4 := hide hO4; have Q2 := hide q2; have Q3 := hide q3; have Q5 := hide q5
        have HJ1 := hide hj1; have HL1 := hide hl1; have HH1 := hide hh1; have HR1 := hide (And.intro hr1 hu1)
        have hc4 := hcl.out w4 hO4.low
        have hal := hide (below_alloc w4 (.cells #[.slice xa xn xc] 23))
        obtain ⟨xs, hrow, hxs, hent⟩ := q4.low hal.out
        have HROW := hide hrow; have HXS := hide hxs; have HENT := hide hent
        have hrow4 : Hid ((w4.alloc (.cells #[.slice xa xn xc] 23)).ownsRow W.heap.size 23 1 (.slice oa on oc) on xs) := HROW
        have hrd4 := hide (rd_new w4 #[.slice xa xn xc] 23 1 1 (by decide) rfl)
        have hs4 := hO4.low.size
        have hlt4 := q2.lt
        clear ht hO4 hC4 q2 q3 q4 q5 e9 hrow hxs hent hj1 hl1 hh1 hr1 hu1 ok1
        go_wp2_with (at_builtin; refine wpList_append_rd rfl _ _ 22 rfl W.heap.size 23 iS (.slice none 0 0) 1 24 Tryd.underlying22 hiS hyS0 hyS1 hyS2 rfl (by decide) _ on _ rfl (by exact hrow4.out) _ 1 [.slice xa xn xc] rfl (by exact hrd4.out) (by simp [Value.oneCell']) (by unfold maxLen; omega) (by omega) (by simp; omega) ?_; intro v5 w5 hown5 hg5 hnil5 hb5; obtain ⟨a5, co5, rfl⟩ := (ownsRow_rd hown5).head; have HO5 := hide hown5; have HG5 := hide hg5; have HB5 := hide hb5; clear hown5 hg5 hnil5 hb5)
        have hO4a := HO4.out.then hal.out
        have hO5 := hO4a.grew HG5.out fun k hk => ⟨(hrow4.out.lt k hk).1, Q5.out k hk⟩
        have hblk5 : TpBlk w5 tb sb [106] := (HG5.out.block tb (by simp; omega) fun e' => hB.out.not tb e'.symm rfl).trans (Q2.out.low hal.out)
        have hnew : ∀ k, (Value.slice a5 (on + 1) co5).ownBlock = some k → k ∉ F4 ∧ k ≠ tb := fun k hk => by
          rcases HB5.out with e | e
          · rw [e] at hk
            exact ⟨Q5.out k hk, hB.out.not k hk⟩
          · rw [e] at hk
            simp only [Option.some.injEq, World.alloc, Array.size_push] at hk
            subst hk
            exact ⟨fun hm => by have := HO4.out.rep.lt _ hm; omega, by omega⟩
        refine ⟨⟨i + 1, on + 1, co5, a5, M ++ [x], s1, F4, rfl, by simp, hil, by omega, hide ⟨hO5, hblk5, Q3.out, ⟨xs ++ [.slice xa xn xc], HO5.out, by simp [HXS.out], fun j v' x' hv hx' => ?_⟩, fun k hk => (hnew k hk).1, fun k hk => (hnew k hk).2, by rw [List.length_append, ← hB.out.len]; rfl, HJ1.out, HL1.out, HH1.out⟩, HR1⟩, by show n - ((i : Int) + 1).toNat < n - ((i : Nat) : Int).toNat; omega⟩
        by_cases hj : j < on
        · rw [List.getElem?_append_left (by rw [HXS.out]; exact hj)] at hv
          rw [List.getElem?_append_left (by rw [← hB.out.len]; exact hj)] at hx'
          exact HENT.out j v' x' hv hx'
        · have hji : j = on := by
            have := (List.getElem?_eq_some_iff.1 hv).1
            rw [List.length_append, HXS.out] at this
            simp at this
            omega
          subst hji
          rw [List.getElem?_append_right (by rw [HXS.out]; omega), HXS.out, Nat.sub_self] at hv
          obtain rfl : _ = v' := by simpa using hv
          rw [List.getElem?_append_right (by rw [← hB.out.len]; omega), ← hB.out.len, Nat.sub_self] at hx'
          obtain rfl : x = x' := by simpa using hx'
          exact ⟨HER.out, xa, xc, by rw [HEN.out], by rw [← HEN.out]; exact g1, g2⟩
    · have i0 : decide ((i : Int) < n) = false := decide_eq_false (by omega)
      obtain rfl : i = n := by omega
      have hop := hB.out.jn.open (by decide) (by decide)
      have hcl0 := (clear_lh s [106]).none hB.out.left
      have hjc := hB.out.jn.clear
      rw [List.nil_append] at hop
      obtain ⟨s2, hs2⟩ : ∃ t, t = tpClear s [106] := ⟨_, rfl⟩
      rw [← hs2] at hop hcl0 hjc
      have HJC := hide hjc
      have hl2 := hcl0.1
      have hh2 : s2.halted = false := hcl0.2.trans hB.out.live
      have HL2 := hide hl2; have HH2 := hide hh2
      clear hs2 hcl0 hjc hl2 hh2
      obtain ⟨wb, hwb⟩ : ∃ wb, wb = wr := ⟨_, rfl⟩
      go_wp2_with fail
      refine (tp_open_own hB.out.own hk hop).mono ?_
      rintro e w4 ⟨F4, tb4, m4, a4, c4, xs4, rfl, hm4, hO4, hC4, -, -, -, hat4, hxs4, hfar4⟩
      obtain ⟨_, q2, q3, q4, q5⟩ := hB.out.step hO4 hC4
      have HO4 := hide hO4; have Q2 := hide q2; have Q3 := hide q3; have Q4 := hide q4; have Q5 := hide q5
      have HAT4 := hide hat4; have HXS4 := hide hxs4; have HFAR4 := hide hfar4; have HM4 := hide hm4
      clear hop hO4 hC4 q2 q3 q4 q5 hat4 hxs4 hfar4 hm4
      go_wp2_with fail
      refine (tp_Swap tb sb s2 F4 [106] (by decide) W w4 HO4.out Q2.out Q3.out a1 n1 c1 m H1.out HN1.out hm1).mono ?_
      rintro e w5 ⟨rfl, ht⟩
      have hsw := HJC.out.swap HO4.out.ok hnk HH2.out (fun h => by rw [HH2.out] at h; cases h) m
      have ok5 := tpSwap_ok HO4.out.ok [106] m
      have hlv : (tpSwap s2 [106] m).2.halted = false := (swap_none HL2.out [106] m).2.trans HH2.out
      obtain ⟨F5, hO5, hC5⟩ := HO4.out.step ht ok5
      obtain ⟨e5, he5⟩ : ∃ e, e = (tpSwap s2 [106] m).1 := ⟨_, rfl⟩
      obtain ⟨s5, hs5⟩ : ∃ t, t = (tpSwap s2 [106] m).2 := ⟨_, rfl⟩
      rw [← he5] at hsw ⊢
      rw [← hs5] at hsw hO5 hlv
      -- what is there now
      have hnow : ∃ N, Hid (Jn [106] s5 [] N ∨ Jn [106] s5 N []) ∧ ((e5 ≠ 0 ∧ N = M) ∨ (e5 = 0 ∧ N = m)) := by
        rcases hsw with ⟨h1, h2 | h2⟩ | ⟨h1, _, h3⟩
        · rw [hlv] at h2; cases h2
        · exact ⟨M, hide (.inl h1), .inl ⟨h2, rfl⟩⟩
        · exact ⟨m, hide (.inr h3), .inr ⟨h1, rfl⟩⟩
      obtain ⟨N, hJ5, hN5⟩ := hnow
      have hop5 : tpOpen s5 [106] = (0, tpClear s5 [106], N) := by
        rcases hJ5.out with h | h
        · have := h.open (by decide) (by decide); rwa [List.nil_append] at this
        · have := h.open (by decide) (by decide); rwa [List.append_nil] at this
      obtain ⟨g1, g2⟩ := HAT4.out.chg HFAR4.out hC5
      obtain ⟨g3, g4⟩ := Q4.out.chg hC5 Q5.out
      have HO5 := hide hO5; have HAT5 := hide g1; have HFAR5 := hide g2; have HW5 := hide g3; have HNF5 := hide g4; have HN5 := hide hN5
      have HOP5 := hide hop5
      clear ht hsw ok5 hlv hO5 hC5 he5 hs5 g1 g2 g3 g4 hN5 hop5 hJ5
      go_wp2_with fail
      refine (tp_open_own HO5.out hk HOP5.out).mono ?_
      rintro e w6 ⟨F6, tb6, m6, a6, c6, xs6, rfl, hm6, hO6, hC6, -, -, -, hat6, hxs6, -⟩
      obtain ⟨g1, g2⟩ := HAT5.out.chg HFAR5.out hC6
      obtain ⟨g3, -⟩ := HW5.out.chg hC6 HNF5.out
      have HLOW6 := hide hO6.low
      have HAT6 := hide g1; have HW6 := hide g3; have HATN := hide hat6; have HXSN := hide hxs6; have HM6 := hide hm6
      clear hm6 hO6 hC6 hat6 hxs6 g1 g2 g3
      have hwantrd : Hid (RdBs w6 (.slice oa on oc) M) := hide (by
        have h9 := HW6.out.rd (by rw [hB.out.len]; exact Nat.le_refl _) HLOW6.out
        rw [hB.out.len, List.take_length] at h9
        rw [← hB.out.len] at h9
        exact h9.bs)
      have hgot : Hid (RdBs w6 (.slice a4 m4 c4) M) := hide (by have h9 := HAT6.out.rd; rw [HXS4.out] at h9; exact h9)
      have hnowrd : Hid (RdBs w6 (.slice a6 m6 c6) N) := hide (by have h9 := HATN.out.rd; rw [HXSN.out] at h9; exact h9)
      have hMl : Hid (on = M.length) := hide hB.out.len
      have hm4 : Hid (m4 = M.length) := hide (by rw [HM4.out, ← HXS4.out, List.length_map])
      have hm6 : Hid (m6 = N.length) := hide (by rw [HM6.out, ← HXSN.out, List.length_map])
      have hm40 : m4 ≤ 10 := by have := hm4.out; have := hMl.out; omega
      clear HATN HXSN HM6 HM4 HXS4 HAT6 HW6 HO5 HAT5 HFAR5 HW5 HNF5 HAT4 HFAR4 Q2 Q3 Q4 Q5 HO4 hB hR HJC
      rcases HN5.out with ⟨h5, hNM⟩ | ⟨h5, hNm⟩
      · have d5 : (e5 == 0) = false := by simpa using h5
        subst hNM
        clear HN5 h5
        have hm60 : m6 ≤ 10 := by have := hm6.out; have := hm4.out; omega
        go_wp2_with fail
        refine (ref_SameNotes a4 oa m4 c4 on oc _ _ w6 hgot.out hm4.out hwantrd.out hMl.out (by omega) (by omega)).mono ?_
        rintro e w7 ⟨rfl, hb7⟩
        rw [decide_eq_true (rfl : N = N)]
        have HB7 := hide hb7
        clear hb7
        go_wp2_with fail
        refine (ref_SameNotes a6 oa m6 c6 on oc _ _ w7 (hnowrd.out.low HB7.out) hm6.out (hwantrd.out.low HB7.out) hMl.out (by omega) (by omega)).mono ?_
        rintro e w8 ⟨rfl, hb8⟩
        rw [decide_eq_true (rfl : N = N)]
        have HB8 := hide ((HLOW6.out.trans (HB7.out.mono HLOW6.out.size)).trans (hb8.mono (Nat.le_trans HLOW6.out.size HB7.out.size)))
        clear hb8
        go_wp2
        go_ret
        exact ⟨rfl, HB8.out⟩
      · subst h5
        subst hNm
        clear HN5
        have hm60 : m6 ≤ 10 := by have := hm6.out; have := HN1.out; omega
        go_wp2_with fail
        refine (ref_SameNotes a4 oa m4 c4 on oc _ _ w6 hgot.out hm4.out hwantrd.out hMl.out (by omega) (by omega)).mono ?_
        rintro e w7 ⟨rfl, hb7⟩
        rw [decide_eq_true (rfl : M = M)]
        have HB7 := hide hb7
        clear hb7
        go_wp2_with fail
        refine (ref_SameNotes a6 a1 m6 c6 n1 c1 _ _ w7 (hnowrd.out.low HB7.out) hm6.out (H1.out.low (HLOW6.out.trans (HB7.out.mono HLOW6.out.size))).bs HN1.out (by omega) (by omega)).mono ?_
        rintro e w8 ⟨rfl, hb8⟩
        rw [decide_eq_true (rfl : N = N)]
        have HB8 := hide ((HLOW6.out.trans (HB7.out.mono HLOW6.out.size)).trans (hb8.mono (Nat.le_trans HLOW6.out.size HB7.out.size)))
        clear hb8
        go_wp2
        go_ret
        exact ⟨rfl, HB8.out⟩
end Go.Proofs.YtglgjakjhkdoaaaDoor

/-
  The document's Read, SameNotes.
-/
import Derived.Test.YtglgjakjhkdoaaaGreatDoorZTaC
import Derived.Test.YtglgjakjhkdoaaaGreatDoorZStL
namespace Go.Proofs.YtglgjakjhkdoaaaGreatDoor
open Go.RowKit
set_option linter.unusedVariables false
set_option linter.unusedSimpArgs false

theorem NotesAt.rd {B : Nat} {w : World} {v : Value} {xs : List (Value × List UInt8)} (h : NotesAt B w v xs) : RdBs w v (xs.map Prod.snd) := by
  refine ⟨xs.map Prod.fst, ?_, by simp, fun i u l hu hl => ?_⟩
  · rw [List.length_map]
    exact ownsRow_rd h.row
  · rw [List.getElem?_map] at hu hl
    cases hx : xs[i]? with
    | none => rw [hx] at hu; cases hu
    | some x =>
      rw [hx] at hu hl
      simp only [Option.map_some, Option.some.injEq] at hu hl
      subst hu; subst hl
      exact ownsRow_rd (h.ent x (List.mem_of_getElem? hx))
theorem NotesAt.low {B : Nat} {w w' : World} {v : Value} {xs : List (Value × List UInt8)} (h : NotesAt B w v xs) (hb : Below w.heap.size w w') : NotesAt B w' v xs := h.same fun k o _ ho _ => hb.block k (Array.getElem?_eq_some_iff.1 ho).1
theorem take_eq_step {l m : List (List UInt8)} {i : Nat} {x y : List UInt8} (hx : l[i]? = some x) (hy : m[i]? = some y) (h : l.take i = m.take i) : l.take (i + 1) = m.take (i + 1) ↔ x = y := by
  rw [List.take_add_one, List.take_add_one, hx, hy, h]
  simp

set_option maxRecDepth 100000 in
set_option maxHeartbeats 1600000 in
theorem ref_SameNotes (a b : Option Addr) (n c m d : Nat) (l k : List (List UInt8)) (w : World) (h1 : RdBs w (.slice a n c) l) (hn : n = l.length) (h2 : RdBs w (.slice b m d) k) (hm : m = k.length) (hle : n ≤ 1048576) (hle2 : m ≤ 1048576) :
    Calls Tryz.prog 29 #[.slice a n c, .slice b m d] w fun e w' => e = .returned (.bool (decide (l = k))) ∧ Below w.heap.size w w' := by
  have HN := hide hn; have HM := hide hm
  have H1 := hide h1; have H2 := hide h2
  clear hn hm h1 h2
  by_cases hnm : n = m
  · subst hnm
    have i9 : ((n : Int) == (n : Int)) = true := by simp
    go_enter Tryz.func29, Tryz.ntmps29
    go_wp2
    go_loopw [5] (fun iv wr => ∃ i : Nat, iv = .int .i64 i ∧ i ≤ n ∧ Hid (l.take i = k.take i) ∧ Hid (Below w.heap.size w wr)) (fun iv _ => match iv with | .int _ j => n - j.toNat | _ => 0)
    case atStart => exact ⟨0, rfl, Nat.zero_le _, hide rfl, hide (Below.refl _ _)⟩
    case round =>
      obtain ⟨i, rfl, hi, heq, hb⟩ := hrel
      by_cases hin : i < n
      · have i0 : (i : Int) < n := by omega
        have hd : decide ((i : Int) < n) = true := by simpa using hin
        obtain ⟨g, o1, cc, v1, he, c1, hr1, hg1⟩ := (H1.out.low hb.out).at (k := i) (by have := HN.out; omega)
        obtain ⟨g', o2, cc', v2, he2, c2, hr2, hg2⟩ := (H2.out.low hb.out).at (k := i) (by have := HM.out; omega)
        simp only [Value.slice.injEq] at he he2
        obtain ⟨rfl, -, -⟩ := he
        obtain ⟨rfl, -, -⟩ := he2
        have hx := List.getElem?_eq_getElem (l := l) (i := i) (by have := HN.out; omega)
        have hy := List.getElem?_eq_getElem (l := k) (i := i) (by have := HM.out; omega)
        generalize l[i]'(by have := HN.out; omega) = x at hx hr1
        generalize k[i]'(by have := HM.out; omega) = y at hy hr2
        obtain ⟨xa, xc, rfl⟩ := hr1.head
        obtain ⟨ya, yc, rfl⟩ := hr2.head
        obtain ⟨xn, hxn⟩ : ∃ xn, xn = x.length := ⟨_, rfl⟩
        obtain ⟨yn, hyn⟩ : ∃ yn, yn = y.length := ⟨_, rfl⟩
        rw [← hxn] at c1 hr1; rw [← hyn] at c2 hr2
        have hcl : Hid (∀ w', Below wr.heap.size wr w' → w'.cell? ⟨g, o1 + i, none⟩ = some (.slice xa xn xc) ∧ w'.cell? ⟨g', o2 + i, none⟩ = some (.slice ya yn yc)) := hide fun w' h => ⟨(h.cell (p := ⟨g, _, none⟩) hg1).trans c1, (h.cell (p := ⟨g', _, none⟩) hg2).trans c2⟩
        have hst := hide (take_eq_step hx hy heq.out)
        have hwi : IntKind.i64.wrap ((i : Int) + 1) = (i : Int) + 1 := by rw [IntKind.wrap_i64]; omega
        have HR := hide hr1; have HR2 := hide hr2
        have HXY : Hid (l = k → x = y) := hide fun e => by rw [e, hy] at hx; exact (Option.some.inj hx).symm
        clear hx hy c1 c2 hr1 hr2 heq hxn hyn
        by_cases hxy : x = y
        · subst hxy
          have x0 : (x == x) = true := by simp
          have x1 : (x != x) = false := by simp
          have hend := hide (hst.out.2 rfl)
          clear hst HXY
          go_wp2_with fail
          refine wp_region_three 11 28 (by kernel_rfl) (by kernel_rfl) rfl (by kernel_rfl) (fun D v w' => Below wr.heap.size wr w') (fun _ => undef) (Below.refl _ _).drew ?_
          simp only [List.take_succ_cons, List.take_zero, List.drop_succ_cons, List.drop_zero]
          iterate 4 (refine Hav3.read (e := ?_) (fun v => by rfl) (fun D v w h => h) (fun D v w' hD hS => ?_) ?_; rotate_left; (obtain ⟨f1, f2⟩ := hcl.out w' hS; clear hS hD; first | (go_simp; done) | (go_simp; with_reducible rfl)); go_simp)
          iterate 1 (refine Hav3.read (e := ?_) (fun v => by rfl) (fun D v w h => h) (fun D v w' hD hS => ?_) ?_; rotate_left; (have f1 := convert_rd _ _ w' (HR.out.low hS); clear hS hD; first | (go_simp; done) | (go_simp; with_reducible rfl)); go_simp)
          iterate 4 (refine Hav3.read (e := ?_) (fun v => by rfl) (fun D v w h => h) (fun D v w' hD hS => ?_) ?_; rotate_left; (obtain ⟨f1, f2⟩ := hcl.out w' hS; clear hS hD; first | (go_simp; done) | (go_simp; with_reducible rfl)); go_simp)
          iterate 1 (refine Hav3.read (e := ?_) (fun v => by rfl) (fun D v w h => h) (fun D v w' hD hS => ?_) ?_; rotate_left; (have f1 := convert_rd _ _ w' (HR2.out.low hS); clear hS hD; first | (go_simp; done) | (go_simp; with_reducible rfl)); go_simp)
          iterate 1 (refine Hav3.read (e := ?_) (fun v => by rfl) (fun D v w h => h) (fun D v w' hD hS => ?_) ?_; rotate_left; (skip; clear hS hD; first | (go_simp; done) | (go_simp; with_reducible rfl)); go_simp)
          refine Hav3.fin (fun v w' hS => ?_)
          have HS := hide (hb.out.trans (hS.mono hb.out.size))
          clear hS
          go_wp2
          exact ⟨⟨i + 1, by simp, by omega, hend, HS⟩, by show n - ((i : Int) + 1).toNat < n - ((i : Nat) : Int).toNat; omega⟩
        · have x0 : (x == y) = false := by simpa using hxy
          have x1 : (x != y) = true := by simpa using hxy
          have hend : Hid (decide (l = k) = false) := hide (decide_eq_false fun e => hxy (HXY.out e))
          clear hst HXY hxy
          go_wp2_with fail
          refine wp_region_three 11 28 (by kernel_rfl) (by kernel_rfl) rfl (by kernel_rfl) (fun D v w' => Below wr.heap.size wr w') (fun _ => undef) (Below.refl _ _).drew ?_
          simp only [List.take_succ_cons, List.take_zero, List.drop_succ_cons, List.drop_zero]
          iterate 4 (refine Hav3.read (e := ?_) (fun v => by rfl) (fun D v w h => h) (fun D v w' hD hS => ?_) ?_; rotate_left; (obtain ⟨f1, f2⟩ := hcl.out w' hS; clear hS hD; first | (go_simp; done) | (go_simp; with_reducible rfl)); go_simp)
          iterate 1 (refine Hav3.read (e := ?_) (fun v => by rfl) (fun D v w h => h) (fun D v w' hD hS => ?_) ?_; rotate_left; (have f1 := convert_rd _ _ w' (HR.out.low hS); clear hS hD; first | (go_simp; done) | (go_simp; with_reducible rfl)); go_simp)
          iterate 4 (refine Hav3.read (e := ?_) (fun v => by rfl) (fun D v w h => h) (fun D v w' hD hS => ?_) ?_; rotate_left; (obtain ⟨f1, f2⟩ := hcl.out w' hS; clear hS hD; first | (go_simp; done) | (go_simp; with_reducible rfl)); go_simp)
          iterate 1 (refine Hav3.read (e := ?_) (fun v => by rfl) (fun D v w h => h) (fun D v w' hD hS => ?_) ?_; rotate_left; (have f1 := convert_rd _ _ w' (HR2.out.low hS); clear hS hD; first | (go_simp; done) | (go_simp; with_reducible rfl)); go_simp)
          iterate 1 (refine Hav3.read (e := ?_) (fun v => by rfl) (fun D v w h => h) (fun D v w' hD hS => ?_) ?_; rotate_left; (skip; clear hS hD; first | (go_simp; done) | (go_simp; with_reducible rfl)); go_simp)
          refine Hav3.fin (fun v w' hS => ?_)
          have HS := hide (hb.out.trans (hS.mono hb.out.size))
          clear hS
          go_wp2
          go_ret
          exact ⟨by rw [hend.out]; rfl, HS.out⟩
      · obtain rfl : i = n := by omega
        have hend : Hid (decide (l = k) = true) := hide (decide_eq_true (by
          have h3 := heq.out
          rw [HN.out, List.take_length, ← HN.out, HM.out, List.take_length] at h3
          exact h3))
        clear heq
        go_wp2
        go_ret
        exact ⟨by rw [hend.out]; rfl, hb.out⟩
  · have i9 : ((n : Int) == (m : Int)) = false := by simpa using fun e : (n : Int) = m => hnm (by omega)
    have i8 : ((n : Int) != (m : Int)) = true := by simpa using fun e : (n : Int) = m => hnm (by omega)
    have hend : decide (l = k) = false := decide_eq_false fun e => hnm (by rw [HN.out, HM.out, e])
    have HE := hide hend
    clear hend
    go_enter Tryz.func29, Tryz.ntmps29
    go_wp2
    go_ret
    exact ⟨by rw [HE.out]; rfl, Below.refl _ _⟩

set_option maxRecDepth 100000 in
set_option maxHeartbeats 1600000 in
theorem ref10_Read (b : List UInt8) (ao : Option Addr) (n0 c : Nat) (w : World) (hn0 : n0 = b.length) (hx : RdB w (.slice ao n0 c) b) (hle : n0 ≤ c) (hc : c ≤ 9223372036854775807) (hlen : n0 ≤ 1048576) :
    Calls Tryz.prog 53 #[.slice ao n0 c] w fun e w' => ∃ a cc xs, e = .returned (.tuple #[.slice a xs.length cc, .int .i64 (tpRead b).2]) ∧ NotesAt w.heap.size w' (.slice a xs.length cc) xs ∧ xs.map Prod.snd = (tpRead b).1 ∧ Below w.heap.size w w' := by
  obtain ⟨iS, hiS, hyS0, hyS1, hyS2⟩ := info_parts sl8_info
  have HN0 := hide hn0
  have HX := hide hx
  clear hn0 hx
  go_enter Tryz.func53, Tryz.ntmps53
  go_wp2
  go_loopw [4, 5] (fun lv iv wr => ∃ (pre : List (Value × List UInt8)) (k m : Nat) (la : Option Addr) (lc : Nat), lv = .slice la m lc ∧ iv = .int .i64 k ∧ k ≤ n0 ∧ m ≤ k ∧ Hid (m = pre.length) ∧ Hid (pre.map Prod.snd ++ (tpRead (b.drop k)).1 = (tpRead b).1 ∧ k + (tpRead (b.drop k)).2 = (tpRead b).2) ∧
      Hid (NotesAt w.heap.size wr (.slice la m lc) pre) ∧ Hid (Below w.heap.size w wr)) (fun _ iv _ => match iv with | .int _ j => n0 - j.toNat | _ => 0)
  case atStart => exact ⟨[], 0, 0, none, 0, rfl, rfl, Nat.zero_le _, Nat.le_refl _, hide rfl, hide ⟨by simp, by simp⟩, hide ⟨World.ownsRow_nil _ _ _ _, fun x hx => by cases hx⟩, hide (Below.refl _ _)⟩
  case round =>
    obtain ⟨pre, k, m, la, lc, rfl, rfl, hk, hmk, hm, hpre, hat, hb⟩ := hrel
    obtain ⟨s, hs⟩ : ∃ s, s = b.drop k := ⟨_, rfl⟩
    obtain ⟨ns, hns⟩ : ∃ ns, ns = n0 - k := ⟨_, rfl⟩
    have hns2 : ns = s.length := by rw [hs, List.length_drop, hns, ← HN0.out]
    have hsl : ∃ sa, RdB wr (.slice sa ns (c - k)) s ∧ ((ao = none ∧ n0 = 0 ∧ c = 0 ∧ sa = none ∧ k = 0) ∨ ∃ ad, ao = some ad ∧ sa = if c = k then some ad else some (ad.add k)) := by
      have hr0 := HX.out.low hb.out
      rcases hr0.2 with ⟨he, hz⟩ | ⟨ad2, c2, he, _⟩
      · simp only [Value.slice.injEq] at he
        obtain ⟨rfl, h1, rfl⟩ := he
        refine ⟨none, ?_, .inl ⟨rfl, by omega, rfl, rfl, by omega⟩⟩
        have : s = [] := List.eq_nil_of_length_eq_zero (by omega)
        subst this
        obtain rfl : ns = 0 := hns2
        exact ⟨rfl, .inl ⟨by simp, rfl⟩⟩
      · simp only [Value.slice.injEq] at he
        obtain ⟨rfl, -, -⟩ := he
        refine ⟨_, ?_, .inr ⟨ad2, rfl, rfl⟩⟩
        have := hr0.rest' HN0.out (by omega) k (by omega) (c - k) ns (by rw [← hs]; exact hns2)
        rw [← hs] at this
        exact this
    obtain ⟨sa, hsr, hsa⟩ := hsl
    have HSR := hide hsr; have HS := hide hs; have HNS := hide hns2; have HNS0 := hide hns
    have hcs : ns ≤ c - k := by omega
    have HO := hide (ref_Open s sa ns (c - k) wr hns2 hsr hcs (by omega) (by omega))
    clear hsr hs hns2
    subst hns
    have hk1 : k ≤ c := by omega
    obtain ⟨n0', hn0'⟩ : ∃ n0', n0' = n0 := ⟨_, rfl⟩
    have HN00 := hide hn0'
    clear hn0'
    rcases hsa with ⟨rfl, rfl, rfl, rfl, rfl⟩ | ⟨ad, rfl, rfl⟩
    · have ho : opened s = none := by
        have : s = [] := List.eq_nil_of_length_eq_zero (by have := HNS.out; omega)
        rw [this]
        simp [opened, nul]
      go_upto_region 4 with (refine HO.out.mono ?_; rintro e w4 ⟨a, n', c', rfl, hown, hn', hb4⟩; have HOWN := hide hown; have HN' := hide hn'; have HB4 := hide hb4; clear hown hn' hb4)
      obtain ⟨o1, o2, o3⟩ := opened_none ho
      have hend := hide (tpRead_none ho)
      rw [o2, o3]
      clear ho o1 o2 o3
      go_wp2
      go_ret2
      have h9 := hpre.out
      rw [← HS.out, hend.out] at h9
      have hb9 : Below w.heap.size w w4 := hb.out.trans (HB4.out.mono hb.out.size)
      refine ⟨la, lc, pre, ?_, ?_, by simpa using h9.1, hb9⟩
      · rw [← hm.out, ← h9.2]
        simp
      · rw [← hm.out]
        exact hat.out.low HB4.out
    · by_cases hck : c = k
      · obtain rfl : c = k := hck
        rw [if_pos rfl, Nat.sub_self] at HO
        obtain rfl : n0 = c := by omega
        rw [Nat.sub_self] at HO
        clear hle hk hk1
        have ho : opened s = none := by
          have : s = [] := List.eq_nil_of_length_eq_zero (by have := HNS.out; omega)
          rw [this]
          simp [opened, nul]
        go_wp2_with fail
        refine HO.out.mono ?_
        (rintro e w4 ⟨a, n', c', rfl, hown, hn', hb4⟩; have HOWN := hide hown; have HN' := hide hn'; have HB4 := hide hb4; clear hown hn' hb4)
        obtain ⟨o1, o2, o3⟩ := opened_none ho
        have hend := hide (tpRead_none ho)
        rw [o2, o3]
        clear ho o1 o2 o3
        go_wp2
        go_ret2
        have h9 := hpre.out
        rw [← HS.out, hend.out] at h9
        have hb9 : Below w.heap.size w w4 := hb.out.trans (HB4.out.mono hb.out.size)
        refine ⟨la, lc, pre, ?_, ?_, by simpa using h9.1, hb9⟩
        · rw [← hm.out, ← h9.2]
          simp
        · rw [← hm.out]
          exact hat.out.low HB4.out
      · rw [if_neg hck] at HO
        go_wp2_with fail
        refine HO.out.mono ?_
        (rintro e w4 ⟨a, n', c', rfl, hown, hn', hb4⟩; have HOWN := hide hown; have HN' := hide hn'; have HB4 := hide hb4; clear hown hn' hb4)
        cases ho : opened s with
        | none =>
          obtain ⟨o1, o2, o3⟩ := opened_none ho
          have hend := hide (tpRead_none ho)
          rw [o2, o3]
          clear ho o1 o2 o3
          go_wp2
          go_ret2
          have h9 := hpre.out
          rw [← HS.out, hend.out] at h9
          have hb9 : Below w.heap.size w w4 := hb.out.trans (HB4.out.mono hb.out.size)
          refine ⟨la, lc, pre, ?_, ?_, by simpa using h9.1, hb9⟩
          · rw [← hm.out, ← h9.2]
            simp
          · rw [← hm.out]
            exact hat.out.low HB4.out
        | some x =>
          obtain ⟨o1, o2, o3⟩ := opened_some ho
          rw [o2, o3]
          rw [o1] at HOWN HN'
          by_cases hbig : 600 < x.length
          · have hend := hide (tpRead_long ho hbig)
            have d1 : decide ((600 : Int) < n') = true := decide_eq_true (by have := HN'.out; omega)
            clear ho o1 o2 o3
            go_wp2
            go_ret2
            have h9 := hpre.out
            rw [← HS.out, hend.out] at h9
            have hb9 : Below w.heap.size w w4 := hb.out.trans (HB4.out.mono hb.out.size)
            refine ⟨la, lc, pre, ?_, ?_, by simpa using h9.1, hb9⟩
            · rw [← hm.out, ← h9.2]
              simp
            · rw [← hm.out]
              exact hat.out.low HB4.out
          · have hst := hide (tpRead_some ho (by omega))
            have d1 : decide ((600 : Int) < n') = false := decide_eq_false (by have := HN'.out; omega)
            have hlt := opened_lt ho
            obtain ⟨q, hq⟩ : ∃ q, q = (nul s).length + 1 := ⟨_, rfl⟩
            rw [← hq] at hst ⊢
            have hqn : k + q ≤ n0' := by rw [hq]; have := HNS.out; have := HN00.out; omega
            have hq1 : 1 ≤ q := by omega
            have hwq : IntKind.i64.wrap ((k : Int) + (q : Int)) = (k : Int) + (q : Int) := by have := HN00.out; rw [IntKind.wrap_i64]; omega
            have hx600 := hide (show x.length ≤ 600 by omega)
            clear ho o1 o2 o3 hlt hq hbig
            have hat4 := hide (hat.out.low HB4.out)
            have hb5 := hide (hb.out.trans (HB4.out.mono hb.out.size))
            have hrow := hat4.out.row
            rw [← hm.out] at hrow
            have HROW := hide hrow
            have hrow4 : Hid (∀ o, (w4.alloc o).ownsRow w.heap.size 22 1 (.slice la m lc) m (pre.map Prod.fst)) := hide fun o => HROW.out.alloc o
            have hrd4 := hide (rd_new w4 #[.slice a n' c'] 22 1 1 (by decide) rfl)
            have hs4 := hb5.out.size
            clear hrow
            go_wp2_with (at_builtin; refine wpList_append_rd rfl (.tmp 26) (.tmp 28) 42 rfl w.heap.size 22 iS (.slice none 0 0) 1 24 Tryz.underlying42 hiS hyS0 hyS1 hyS2 rfl (by decide) _ m _ rfl (hrow4.out _) _ 1 [.slice a n' c'] rfl (by exact hrd4.out) (by simp [Value.oneCell']) (by unfold maxLen; omega) (by omega) (by simp; omega) ?_; intro v1 w1 hown1 hg1 hnil1 hb1; obtain ⟨a1, co1, rfl⟩ := (ownsRow_rd hown1).head; have HO1 := hide hown1; have HG1 := hide hg1; clear hown1 hg1 hnil1 hb1)
            have hal := hide (below_alloc w4 (.cells #[.slice a n' c'] 22))
            refine ⟨⟨pre ++ [(.slice a n' c', x)], k + q, m + 1, a1, co1, rfl, by simp, by have := HN00.out; omega, by omega, hide (by rw [List.length_append, ← hm.out]; rfl), hide ?_, hide ⟨?_, fun y hy => ?_⟩, hide ?_⟩, ?_⟩
            · have h9 := hpre.out
              rw [← HS.out, hst.out] at h9
              have e9 : s.drop q = b.drop (k + q) := by rw [HS.out, List.drop_drop]
              rw [← e9]
              refine ⟨?_, ?_⟩
              · rw [List.map_append, List.append_assoc]
                exact h9.1
              · have := h9.2
                simp only at this
                omega
            · rw [List.length_append, List.map_append, ← hm.out]
              exact HO1.out
            · have hkeep : ∀ {nn : Nat} {u : Value} {l : List Value}, w4.ownsRow w.heap.size 5 1 u nn l → w1.ownsRow w.heap.size 5 1 u nn l := fun hr => ownsRow_same (ownsRow_below hr hal.out (Nat.le_refl _)) fun j hj => HG1.out.block j (by have := (hr.lt j hj).2; simp; omega) fun e' => row_two HROW.out hr (by decide) e'.symm hj
              rcases List.mem_append.1 hy with hy | hy
              · exact hkeep (hat4.out.ent y hy)
              · rw [List.mem_singleton] at hy
                subst hy
                have := hkeep (ownsRow_base HOWN.out hb.out.size)
                rw [HN'.out] at this ⊢
                exact this
            · exact (hb5.out.trans (hal.out.mono hb5.out.size)).grown HG1.out (by simp; omega) fun j hj => (HROW.out.lt j hj).1
            · have := HN00.out
              show _ - ((k : Int) + (q : Int)).toNat < _ - ((k : Nat) : Int).toNat
              omega
end Go.Proofs.YtglgjakjhkdoaaaGreatDoor

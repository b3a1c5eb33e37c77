/-
  The reference's timers: Start, Due; words.
-/
import Derived.Test.YtjehoingphndnaaTiF
namespace Go.Proofs.Ytjehoingphndnaa
open Go.RowKit Go.Maps
set_option linter.unusedVariables false
set_option linter.unusedSimpArgs false

set_option maxRecDepth 100000 in
set_option maxHeartbeats 1600000 in
theorem rt_Start (B rb tk : Nat) (l : Tl) (F : List Nat) (k now : Nat) (hl : l.length ≤ 1000) (w : World) (h : RRep w B rb tk l F) :
    Calls Try.prog 22 #[.pointer (some ⟨rb, 0, none⟩), .int .u32 k, .int .u64 now] w fun e w' => e = .returned (.bool (mget (k : Int) l).isNone) ∧ ∃ F', RRep w' B rb tk (if (mget (k : Int) l).isNone then insR (k : Int) ((now + tk) % Md) (mdel (k : Int) l) else l) F' ∧ Chg F F' w w' := by
  have HAt := hide (rt_At B rb tk l F k hl w h)
  have HR := hide h
  obtain ⟨g, hg⟩ : ∃ g, g = mget (k : Int) l := ⟨_, rfl⟩
  rw [← hg] at HAt ⊢
  clear hg h
  go_enter Try.func22, Try.ntmps22
  go_wp2_with fail
  refine HAt.out.mono ?_
  rintro e w1 ⟨rfl, hb⟩
  have HR1 := hide (HR.out.low hb)
  have HC1 := hide (Chg.of_below (F := F) hb)
  generalize (g.getD (0, 0)).2 = av
  clear hb
  cases g with
  | some r =>
    rw [show (.bool (some r).isSome : Value) = .bool true from rfl]
    go_wp2
    go_ret
    exact ⟨rfl, F, HR1.out, HC1.out⟩
  | none =>
    rw [show (.bool (none : Option Run).isSome : Value) = .bool false from rfl]
    go_wp2_with fail
    refine (rt_Again B rb tk l F k now hl w1 HR1.out).mono ?_
    rintro e w2 ⟨rfl, F2, hR2, hC2⟩
    have HR2 := hide hR2
    have HC2 := hide (HC1.out.trans hC2)
    clear hR2 hC2
    go_wp2
    go_ret
    exact ⟨rfl, F2, HR2.out, HC2.out⟩

/-! Due -/
def bumpIf (tk now : Nat) (p : Int × Run) : Int × Run := if p.2.2 ≤ now then (p.1, bump tk now p.2) else p
def dueL (tk now : Nat) (l : Tl) (i : Nat) : Tl := (l.take i).map (bumpIf tk now) ++ l.drop i
def dueK (now : Nat) (l : Tl) : List Int := (l.filter fun p => decide (p.2.2 ≤ now)).map (·.1)
theorem dueL_len (tk now : Nat) (l : Tl) (i : Nat) : (dueL tk now l i).length = l.length := by
  unfold dueL
  rw [List.length_append, List.length_map, List.length_take, List.length_drop]; omega
theorem dueL_get (tk now : Nat) {l : Tl} {i : Nat} {p : Int × Run} (hi : l[i]? = some p) : (dueL tk now l i)[i]? = some p := by
  have hl := (List.getElem?_eq_some_iff.1 hi).1
  unfold dueL
  rw [List.getElem?_append_right (by rw [List.length_map, List.length_take]; omega), List.length_map, List.length_take, show i - min i l.length = 0 by omega, List.getElem?_drop]
  exact hi
theorem dueL_step (tk now : Nat) {l : Tl} {i : Nat} {p : Int × Run} (hi : l[i]? = some p) : dueL tk now l (i + 1) = (dueL tk now l i).set i (bumpIf tk now p) := by
  have hl := (List.getElem?_eq_some_iff.1 hi).1
  unfold dueL
  rw [take_step hi, List.map_append, List.append_assoc, List.set_append_right _ _ (by rw [List.length_map, List.length_take]; omega), List.length_map, List.length_take, show i - min i l.length = 0 by omega]
  rw [List.drop_eq_getElem_cons hl]
  rfl
theorem dueK_snoc (now : Nat) {l : Tl} {i : Nat} {p : Int × Run} (hi : l[i]? = some p) : dueK now (l.take (i + 1)) = dueK now (l.take i) ++ if p.2.2 ≤ now then [p.1] else [] := by
  unfold dueK
  rw [take_step hi, List.filter_append, List.map_append]
  congr 1
  by_cases h : p.2.2 ≤ now <;> simp [h]
theorem tcells_set : ∀ (l : Tl) {i : Nat} {p : Int × Run}, l[i]? = some p → ∀ (t a : Nat), ((tcells l).set (i * 3 + 1) (.int .i64 t)).set (i * 3 + 2) (.int .u64 a) = tcells (l.set i (p.1, (t, a)))
  | q :: l, 0, p, h, t, a => by
    simp only [List.getElem?_cons_zero, Option.some.injEq] at h
    subst h
    rfl
  | q :: l, i + 1, p, h, t, a => by
    have ih := tcells_set l (i := i) (p := p) (by simpa using h) t a
    have e1 : (i + 1) * 3 + 1 = (i * 3 + 1) + 3 := by omega
    have e2 : (i + 1) * 3 + 2 = (i * 3 + 2) + 3 := by omega
    rw [e1, e2]
    show ((Value.int .u32 q.1 :: .int .i64 q.2.1 :: .int .u64 q.2.2 :: tcells l).set (i * 3 + 1 + 3) _).set (i * 3 + 2 + 3) _ = _
    simp only [List.set_cons_succ]
    rw [ih]
    rfl
/-- under way: i of them are done -/
structure DueR (w0 : World) (B rb tk now : Nat) (l : Tl) (a : Option Addr) (c : Nat) (F : List Nat) (i : Nat) (oa : Option Addr) (on oc : Nat) (w : World) : Prop where
  at_ : RAt w rb tk (.slice a l.length c)
  row : w.ownsRow B 58 3 (.slice a l.length c) l.length (tcells (dueL tk now l i))
  out : w.ownsRow w0.heap.size 23 1 (.slice oa on oc) on ((dueK now (l.take i)).map encU)
  len : on = (dueK now (l.take i)).length
  chg : Chg F F w0 w

set_option maxRecDepth 100000 in
set_option maxHeartbeats 3200000 in
theorem rt_Due (B rb tk : Nat) (l : Tl) (F : List Nat) (now : Nat) (htk : tk ≤ 1000) (hl : l.length ≤ 1000) (ht : ∀ p ∈ l, p.2.1 ≤ 1000000) (w : World) (h : RRep w B rb tk l F) :
    Calls Try.prog 21 #[.pointer (some ⟨rb, 0, none⟩), .int .u64 now] w fun e w' => ∃ (oa : Option Addr) (oc : Nat), e = .returned (.slice oa (dueK now l).length oc) ∧ w'.ownsRow w.heap.size 23 1 (.slice oa (dueK now l).length oc) (dueK now l).length ((dueK now l).map encU) ∧ RRep w' B rb tk (l.map (bumpIf tk now)) F ∧ Chg F F w w' := by
  obtain ⟨a, c, h1, h2, h3, h4, hF⟩ := h
  have H1 := hide h1; have H2 := hide h2; have H3 := hide h3
  have HT := hide ht
  have hrb := hide h1.facts.2.2.2
  obtain ⟨iU, hiU, hyU0, hyU1, hyU2⟩ := info_parts u32_info
  obtain ⟨n, hn⟩ : ∃ n, n = l.length := ⟨_, rfl⟩
  have HN := hide hn
  rw [← hn] at hl
  clear h1 h2 h3 ht hn
  go_enter Try.func21, Try.ntmps21
  go_wp2
  go_loopw [5, 6, 7, 8] (fun ov iv _ _ wr => ∃ (i : Nat) (oa : Option Addr) (on oc : Nat), ov = .slice oa on oc ∧ iv = .int .i64 i ∧ i ≤ n ∧ on ≤ i ∧ Hid (DueR w B rb tk now l a c F i oa on oc wr)) (fun _ iv _ _ _ => match iv with | .int _ j => n - j.toNat | _ => 0)
  case atStart => exact ⟨0, none, 0, 0, rfl, rfl, Nat.zero_le _, Nat.le_refl _, hide ⟨H1.out, by have := H2.out; simpa [dueL] using this, by have := World.ownsRow_nil w w.heap.size 23 1; simpa [dueK] using this, by simp [dueK], Chg.refl _ _⟩⟩
  case round =>
    obtain ⟨i, oa, on, oc, rfl, rfl, hi, hon, hD⟩ := hrel
    have f1 : wr.cell? ⟨rb, 1, none⟩ = some (.slice a n c) := by rw [HN.out]; exact hD.out.at_.facts.2.1
    by_cases hil : i < n
    · obtain ⟨p, hp⟩ : ∃ p, l[i]? = some p := ⟨_, List.getElem?_eq_getElem (by have := HN.out; omega)⟩
      have hrow : TRow wr B a c (dueL tk now l i) := by have := hD.out.row; unfold TRow; rw [dueL_len]; exact this
      obtain ⟨g, rfl, c0, c1, c2, cf, hgB, hgl⟩ := hrow.get (dueL_get tk now hp)
      obtain ⟨pk, p1, p2⟩ := p
      have HP := hide hp
      have hp1 : p1 ≤ 1000000 := HT.out (pk, p1, p2) (List.mem_of_getElem? hp)
      simp only at c0 c1 c2
      clear hrow hp
      by_cases hd : p2 ≤ now
      · have hdue : Hid (p2 ≤ now) := hide hd
        have hdz : (p2 : Int) ≤ now := by omega
        have hgr : g ≠ rb := fun e => H3.out (by rw [← e]; rfl)
        have f0 : wr.cell? ⟨rb, 0, none⟩ = some (.int .u64 tk) := hD.out.at_.facts.1
        have cf1 := cf (i * 3 + 1)
        have CF := hide cf
        obtain ⟨w1, hw1⟩ : ∃ w1, w1 = wr.setCell ⟨g, i * 3 + 1, none⟩ (.int .i64 ((p1 : Int) + 1)) := ⟨_, rfl⟩
        have y0 : w1.cell? ⟨rb, 0, none⟩ = some (.int .u64 tk) := by rw [hw1, World.cell?_setCell_other _ _ _ _ (by simp [hgr])]; exact f0
        have y1 : w1.cell? ⟨rb, 1, none⟩ = some (.slice (some ⟨g, 0, none⟩) n c) := by rw [hw1, World.cell?_setCell_other _ _ _ _ (by simp [hgr])]; exact f1
        have z0 : w1.cell? ⟨g, i * 3, none⟩ = some (.int .u32 pk) := by rw [hw1, World.cell?_setCell_other _ _ _ _ (by simp)]; exact c0
        have z1 : w1.cell? ⟨g, i * 3 + 1, none⟩ = some (.int .i64 ((p1 : Int) + 1)) := by rw [hw1]; exact World.cell?_setCell_same _ _ _ c1
        have z2 : w1.cell? ⟨g, i * 3 + 2, none⟩ = some (.int .u64 p2) := by rw [hw1, World.cell?_setCell_other _ _ _ _ (by simp)]; exact c2
        have zf : w1.frozen? ⟨g, i * 3 + 2, none⟩ = false := by rw [hw1]; simpa using CF.out (i * 3 + 2)
        have Y := hide (And.intro y0 (And.intro y1 (And.intro z0 (And.intro z1 (And.intro z2 zf)))))
        have W1 := hide hw1
        clear hgr cf y0 y1 z0 z1 z2 zf
        go_upto_region 7 with fail
        rw [← hw1]
        obtain ⟨y0, y1, z0, z1, z2, zf⟩ := Y.out
        clear hw1 f0 f1 c0 c1 c2 cf1
        obtain ⟨q, hq⟩ : ∃ q, q = longer p1 := ⟨_, rfl⟩
        have hq4 : q ≤ 4 := by rw [hq]; unfold longer; omega
        have hmn : min ((p1 : Int) + 1) 4 = (q : Int) := by rw [hq]; unfold longer; omega
        have HQ := hide hq
        have hpow : Hid (∀ j, j ≤ 4 → tk * 2 ^ j ≤ 16000) := hide fun j hj => by
          have e2 : (2 : Nat) ^ j ≤ 16 := Nat.pow_le_pow_right (n := 2) (by decide) (show j ≤ 4 from hj)
          have := Nat.mul_le_mul htk e2
          omega
        clear hq
        go_upto_block 2 with fail
        go_cut [7] (fun v wx => ∃ S : Nat, v = .int .u64 S ∧ Hid (S = tk * 2 ^ q) ∧ w1 = wx)
        case first =>
          go_wp2_with fail
          go_loopw [7, 8] (fun v jv wx => ∃ j S : Nat, v = .int .u64 S ∧ jv = .int .i64 j ∧ j ≤ q ∧ Hid (S = tk * 2 ^ j) ∧ w1 = wx) (fun _ jv _ => match jv with | .int _ j => q - j.toNat | _ => 0)
          case atStart => exact ⟨0, tk, rfl, rfl, Nat.zero_le _, hide (by simp), rfl⟩
          case round =>
            obtain ⟨j, S, rfl, rfl, hj, hS, rfl⟩ := hrel
            have hSb : S ≤ 16000 := by rw [hS.out]; exact hpow.out j (by omega)
            by_cases hjq : j < q
            · go_wp2
              refine ⟨⟨j + 1, 2 * S, by go_num, by go_num, hjq, hide (by rw [hS.out, Nat.pow_succ, Nat.mul_comm 2, Nat.mul_assoc]), by first | trivial | rfl⟩, ?_⟩
              show q - ((j : Int) + 1).toNat < q - ((j : Nat) : Int).toNat
              omega
            · obtain rfl : j = q := by omega
              go_wp2
              go_meet
              exact ⟨S, rfl, hS, by first | trivial | rfl⟩
        case rest =>
        obtain ⟨S, rfl, hS, hwc⟩ := hcut
        subst hwc
        obtain ⟨at', hat⟩ : ∃ x, x = (now + S) % Md := ⟨_, rfl⟩
        have hwn : IntKind.u64.wrap ((now : Int) + S) = (at' : Int) := by rw [hat, ← wrapUm]; rw [show ((now + S : Nat) : Int) = (now : Int) + S by omega]
        have HB : Hid (bump tk now (p1, p2) = (p1 + 1, at')) := hide (by unfold bump; rw [hat, hS.out, ← HQ.out])
        clear hat
        go_upto_region 13 with fail
        obtain ⟨w2, hw2⟩ : ∃ w2, w2 = w1.setCell ⟨g, i * 3 + 2, none⟩ (.int .u64 at') := ⟨_, rfl⟩
        have hgw : g < w.heap.size := (H2.out.lt g rfl).2
        have hgr : g ≠ rb := fun e => H3.out (by rw [← e]; rfl)
        have hgF : g ∈ F := by rw [hF]; simp [Value.ownBlock]
        have hoth : ∀ b, b ≠ g → w2.heap[b]? = wr.heap[b]? := fun b hb => by rw [hw2, W1.out]; simp [World.setCell, Array.getElem?_modify, Ne.symm hb]
        have hsz2 : w2.heap.size = wr.heap.size := by rw [hw2, W1.out]; simp
        have HM : Hid (RAt w2 rb tk (.slice (some ⟨g, 0, none⟩) l.length c) ∧ w2.ownsRow B 58 3 (.slice (some ⟨g, 0, none⟩) l.length c) l.length (tcells (dueL tk now l (i + 1))) ∧ w2.ownsRow w.heap.size 23 1 (.slice oa on oc) on ((dueK now (l.take i)).map encU) ∧ Chg F F w w2) := hide (by
          have hd := hD.out
          have hs1 := (hd.row.stored (i * 3 + 1) (.int .i64 ((p1 : Int) + 1))).1
          have hs2 := (hs1.stored (i * 3 + 2) (.int .u64 at')).1
          rw [← W1.out, ← hw2] at hs2
          refine ⟨(hoth rb (Ne.symm hgr)).trans hd.at_, ?_, ownsRow_same hd.out fun b hb => hoth b fun e => ?_, hd.chg.trans ⟨by rw [hw2, W1.out]; rfl, by rw [hw2, W1.out]; rfl, by rw [hw2, W1.out]; rfl, by omega, fun b _ hb => hoth b fun e => hb (e ▸ hgF), fun b hb => .inl hb⟩⟩
          · rw [dueL_step tk now HP.out, show bumpIf tk now (pk, p1, p2) = (pk, (p1 + 1, at')) by unfold bumpIf; rw [if_pos hdue.out]; rw [HB.out], ← tcells_set (dueL tk now l i) (dueL_get tk now HP.out) (p1 + 1) at']
            exact hs2
          · subst e
            have := (hd.out.lt b hb).1
            omega)
        have y1' : w2.cell? ⟨rb, 1, none⟩ = some (.slice (some ⟨g, 0, none⟩) n c) := by rw [HN.out]; exact HM.out.1.facts.2.1
        have z0' : w2.cell? ⟨g, i * 3, none⟩ = some (.int .u32 pk) := by rw [hw2, World.cell?_setCell_other _ _ _ _ (by simp)]; exact z0
        have hrow4 : Hid (∀ o, (w2.alloc o).ownsRow w.heap.size 23 1 (.slice oa on oc) on ((dueK now (l.take i)).map encU)) := hide fun o => HM.out.2.2.1.alloc o
        have hz2 : w.heap.size ≤ w2.heap.size := HM.out.2.2.2.size
        rw [← hw2]
        clear hw2 y0 y1 z0 z1 z2 zf hoth hsz2 hgr hgw Y
        go_wp2_with (at_builtin; refine wpList_append_rd rfl (.tmp 68) (.tmp 77) 31 rfl w.heap.size 23 iU (.int .u32 0) 1 4 Try.underlying31 hiU hyU0 hyU1 hyU2 rfl (by decide) (.slice oa on oc) on _ rfl (hrow4.out _) _ 1 [.int .u32 pk] rfl (rd_new3 _ _ _ _ 1 1 (by simp) (by simp) (by simp)) (by simp [Value.oneCell']) (by unfold maxLen; omega) (by omega) (by simp; omega) ?_; intro v1 w3 hown hgr hnil hv; obtain ⟨oa1, oc1, rfl⟩ := row1_slice hown; have HOWN := hide hown; have HGR := hide hgr; clear hown hgr hnil hv)
        refine ⟨⟨i + 1, oa1, on + 1, oc1, by simp, by simp, hil, by omega, hide ?_⟩, ?_⟩
        · obtain ⟨m1, m2, m3, m4⟩ := HM.out
          have hlow : ∀ b, b < w.heap.size → w3.heap[b]? = w2.heap[b]? := fun b hb => by
            have hb2 : b < w2.heap.size := Nat.lt_of_lt_of_le hb hz2
            rw [HGR.out.block b (by simp; omega) (fun e => by have := (m3.lt b e.symm).1; omega)]
            exact Below.heap_alloc w2 _ b hb2
          have e2 : dueK now (l.take (i + 1)) = dueK now (l.take i) ++ [pk] := by rw [dueK_snoc now HP.out, if_pos hdue.out]
          refine ⟨(hlow rb hrb.out).trans m1, ownsRow_same m2 fun b hb => hlow b ?_, ?_, ?_, ?_⟩
          · have : b = g := by simp [Value.ownBlock] at hb; exact hb.symm
            subst this
            exact (H2.out.lt b rfl).2
          · rw [e2, List.map_append]; exact HOWN.out
          · rw [e2, List.length_append, ← hD.out.len]; rfl
          · have hg := HGR.out
            exact ⟨hg.os.trans m4.os, hg.tape.trans m4.tape, hg.output.trans m4.output, Nat.le_trans m4.size (Nat.le_trans (by simp) hg.size), fun b hb hn => (hlow b hb).trans (m4.block b hb hn), fun b hb => .inl hb⟩
        · show n - ((i : Int) + 1).toNat < n - ((i : Nat) : Int).toNat
          omega
      · have hdz : ¬ (p2 : Int) ≤ now := by omega
        have hD2 : Hid (DueR w B rb tk now l (some ⟨g, 0, none⟩) c F (i + 1) oa on oc wr) := hide (by
          have hd1 := hD.out
          have e1 : dueL tk now l (i + 1) = dueL tk now l i := by
            rw [dueL_step tk now HP.out, show bumpIf tk now (pk, p1, p2) = (pk, p1, p2) from if_neg hd]
            refine List.ext_getElem? fun j => ?_
            rw [List.getElem?_set]
            by_cases hj : i = j
            · subst hj; rw [if_pos rfl, dueL_get tk now HP.out]; simp [(List.getElem?_eq_some_iff.1 (dueL_get tk now HP.out)).1]
            · rw [if_neg hj]
          have e2 : dueK now (l.take (i + 1)) = dueK now (l.take i) := by rw [dueK_snoc now HP.out]; simp [hd]
          exact ⟨hd1.at_, by rw [e1]; exact hd1.row, by rw [e2]; exact hd1.out, by rw [e2]; exact hd1.len, hd1.chg⟩)
        clear cf
        go_wp2
        refine ⟨⟨i + 1, oa, on, oc, rfl, by simp, hil, by omega, hD2⟩, ?_⟩
        show n - ((i : Int) + 1).toNat < n - ((i : Nat) : Int).toNat
        omega
    · obtain rfl : i = n := by omega
      have hd := hD.out
      go_wp2
      go_ret
      have e1 : l.take i = l := by rw [HN.out, List.take_length]
      have e2 : dueL tk now l i = l.map (bumpIf tk now) := by unfold dueL; rw [HN.out, List.take_length, List.drop_length, List.append_nil]
      have h5 := hd.out
      have h6 := hd.len
      rw [e1] at h5 h6
      subst h6
      refine ⟨oa, oc, rfl, h5, ⟨a, c, ?_, ?_, ?_, h4, ?_⟩, hd.chg⟩
      · rw [List.length_map]; exact hd.at_
      · have := hd.row
        rw [e2] at this
        unfold TRow
        rw [List.length_map]; exact this
      · rw [List.length_map]; exact H3.out
      · rw [List.length_map]; exact hF
end Go.Proofs.Ytjehoingphndnaa

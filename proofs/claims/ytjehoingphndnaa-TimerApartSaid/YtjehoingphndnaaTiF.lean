/-
  The reference's timers: Again, Start.
-/
import Derived.Test.YtjehoingphndnaaTiE
import Derived.Deep.DeepCutAuto
import Derived.Deep.CutBlock
namespace Go.Proofs.Ytjehoingphndnaa
open Go.RowKit Go.Maps
set_option linter.unusedVariables false
set_option linter.unusedSimpArgs false

/-- a timer laid where it belongs -/
def insR (k : Int) (at' : Nat) (l : Tl) : Tl := l.takeWhile (fun p => decide (p.1 < k)) ++ (k, (0, at')) :: l.dropWhile (fun p => decide (p.1 < k))
theorem ins_at {k : Int} {l : Tl} {i : Nat} (h : l.takeWhile (fun p => decide (p.1 < k)) = l.take i ++ (l.drop i).takeWhile (fun p => decide (p.1 < k))) (hs : ∀ p, l[i]? = some p → ¬ p.1 < k) (at' : Nat) : insR k at' l = l.take i ++ [(k, ((0, at') : Run))] ++ l.drop i := by
  have h0 : (l.drop i).takeWhile (fun p => decide (p.1 < k)) = [] := by
    cases hd : l.drop i with
    | nil => rfl
    | cons p r =>
      have hp : l[i]? = some p := by
        have := List.getElem?_drop (xs := l) (i := i) (j := 0)
        rw [hd] at this
        simpa using this.symm
      have := hs p hp
      rw [List.takeWhile_cons, if_neg (by simpa using this)]
  rw [h0, List.append_nil] at h
  have h2 : l.dropWhile (fun p => decide (p.1 < k)) = l.drop i := by
    have e1 := List.takeWhile_append_dropWhile (p := fun p : Int × Run => decide (p.1 < k)) (l := l)
    rw [h] at e1
    have e2 := List.take_append_drop i l
    have := e1.trans e2.symm
    exact List.append_cancel_left this
  unfold insR
  rw [h, h2, List.append_assoc]
  rfl
theorem take_while_step {k : Int} {l : Tl} {i : Nat} {p : Int × Run} (hi : l[i]? = some p) (hp : p.1 < k) (h : l.takeWhile (fun p => decide (p.1 < k)) = l.take i ++ (l.drop i).takeWhile (fun p => decide (p.1 < k))) :
    l.takeWhile (fun p => decide (p.1 < k)) = l.take (i + 1) ++ (l.drop (i + 1)).takeWhile (fun p => decide (p.1 < k)) := by
  rw [h, take_step hi, List.drop_eq_getElem_cons (List.getElem?_eq_some_iff.1 hi).1, (List.getElem?_eq_some_iff.1 hi).2, List.takeWhile_cons, if_pos (by simpa using hp), List.append_assoc]
  rfl
theorem tcells_take (l : Tl) (i : Nat) : tcells (l.take i) = (tcells l).take (i * 3) := by
  by_cases h : i ≤ l.length
  · have e : tcells l = tcells (l.take i) ++ tcells (l.drop i) := by rw [← tcells_app, List.take_append_drop]
    have hl : (tcells (l.take i)).length = i * 3 := by rw [tcells_len, List.length_take]; omega
    rw [e, ← hl, List.take_left]
  · rw [List.take_of_length_le (by omega), List.take_of_length_le (by rw [tcells_len]; omega)]
theorem tcells_drop (l : Tl) (i : Nat) (h : i ≤ l.length) : tcells (l.drop i) = (tcells l).drop (i * 3) := by
  have e : tcells l = tcells (l.take i) ++ tcells (l.drop i) := by rw [← tcells_app, List.take_append_drop]
  have hl : (tcells (l.take i)).length = i * 3 := by rw [tcells_len, List.length_take]; omega
  rw [e, ← hl, List.drop_left]
theorem add_g (g o j : Nat) : (⟨g, o, none⟩ : Addr).add j = ⟨g, o + j, none⟩ := by
  unfold Addr.add
  split <;> simp_all
theorem TRow.front {w : World} {B : Nat} {g c : Nat} {l : Tl} (h : TRow w B (some ⟨g, 0, none⟩) c l) (i c' : Nat) (hi : i ≤ l.length) : Rd w (.slice (some ⟨g, 0, none⟩) i c') 3 i (tcells (l.take i)) := by
  refine ⟨by rw [tcells_len, List.length_take]; omega, .inr ⟨_, _, rfl, fun j u hu => ?_⟩⟩
  rw [tcells_take] at hu
  have hj := (List.getElem?_eq_some_iff.1 hu).1
  rw [add_g, Nat.zero_add, h.cellAt j (by rw [List.length_take, tcells_len] at hj; omega)]
  rw [List.getElem?_take_of_lt (by rw [List.length_take] at hj; omega)] at hu
  exact hu
theorem TRow.back {w : World} {B : Nat} {g c : Nat} {l : Tl} (h : TRow w B (some ⟨g, 0, none⟩) c l) (i : Nat) (ad : Option Addr) (c' m : Nat) (hm : m = l.length - i) (hi : i ≤ l.length) (had : m ≠ 0 → ad = some ⟨g, i * 3, none⟩) (had0 : ad ≠ none) : Rd w (.slice ad m c') 3 m (tcells (l.drop i)) := by
  subst hm
  cases ad with
  | none => exact absurd rfl had0
  | some ad =>
    refine ⟨by rw [tcells_len, List.length_drop], .inr ⟨_, _, rfl, fun j u hu => ?_⟩⟩
    have hj := (List.getElem?_eq_some_iff.1 hu).1
    rw [tcells_len, List.length_drop] at hj
    have := had (by omega)
    simp only [Option.some.injEq] at this
    subst this
    rw [tcells_drop l i hi, List.getElem?_drop] at hu
    rw [add_g, h.cellAt _ (by omega)]
    exact hu

theorem ownsRow_cap3 {w : World} {base e size n c : Nat} {a : Option Addr} {xs : List Value} (h : w.ownsRow base e size (.slice a n c) n xs) : n ≤ c ∧ c ≤ 9223372036854775807 := by
  rcases h.2 with ⟨h1, h2⟩ | ⟨g, cap, cur, h1, h2, h3, h4, h5, h6, h7⟩
  · simp only [Value.slice.injEq] at h1
    omega
  · simp only [Value.slice.injEq] at h1
    obtain ⟨_, _, rfl⟩ := h1
    unfold maxLen at h5
    exact ⟨h4, h5⟩
set_option maxRecDepth 100000 in
set_option maxHeartbeats 3200000 in
theorem rt_Again (B rb tk : Nat) (l : Tl) (F : List Nat) (k now : Nat) (hl : l.length ≤ 1000) (w : World) (h : RRep w B rb tk l F) :
    Calls Try.prog 18 #[.pointer (some ⟨rb, 0, none⟩), .int .u32 k, .int .u64 now] w fun e w' => e = .returned (.tuple #[]) ∧ ∃ F', RRep w' B rb tk (insR (k : Int) ((now + tk) % Md) (mdel (k : Int) l)) F' ∧ Chg F F' w w' := by
  have HS := hide (rt_Stop B rb tk l F k hl w h)
  have hl1 : (mdel (k : Int) l).length ≤ l.length := List.length_filter_le _ _
  obtain ⟨l1, hl1'⟩ : ∃ l1, l1 = mdel (k : Int) l := ⟨_, rfl⟩
  rw [← hl1'] at HS hl1 ⊢
  obtain ⟨at', hat⟩ : ∃ a, a = (now + tk) % Md := ⟨_, rfl⟩
  have hwn : IntKind.u64.wrap ((now : Int) + tk) = (at' : Int) := by rw [hat, ← wrapUm]; rw [show ((now + tk : Nat) : Int) = (now : Int) + tk by omega]
  rw [← hat]
  clear hat hl1' h
  obtain ⟨iU, hiU, hyU0, hyU1, hyU2⟩ := info_parts Rt_info
  go_enter Try.func18, Try.ntmps18
  go_wp2_with fail
  refine HS.out.mono ?_
  rintro e w1 ⟨rfl, F1, hR1, hC1⟩
  have HC1 := hide hC1
  obtain ⟨a, c, h1, h2, h3, h4, rfl⟩ := hR1
  have H1 := hide h1; have H2 := hide h2
  obtain ⟨n, hn⟩ : ∃ n, n = l1.length := ⟨_, rfl⟩
  have f0 := h1.facts.1
  have f1 := h1.facts.2.1
  rw [← hn] at f1 hl1
  have HN := hide hn
  clear HS h1 h2 hC1
  go_upto_block 0 with fail
  go_cut [6] (fun iv wx => ∃ i : Nat, iv = .int .i64 i ∧ i ≤ n ∧ Hid (insR (k : Int) at' l1 = l1.take i ++ [((k : Int), ((0, at') : Run))] ++ l1.drop i) ∧ w1 = wx)
  case first =>
    go_wp2_with fail
    go_loopw [6] (fun iv wx => ∃ i : Nat, iv = .int .i64 i ∧ i ≤ n ∧ Hid (l1.takeWhile (fun p => decide (p.1 < (k : Int))) = l1.take i ++ (l1.drop i).takeWhile (fun p => decide (p.1 < (k : Int)))) ∧ w1 = wx) (fun iv _ => match iv with | .int _ j => n - j.toNat | _ => 0)
    case atStart => exact ⟨0, rfl, Nat.zero_le _, hide (by simp), rfl⟩
    case round =>
      obtain ⟨i, rfl, hi, hT, rfl⟩ := hrel
      by_cases hil : i < n
      · obtain ⟨p, hp⟩ : ∃ p, l1[i]? = some p := ⟨_, List.getElem?_eq_getElem (by omega)⟩
        obtain ⟨g, rfl, c0, _, _, _, _, _⟩ := H2.out.get hp
        obtain ⟨pk, p1, p2⟩ := p
        have HP := hide hp
        have hilz : decide ((i : Int) < n) = true := by simpa using hil
        simp only at c0
        clear hp hn
        by_cases hlt : pk < (k : Int)
        · have hltz : decide (pk < (k : Int)) = true := by simpa using hlt
          have hT2 : Hid _ := hide (take_while_step HP.out hlt hT.out)
          go_wp2
          refine ⟨⟨i + 1, by simp, hil, hT2, by first | trivial | rfl⟩, ?_⟩
          show n - ((i : Int) + 1).toNat < n - ((i : Nat) : Int).toNat
          omega
        · have hltz : decide (pk < (k : Int)) = false := by simpa using hlt
          have hE : Hid _ := hide (ins_at hT.out (fun p hp => by rw [HP.out] at hp; simp only [Option.some.injEq] at hp; subst hp; exact hlt) at')
          go_wp2
          go_meet
          exact ⟨i, rfl, hi, hE, by first | trivial | rfl⟩
      · have hilz : decide ((i : Int) < n) = false := by simp; omega
        have hE : Hid _ := hide (ins_at hT.out (fun p hp => by have := (List.getElem?_eq_some_iff.1 hp).1; omega) at')
        clear hn
        go_wp2
        go_meet
        exact ⟨i, rfl, hi, hE, by first | trivial | rfl⟩
  case rest =>
  obtain ⟨i, rfl, hi, hE, hwc⟩ := hcut
  subst hwc
  have hlen : i ≤ l1.length := by omega
  cases a with
  | none =>
    obtain ⟨hl0, rfl⟩ : l1.length = 0 ∧ c = 0 := by
      rcases H2.out.2 with ⟨h5, h6⟩ | ⟨g, cap, cur, h5, _⟩
      · simp only [Value.slice.injEq] at h5
        exact ⟨h6, h5.2.2⟩
      · cases h5
    have hl00 : l1 = [] := List.eq_nil_of_length_eq_zero hl0
    subst hl00
    have hn0 : n = 0 := hn
    subst hn0
    have hi0 : i = 0 := by omega
    subst hi0
    have HT2 : Hid (TNew w1 w1 (.slice none 0 0) 0 []) := hide (TNew.nil w1 w1 (Below.refl _ _))
    have HX1 := hide f1
    clear hn hl0 hlen hi hl1
    go_upto_region 6 with (at_builtin; refine wpList_append_rd rfl (.tmp 32) (.tmp 38) 54 rfl w1.heap.size 58 iU (.agg #[.int .u32 0, .int .i64 0, .int .u64 0]) 3 24 Try.underlying54 hiU hyU0 hyU1 hyU2 rfl (by decide) (.slice none 0 0) 0 [] rfl HT2.out.row _ 0 [] rfl ⟨rfl, .inl ⟨rfl, rfl⟩⟩ (by simp) (by unfold maxLen; omega) (by omega) (Nat.le_refl _) ?_; intro v2 w2 hown hgr hnil hv; obtain rfl := hnil.2 ⟨rfl, rfl⟩; have HT3 : Hid (TNew w1 w2 (.slice none 0 0) 0 []) := hide (HT2.out.app (l' := []) (Below.refl _ _) hown rfl hgr); clear hown hgr hnil hv)
    have f0 : w2.cell? ⟨rb, 0, none⟩ = some (.int .u64 tk) := (HT3.out.low.cell (p := ⟨rb, 0, none⟩) H1.out.facts.2.2.2).trans f0
    have hz2 := HT3.out.low.size
    go_upto_region 7 with (at_builtin; refine wpList_append_rd rfl (.tmp 40) (.tmp 49) 54 rfl w1.heap.size 58 iU (.agg #[.int .u32 0, .int .i64 0, .int .u64 0]) 3 24 Try.underlying54 hiU hyU0 hyU1 hyU2 rfl (by decide) (.slice none 0 0) 0 [] rfl (HT3.out.row.alloc _) _ 1 [.int .u32 k, .int .i64 0, .int .u64 at'] rfl (rd_new3 _ _ _ _ 1 3 (by simp) (by simp) (by simp)) (by simp [Value.oneCell']) (by unfold maxLen; omega) (by omega) (by simp; omega) ?_; intro v3 w3 hown hgr hnil hv; obtain ⟨oa3, oc3, rfl⟩ := slice_of_row3 hown; have HT4 : Hid (TNew w1 w3 (.slice oa3 1 oc3) 1 [((k : Int), ((0, at') : Run))]) := hide (HT3.out.app (l' := [((k : Int), ((0, at') : Run))]) (below_alloc w2 _) hown rfl hgr); clear hown hgr hnil hv)
    have f1 : w3.cell? ⟨rb, 1, none⟩ = some (.slice none 0 0) := (HT4.out.low.cell (p := ⟨rb, 1, none⟩) H1.out.facts.2.2.2).trans HX1.out
    have hz3 := HT4.out.low.size
    go_upto_region 8 with (at_builtin; refine wpList_append_rd rfl (.tmp 51) (.tmp 57) 54 rfl w1.heap.size 58 iU (.agg #[.int .u32 0, .int .i64 0, .int .u64 0]) 3 24 Try.underlying54 hiU hyU0 hyU1 hyU2 rfl (by decide) (.slice oa3 1 oc3) 1 _ rfl HT4.out.row _ 0 [] rfl ⟨rfl, .inl ⟨rfl, rfl⟩⟩ (by simp) (by unfold maxLen; omega) (by omega) hz3 ?_; intro v4 w4 hown hgr hnil hv; obtain ⟨oa4, oc4, rfl⟩ := slice_of_row3 hown; have HT5 : Hid (TNew w1 w4 (.slice oa4 1 oc4) 1 [((k : Int), ((0, at') : Run))]) := hide (HT4.out.app (l' := []) (Below.refl _ _) hown rfl hgr); clear hown hgr hnil hv)
    have f1 : w4.cell? ⟨rb, 1, none⟩ = some (.slice none 0 0) := (HT5.out.low.cell (p := ⟨rb, 1, none⟩) H1.out.facts.2.2.2).trans HX1.out
    have f2 : w4.frozen? ⟨rb, 1, none⟩ = false := (HT5.out.low.frozen (p := ⟨rb, 1, none⟩) H1.out.facts.2.2.2).trans H1.out.facts.2.2.1
    go_wp2
    all_goals
      go_end0
      obtain ⟨r1, r2⟩ := RRep.put H1.out h4 HT5.out []
      refine ⟨rfl, _, ?_, HC1.out.trans r2⟩
      have h := hE.out
      simp only [List.take_nil, List.drop_nil, List.nil_append, List.append_nil] at h
      rw [h]
      exact r1
  | some ad =>
    obtain ⟨g, rfl⟩ : ∃ g, ad = ⟨g, 0, none⟩ := by
      rcases H2.out.2 with ⟨h5, _⟩ | ⟨g, cap, cur, h5, _⟩
      · cases h5
      · simp only [Value.slice.injEq, Option.some.injEq] at h5
        exact ⟨g, h5.1⟩
    have hnc : n ≤ c := by have := (ownsRow_cap3 H2.out).1; omega
    have hcm := (ownsRow_cap3 H2.out).2
    have HFR : Hid (Rd w1 (.slice (some ⟨g, 0, none⟩) i c) 3 i (tcells (l1.take i))) := hide (H2.out.front i c hlen)
    clear hn
    have HT1 := hide (TNew.nil w1 w1 (Below.refl _ _))
    go_upto_region 6 with (at_builtin; refine wpList_append_rd rfl (.tmp 32) (.tmp 38) 54 rfl w1.heap.size 58 iU (.agg #[.int .u32 0, .int .i64 0, .int .u64 0]) 3 24 Try.underlying54 hiU hyU0 hyU1 hyU2 rfl (by decide) (.slice none 0 0) 0 [] rfl HT1.out.row _ i (tcells (l1.take i)) rfl HFR.out (tcells_one _) (by unfold maxLen; omega) (by omega) (Nat.le_refl _) ?_; intro v2 w2 hown hgr hnil hv; obtain ⟨oa2, oc2, rfl⟩ := slice_of_row3 hown; have HT2 := hide (HT1.out.app (l' := l1.take i) (Below.refl _ _) hown (by rw [List.length_take]; omega) hgr); clear hown hgr hnil hv)
    have ht2 := HT2.out
    rw [Nat.zero_add, List.nil_append] at ht2
    have HT2 := hide ht2
    have f0 : w2.cell? ⟨rb, 0, none⟩ = some (.int .u64 tk) := (ht2.low.cell (p := ⟨rb, 0, none⟩) H1.out.facts.2.2.2).trans f0
    have hz2 := ht2.low.size
    have hrow2 : Hid (∀ o, (w2.alloc o).ownsRow w1.heap.size 58 3 (.slice oa2 i oc2) i (tcells (l1.take i))) := hide fun o => ht2.row.alloc o
    clear ht2
    go_upto_region 7 with (at_builtin; refine wpList_append_rd rfl (.tmp 40) (.tmp 49) 54 rfl w1.heap.size 58 iU (.agg #[.int .u32 0, .int .i64 0, .int .u64 0]) 3 24 Try.underlying54 hiU hyU0 hyU1 hyU2 rfl (by decide) (.slice oa2 i oc2) i _ rfl (hrow2.out _) _ 1 [.int .u32 k, .int .i64 0, .int .u64 at'] rfl (rd_new3 _ _ _ _ 1 3 (by simp) (by simp) (by simp)) (by simp [Value.oneCell']) (by unfold maxLen; omega) (by omega) (by simp; omega) ?_; intro v3 w3 hown hgr hnil hv; obtain ⟨oa3, oc3, rfl⟩ := slice_of_row3 hown; have HT3 := hide (HT2.out.app (l' := [((k : Int), ((0, at') : Run))]) (below_alloc w2 _) hown rfl hgr); clear hown hgr hnil hv)
    have ht3 := HT3.out
    have f1 : w3.cell? ⟨rb, 1, none⟩ = some (.slice (some ⟨g, 0, none⟩) n c) := (ht3.low.cell (p := ⟨rb, 1, none⟩) H1.out.facts.2.2.2).trans f1
    have hz3 := ht3.low.size
    have HBK : Hid (∀ ad c' m, m = l1.length - i → (m ≠ 0 → ad = some ⟨g, i * 3, none⟩) → ad ≠ none → (Value.slice ad m c').ownBlock = some g → Rd w3 (.slice ad m c') 3 m (tcells (l1.drop i))) := hide fun ad c' m e1 e2 e3 e4 => (H2.out.back i ad c' m e1 hlen e2 e3).below ht3.low fun b hb => by rw [e4] at hb; cases hb; exact (H2.out.lt g rfl).2
    clear ht3
    go_upto_region 8 with (at_builtin; refine wpList_append_rd rfl (.tmp 51) (.tmp 57) 54 rfl w1.heap.size 58 iU (.agg #[.int .u32 0, .int .i64 0, .int .u64 0]) 3 24 Try.underlying54 hiU hyU0 hyU1 hyU2 rfl (by decide) (.slice oa3 (i + 1) oc3) (i + 1) _ rfl HT3.out.row _ (n - i) (tcells (l1.drop i)) rfl (HBK.out _ _ _ (by rw [HN.out]) (fun hm => by first | (rw [if_neg (by omega)]; simp; done) | (exfalso; omega) | (simp; intro hci; omega)) (by first | (split <;> simp; done) | simp) (by first | (split <;> rfl) | rfl)) (tcells_one _) (by unfold maxLen; omega) (by omega) hz3 ?_; intro v4 w4 hown hgr hnil hv; obtain ⟨oa4, oc4, rfl⟩ := slice_of_row3 hown; have HT4 := hide (HT3.out.app (l' := l1.drop i) (Below.refl _ _) hown (by rw [List.length_drop, HN.out]) hgr); clear hown hgr hnil hv)
    have ht4 := HT4.out
    rw [← hE.out] at ht4
    have HT4 := hide ht4
    have f1 : w4.cell? ⟨rb, 1, none⟩ = some (.slice (some ⟨g, 0, none⟩) n c) := (ht4.low.cell (p := ⟨rb, 1, none⟩) H1.out.facts.2.2.2).trans H1.out.facts.2.1 |>.trans (by rw [HN.out])
    have f2 : w4.frozen? ⟨rb, 1, none⟩ = false := (ht4.low.frozen (p := ⟨rb, 1, none⟩) H1.out.facts.2.2.2).trans H1.out.facts.2.2.1
    clear ht4
    go_wp2
    all_goals
      go_end0
      obtain ⟨r1, r2⟩ := RRep.put H1.out h4 HT4.out (Value.slice (some ⟨g, 0, none⟩) l1.length c).ownBlock.toList
      exact ⟨rfl, _, r1, HC1.out.trans r2⟩
end Go.Proofs.Ytjehoingphndnaa

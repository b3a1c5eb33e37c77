/-
  Timers of both kinds beside one another: the plain laws; words.
-/
import Derived.Test.YtjehoingphndnaaTiG
namespace Go.Proofs.Ytjehoingphndnaa
open Go.RowKit Go.Maps
set_option linter.unusedVariables false
set_option linter.unusedSimpArgs false

/-! the plain laws -/
structure TAgree (m : Runs) (l : Tl) : Prop where
  sorted : l.Pairwise fun p q => p.1 < q.1
  eq : ∀ k, m k = mget k l
theorem mget_nil (k : Int) : mget k ([] : Tl) = none := rfl
theorem mget_cons (k : Int) (p : Int × Run) (l : Tl) : mget k (p :: l) = if p.1 = k then some p.2 else mget k l := by
  unfold mget
  by_cases h : p.1 = k <;> simp [h]
theorem mget_app (k : Int) (l l' : Tl) : mget k (l ++ l') = (mget k l).or (mget k l') := by
  induction l with
  | nil => rfl
  | cons p l ih =>
    rw [List.cons_append, mget_cons, mget_cons]
    by_cases h : p.1 = k
    · simp [h]
    · simp [h, ih]
theorem mget_del (k k' : Int) (l : Tl) : mget k' (mdel k l) = if k' = k then none else mget k' l := by
  induction l with
  | nil => simp [mdel, mget_nil]
  | cons p l ih =>
    rw [mget_cons]
    by_cases h : p.1 = k
    · have e : mdel k (p :: l) = mdel k l := by simp [mdel, h]
      rw [e, ih]
      by_cases hk : k' = k
      · simp [hk]
      · have : ¬ p.1 = k' := fun e => hk (by rw [← e, h])
        simp [hk, this]
    · have e : mdel k (p :: l) = p :: mdel k l := by simp [mdel, h]
      rw [e, mget_cons, ih]
      by_cases hp : p.1 = k'
      · have : ¬ k' = k := fun e => h (by rw [hp, e])
        simp [hp, this]
      · simp [hp]
theorem mget_tw (k k' : Int) (l : Tl) : mget k' l = (mget k' (l.takeWhile fun p => decide (p.1 < k))).or (mget k' (l.dropWhile fun p => decide (p.1 < k))) := by
  rw [← mget_app, List.takeWhile_append_dropWhile]
theorem mget_ins (k k' : Int) (a : Nat) (l : Tl) (h : mget k l = none) : mget k' (insR k a l) = if k' = k then some (0, a) else mget k' l := by
  unfold insR
  have h1 := mget_tw k k l
  rw [h] at h1
  have h2 : mget k (l.takeWhile fun p => decide (p.1 < k)) = none := by
    cases e : mget k (l.takeWhile fun p => decide (p.1 < k)) with
    | none => rfl
    | some r => rw [e] at h1; simp at h1
  rw [mget_app, mget_cons]
  by_cases hk : k' = k
  · subst hk; simp [h2]
  · have : ¬ k = k' := fun e => hk e.symm
    rw [if_neg this, if_neg hk, ← mget_tw]
theorem ins_sorted (k : Int) (a : Nat) (l : Tl) (hs : l.Pairwise fun p q => p.1 < q.1) (hk : ∀ p ∈ l, p.1 ≠ k) : (insR k a l).Pairwise fun p q => p.1 < q.1 := by
  induction l with
  | nil => simp [insR]
  | cons p l ih =>
    have hs2 := List.pairwise_cons.1 hs
    by_cases hp : p.1 < k
    · have e : insR k a (p :: l) = p :: insR k a l := by simp [insR, List.takeWhile_cons, List.dropWhile_cons, hp]
      rw [e]
      refine List.pairwise_cons.2 ⟨fun q hq => ?_, ih hs2.2 fun q hq => hk q (by simp [hq])⟩
      unfold insR at hq
      rcases List.mem_append.1 hq with hq | hq
      · exact hs2.1 q ((List.takeWhile_sublist _).mem hq)
      · rcases List.mem_cons.1 hq with rfl | hq
        · exact hp
        · exact hs2.1 q ((List.dropWhile_sublist _).mem hq)
    · have e : insR k a (p :: l) = (k, (0, a)) :: p :: l := by simp [insR, List.takeWhile_cons, List.dropWhile_cons, hp]
      rw [e]
      have hpk := hk p (by simp)
      refine List.pairwise_cons.2 ⟨fun q hq => ?_, hs⟩
      show k < q.1
      rcases List.mem_cons.1 hq with rfl | hq
      · omega
      · have := hs2.1 q hq
        omega
theorem mdel_sorted (k : Int) {l : Tl} (hs : l.Pairwise fun p q => p.1 < q.1) : (mdel k l).Pairwise fun p q => p.1 < q.1 := hs.sublist List.filter_sublist
theorem TAgree.stop {m : Runs} {l : Tl} (h : TAgree m l) (k : Int) : TAgree (setR m k none) (mdel k l) :=
  ⟨mdel_sorted k h.sorted, fun k' => by rw [mget_del]; unfold setR; rw [h.eq]⟩
theorem TAgree.again {m : Runs} {l : Tl} (h : TAgree m l) (k : Int) (a : Nat) : TAgree (setR m k (some (0, a))) (insR k a (mdel k l)) := by
  refine ⟨ins_sorted k a _ (mdel_sorted k h.sorted) fun p hp => ((mdel_mem k p l).1 hp).2, fun k' => ?_⟩
  rw [mget_ins k k' a _ (by rw [mget_del]; simp), mget_del]
  unfold setR
  by_cases hk : k' = k <;> simp [hk, h.eq]
theorem TAgree.ran {m : Runs} {l : Tl} (h : TAgree m l) (k : Int) : decide ((mdel k l).length < l.length) = (m k).isSome := by
  rw [h.eq]
  cases hg : mget k l with
  | some r =>
    have := mdel_len (p := (k, r)) (mget_mem hg)
    simp only at this
    simp; omega
  | none =>
    have e : mdel k l = l := by
      unfold mdel
      rw [List.filter_eq_self]
      intro p hp
      simpa using mget_none hg p hp
    rw [e]; simp
/-- what is due starts anew -/
def dueM (tk now : Nat) (m : Runs) : Runs := fun k => (m k).map fun r => if r.2 ≤ now then bump tk now r else r
theorem bumped_due {tk now : Nat} {m : Runs} {L : List Int} (h : ∀ k, k ∈ L ↔ ∃ r, m k = some r ∧ r.2 ≤ now) : bumped tk now m L = dueM tk now m := by
  funext k
  unfold bumped dueM
  cases hm : m k with
  | none => simp
  | some r =>
    by_cases hk : k ∈ L
    · obtain ⟨r', h1, h2⟩ := (h k).1 hk
      rw [hm] at h1
      cases h1
      simp [hk, h2]
    · have : ¬ r.2 ≤ now := fun h2 => hk ((h k).2 ⟨r, hm, h2⟩)
      simp [hk, this]
theorem mget_map (tk now : Nat) (k : Int) (l : Tl) : mget k (l.map (bumpIf tk now)) = (mget k l).map fun r => if r.2 ≤ now then bump tk now r else r := by
  induction l with
  | nil => rfl
  | cons p l ih =>
    rw [List.map_cons, mget_cons, mget_cons, ih]
    have e : (bumpIf tk now p).1 = p.1 := by unfold bumpIf; split <;> rfl
    rw [e]
    by_cases h : p.1 = k
    · rw [if_pos h, if_pos h]
      unfold bumpIf
      by_cases hp : p.2.2 ≤ now <;> simp [hp]
    · rw [if_neg h, if_neg h]
theorem TAgree.due {m : Runs} {l : Tl} (h : TAgree m l) (tk now : Nat) : TAgree (dueM tk now m) (l.map (bumpIf tk now)) := by
  refine ⟨List.pairwise_map.2 (h.sorted.imp fun {p q} hpq => ?_), fun k => by rw [mget_map]; unfold dueM; rw [h.eq]⟩
  have e : ∀ p : Int × Run, (bumpIf tk now p).1 = p.1 := fun p => by unfold bumpIf; split <;> rfl
  rw [e, e]; exact hpq
theorem mok_sorted {l : Tl} (hs : l.Pairwise fun p q => p.1 < q.1) {k : Int} {r : Run} (hm : (k, r) ∈ l) : mget k l = some r := by
  induction l with
  | nil => simp at hm
  | cons p l ih =>
    have hs2 := List.pairwise_cons.1 hs
    rw [mget_cons]
    rcases List.mem_cons.1 hm with rfl | hm
    · simp
    · have := hs2.1 _ hm
      rw [if_neg (by simp only at this; omega)]
      exact ih hs2.2 hm
theorem TAgree.told {m : Runs} {l : Tl} (h : TAgree m l) {now : Nat} {L : List Int} (hp : L.Pairwise fun x y => x < y) (hm : ∀ k, k ∈ L ↔ ∃ r, m k = some r ∧ r.2 ≤ now) : L = dueK now l := by
  have h1 : (dueK now l).Pairwise fun x y => x < y := by
    unfold dueK
    exact List.pairwise_map.2 (h.sorted.sublist List.filter_sublist)
  have h2 : ∀ k, k ∈ dueK now l ↔ k ∈ L := fun k => by
    rw [hm]
    unfold dueK
    simp only [List.mem_map, List.mem_filter, decide_eq_true_eq]
    constructor
    · rintro ⟨p, ⟨h3, h4⟩, rfl⟩
      exact ⟨p.2, by rw [h.eq]; exact mok_sorted h.sorted h3, h4⟩
    · rintro ⟨r, h3, h4⟩
      exact ⟨(k, r), ⟨mget_mem ((h.eq k).symm.trans h3), h4⟩, rfl⟩
  have n1 : L.Nodup := hp.imp fun h => by omega
  have n2 : (dueK now l).Nodup := h1.imp fun h => by omega
  have hperm : L.Perm (dueK now l) := (List.perm_ext_iff_of_nodup n1 n2).2 fun k => (h2 k).symm
  exact List.Perm.eq_of_pairwise (le := fun x y => x < y) (fun a b _ _ h3 h4 => by omega) hp h1 hperm

/-! are lists alike? -/
abbrev WRow (w : World) (B : Nat) (a : Option Addr) (n c : Nat) (L : List Int) : Prop := w.ownsRow B 23 1 (.slice a n c) n (L.map encU)
theorem WRow.len {w : World} {B : Nat} {a : Option Addr} {n c : Nat} {L : List Int} (h : WRow w B a n c L) : L.length = n := by
  have := h.1
  simpa using this
theorem WRow.get {w : World} {B : Nat} {a : Option Addr} {n c : Nat} {L : List Int} (h : WRow w B a n c L) {i : Nat} {k : Int} (hi : L[i]? = some k) : ∃ g, a = some ⟨g, 0, none⟩ ∧ w.cell? ⟨g, i, none⟩ = some (.int .u32 k) := by
  have hl := h.len
  have hil := (List.getElem?_eq_some_iff.1 hi).1
  have hc := h
  rcases h.2 with ⟨h1, h2⟩ | ⟨g, cap, cur, h1, _⟩
  · omega
  · simp only [Value.slice.injEq] at h1
    obtain ⟨rfl, _, _⟩ := h1
    exact ⟨g, rfl, by rw [World.ownsRow.cellAt hc i (by omega)]; simp [hi]⟩

set_option maxRecDepth 100000 in
set_option maxHeartbeats 1600000 in
theorem ti_words (B B' : Nat) (a a' : Option Addr) (n n' c c' : Nat) (L L' : List Int) (hn : n ≤ 1000) (w : World) (h : WRow w B a n c L) (h' : WRow w B' a' n' c' L') :
    Calls Try.prog 20 #[.slice a n c, .slice a' n' c'] w fun e w' => e = .returned (.bool (decide (L = L'))) ∧ Below w.heap.size w w' := by
  have H := hide h; have H' := hide h'
  have hl := hide h.len; have hl' := hide h'.len
  clear h h'
  go_enter Try.func20, Try.ntmps20
  by_cases hne : n = n'
  · subst hne
    go_wp2
    go_loopw [5] (fun iv wr => ∃ i : Nat, iv = .int .i64 i ∧ i ≤ n ∧ Hid (L.take i = L'.take i) ∧ Hid (Below w.heap.size w wr)) (fun iv _ => match iv with | .int _ j => n - j.toNat | _ => 0)
    case atStart => exact ⟨0, rfl, Nat.zero_le _, hide (by simp), hide (Below.refl _ _)⟩
    case round =>
      obtain ⟨i, rfl, hi, hT, hb⟩ := hrel
      by_cases hil : i < n
      · obtain ⟨k, hk⟩ : ∃ k, L[i]? = some k := ⟨_, List.getElem?_eq_getElem (by have := hl.out; omega)⟩
        obtain ⟨k', hk'⟩ : ∃ k, L'[i]? = some k := ⟨_, List.getElem?_eq_getElem (by have := hl'.out; omega)⟩
        obtain ⟨g, rfl, c0⟩ := H.out.get hk
        obtain ⟨g', rfl, c0'⟩ := H'.out.get hk'
        have hgl := (H.out.lt g rfl).2
        have hgl' := (H'.out.lt g' rfl).2
        have hcl : Hid (∀ w', Below w.heap.size w w' → w'.cell? ⟨g, i, none⟩ = some (.int .u32 k) ∧ w'.cell? ⟨g', i, none⟩ = some (.int .u32 k')) := hide fun w' hb => ⟨(hb.cell (p := ⟨g, i, none⟩) hgl).trans c0, (hb.cell (p := ⟨g', i, none⟩) hgl').trans c0'⟩
        have HK := hide (And.intro hk hk')
        have hsz := hb.out.size
        have hbd := hide hb.out
        clear c0 c0' hgl hgl' hk hk'
        go_upto_region 6 with fail
        refine wp_region_three 9 26 (by kernel_rfl) (by kernel_rfl) rfl (by kernel_rfl) (fun D v w' => Below w.heap.size w w') (fun _ => undef) (hb.out.trans ((Below.refl _ _).drew.mono hsz)) ?_
        simp only [List.take_succ_cons, List.take_zero, List.drop_succ_cons, List.drop_zero]
        iterate 9 (refine Hav3.read (e := ?_) (fun v => by rfl) (fun D v w h => h) (fun D v w' hD hS => ?_) ?_; rotate_left; (obtain ⟨f1, f2⟩ := hcl.out w' hS; clear hS hD; first | (go_simp; done) | (go_simp; with_reducible rfl)); go_simp)
        refine Hav3.fin (fun v w2 hS => ?_)
        have HS := hide hS
        clear hS
        by_cases he : k = k'
        · subst he
          have hT2 : Hid (L.take (i + 1) = L'.take (i + 1)) := hide (by rw [List.take_add_one, List.take_add_one, HK.out.1, HK.out.2, hT.out])
          go_wp2
          refine ⟨⟨i + 1, by simp, hil, hT2, HS⟩, ?_⟩
          show n - ((i : Int) + 1).toNat < n - ((i : Nat) : Int).toNat
          omega
        · have heb : (k == k') = false := by simpa using he
          have hLL : Hid (decide (L = L') = false) := hide (by
            simp only [decide_eq_false_iff_not]
            intro e
            have := HK.out.1
            rw [e, HK.out.2] at this
            exact he (Option.some.inj this).symm)
          go_wp2
          go_ret
          rw [hLL.out]
          exact ⟨rfl, HS.out⟩
      · obtain rfl : i = n := by omega
        have hLL : Hid (decide (L = L') = true) := hide (by
          have := hT.out
          rw [List.take_of_length_le (by have := hl.out; omega), List.take_of_length_le (by have := hl'.out; omega)] at this
          simp [this])
        go_wp2
        go_ret
        rw [hLL.out]
        exact ⟨rfl, hb.out⟩
  · have hLL : Hid (decide (L = L') = false) := hide (by
      simp only [decide_eq_false_iff_not]
      intro e
      have h1 := hl.out; have h2 := hl'.out
      rw [e] at h1
      omega)
    have hnb : ((n : Int) == n') = false := by simpa using (by omega : ¬ (n : Int) = n')
    go_wp2
    go_ret
    rw [hLL.out]
    exact ⟨rfl, Below.refl _ _⟩
end Go.Proofs.Ytjehoingphndnaa

/-
  The document's file system: what a crash does to one file, as plain data; memory under way.
-/
import Derived.Test.YtglgjakjhkdoaaaGreatDoorZRfJ
import Derived.Test.YtglgjakjhkdoaaaGreatDoorZOwnZer
import Derived.Test.YtglgjakjhkdoaaaGreatDoorZFsNFsOA
namespace Go.Proofs.YtglgjakjhkdoaaaGreatDoor
open Go.RowKit Go.Maps
set_option linter.unusedVariables false
set_option linter.unusedSimpArgs false

def crT (s : FsS) (K : List Bool) (torn : Int) (i : Nat) : List (Bs × Bs) × List (Bs × Int) := crashTo K torn (lastK K s.waits.length) s.waits s.files i
def crB (s : FsS) (K : List Bool) (torn : Int) (k : Bs) (i : Nat) : Bs := (mget k (crT s K torn i).1).getD []
def crG (s : FsS) (K : List Bool) (torn : Int) (k : Bs) (i : Nat) : Nat := (gapOf k (crT s K torn i).2).toNat
theorem crT_eq (s : FsS) (K : List Bool) (torn : Int) (i : Nat) (h : i ≤ s.waits.length) : CrEq s K torn i (crT s K torn i).1 (crT s K torn i).2 := crEq_all s K torn i h
theorem crT_step {s : FsS} {K : List Bool} {torn : Int} {i : Nat} {p : Bs × Bs} (hp : s.waits[i]? = some p) : crT s K torn (i + 1) = crashStep K torn (lastK K s.waits.length) i p (crT s K torn i) := by
  unfold crT
  rw [crashTo, hp]
theorem cr_other {s : FsS} {K : List Bool} {torn : Int} {i : Nat} {p : Bs × Bs} {k : Bs} (hp : s.waits[i]? = some p) (hk : p.1 ≠ k) : crB s K torn k (i + 1) = crB s K torn k i ∧ crG s K torn k (i + 1) = crG s K torn k i := by
  unfold crB crG
  rw [crT_step hp]
  unfold crashStep gapOf
  split
  · simp only
    rw [mget_put_other strL (Ne.symm hk), mget_put_other strL (Ne.symm hk)]
    exact ⟨rfl, rfl⟩
  · refine ⟨rfl, ?_⟩
    simp only
    rw [mget_put_other strL (Ne.symm hk)]
theorem cr_lost {s : FsS} {K : List Bool} {torn : Int} {i : Nat} {p : Bs × Bs} (hp : s.waits[i]? = some p) (hk : keptB K i = false) : crB s K torn p.1 (i + 1) = crB s K torn p.1 i ∧ crG s K torn p.1 (i + 1) = crG s K torn p.1 i + p.2.length := by
  have hi := (List.getElem?_eq_some_iff.1 hp).1
  have h0 := gapOf_nonneg (crT_eq s K torn i (by omega)).pos p.1
  unfold crB crG
  rw [crT_step hp]
  unfold crashStep
  rw [if_neg (by rw [hk]; simp)]
  refine ⟨rfl, ?_⟩
  show (gapOf p.1 (mput strL p.1 _ _)).toNat = _
  unfold gapOf at h0 ⊢
  rw [mget_put_same]
  show ((mget p.1 (crT s K torn i).2).getD 0 + (p.2.length : Int)).toNat = _
  omega
theorem cr_kept {s : FsS} {K : List Bool} {torn : Int} {i : Nat} {p : Bs × Bs} (hp : s.waits[i]? = some p) (hk : keptB K i = true) : crB s K torn p.1 (i + 1) = crB s K torn p.1 i ++ List.replicate (crG s K torn p.1 i) 0 ++ tornB torn (lastK K s.waits.length) i p.2 ∧ crG s K torn p.1 (i + 1) = 0 := by
  unfold crB crG
  rw [crT_step hp]
  unfold crashStep
  rw [if_pos hk]
  refine ⟨?_, ?_⟩
  · simp only
    rw [mget_put_same]
    rfl
  · simp only
    unfold gapOf
    rw [mget_put_same]
    rfl
theorem crB_zero (s : FsS) (K : List Bool) (torn : Int) (k : Bs) : crB s K torn k 0 = (mget k s.files).getD [] ∧ crG s K torn k 0 = 0 := ⟨rfl, rfl⟩
theorem cr_le {s : FsS} (ok : s.Ok) (K : List Bool) (torn : Int) (k : Bs) (i : Nat) (hi : i ≤ s.waits.length) : (crB s K torn k i).length + crG s K torn k i ≤ 1048576 := by
  have h := crT_eq s K torn i hi
  have h1 := gsum_mdel h.pos k
  have h2 := h.sum
  have h3 := ok.used
  have h4 := ok.room1
  have h5 : total (s.waits.take i) ≤ total s.waits := by
    have : total s.waits = total (s.waits.take i) + total (s.waits.drop i) := by rw [← total_append, List.take_append_drop]
    omega
  have h6 : (crB s K torn k i).length ≤ total (crT s K torn i).1 := by
    unfold crB
    cases hg : mget k (crT s K torn i).1 with
    | none => simp
    | some v => have := mget_total hg; simp; omega
  have h7 := gapOf_nonneg h.pos k
  have h8 : 0 ≤ gsum (mdel k (crT s K torn i).2) := gsum_nonneg fun q hq => h.pos q ((mdel_sub k _).subset hq)
  unfold FsS.used at h3
  unfold crG
  omega
def crF (s : FsS) (K : List Bool) (torn : Int) (j : Nat) : List (Bs × Bs) := (s.files.take j).map (fun p => (p.1, crB s K torn p.1 s.waits.length)) ++ s.files.drop j
theorem crT_rises {s : FsS} (h : Rises s.files) (K : List Bool) (torn : Int) : ∀ i, Rises (crT s K torn i).1
  | 0 => h
  | i + 1 => by
    have ih := crT_rises h K torn i
    unfold crT at ih ⊢
    rw [crashTo]
    split
    · unfold crashStep
      split
      · exact ih.put _ _
      · exact ih
    · exact ih
theorem crT_names {s : FsS} (ok : s.Ok) (K : List Bool) (torn : Int) (k : Bs) : ∀ i, (mget k (crT s K torn i).1).isSome = true → (mget k s.files).isSome = true
  | 0, h => h
  | i + 1, h => by
    have ih := crT_names ok K torn k i
    unfold crT at ih h
    rw [crashTo] at h
    split at h
    · rename_i p hp
      have hpp := (ok.piece p (List.mem_of_getElem? hp)).2
      unfold crashStep at h
      split at h
      · by_cases e : k = p.1
        · subst e; exact hpp
        · simp only at h
          rw [mget_put_other strL e] at h
          exact ih h
      · exact ih h
    · exact ih h
theorem crF_all {s : FsS} (ok : s.Ok) (h : Rises s.files) (K : List Bool) (torn : Int) : crF s K torn s.files.length = (fsCrash s K torn).files := by
  unfold crF
  rw [List.take_length, List.drop_length, List.append_nil]
  refine rises_ext (h.map fun p => crB s K torn p.1 s.waits.length) (crT_rises h K torn s.waits.length) fun p => ?_
  constructor
  · intro hp
    obtain ⟨q, hq, rfl⟩ := List.mem_map.1 hp
    have h1 : (mget q.1 (crT s K torn s.waits.length).1).isSome = true := crash_has K torn _ s.waits s.files q.1 (by rw [h.get hq]; rfl) s.waits.length
    obtain ⟨v, hv⟩ := Option.isSome_iff_exists.1 h1
    have h2 := mget_mem hv
    unfold crB
    rw [hv]
    exact h2
  · intro hp
    have hp' : p ∈ (crT s K torn s.waits.length).1 := hp
    have h1 := (crT_rises h K torn s.waits.length).get hp'
    have h2 := crT_names ok K torn p.1 s.waits.length (by rw [h1]; rfl)
    obtain ⟨v, hv⟩ := Option.isSome_iff_exists.1 h2
    refine List.mem_map.2 ⟨_, mget_mem hv, ?_⟩
    unfold crB
    simp only
    rw [h1]
    rfl
theorem crF_zero (s : FsS) (K : List Bool) (torn : Int) : crF s K torn 0 = s.files := by simp [crF]
theorem crF_length (s : FsS) (K : List Bool) (torn : Int) (j : Nat) : (crF s K torn j).length = s.files.length := by
  unfold crF
  rw [List.length_append, List.length_map, List.length_take, List.length_drop]
  omega
theorem crF_step {s : FsS} {K : List Bool} {torn : Int} {j : Nat} {p : Bs × Bs} (hp : s.files[j]? = some p) : (crF s K torn j).set j (p.1, crB s K torn p.1 s.waits.length) = crF s K torn (j + 1) := by
  obtain ⟨hj, rfl⟩ := List.getElem?_eq_some_iff.1 hp
  unfold crF
  have hl : ((s.files.take j).map fun p => (p.1, crB s K torn p.1 s.waits.length)).length = j := by rw [List.length_map, List.length_take]; omega
  rw [List.set_append_right _ _ (by omega), hl, Nat.sub_self, List.drop_eq_getElem_cons hj, List.set_cons_zero, List.take_add_one, List.getElem?_eq_getElem hj, Option.toList_some, List.map_append, List.append_assoc]
  rfl
theorem crF_at (s : FsS) (K : List Bool) (torn : Int) {j : Nat} (hj : j < s.files.length) : (crF s K torn j)[j]? = s.files[j]? := by
  unfold crF
  rw [List.getElem?_append_right (by rw [List.length_map, List.length_take]; omega), List.length_map, List.length_take, List.getElem?_drop]
  congr 1
  omega

theorem rises_set {ν : Type} {L : List (Bs × ν)} {j : Nat} {k : Bs} {u v : ν} (h : Rises L) (hp : L[j]? = some (k, u)) : Rises (L.set j (k, v)) := by
  have e : (L.set j (k, v)).map (·.1) = L.map (·.1) := by
    rw [List.map_set]
    apply List.ext_getElem?
    intro i
    rw [List.getElem?_set]
    split
    · rename_i e
      subst e
      split
      · rw [List.getElem?_map, hp]; rfl
      · rw [List.getElem?_eq_none (by omega)]
    · rfl
  have h1 : (L.map (·.1)).Pairwise fun a b => bytesBefore a b = true := List.pairwise_map.2 h
  rw [← e] at h1
  exact List.pairwise_map.1 h1
theorem set_split {α : Type} {L : List α} {j : Nat} {x y : α} (hp : L[j]? = some x) : L = L.take j ++ x :: L.drop (j + 1) ∧ L.set j y = L.take j ++ y :: L.drop (j + 1) := by
  obtain ⟨hj, rfl⟩ := List.getElem?_eq_some_iff.1 hp
  refine ⟨?_, List.set_eq_take_append_cons_drop .. |>.trans (by rw [if_pos hj])⟩
  rw [← List.drop_eq_getElem_cons hj, List.take_append_drop]
theorem ebs_cons (p : Bs × Ent) (X : List (Bs × Ent)) : ebs (p :: X) = p.2.v.ownBlock.toList ++ ebs X := by unfold ebs; rw [List.flatMap_cons]
theorem ebs_middle (A B : List (Bs × Ent)) (p : Bs × Ent) : (ebs (A ++ p :: B)).Perm (p.2.v.ownBlock.toList ++ ebs (A ++ B)) := by
  rw [← ebs_cons]
  exact ebs_perm List.perm_middle
theorem nodup_set {E L : List (Bs × Ent)} {j : Nat} {k : Bs} {e0 e : Ent} (h : (ebs (E ++ L)).Nodup) (hp : E[j]? = some (k, e0)) {z : Nat} (hz : ∀ b ∈ ebs (E ++ L), b < z) (he : ∀ b, e.v.ownBlock = some b → e0.v.ownBlock = some b ∨ z ≤ b) :
    (ebs (E.set j (k, e) ++ L)).Nodup ∧ ∀ b ∈ ebs (E.set j (k, e) ++ L), b ∈ ebs (E ++ L) ∨ z ≤ b := by
  obtain ⟨h1, h2⟩ := set_split (y := (k, e)) hp
  have p1 : (ebs (E ++ L)).Perm (e0.v.ownBlock.toList ++ ebs (E.take j ++ E.drop (j + 1) ++ L)) := by
    conv => lhs; rw [h1]
    rw [List.append_assoc, List.cons_append, List.append_assoc]
    exact ebs_middle _ _ (k, e0)
  have p2 : (ebs (E.set j (k, e) ++ L)).Perm (e.v.ownBlock.toList ++ ebs (E.take j ++ E.drop (j + 1) ++ L)) := by
    rw [h2, List.append_assoc, List.cons_append, List.append_assoc]
    exact ebs_middle _ _ (k, e)
  have h3 := p1.nodup_iff.1 h
  refine ⟨p2.nodup_iff.2 ?_, fun b hb => ?_⟩
  · obtain ⟨_, n2, n3⟩ := List.nodup_append.1 h3
    refine List.nodup_append.2 ⟨?_, n2, fun b hb c hc e' => ?_⟩
    · cases e.v.ownBlock <;> simp
    · subst e'
      rcases he b (by simpa using hb) with h4 | h4
      · exact n3 b (by simpa using h4) b hc rfl
      · have := hz b (p1.symm.subset (List.mem_append_right _ hc))
        omega
  · rcases List.mem_append.1 (p2.subset hb) with h4 | h4
    · rcases he b (by simpa using h4) with h5 | h5
      · exact .inl (p1.symm.subset (List.mem_append_left _ (by simpa using h5)))
      · exact .inr h5
    · exact .inl (p1.symm.subset (List.mem_append_right _ h4))

theorem RfIn.hole {w w2 : World} {rb : Nat} {s : FsS} {fa pa : Option Addr} {fc pc : Nat} {lv : Int} {E L : List (Bs × Ent)} {j : Nat} {k : Bs} {e0 : Ent} (h : RfIn w rb s fa fc pa pc lv E L) (hp : E[j]? = some (k, e0)) (hc : Chg e0.v.ownBlock.toList [] w w2) :
    w2.heap[rb]? = some (.cells #[.int .i64 s.room, .slice fa E.length fc, .slice pa L.length pc, .bool s.left.isSome, .int .i64 lv, .bool s.halted] 63 (0, 0)) ∧
    w2.ownsRow 0 72 2 (.slice fa E.length fc) E.length (eflat E) ∧ w2.ownsRow 0 73 2 (.slice pa L.length pc) L.length (eflat L) ∧
    (∀ q ∈ L, EX w2 q.2) ∧ (∀ i q, i ≠ j → E[i]? = some q → EX w2 q.2) := by
  have hx0 := h.ent (k, e0) (List.mem_append_left _ (List.mem_of_getElem? hp))
  obtain ⟨n1, n2, n3⟩ := h.ne
  have hrb := (rf_cells h.blk).2.2.2.2.2.2.2
  obtain ⟨h1, _⟩ := set_split (y := (k, e0)) hp
  have hnd : (ebs ((E.take j ++ (k, e0) :: E.drop (j + 1)) ++ L)).Nodup := by rw [← h1]; exact h.ex
  rw [List.append_assoc, List.cons_append] at hnd
  have hnd2 := (ebs_middle _ _ _).nodup_iff.1 hnd
  obtain ⟨_, _, n5⟩ := List.nodup_append.1 hnd2
  have hoff : ∀ q, q ∈ E.take j ++ (E.drop (j + 1) ++ L) → ∀ b, q.2.v.ownBlock = some b → b ∉ e0.v.ownBlock.toList := fun q hq b hb hm => n5 b hm b (mem_ebs.2 ⟨q, hq, hb⟩) rfl
  refine ⟨(hc.block rb hrb fun hm => n3 (k, e0) (List.mem_append_left _ (List.mem_of_getElem? hp)) (by simpa using hm)).trans h.blk, ownsRow_same h.frow fun b hb => hc.block b (h.frow.lt b hb).2 fun hm => ownsRow_ty hx0.own h.frow (by decide) (by simpa using hm) hb, ownsRow_same h.prow fun b hb => hc.block b (h.prow.lt b hb).2 fun hm => ownsRow_ty hx0.own h.prow (by decide) (by simpa using hm) hb, fun q hq => ?_, fun i q hi hq => ?_⟩
  · have hx := h.ent q (List.mem_append_right _ hq)
    exact hx.same fun b hb => hc.block b (hx.lt hb) (hoff q (List.mem_append_right _ (List.mem_append_right _ hq)) b hb)
  · have hx := h.ent q (List.mem_append_left _ (List.mem_of_getElem? hq))
    refine hx.same fun b hb => hc.block b (hx.lt hb) (hoff q ?_ b hb)
    by_cases hlt : i < j
    · exact List.mem_append_left _ (List.mem_of_getElem? (i := i) (by rw [List.getElem?_take_of_lt hlt]; exact hq))
    · refine List.mem_append_right _ (List.mem_append_left _ (List.mem_of_getElem? (i := i - (j + 1)) ?_))
      rw [List.getElem?_drop, show j + 1 + (i - (j + 1)) = i by omega]
      exact hq
theorem RfIn.setC {w w2 : World} {rb g j : Nat} {s s' : FsS} {pa : Option Addr} {fc pc : Nat} {lv : Int} {E L : List (Bs × Ent)} {k : Bs} {e0 e : Ent} (h : RfIn w rb s (some ⟨g, 0, none⟩) fc pa pc lv E L) (hp : E[j]? = some (k, e0)) (hc : Chg e0.v.ownBlock.toList [] w w2)
    (hx : EX w2 e) (hex : ∀ b, e.v.ownBlock = some b → e0.v.ownBlock = some b ∨ w.heap.size ≤ b) (hr : s'.room = s.room) (hl : s'.left = s.left) (hh : s'.halted = s.halted) (hw : s'.waits = s.waits) (hf : s'.files = s.files.set j (k, e.b)) :
    RfIn (w2.setCell ⟨g, j * 2 + 1, none⟩ e.v) rb s' (some ⟨g, 0, none⟩) fc pa pc lv (E.set j (k, e)) L ∧ Chg (rfBl rb (some ⟨g, 0, none⟩) pa E L) (rfBl rb (some ⟨g, 0, none⟩) pa (E.set j (k, e)) L) w (w2.setCell ⟨g, j * 2 + 1, none⟩ e.v) := by
  obtain ⟨m1, m2, m3, m4, m5⟩ := h.hole hp hc
  obtain ⟨n1, n2, n3⟩ := h.ne
  have hgr : g ≠ rb := fun e => n1 (by rw [← e]; rfl)
  have hold : ∀ b, b ≠ g → (w2.setCell ⟨g, j * 2 + 1, none⟩ e.v).heap[b]? = w2.heap[b]? := fun b hb => heap_set_ne hb
  obtain ⟨q1, q2⟩ := nodup_set h.ex hp (z := w.heap.size) (fun b hb => h.lt b (by rw [rfBl_G0]; exact List.mem_append_right _ hb)) hex
  have hx0 := h.ent (k, e0) (List.mem_append_left _ (List.mem_of_getElem? hp))
  refine ⟨⟨?_, ?_, ?_, fun p hp' => ?_, q1, fun n hn => h.left n (hl ▸ hn), ?_, hw.trans h.waits, rises_set h.rise hp⟩, ⟨hc.os, hc.tape, hc.output, by simpa [World.setCell] using hc.size, fun b hb hn => ?_, fun b hb => ?_⟩⟩
  · rw [hold rb (Ne.symm hgr), hr, hl, hh, List.length_set]
    exact m1
  · rw [List.length_set, ← eflat_setB E hp e]
    exact (m2.stored (j * 2 + 1) e.v).1
  · exact ownsRow_same m3 fun b hb => hold b fun e => by
      subst e
      exact ownsRow_ty m2 m3 (by decide) rfl hb
  · have hx' : EX w2 p.2 := by
      rcases List.mem_append.1 hp' with hp' | hp'
      · obtain ⟨i, hi⟩ := List.getElem?_of_mem hp'
        rw [List.getElem?_set] at hi
        split at hi
        · split at hi
          · simp only [Option.some.injEq] at hi
            subst hi
            exact hx
          · cases hi
        · rename_i hne
          exact m5 i p (Ne.symm hne) hi
      · exact m4 p hp'
    exact hx'.same fun b hb => hold b fun e => by
      subst e
      exact ownsRow_ty m2 hx'.own (by decide) rfl hb
  · rw [hf, h.files, List.map_set]
    rfl
  · rw [hold b fun e => hn (by rw [rfBl_G0, e]; exact List.mem_append_left _ (by rw [mem_G0]; exact .inr (.inl rfl)))]
    exact hc.block b hb fun hm => hn (by rw [rfBl_G0]; exact List.mem_append_right _ (mem_ebs.2 ⟨(k, e0), List.mem_append_left _ (List.mem_of_getElem? hp), by simpa using hm⟩))
  · rw [rfBl_G0] at hb ⊢
    rcases List.mem_append.1 hb with hb | hb
    · exact .inl (List.mem_append_left _ hb)
    · rcases q2 b hb with h4 | h4
      · exact .inl (List.mem_append_right _ h4)
      · exact .inr h4
theorem Chg.inner {F F1 X : List Nat} {a b c : World} (h : Chg F F1 a b) (k : Chg X [] b c) (hX : ∀ x ∈ X, x ∈ F1) : Chg F [] a c :=
  ⟨k.os.trans h.os, k.tape.trans h.tape, k.output.trans h.output, Nat.le_trans h.size k.size, fun x hx hn => (k.block x (Nat.lt_of_lt_of_le hx h.size) fun hm => by
    rcases h.fresh x (hX x hm) with h1 | h1
    · exact hn h1
    · omega).trans (h.block x hx hn), fun x hx => by cases hx⟩
theorem chg_low {X : List Nat} {a b c : World} (h : Chg X [] a b) (k : Below b.heap.size b c) : Chg X [] a c := ⟨k.os.trans h.os, k.tape.trans h.tape, k.output.trans h.output, Nat.le_trans h.size k.size, fun x hx hn => (k.block x (Nat.lt_of_lt_of_le hx h.size)).trans (h.block x hx hn), fun x hx => by cases hx⟩
theorem chg_grown {X : List Nat} {a b c : World} {r : Option Nat} (h : Chg X [] a b) (k : b.grownBy c r) (hr : ∀ x, r = some x → x ∈ X ∨ a.heap.size ≤ x) : Chg X [] a c := ⟨k.os.trans h.os, k.tape.trans h.tape, k.output.trans h.output, Nat.le_trans h.size k.size, fun x hx hn => (k.block x (Nat.lt_of_lt_of_le hx h.size) fun e => by
    rcases hr x e.symm with h1 | h1
    · exact hn h1
    · omega).trans (h.block x hx hn), fun x hx => by cases hx⟩
end Go.Proofs.YtglgjakjhkdoaaaGreatDoor

/-
  The walk of a file system's Crash.
-/
import Derived.Test.YtglgjakjhkdoaaaGreatDoorZFsHFsIFsJFsRN
import Derived.Deep.DeepCutAuto
import Derived.Deep.CutBlock
import Derived.Deep.OwnRows
namespace Go.Proofs.YtglgjakjhkdoaaaGreatDoor
open Go.RowKit Go.Maps
set_option linter.unusedVariables false
set_option linter.unusedSimpArgs false

def isInt : Value → Bool
  | .int .i64 _ => true
  | _ => false
abbrev GapMap (w : World) (mb : Nat) (G : List (Bs × Int)) : Prop := OwnM w Tryz.prog 9 strL isInt (fun n : Int => .int .i64 n) mb G
theorem zero_int (w : World) : (zeroValue 3).run Tryz.prog w = .ok (.int .i64 0) w := by kernel_rfl

theorem perm_sum {L R : List Int} (h : L.Perm R) : L.sum = R.sum := by
  induction h with
  | nil => rfl
  | cons x _ ih => simp [ih]
  | swap x y l => simp only [List.sum_cons]; omega
  | trans _ _ h1 h2 => exact h1.trans h2
def gsum (G : List (Bs × Int)) : Int := (G.map (·.2)).sum
theorem gsum_nonneg {G : List (Bs × Int)} (h : ∀ p ∈ G, 0 ≤ p.2) : 0 ≤ gsum G := by
  unfold gsum
  induction G with
  | nil => simp
  | cons p G ih =>
    have h1 := ih fun q hq => h q (by simp [hq])
    have h2 := h p (by simp)
    simp only [List.map_cons, List.sum_cons]
    omega
theorem gsum_mput (k : Bs) (v : Int) (G : List (Bs × Int)) : gsum (mput strL k v G) = v + gsum (mdel k G) := by
  unfold gsum mput
  rw [perm_sum ((mins_perm strL (k, v) (mdel k G)).map (·.2))]
  simp
theorem gsum_mdel {G : List (Bs × Int)} (h : ∀ p ∈ G, 0 ≤ p.2) (k : Bs) : gapOf k G + gsum (mdel k G) ≤ gsum G := by
  unfold gapOf gsum mget mdel
  induction G with
  | nil => simp
  | cons p G ih =>
    have h1 := ih fun q hq => h q (by simp [hq])
    have h2 := h p (by simp)
    rw [List.find?_cons, List.filter_cons]
    by_cases e : p.1 = k
    · simp only [e, decide_true, Option.map_some, Option.getD_some, ne_eq, not_true, decide_false, Bool.false_eq_true, if_false, List.map_cons, List.sum_cons]
      have h3 : ∀ M : List (Bs × Int), (∀ q ∈ M, 0 ≤ q.2) → ((M.filter fun q => !decide (q.1 = k)).map (·.2)).sum ≤ (M.map (·.2)).sum := by
        intro M
        induction M with
        | nil => intro _; simp
        | cons q M ih2 =>
          intro hM
          have g1 := ih2 fun r hr => hM r (by simp [hr])
          have g2 := hM q (by simp)
          rw [List.filter_cons]
          split
          · simp only [List.map_cons, List.sum_cons]; omega
          · simp only [List.map_cons, List.sum_cons]; omega
      have h4 := h3 G fun q hq => h q (by simp [hq])
      simp only [ne_eq, decide_not] at h4 ⊢
      omega
    · simp only [e, decide_false, ne_eq, not_false_eq_true, decide_true, if_true, List.map_cons, List.sum_cons]
      simp only [ne_eq] at h1
      omega
theorem gapOf_nonneg {G : List (Bs × Int)} (h : ∀ p ∈ G, 0 ≤ p.2) (k : Bs) : 0 ≤ gapOf k G := by
  unfold gapOf
  cases hg : mget k G with
  | none => simp
  | some v => simpa using h _ (mget_mem hg)
theorem tornB_le (torn last : Int) (i : Nat) (b : Bs) : (tornB torn last i b).length ≤ b.length := by
  unfold tornB
  split
  · rw [List.length_take]; omega
  · exact Nat.le_refl _

structure CrMem (s : FsS) (sb : Nat) (F : List Nat) (w wB : World) (mb : Nat) (wv : Value) (lp : Option Nat) (L : List (Bs × Ent)) (mg : Nat) (E : List (Bs × Ent)) (G : List (Bs × Int)) (wr : World) : Prop where
  fs : FsIn wr sb { s with files := E.map ct } mb wv lp E L
  gap : GapMap wr mg G
  chg : Chg F (fpOf (muts sb mb wv lp) (E ++ L)) w wr
  nmg : mg ∉ fpOf (muts sb mb wv lp) (E ++ L)
  box : wr.heap[w.heap.size]? = wB.heap[w.heap.size]?
  nbox : w.heap.size ∉ fpOf (muts sb mb wv lp) (E ++ L)
  mgb : w.heap.size < mg
structure CrEq (s : FsS) (K : List Bool) (torn : Int) (i : Nat) (F : List (Bs × Bs)) (G : List (Bs × Int)) : Prop where
  eq : (F, G) = crashTo K torn (lastK K s.waits.length) s.waits s.files i
  pos : ∀ p ∈ G, 0 ≤ p.2
  sum : gsum G + total F ≤ total s.files + total (s.waits.take i)
  gl : G.length ≤ i
  el : F.length ≤ s.files.length + i
def CrAt (s : FsS) (K : List Bool) (torn : Int) (sb : Nat) (F : List Nat) (w wB : World) (mb : Nat) (wv : Value) (lp : Option Nat) (L : List (Bs × Ent)) (mg : Nat) (i : Nat) (E : List (Bs × Ent)) (G : List (Bs × Int)) (wr : World) : Prop :=
  CrMem s sb F w wB mb wv lp L mg E G wr ∧ CrEq s K torn i (E.map ct) G
theorem CrMem.low {s : FsS} {sb : Nat} {F : List Nat} {w wB : World} {mb : Nat} {wv : Value} {lp : Option Nat} {L : List (Bs × Ent)} {mg : Nat} {E : List (Bs × Ent)} {G : List (Bs × Int)} {wr wr' : World}
    (h : CrMem s sb F w wB mb wv lp L mg E G wr) (hb : Below wr.heap.size wr wr') : CrMem s sb F w wB mb wv lp L mg E G wr' := by
  have hlt : w.heap.size < wr.heap.size := Nat.lt_trans h.mgb h.gap.lt
  exact ⟨h.fs.low hb, h.gap.low hb, h.chg.trans (Chg.of_below hb), h.nmg, (hb.block _ hlt).trans h.box, h.nbox, h.mgb⟩
theorem CrMem.gapPut {s : FsS} {sb : Nat} {F : List Nat} {w wB : World} {mb : Nat} {wv : Value} {lp : Option Nat} {L : List (Bs × Ent)} {mg : Nat} {E : List (Bs × Ent)} {G G' : List (Bs × Int)} {wr wr' : World}
    (h : CrMem s sb F w wB mb wv lp L mg E G wr) (hm : GapMap wr' mg G') (hg : wr.grownBy wr' (some mg)) : CrMem s sb F w wB mb wv lp L mg E G' wr' := by
  have hlt : w.heap.size < wr.heap.size := Nat.lt_trans h.mgb h.gap.lt
  have hb : ∀ k, k < wr.heap.size → k ≠ mg → wr'.heap[k]? = wr.heap[k]? := fun k hk hn => hg.block k hk fun e => hn (by simp only [Option.some.injEq] at e; first | exact e | exact e.symm)
  refine ⟨h.fs.same (fun k hk => hb k (h.fs.fp_lt k hk) fun e => h.nmg (by rw [← e]; exact hk)) hg.size, hm, ⟨hg.os.trans h.chg.os, hg.tape.trans h.chg.tape, hg.output.trans h.chg.output, Nat.le_trans h.chg.size hg.size, fun k hk hn => ?_, h.chg.fresh⟩, h.nmg, (hb _ hlt (by have := h.mgb; omega)).trans h.box, h.nbox, h.mgb⟩
  rw [hb k (Nat.lt_of_lt_of_le hk h.chg.size) (by have := h.mgb; omega)]
  exact h.chg.block k hk hn
theorem CrMem.filePut {s : FsS} {sb : Nat} {F : List Nat} {w wB : World} {mb : Nat} {wv : Value} {lp : Option Nat} {L : List (Bs × Ent)} {mg : Nat} {E E' : List (Bs × Ent)} {G : List (Bs × Int)} {wr wr' : World}
    (h : CrMem s sb F w wB mb wv lp L mg E G wr) (hm : FsMap wr' mb E') (hg : wr.grownBy wr' (some mb)) {B : Nat} (hB : mg < B) (he : ∀ p ∈ E', p ∈ E ∨ (EntOk wr (muts sb mb wv lp) p.2 ∧ ∀ k, p.2.v.ownBlock = some k → B ≤ k)) : CrMem s sb F w wB mb wv lp L mg E' G wr' := by
  have hlt : w.heap.size < wr.heap.size := Nat.lt_trans h.mgb h.gap.lt
  have hmgb := h.mgb
  have hb : ∀ k, k < wr.heap.size → k ≠ mb → wr'.heap[k]? = wr.heap[k]? := fun k hk hn => hg.block k hk fun e => hn (by simp only [Option.some.injEq] at e; first | exact e | exact e.symm)
  have hmb : mb ∈ fpOf (muts sb mb wv lp) (E ++ L) := mem_fpOf.2 (.inl (by simp [muts]))
  have hfp : ∀ k, k ∈ fpOf (muts sb mb wv lp) (E' ++ L) → k ∈ fpOf (muts sb mb wv lp) (E ++ L) ∨ B ≤ k := fun k hk => by
    rcases mem_fpOf.1 hk with h1 | ⟨p, hp, h1⟩
    · exact .inl (mem_fpOf.2 (.inl h1))
    · rcases List.mem_append.1 hp with hp | hp
      · rcases he p hp with h2 | h2
        · exact .inl (mem_fpOf.2 (.inr ⟨p, List.mem_append_left _ h2, h1⟩))
        · exact .inr (h2.2 k h1)
      · exact .inl (mem_fpOf.2 (.inr ⟨p, List.mem_append_right _ hp, h1⟩))
  refine ⟨h.fs.mapTo (s' := { s with files := E'.map ct }) hm hg rfl rfl rfl rfl rfl (fun p hp => (he p hp).imp id (·.1)), h.gap.same (hb mg h.gap.lt fun e => h.nmg (by rw [e]; exact hmb)), ⟨hg.os.trans h.chg.os, hg.tape.trans h.chg.tape, hg.output.trans h.chg.output, Nat.le_trans h.chg.size hg.size, fun k hk hn => ?_, fun k hk => ?_⟩, fun hk => ?_, (hb _ hlt fun e => h.nbox (by rw [e]; exact hmb)).trans h.box, fun hk => ?_, h.mgb⟩
  · rw [hb k (Nat.lt_of_lt_of_le hk h.chg.size) fun e => ?_]
    · exact h.chg.block k hk hn
    · rcases h.chg.fresh mb hmb with h1 | h1
      · exact hn (by rw [e]; exact h1)
      · omega
  · rcases hfp k hk with h1 | h1
    · exact h.chg.fresh k h1
    · exact .inr (by omega)
  · rcases hfp mg hk with h1 | h1
    · exact h.nmg h1
    · omega
  · rcases hfp _ hk with h1 | h1
    · exact h.nbox h1
    · omega
theorem CrMem.other {s : FsS} {sb : Nat} {F : List Nat} {w wB : World} {mb : Nat} {wv : Value} {lp : Option Nat} {L : List (Bs × Ent)} {mg : Nat} {E : List (Bs × Ent)} {G : List (Bs × Int)} {w0 wr : World} (h0 : CrMem s sb F w wB mb wv lp L mg E G w0) (h : CrMem s sb F w wB mb wv lp L mg E G wr) {ob : Nat} (hob : w0.heap.size ≤ ob) (j : Nat) (u : Value) : CrMem s sb F w wB mb wv lp L mg E G (wr.setCell ⟨ob, j, none⟩ u) := by
  have hb : ∀ k, k ≠ ob → (wr.setCell ⟨ob, j, none⟩ u).heap[k]? = wr.heap[k]? := fun k hk => heap_set_ne hk
  have hsz : (wr.setCell ⟨ob, j, none⟩ u).heap.size = wr.heap.size := by simp [World.setCell]
  have h1 := h0.gap.lt
  have h2 := h0.mgb
  have h3 := h0.chg.size
  refine ⟨h.fs.same (fun k hk => hb k (by have := h0.fs.fp_lt k hk; omega)) (by rw [hsz]; exact Nat.le_refl _), h.gap.same (hb mg (by omega)), ⟨h.chg.os, h.chg.tape, h.chg.output, by rw [hsz]; exact h.chg.size, fun k hk hn => ?_, h.chg.fresh⟩, h.nmg, (hb _ (by omega)).trans h.box, h.nbox, h.mgb⟩
  rw [hb k (by omega)]
  exact h.chg.block k hk hn
theorem made_zeros (n : Nat) : madeCells #[.int .u8 0] n = (bcells (List.replicate n 0)).toArray := by
  apply Array.ext
  · simp [madeCells, bcells]
  · intro i h1 h2
    simp [madeCells, bcells, Nat.mod_one]
theorem made_rd (w : World) (n : Nat) (hl : n ≤ 1048576) : RdB (w.alloc (.cells (madeCells #[.int .u8 0] n) 5)) (.slice (some ⟨w.heap.size, 0, none⟩) n n) (List.replicate n 0) := by
  by_cases h0 : n = 0
  · subst h0
    exact ⟨by simp [bcells], .inr ⟨_, _, rfl, fun j u hu => by simp [bcells] at hu⟩⟩
  · have h := rd_new w (madeCells #[.int .u8 0] n) 5 n 1 (by omega) (by rw [made_zeros]; simp [bcells])
    unfold RdB
    rw [made_zeros] at h ⊢
    simpa using h
theorem mput_has {κ ν : Type} [DecidableEq κ] (kl : κ → Lit) (k k' : κ) (v : ν) (E : List (κ × ν)) (h : (mget k' E).isSome = true) : (mget k' (mput kl k v E)).isSome = true := by
  by_cases e : k' = k
  · subst e; rw [mget_put_same]; rfl
  · rw [mget_put_other kl e]; exact h
theorem crash_has (K : List Bool) (torn last : Int) (L F : List (Bs × Bs)) (k : Bs) (h : (mget k F).isSome = true) : ∀ i, (mget k (crashTo K torn last L F i).1).isSome = true
  | 0 => h
  | i + 1 => by
    have ih := crash_has K torn last L F k h i
    rw [crashTo]
    split
    · unfold crashStep
      split
      · exact mput_has _ _ _ _ _ ih
      · exact ih
    · exact ih
theorem CrEq.lost {s : FsS} {K : List Bool} {torn : Int} {i : Nat} {F : List (Bs × Bs)} {G : List (Bs × Int)} (h : CrEq s K torn i F G) {p : Bs × Bs} (hp : s.waits[i]? = some p) (hk : keptB K i = false) : CrEq s K torn (i + 1) F (mput strL p.1 (gapOf p.1 G + p.2.length) G) := by
  have h0 := gapOf_nonneg h.pos p.1
  refine ⟨?_, fun q hq => ?_, ?_, ?_, by have := h.el; omega⟩
  · rw [crashTo, hp]
    simp only
    rw [← h.eq, crashStep, hk]
    simp
  · rcases (mput_mem _ _ _ _ _).1 hq with rfl | hq
    · show 0 ≤ gapOf p.1 G + p.2.length
      omega
    · exact h.pos q hq.1
  · have h1 := gsum_mdel h.pos p.1
    have h2 := h.sum
    have h3 : total (s.waits.take (i + 1)) = total (s.waits.take i) + p.2.length := by rw [List.take_add_one, hp, total_append]; simp [total]
    rw [gsum_mput, h3]
    omega
  · have := mput_length strL p.1 (gapOf p.1 G + p.2.length) G
    have := h.gl
    omega
theorem CrEq.keeps {s : FsS} {K : List Bool} {torn : Int} {i : Nat} {F : List (Bs × Bs)} {G : List (Bs × Int)} (h : CrEq s K torn i F G) {p : Bs × Bs} (hp : s.waits[i]? = some p) (hk : keptB K i = true) :
    CrEq s K torn (i + 1) (mput strL p.1 ((mget p.1 F).getD [] ++ List.replicate (gapOf p.1 G).toNat 0 ++ tornB torn (lastK K s.waits.length) i p.2) F) (mput strL p.1 0 G) := by
  have h0 := gapOf_nonneg h.pos p.1
  refine ⟨?_, fun q hq => ?_, ?_, ?_, ?_⟩
  · rw [crashTo, hp]
    simp only
    rw [← h.eq, crashStep, hk]
    simp
  · rcases (mput_mem _ _ _ _ _).1 hq with rfl | hq
    · exact Int.le_refl 0
    · exact h.pos q hq.1
  · have h1 := gsum_mdel h.pos p.1
    have h2 := h.sum
    have h3 : total (s.waits.take (i + 1)) = total (s.waits.take i) + p.2.length := by rw [List.take_add_one, hp, total_append]; simp [total]
    have h4 := tornB_le torn (lastK K s.waits.length) i p.2
    have h5 : ((mget p.1 F).getD []).length + total (mdel p.1 F) ≤ total F := by
      cases hg : mget p.1 F with
      | none => have := mdel_total p.1 F; simpa using this
      | some v => simpa using mget_total hg
    rw [gsum_mput, mput_total, h3]
    simp only [List.length_append, List.length_replicate]
    omega
  · have := mput_length strL p.1 (0 : Int) G
    have := h.gl
    omega
  · have := mput_length strL p.1 ((mget p.1 F).getD [] ++ List.replicate (gapOf p.1 G).toNat 0 ++ tornB torn (lastK K s.waits.length) i p.2) F
    have := h.el
    omega
theorem FsIn.re {w : World} {sb mb : Nat} {s : FsS} {wv : Value} {lp : Option Nat} {E L : List (Bs × Ent)} (h : FsIn w sb s mb wv lp E L) : FsIn w sb { s with files := E.map ct } mb wv lp E L := by
  have e : ({ s with files := E.map ct } : FsS) = s := by rw [← h.files]
  rw [e]
  exact h

theorem crash_close {w0 w : World} {sb mb : Nat} {s s' : FsS} {wv : Value} {lp : Option Nat} {E L : List (Bs × Ent)} {F0 : List Nat} (h : FsIn w sb s mb wv lp E L) (hC : Chg F0 (fpOf (muts sb mb wv lp) (E ++ L)) w0 w)
    (hr : s'.room = s.room) (hh : s'.halted = false) (hl : s'.left = none) (hf : s'.files = s.files) (hw : s'.waits = []) :
    FsTo w0 sb F0 s' (((w.setCell ⟨sb, 2, none⟩ (.slice none 0 0)).setCell ⟨sb, 3, none⟩ (.pointer none)).setCell ⟨sb, 4, none⟩ (.bool false)) := by
  obtain ⟨n1, n2, n3⟩ := h.ne
  have hb : ∀ k, k ≠ sb → (((w.setCell ⟨sb, 2, none⟩ (.slice none 0 0)).setCell ⟨sb, 3, none⟩ (.pointer none)).setCell ⟨sb, 4, none⟩ (.bool false)).heap[k]? = w.heap[k]? := fun k hk => by rw [heap_set_ne hk, heap_set_ne hk, heap_set_ne hk]
  have hsz : (((w.setCell ⟨sb, 2, none⟩ (.slice none 0 0)).setCell ⟨sb, 3, none⟩ (.pointer none)).setCell ⟨sb, 4, none⟩ (.bool false)).heap.size = w.heap.size := by simp [World.setCell]
  have hsub : ∀ k, k ∈ muts sb mb (.slice none 0 0) none → k ∈ muts sb mb wv lp := fun k hk => by
    simp only [muts, List.mem_cons, List.mem_append, Option.mem_toList, Value.ownBlock] at hk ⊢
    rcases hk with h1 | h1 | h1 | h1
    · exact .inl h1
    · exact .inr (.inl h1)
    · cases h1
    · cases h1
  have hsbm : sb ∈ fpOf (muts sb mb wv lp) (E ++ L) := mem_fpOf.2 (.inl (by simp [muts]))
  refine ⟨_, ⟨mb, .slice none 0 0, none, E, [], ⟨?_, h.map.same (hb mb n1), World.ownsRow_nil _ _ _ _, by rw [hl]; trivial, hf.trans h.files, hw, fun p hp => ?_, by simp [muts, Value.ownBlock, Ne.symm n1]⟩, rfl⟩, hC.os, hC.tape, hC.output, by rw [hsz]; exact hC.size, fun k hk hn => ?_, fun k hk => ?_⟩
  · have h1 := setCell_heap h.blk 2 (.slice none 0 0)
    have h2 := setCell_heap h1 3 (.pointer none)
    have h3 := setCell_heap h2 4 (.bool false)
    rw [hr, hh]
    simpa using h3
  · have h1 := h.ent p (List.mem_append_left _ (by simpa using hp))
    have h2 := h1.same (w' := ((w.setCell ⟨sb, 2, none⟩ (.slice none 0 0)).setCell ⟨sb, 3, none⟩ (.pointer none)).setCell ⟨sb, 4, none⟩ (.bool false)) (fun k hk => hb k fun e => (h1.far k hk).1 (by simp [muts, e])) (by rw [hsz]; exact Nat.le_refl _)
    exact ⟨h2.rd, h2.n, h2.le, h2.cap, fun k hk => ⟨fun hm => (h1.far k hk).1 (hsub k hm), (h2.far k hk).2⟩⟩
  · by_cases e : k = sb
    · exfalso
      subst e
      rcases hC.fresh k hsbm with h1 | h1
      · exact hn h1
      · omega
    · rw [hb k e]
      exact hC.block k hk hn
  · rcases mem_fpOf.1 hk with hk | ⟨p, hp, hk⟩
    · exact hC.fresh k (mem_fpOf.2 (.inl (hsub k hk)))
    · exact hC.fresh k (mem_fpOf.2 (.inr ⟨p, List.mem_append_left _ (by simpa using hp), hk⟩))

set_option maxRecDepth 100000 in
set_option maxHeartbeats 3200000 in
theorem fs_Crash (sb : Nat) (s : FsS) (F : List Nat) (ka : Option Addr) (kn kc : Nat) (torn : Int) (K : List Bool) (w : World) (h : FsRep w sb s F) (ok : s.Ok) (hx : RdK w (.slice ka kn kc) K) (hn : kn = K.length) (hl : kn ≤ 1048576) (hd : 0 < kn → ∀ k, (Value.slice ka kn kc).ownBlock = some k → k ∉ F)
    (ht0 : -9223372036854775808 ≤ torn) (ht1 : torn ≤ 9223372036854775807) :
    Calls Tryz.prog 36 #[.pointer (some ⟨sb, 0, none⟩), .agg #[.slice ka kn kc, .int .i64 torn]] w fun e w' => e = .returned (.tuple #[]) ∧ FsTo w sb F (fsCrash s K torn) w' := by
  have H := hide h
  have OK := hide ok
  have HN := hide hn
  have HXK := hide hx
  have HD := hide hd
  have hwl := ok.waits_le
  obtain ⟨mb, wv, lp, E, L, h, rfl⟩ := h
  obtain ⟨c0, c1, c2, c3, c4, fz⟩ := fs_cells h.blk
  have hsb := (Array.getElem?_eq_some_iff.1 h.blk).1
  obtain ⟨wa, wcp, rfl⟩ := (ownsRow_rd h.row).head
  have hLl : L.length = s.waits.length := by rw [h.waits, List.length_map]
  have hll : L.length ≤ 1048576 := by omega
  obtain ⟨wB, hwB⟩ : ∃ wB, wB = w.alloc (.cells #[.slice ka kn kc, .int .i64 torn] 45) := ⟨_, rfl⟩
  have hbB : Below w.heap.size w wB := by rw [hwB]; exact below_alloc _ _
  have hsz : wB.heap.size = w.heap.size + 1 := by rw [hwB]; simp
  have hbx : wB.heap[w.heap.size]? = some (.cells #[.slice ka kn kc, .int .i64 torn] 45 (0, 0)) := by rw [hwB]; exact heap_alloc_at _ _
  have HK := hide (hx.low hbB)
  have HBB := hide hbB
  have HBX := hide hbx
  have HFB := hide (h.low hbB)
  have HC2 := hide ((hbB.cell (p := ⟨sb, 2, none⟩) hsb).trans c2)
  have d2 := HC2.out
  have HSZ := hide hsz
  have H1 := hide h
  have HLL := hide hLl
  have hw0 : IntKind.i64.wrap ((L.length : Int) - 1) = (L.length : Int) - 1 := wrap64 (by omega) (by omega)
  have hbc : Hid (∀ W, Below wB.heap.size wB W → W.cell? ⟨w.heap.size, 0, none⟩ = some (.slice ka kn kc) ∧ W.cell? ⟨w.heap.size, 1, none⟩ = some (.int .i64 torn)) := hide fun W hW => by
    have h1 : W.heap[w.heap.size]? = some (.cells #[.slice ka kn kc, .int .i64 torn] 45 (0, 0)) := (hW.block _ (by omega)).trans hbx
    simp [World.cell?, h1]
  clear h ok hn hx c0 c1 c2 c3 c4 fz hbB hbx hwl hLl hsz
  go_enter Tryz.func36, Tryz.ntmps36
  go_upto_region 1 with fail
  rw [← hwB]
  clear hwB
  go_upto_block 0 with fail
  go_cut [4] (fun lv wx => lv = .int .i64 (lastK K L.length) ∧ Hid (Below wB.heap.size wB wx))
  case first =>
    go_wp2_with fail
    go_loopw [4] (fun lv wr => ∃ t : Int, lv = .int .i64 t ∧ -1 ≤ t ∧ t < L.length ∧ Hid (lastK K (t + 1).toNat = lastK K L.length) ∧ Hid (Below wB.heap.size wB wr)) (fun lv _ => match lv with | .int _ t => (t + 1).toNat | _ => 0)
    case atStart => exact ⟨_, rfl, by omega, by omega, hide (by rw [show ((L.length : Int) - 1 + 1).toNat = L.length by omega]), hide (Below.refl _ _)⟩
    case round =>
      obtain ⟨t, rfl, ht2, ht3, hlast, hbw⟩ := hrel
      obtain ⟨e0, e1⟩ := hbc.out wr hbw.out
      clear d2 hw0
      by_cases hneg : t < 0
      · have hlt : t = lastK K L.length := by
          rw [← hlast.out, show (t + 1).toNat = 0 by omega]
          show t = -1
          omega
        have HLT := hide hlt
        have i0 : ¬ (0 ≤ t) := by omega
        clear hlast hlt
        go_wp2
        go_meet
        exact ⟨by rw [HLT.out], hbw⟩
      · have i0 : 0 ≤ t := by omega
        obtain ⟨m, rfl⟩ : ∃ m : Nat, t = m := ⟨t.toNat, by omega⟩
        have hm1 : m ≤ 1048576 := by omega
        cases hk : keptB K m with
        | false =>
          have hst : Hid (lastK K ((m : Int) - 1 + 1).toNat = lastK K L.length) := hide (by
            have h1 := hlast.out
            rw [show ((m : Int) + 1).toNat = m + 1 by omega] at h1
            rw [← h1, show ((m : Int) - 1 + 1).toNat = m by omega]
            simp [lastK, hk])
          have hw3 : IntKind.i64.wrap ((m : Int) - 1) = (m : Int) - 1 := wrap64 (by omega) (by omega)
          clear hlast
          go_wp2_with fail
          refine (fs_keeps ka kn kc torn K m wr (HK.out.low hbw.out) HN.out hl hm1).mono ?_
          rintro e w1 ⟨rfl, hb1⟩
          rw [hk]
          have HB1 := hide (hbw.out.trans (hb1.mono hbw.out.size))
          clear hb1 hk
          go_wp2
          refine ⟨⟨(m : Int) - 1, rfl, by omega, by omega, hst, HB1⟩, ?_⟩
          show ((m : Int) - 1 + 1).toNat < ((m : Int) + 1).toNat
          omega
        | true =>
          have hlt : Hid ((m : Int) = lastK K L.length) := hide (by
            have h1 := hlast.out
            rw [show ((m : Int) + 1).toNat = m + 1 by omega] at h1
            rw [← h1]
            simp [lastK, hk])
          clear hlast
          go_wp2_with fail
          refine (fs_keeps ka kn kc torn K m wr (HK.out.low hbw.out) HN.out hl hm1).mono ?_
          rintro e w1 ⟨rfl, hb1⟩
          rw [hk]
          have HB1 := hide (hbw.out.trans (hb1.mono hbw.out.size))
          clear hb1 hk
          go_wp2
          go_meet
          exact ⟨by rw [hlt.out], HB1⟩
  case rest =>
    obtain ⟨rfl, hbw⟩ := hcut
    have hmm := @run_makeMap Tryz.prog
    obtain ⟨w1, hw1⟩ : ∃ w1, w1 = wc.alloc (.map #[] 0) := ⟨_, rfl⟩
    have hb1 : Below w.heap.size w w1 := by rw [hw1]; exact HBB.out.trans ((hbw.out.trans ((below_alloc wc _).mono hbw.out.size)).mono HBB.out.size)
    have d2' : (wc.alloc (.map #[] 0)).cell? ⟨sb, 2, none⟩ = some (.slice wa L.length wcp) := by rw [← hw1]; exact (hb1.cell (p := ⟨sb, 2, none⟩) hsb).trans (fs_cells H1.out.blk).2.2.1
    have hsB := HSZ.out
    have hsC := hbw.out.size
    have hst : Hid (CrAt s K torn sb (fpOf (muts sb mb (.slice wa L.length wcp) lp) (E ++ L)) w wB mb (.slice wa L.length wcp) lp L wc.heap.size 0 E [] w1) := hide ⟨⟨(H1.out.low hb1).re, by rw [hw1]; exact ownM_made wc, Chg.of_below hb1,
      fun hm => by have := H1.out.fp_lt _ hm; omega, by rw [hw1, Below.heap_alloc wc _ _ (by omega)]; exact hbw.out.block _ (by omega), fun hm => by have := H1.out.fp_lt _ hm; omega, by omega⟩, ⟨by show _ = (s.files, []); rw [H1.out.files], (fun p hp => by cases hp), by simp [gsum, H1.out.files, total], by simp, by rw [H1.out.files]; simp⟩⟩
    have HMG := hide (show w.heap.size < wc.heap.size by omega)
    obtain ⟨mg, hmg⟩ : ∃ mg, mg = wc.heap.size := ⟨_, rfl⟩
    rw [← hmg] at hst HMG
    clear hb1 hsB hsC d2 hw0
    go_upto_region 6 with fail
    rw [← hw1]
    rw [← hmg]
    clear hw1 hmg d2' hmm hbw
    go_loopw [6, 7, 30] (fun jv pv iv wr => ∃ (i : Nat) (E' : List (Bs × Ent)) (G : List (Bs × Int)), iv = .int .i64 i ∧ i ≤ L.length ∧ Hid (CrAt s K torn sb (fpOf (muts sb mb (.slice wa L.length wcp) lp) (E ++ L)) w wB mb (.slice wa L.length wcp) lp L mg i E' G wr)) (fun _ _ iv _ => match iv with | .int _ j => L.length - j.toNat | _ => 0)
    case atStart => exact ⟨0, E, [], rfl, Nat.zero_le _, hst⟩
    case round =>
      obtain ⟨i, E', G, rfl, hi, hc⟩ := hrel
      clear hst
      by_cases hil : i < L.length
      · have i0 : (i : Int) < L.length := by omega
        have hbx : Hid (∀ W, Below wr.heap.size wr W → W.cell? ⟨w.heap.size, 0, none⟩ = some (.slice ka kn kc) ∧ W.cell? ⟨w.heap.size, 1, none⟩ = some (.int .i64 torn)) := hide fun W hW => by
          have h2 := hc.out.1.box
          have h3 : W.heap[w.heap.size]? = wr.heap[w.heap.size]? := hW.block _ (Nat.lt_trans hc.out.1.mgb hc.out.1.gap.lt)
          have h4 := hbc.out wB (Below.refl _ _)
          rw [← World.cell?_of_block (w := wB) (w' := W) (a := ⟨w.heap.size, 0, none⟩) (h3.trans h2), ← World.cell?_of_block (w := wB) (w' := W) (a := ⟨w.heap.size, 1, none⟩) (h3.trans h2)] at h4
          exact h4
        have hkr : Hid (RdK wr (.slice ka kn kc) K) := hide (HXK.out.chg0 HN.out hc.out.1.chg HD.out)
        obtain ⟨g, pk, pb, pa, pn, pc, rfl, hpe, a1, a2, hg, hfz⟩ := hc.out.1.fs.at hil
        have hpE : EntOk wr (muts sb mb (.slice (some ⟨g, 0, none⟩) L.length wcp) lp) (⟨pb, pa, pn, pc⟩ : Ent) := by
          have := hc.out.1.fs.ent L[i] (List.mem_append_right _ (List.getElem_mem hil))
          rw [hpe] at this
          exact this
        have hpw : Hid (s.waits[i]? = some (pk, pb)) := hide (by
          rw [H1.out.waits, List.getElem?_map, List.getElem?_eq_getElem hil, hpe]
          rfl)
        have HPE := hide hpE
        have hok1 := hide (below_alloc wr (.cells #[.string ⟨pk.toArray⟩, .slice pa pn pc] 68))
        have hnew := hide (heap_alloc_at wr (.cells #[.string ⟨pk.toArray⟩, .slice pa pn pc] 68))
        have hsza : (wr.alloc (.cells #[.string ⟨pk.toArray⟩, .slice pa pn pc] 68)).heap.size = wr.heap.size + 1 := by simp
        have hi1 : i ≤ 1048576 := by omega
        obtain ⟨e0, e1⟩ := hbx.out _ hok1.out
        have hw2 : IntKind.i64.wrap ((i : Int) + 1) = (i : Int) + 1 := wrap64 (by omega) (by omega)
        obtain ⟨wA, hwA⟩ : ∃ wA, wA = wr.alloc (.cells #[.string ⟨pk.toArray⟩, .slice pa pn pc] 68) := ⟨_, rfl⟩
        rw [← hwA] at hok1 hnew hsza e0 e1
        have HSA := hide hsza
        clear hpe hpE hsza
        go_upto_region 8 with fail
        rw [← hwA]
        clear hwA a1 a2 hfz hg
        go_wp2_with fail
        refine (fs_keeps ka kn kc torn K i wA (hkr.out.low hok1.out) HN.out hl hi1).mono ?_
        rintro e w2 ⟨rfl, hb2⟩
        have HB2 := hide (hok1.out.trans (hb2.mono hok1.out.size))
        have hn2 : w2.heap[wr.heap.size]? = some (.cells #[.string ⟨pk.toArray⟩, .slice pa pn pc] 68) := (hb2.block _ (by have := HSA.out; omega)).trans hnew.out
        have hs2 : Hid (wr.heap.size < w2.heap.size) := hide (by have := HSA.out; have := hb2.size; omega)
        have HC2 := hide (hc.out.1.low HB2.out)
        have HNW := hide hn2
        clear e0 e1 hb2 hok1 hnew HSA
        have b1 : w2.cell? ⟨wr.heap.size, 0, none⟩ = some (.string ⟨pk.toArray⟩) := by simp [World.cell?, hn2]
        have b2 : w2.cell? ⟨wr.heap.size, 1, none⟩ = some (.slice pa pn pc) := by simp [World.cell?, hn2]
        clear hn2
        have hkl : pk.length ≤ maxLen := by
          have h1 := (OK.out.piece (pk, pb) (List.mem_of_getElem? hpw.out)).2
          unfold FsS.has at h1
          obtain ⟨v, hv⟩ := Option.isSome_iff_exists.1 h1
          have h2 := OK.out.names (pk, v) (mget_mem hv)
          unfold named at h2
          simp only [Bool.and_eq_true, decide_eq_true_eq] at h2
          unfold maxLen
          omega
        cases hk : keptB K i with
        | false =>
          have hp0 := gapOf_nonneg hc.out.2.pos pk
          have hcq := hide (hc.out.2.lost hpw.out hk)
          have hpn : Hid (pn = pb.length) := hide HPE.out.n
          have hsum : gapOf pk G + (pn : Int) ≤ 1048576 := by
            have h1 := hcq.out.sum
            have h2 := OK.out.used_le
            have h3 := total_take s.waits (i + 1)
            have h4 := gsum_mput pk (gapOf pk G + (pb.length : Int)) G
            have h5 : 0 ≤ gsum (mdel pk G) := gsum_nonneg fun q hq => hc.out.2.pos q ((mdel_mem _ _ _).1 hq).1
            have h6 := hpn.out
            unfold FsS.used at h2
            simp only at h1 h4
            omega
          have hw3 : IntKind.i64.wrap (gapOf pk G + (pn : Int)) = gapOf pk G + (pn : Int) := wrap64 (by omega) (by omega)
          have hgl : G.length < maxLen := by have := hc.out.2.gl; unfold maxLen; omega
          have hgm := hide HC2.out.gap
          have hg0 : Hid (((mget pk G).map fun n : Int => Value.int .i64 n).getD (.int .i64 0) = .int .i64 (gapOf pk G)) := hide (by unfold gapOf; cases mget pk G <;> rfl)
          clear hc hkr hbx
          go_wp2_with (first | (at_lookup; refine wpList_mlook keysFs rfl _ _ 101 rfl 3 Tryz.underlying101 (zero_int _) rfl rfl hgm.out pk rfl hkl (mget pk G) rfl (.int .i64 (gapOf pk G)) hg0.out ?_) | (at_mapUpdate; refine wpList_mput keysFs rfl _ _ _ 101 rfl 3 Tryz.underlying101 rfl hgm.out hgl pk rfl hkl (gapOf pk G + (pn : Int)) rfl rfl ?_; intro w3 hm3 hg3 hs3; have HM3 := hide hm3; have HG3 := hide hg3; clear hm3 hg3 hs3))
          refine ⟨⟨i + 1, E', _, by simp, hil, hide ⟨HC2.out.gapPut HM3.out HG3.out, ?_⟩⟩, ?_⟩
          · have h1 := hcq.out
            rw [← hpn.out] at h1
            exact h1
          · show L.length - ((i : Int) + 1).toNat < L.length - ((i : Nat) : Int).toNat
            omega
        | true =>
          have hcq := hide (hc.out.2.keeps hpw.out hk)
          have hpn : Hid (pn = pb.length) := hide HPE.out.n
          obtain ⟨tb, htb⟩ : ∃ tb, tb = tornB torn (lastK K s.waits.length) i pb := ⟨_, rfl⟩
          have HTB := hide htb
          have HC0 := hide hc.out.1
          have HEQ := hide (congrArg Prod.fst hc.out.2.eq)
          have HEL := hide hc.out.2.el
          have HGL := hide hc.out.2.gl
          have hrd : Hid (RdB w2 (.slice pa pn pc) pb) := hide (RdB.low HPE.out.rd HB2.out)
          have b3 : w2.frozen? ⟨wr.heap.size, 1, none⟩ = false := by simp [World.frozen?, HNW.out]
          obtain ⟨e0, e1⟩ := hbx.out w2 HB2.out
          have ho2 := hs2.out
          have HPOS := hide (gapOf_nonneg hc.out.2.pos pk)
          clear hc hkr hbx htb
          go_upto_region 10 with fail
          go_cut [62] (fun v wx => v = .bool (decide ((i : Int) = lastK K L.length ∧ 0 ≤ torn ∧ torn < pn)) ∧ w2 = wx)
          case first =>
            by_cases t1 : (i : Int) = lastK K L.length
            · have t1' : ((i : Int) == lastK K L.length) = true := by simpa using t1
              have T1 := hide t1
              clear t1
              by_cases t2 : 0 ≤ torn
              · by_cases t3 : torn < pn
                · go_wp2
                  go_meet
                  exact ⟨congrArg Value.bool (decide_eq_true (⟨T1.out, t2, t3⟩ : (i : Int) = lastK K L.length ∧ 0 ≤ torn ∧ torn < pn)).symm, rfl⟩
                · go_wp2
                  go_meet
                  exact ⟨congrArg Value.bool (decide_eq_false (p := (i : Int) = lastK K L.length ∧ 0 ≤ torn ∧ torn < pn) fun h => by have := h.2.2; omega).symm, rfl⟩
              · go_wp2
                go_meet
                exact ⟨congrArg Value.bool (decide_eq_false (p := (i : Int) = lastK K L.length ∧ 0 ≤ torn ∧ torn < pn) fun h => by have := h.2.1; omega).symm, rfl⟩
            · have t1' : ((i : Int) == lastK K L.length) = false := by simpa using t1
              have T1 := hide t1
              clear t1
              go_wp2
              go_meet
              exact ⟨congrArg Value.bool (decide_eq_false (p := (i : Int) = lastK K L.length ∧ 0 ≤ torn ∧ torn < pn) fun h => T1.out h.1).symm, rfl⟩
          case rest =>
            obtain ⟨rfl, rfl⟩ := hcut
            go_upto_if 62 with fail
            go_cut [] (fun wx => ∃ n' : Nat, Hid (CrMem s sb (fpOf (muts sb mb (.slice (some ⟨g, 0, none⟩) L.length wcp) lp) (E ++ L)) w wB mb (.slice (some ⟨g, 0, none⟩) L.length wcp) lp L mg E' G wx) ∧ Hid (wx.heap[wr.heap.size]? = some (.cells #[.string ⟨pk.toArray⟩, .slice pa n' pc] 68 (0, 0))) ∧ Hid (RdB wx (.slice pa n' pc) tb) ∧ Hid (n' = tb.length) ∧ Hid (w2.heap.size ≤ wx.heap.size))
            case first =>
              by_cases hT : (i : Int) = lastK K L.length ∧ 0 ≤ torn ∧ torn < pn
              · obtain ⟨t1, t2, t3⟩ := hT
                have e : decide ((i : Int) = lastK K L.length ∧ 0 ≤ torn ∧ torn < pn) = true := decide_eq_true ⟨t1, t2, t3⟩
                rw [e]
                obtain ⟨m, rfl⟩ : ∃ m : Nat, torn = m := ⟨torn.toNat, by omega⟩
                have ht : Hid (tb = pb.take m) := hide (by
                  rw [HTB.out]
                  unfold tornB
                  rw [if_pos ⟨by rw [← HLL.out]; exact t1, t2, by rw [← hpn.out]; exact t3⟩]
                  rfl)
                have hpc : pn ≤ pc := HPE.out.le
                have t4 : (m : Int) ≤ pc := by omega
                have hmp : m ≤ pn := by omega
                clear t1 e
                obtain ⟨pad, rfl⟩ : ∃ pad, pa = some pad := by
                  rcases hrd.out.2 with ⟨he, hz⟩ | ⟨ad2, c2, he, _⟩
                  · simp only [Value.slice.injEq] at he
                    omega
                  · simp only [Value.slice.injEq] at he
                    exact ⟨ad2, he.1⟩
                have hset := hide (setCell_heap HNW.out 1 (.slice (some pad) m pc))
                go_wp2
                go_meet
                refine ⟨m, hide (HC0.out.other HC2.out (Nat.le_refl _) 1 _), hide (by simpa using hset.out), hide ?_, hide (by rw [ht.out, List.length_take, ← hpn.out]; omega), hide (by simp [World.setCell])⟩
                rw [ht.out]
                have h1 := hrd.out.upto hpn.out m pc m (by rw [List.length_take, ← hpn.out]; omega)
                exact h1.keep fun b hb => heap_set_ne fun e => by have := (HPE.out.far b (by rw [← hb]; rfl)).2; omega
              · have e : decide ((i : Int) = lastK K L.length ∧ 0 ≤ torn ∧ torn < pn) = false := decide_eq_false hT
                rw [e]
                have ht : Hid (tb = pb) := hide (by
                  rw [HTB.out]
                  unfold tornB
                  rw [if_neg fun h => hT ⟨by rw [HLL.out]; exact h.1, h.2.1, by rw [hpn.out]; exact h.2.2⟩])
                clear hT e
                go_wp2
                go_meet
                exact ⟨pn, HC2, HNW, hide (by rw [ht.out]; exact hrd.out), hide (by rw [ht.out]; exact hpn.out), hide (Nat.le_refl _)⟩
            case rest =>
              obtain ⟨n', hc3, hn3, hr3, hnt, hsz3⟩ := hcut
              obtain ⟨f0, f1, f2, f3, f4, ffz⟩ := fs_cells hc3.out.fs.blk
              have ho3 : wr.heap.size < wc.heap.size := by have := hsz3.out; omega
              have hsb3 := (Array.getElem?_eq_some_iff.1 hc3.out.fs.blk).1
              have HF1 := hide f1
              have HO3 := hide ho3
              clear f0 f1 f2 f3 f4 ffz e0 e1 b1 b2 b3 ho2
              have hcells : Hid (∀ W, Below wc.heap.size wc W → W.cell? ⟨wr.heap.size, 0, none⟩ = some (.string ⟨pk.toArray⟩) ∧ W.cell? ⟨wr.heap.size, 1, none⟩ = some (.slice pa n' pc) ∧ W.cell? ⟨sb, 1, none⟩ = some (.map (some mb))) := hide fun W hW => by
                have h1 := (hW.block _ HO3.out).trans hn3.out
                refine ⟨by simp [World.cell?, h1], by simp [World.cell?, h1], (hW.cell (p := ⟨sb, 1, none⟩) hsb3).trans HF1.out⟩
              have hgv : Hid (((mget pk G).map fun n : Int => Value.int .i64 n).getD (.int .i64 0) = .int .i64 (gapOf pk G)) := hide (by unfold gapOf; cases mget pk G <;> rfl)
              obtain ⟨gp, hgp⟩ : ∃ gp : Nat, gapOf pk G = gp := ⟨(gapOf pk G).toNat, by have := HPOS.out; omega⟩
              rw [hgp] at hgv
              have HGP := hide hgp
              obtain ⟨en, hen⟩ : ∃ en, mget pk E' = some en := by
                have h1 := (OK.out.piece (pk, pb) (List.mem_of_getElem? hpw.out)).2
                have h2 := crash_has K torn (lastK K s.waits.length) s.waits s.files pk h1 i
                rw [← HEQ.out] at h2
                have h3 : mget pk (E'.map ct) = (mget pk E').map Ent.b := mget_ct Ent.b pk E'
                rw [h3, Option.isSome_map] at h2
                exact Option.isSome_iff_exists.1 h2
              have hfv := hide hen
              have hens : EntOk wc _ en := hc3.out.fs.ent (pk, en) (List.mem_append_left _ (mget_mem hen))
              have HENS := hide hens
              have hcq2 : Hid (CrEq s K torn (i + 1) (mput strL pk (en.b ++ List.replicate gp 0 ++ tb) (E'.map ct)) (mput strL pk 0 G)) := hide (by
                have h1 := hcq.out
                have h3 : mget pk (E'.map ct) = (mget pk E').map Ent.b := mget_ct Ent.b pk E'
                simp only [h3, hen, hgp, ← HTB.out] at h1
                exact h1)
              have hlens : Hid (en.b.length + gp + tb.length ≤ 1048576) := hide (by
                have h1 := hcq2.out.sum
                rw [mput_total] at h1
                simp only [List.length_append, List.length_replicate] at h1
                have h2 := OK.out.used_le
                have h3 := total_take s.waits (i + 1)
                have h5 : 0 ≤ gsum (mput strL pk 0 G) := gsum_nonneg hcq2.out.pos
                unfold FsS.used at h2
                omega)
              obtain ⟨Y, hY⟩ : ∃ Y, Y = en.b ++ List.replicate gp 0 ++ tb := ⟨_, rfl⟩
              rw [← hY] at hcq2
              have HY := hide hY
              obtain ⟨eb, ea, en, ec⟩ := en
              dsimp only at hlens HY
              have hlk : Hid (∀ W, Below wc.heap.size wc W → (Instr.lookup 55 (.map (some mb)) (.string ⟨pk.toArray⟩) false).run Tryz.prog W = .ok (.slice ea en ec) W) := hide fun W hW =>
                run_mlook keysFs 55 22 Tryz.underlying55 (zero_bytes _) rfl (hc3.out.fs.map.low hW) pk hkl _ hfv.out _ rfl
              have hlg : Hid (∀ W, Below wc.heap.size wc W → (Instr.lookup 101 (.map (some mg)) (.string ⟨pk.toArray⟩) false).run Tryz.prog W = .ok (.int .i64 gp) W) := hide fun W hW =>
                run_mlook keysFs 101 3 Tryz.underlying101 (zero_int _) rfl (hc3.out.gap.low hW) pk hkl _ rfl _ hgv.out
              have hgl : gp ≤ 1048576 := by have := hlens.out; omega
              have hmk := hide (fun W => run_make_row' (P := Tryz.prog) 22 5 (.int .u8 0) 1 Tryz.underlying22 u8_info rfl .i64 .i64 gp (by omega) (by omega) W)
              clear hgp hen hens hgv hY
              go_wp2_with fail
              refine wp_region_three 22 104 (by kernel_rfl) (by kernel_rfl) rfl (by kernel_rfl) (fun D v w' => Below wc.heap.size wc w' ∧ (D 17 = true → ∃ a c, v 17 = .slice a gp c ∧ RdB w' (.slice a gp c) (List.replicate gp 0)) ∧ (D 20 = true → ∃ q, v 20 = .slice (some ⟨q, 0, none⟩) 3 3 ∧ Three w' q eb (List.replicate gp 0) tb) ∧ (D 21 = true → D 20 = true ∧ ∃ a n c, v 21 = .slice a n c ∧ w'.ownsRow wc.heap.size 5 1 (.slice a n c) n (bcells Y) ∧ n = Y.length)) (fun _ => undef) ⟨(Below.refl _ _).drew, (fun h => by cases h), (fun h => by cases h), (fun h => by cases h)⟩ ?_
              simp only [List.take_succ_cons, List.take_zero, List.drop_succ_cons, List.drop_zero]
              iterate 17 (refine Hav3.read (e := ?_) (fun v => by rfl) (fun D v w h => h) (fun D v w' hD hS => ?_) ?_; rotate_left; (obtain ⟨x0, x1, x2⟩ := hcells.out w' hS.1; have x3 := hlk.out w' hS.1; have x4 := hlg.out w' hS.1; clear hS hD; first | (go_simp; done) | (go_simp; with_reducible rfl)); go_simp)
              refine Hav3.rel (fun v => by rfl) (fun D v w' hD hS => ?_) ?_
              · have HS := hide hS
                have d20 : D 20 = false := hD.post 20 _ rfl (by kernel_rfl)
                have d21 : D 21 = false := by
                  cases e : D 21 with
                  | false => rfl
                  | true => have := (hS.2.2.2 e).1; rw [d20] at this; cases this
                have hmk' := hmk.out w'
                have hba := hide (below_alloc w' (.cells (madeCells #[.int .u8 0] gp) 5))
                clear hS hD
                go_simp
                refine ⟨HS.out.1.trans (hba.out.mono HS.out.1.size), ?_, ?_, ?_⟩
                · intro _
                  exact ⟨_, _, rfl, made_rd w' gp hgl⟩
                · intro e
                  have : D 20 = true := e
                  rw [d20] at this; cases this
                · intro e
                  have : D 21 = true := e
                  rw [d21] at this; cases this
              go_simp
              iterate 2 (refine Hav3.read (e := ?_) (fun v => by rfl) (fun D v w h => h) (fun D v w' hD hS => ?_) ?_; rotate_left; (obtain ⟨x0, x1, x2⟩ := hcells.out w' hS.1; clear hS hD; first | (go_simp; done) | (go_simp; with_reducible rfl)); go_simp)
              refine Hav3.rel (fun v => by rfl) (fun D v w' hD hS => ?_) ?_
              · have HS := hide hS
                have d17 : D 17 = true := hD.pre 17 (by kernel_rfl)
                have d21 : D 21 = false := hD.post 21 _ rfl (by kernel_rfl)
                obtain ⟨a7, c7, h7, hrd7⟩ := hS.2.1 d17
                have HR7 := hide hrd7
                have hba := hide (below_alloc w' (.cells #[.slice ea en ec, .slice a7 gp c7, .slice pa n' pc] 22))
                rw [h7]
                have H7 := hide h7
                clear hS hD h7 hrd7
                go_simp
                refine ⟨HS.out.1.trans (hba.out.mono HS.out.1.size), ?_, ?_, ?_⟩
                · intro _
                  exact ⟨a7, c7, H7.out, HR7.out.low hba.out⟩
                · intro _
                  refine ⟨_, rfl, ea, en, ec, a7, gp, c7, pa, n', pc, heap_alloc_at _ _, (RdB.low HENS.out.rd HS.out.1).low hba.out, HENS.out.n, HR7.out.low hba.out, by simp, (RdB.low hr3.out HS.out.1).low hba.out, hnt.out⟩
                · intro e
                  have : D 21 = true := e
                  rw [d21] at this; cases this
              go_simp
              refine Hav3.rel (fun v => by rfl) (fun D v w' hD hS => ?_) ?_
              · have HS := hide hS
                have d20 : D 20 = true := hD.pre 20 (by kernel_rfl)
                obtain ⟨q, h20, hth⟩ := hS.2.2.1 d20
                have HTH := hide hth
                rw [h20]
                have H20 := hide h20
                clear hS hD h20 hth
                go_simp
                go_at_call 60
                refine (sl_Concat q eb (List.replicate gp 0) tb w' HTH.out (by have := hlens.out; rw [List.length_replicate]; omega)).mono ?_
                rintro e w'' ⟨a, n, c, rfl, hf⟩
                refine ⟨HS.out.1.trans (hf.2.2.mono HS.out.1.size), ?_, ?_, ?_⟩
                · intro e
                  obtain ⟨a7, c7, h7, hrd7⟩ := HS.out.2.1 e
                  exact ⟨a7, c7, h7, hrd7.low hf.2.2⟩
                · intro _
                  obtain ⟨ax, nx, cx, ay, ny, cy, az, nz, cz, g0, g1, g2, g3, g4, g5, g6⟩ := HTH.out
                  exact ⟨q, H20.out, ax, nx, cx, ay, ny, cy, az, nz, cz, (hf.2.2.block q (Array.getElem?_eq_some_iff.1 g0).1).trans g0, g1.low hf.2.2, g2, g3.low hf.2.2, g4, g5.low hf.2.2, g6⟩
                · intro _
                  have h1 := hf.1
                  have h2 := hf.2.1
                  rw [← HY.out] at h1 h2
                  exact ⟨d20, a, n, c, rfl, ownsRow_base h1 HS.out.1.size, h2⟩
              go_simp
              refine Hav3.fin (fun v w4 hS => ?_)
              obtain ⟨_, a, n, c, h21, hown, hnl⟩ := hS.2.2.2 rfl
              rw [h21]
              have HB4 := hide hS.1
              have HOWN := hide hown
              have HNL := hide hnl
              clear hS h21 hown hnl
              obtain ⟨x0, x1, x2⟩ := hcells.out w4 HB4.out
              have hE4 : E'.length < maxLen := by
                have h1 := HEL.out
                rw [List.length_map] at h1
                have := OK.out.few
                unfold maxLen
                omega
              have hG4 : G.length < maxLen := by have := HGL.out; unfold maxLen; omega
              have hm4 := hide (hc3.out.low HB4.out)
              have hent4 : Hid (EntOk w4 (muts sb mb (.slice (some ⟨g, 0, none⟩) L.length wcp) lp) ⟨Y, a, n, c⟩ ∧ ∀ k, (Value.slice a n c).ownBlock = some k → wc.heap.size ≤ k) := hide (by
                have hcap := ownsRow_cap HOWN.out
                refine ⟨⟨?_, HNL.out, hcap.1, hcap.2, fun k hk => ⟨fun hm => ?_, (HOWN.out.lt k hk).2⟩⟩, fun k hk => (HOWN.out.lt k hk).1⟩
                · have := ownsRow_rd HOWN.out
                  unfold RdB
                  rw [← HNL.out]
                  exact this
                · have h1 := hc3.out.fs.mut_lt k hm
                  have h2 := (HOWN.out.lt k hk).1
                  omega)
              have hmne : Hid (some wr.heap.size ≠ some mb) := hide fun e => by
                have := HC0.out.fs.mut_lt mb (by simp [muts])
                simp only [Option.some.injEq] at e
                omega
              have hlt4 : Hid (wr.heap.size < w4.heap.size) := hide (Nat.lt_of_lt_of_le HO3.out HB4.out.size)
              have X0 := hide x0
              have hmB : Hid (mg < wc.heap.size) := hide (by have := HC0.out.gap.lt; have := HO3.out; omega)
              have hput : Hid (∀ w5, FsMap w5 mb (mput strL pk (⟨Y, a, n, c⟩ : Ent) E') → w4.grownBy w5 (some mb) → CrMem s sb (fpOf (muts sb mb (.slice (some ⟨g, 0, none⟩) L.length wcp) lp) (E ++ L)) w wB mb (.slice (some ⟨g, 0, none⟩) L.length wcp) lp L mg (mput strL pk (⟨Y, a, n, c⟩ : Ent) E') G w5) := hide fun w5 h1 h2 =>
                hm4.out.filePut h1 h2 hmB.out fun p hp => by
                  rcases (mput_mem _ _ _ _ _).1 hp with rfl | hp
                  · exact .inr hent4.out
                  · exact .inl hp.1
              have hcq3 : Hid (CrEq s K torn (i + 1) ((mput strL pk (⟨Y, a, n, c⟩ : Ent) E').map ct) (mput strL pk 0 G)) := hide (by
                have h1 : (mput strL pk (⟨Y, a, n, c⟩ : Ent) E').map ct = mput strL pk Y (E'.map ct) := mput_ct strL Ent.b pk ⟨Y, a, n, c⟩ E'
                rw [h1]
                exact hcq2.out)
              clear hlk hlg hmk x1 x2 hcells HEL HGL hcq hcq2
              go_wp2_with (first | (at_mapUpdate; refine wpList_mput keysFs rfl _ _ _ 55 rfl 22 Tryz.underlying55 rfl hm4.out.fs.map hE4 pk rfl hkl ⟨Y, a, n, c⟩ rfl rfl ?_; intro w5 hm5 hg5 hs5; have HP5 := hide (hput.out w5 hm5 hg5); have x5 : w5.cell? ⟨wr.heap.size, 0, none⟩ = some (.string ⟨pk.toArray⟩) := (World.cell?_of_block (w := w4) (a := ⟨wr.heap.size, 0, none⟩) (hg5.block _ hlt4.out hmne.out)).trans X0.out; clear hm5 hg5 hs5 x0) | (at_mapUpdate; refine wpList_mput keysFs rfl _ _ _ 101 rfl 3 Tryz.underlying101 rfl HP5.out.gap hG4 pk rfl hkl (0 : Int) rfl rfl ?_; intro w6 hm6 hg6 hs6; have HP6 := hide (HP5.out.gapPut hm6 hg6); clear hm6 hg6 hs6 x5))
              refine ⟨⟨i + 1, _, _, by simp, hil, hide ⟨HP6.out, hcq3.out⟩⟩, ?_⟩
              show L.length - ((i : Int) + 1).toNat < L.length - ((i : Nat) : Int).toNat
              omega
      · obtain rfl : i = L.length := by omega
        have H3 := hide hc.out.1.fs
        obtain ⟨c0, c1, c2, c3, c4, fz⟩ := fs_cells H3.out.blk
        have f2 := fz 2; have f3 := fz 3; have f4 := fz 4
        clear c0 c1 fz
        go_wp2
        go_end0
        refine ⟨rfl, crash_close (s' := fsCrash s K torn) hc.out.1.fs hc.out.1.chg rfl rfl rfl ?_ rfl⟩
        have h1 := hc.out.2.eq
        rw [HLL.out] at h1
        show (crashTo K torn (lastK K s.waits.length) s.waits s.files s.waits.length).1 = E'.map ct
        rw [← h1]
end Go.Proofs.YtglgjakjhkdoaaaGreatDoor

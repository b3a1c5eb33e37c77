/-
  The walk of Due, whatever timers run: the series that are due, sorted; their timers start anew.
-/
import Derived.Test.YtjehoingphndnaaTiA
import Derived.Test.YtjehoingphndnaaSoH
import Derived.Deep.DeepCutAuto
namespace Go.Proofs.Ytjehoingphndnaa
open Go.RowKit Go.Maps
set_option linter.unusedVariables false
set_option linter.unusedSimpArgs false

theorem u32_info : (Try.prog.info? 23).map (fun i => (i.zero, i.size, i.bytes)) = some (some (.int .u32 0), 1, 4) := by kernel_rfl
theorem isI_inv : ∀ v, isI v = true → ∃ n, v = .int .i64 n := fun v h => by
  cases v <;> simp only [isI] at h <;> try (cases h; done)
  rename_i k n
  cases k <;> simp only at h <;> first | (cases h; done) | exact ⟨n, rfl⟩
theorem isU_inv : ∀ v, isU v = true → ∃ n, v = .int .u64 n := fun v h => by
  cases v <;> simp only [isU] at h <;> try (cases h; done)
  rename_i k n
  cases k <;> simp only at h <;> first | (cases h; done) | exact ⟨n, rfl⟩
theorem isRun_inv : ∀ v, isRun v = true → ∃ c : Int × Int, v = .agg #[.int .i64 c.1, .int .u64 c.2] := fun v h => by
  cases v <;> simp only [isRun] at h <;> try (cases h; done)
  rename_i cs
  obtain ⟨l⟩ := cs
  match l, h with
  | [x, y], h =>
    simp only [isRunL, Bool.and_eq_true] at h
    obtain ⟨n, rfl⟩ := isI_inv x h.1
    obtain ⟨m, rfl⟩ := isU_inv y h.2
    exact ⟨(n, m), rfl⟩
theorem RangeM.left_alloc {κ ν : Type} [DecidableEq κ] {w : World} {P : Program} {kT : TypeId} {kl : κ → Lit} {ok : κ → Prop} {sh : Value → Bool} {f : ν → Value} {b r : Nat} {E R : List (κ × ν)} (h : RangeM w P kT kl ok sh f b r E R) (o : Obj) : (w.alloc o).rangeLeft b r = w.rangeLeft b r := by
  obtain ⟨left, cnt, h9, _⟩ := h
  rw [(h9.alloc o).left_eq, h9.left_eq]
theorem RangeM.left_kept {κ ν : Type} [DecidableEq κ] {w w' : World} {P : Program} {kT : TypeId} {kl : κ → Lit} {ok : κ → Prop} {sh : Value → Bool} {f : ν → Value} {b r : Nat} {E R : List (κ × ν)} (h : RangeM w P kT kl ok sh f b r E R) {row : Option Nat} (hg : w.grownBy w' row) (hb : some b ≠ row) (hr : some r ≠ row) : w'.rangeLeft b r = w.rangeLeft b r := by
  obtain ⟨left, cnt, h9, _⟩ := h
  rw [(h9.kept hg hb hr).left_eq, h9.left_eq]

/-! which are due -/
def longer (t : Nat) : Nat := min (t + 1) 4
def bump (tk now : Nat) (r : Run) : Run := (r.1 + 1, (now + tk * 2 ^ longer r.1) % Md)
structure DueInv (E : List (Int × Run)) (now : Nat) (R : List (Int × Run)) (ks : List Int) : Prop where
  nodup : ks.Nodup
  iff : ∀ k, k ∈ ks ↔ ∃ r, (k, r) ∈ E ∧ r.2 ≤ now ∧ (k, r) ∉ R
  len : ks.length + R.length ≤ E.length
theorem DueInv.start (E : List (Int × Run)) (now : Nat) : DueInv E now E [] :=
  ⟨List.nodup_nil, fun k => ⟨fun h => by simp at h, fun ⟨r, h1, _, h2⟩ => absurd h1 h2⟩, by simp⟩
theorem mdel_len {R : List (Int × Run)} {p : Int × Run} (hp : p ∈ R) : (mdel p.1 R).length + 1 ≤ R.length := by
  have h : (mdel p.1 R).length < R.length := by
    unfold mdel
    refine List.length_filter_lt_length_iff_exists.2 ⟨p, hp, by simp⟩
  omega
theorem mok_eq {E : List (Int × Run)} (h : MOk mkOk E) {k : Int} {r r' : Run} (h1 : (k, r) ∈ E) (h2 : (k, r') ∈ E) : r = r' := by
  have a := mget_of_mem h h1
  have b := mget_of_mem h h2
  rw [a] at b
  exact Option.some.inj b
theorem DueInv.pass {E R : List (Int × Run)} {now : Nat} {ks : List Int} (h : DueInv E now R ks) (hE : MOk mkOk E) {p : Int × Run} (hp : p ∈ R) (hpE : p ∈ E) (hd : ¬ p.2.2 ≤ now) : DueInv E now (mdel p.1 R) ks := by
  refine ⟨h.nodup, fun k => ?_, by have := mdel_len hp; have := h.len; omega⟩
  rw [h.iff]
  constructor
  · rintro ⟨r, h1, h2, h3⟩
    exact ⟨r, h1, h2, fun h4 => h3 ((mdel_mem _ _ _).1 h4).1⟩
  · rintro ⟨r, h1, h2, h3⟩
    refine ⟨r, h1, h2, fun h4 => h3 ((mdel_mem _ _ _).2 ⟨h4, fun h5 => ?_⟩)⟩
    obtain ⟨pk, pr⟩ := p
    have h5 : k = pk := h5
    subst h5
    rw [mok_eq hE h1 hpE] at h2
    exact hd h2
theorem DueInv.take {E R : List (Int × Run)} {now : Nat} {ks : List Int} (h : DueInv E now R ks) (hE : MOk mkOk E) {p : Int × Run} (hp : p ∈ R) (hpE : p ∈ E) (hd : p.2.2 ≤ now) : DueInv E now (mdel p.1 R) (ks ++ [p.1]) := by
  have hn : p.1 ∉ ks := fun hk => by
    obtain ⟨r, h1, h2, h3⟩ := (h.iff p.1).1 hk
    rw [mok_eq hE h1 hpE] at h3
    exact h3 hp
  refine ⟨List.nodup_append.2 ⟨h.nodup, by simp, fun a ha b hb => by simp at hb; subst hb; exact fun e => hn (e ▸ ha)⟩, fun k => ?_, by have := mdel_len hp; have := h.len; simp; omega⟩
  rw [List.mem_append, h.iff, List.mem_singleton]
  constructor
  · rintro (⟨r, h1, h2, h3⟩ | rfl)
    · exact ⟨r, h1, h2, fun h4 => h3 ((mdel_mem _ _ _).1 h4).1⟩
    · exact ⟨p.2, hpE, hd, fun h4 => ((mdel_mem _ _ _).1 h4).2 rfl⟩
  · rintro ⟨r, h1, h2, h3⟩
    by_cases hk : k = p.1
    · exact .inr hk
    · exact .inl ⟨r, h1, h2, fun h4 => h3 ((mdel_mem _ _ _).2 ⟨h4, hk⟩)⟩

/-! the row of the call's own, behind the sort -/
theorem row1_slice {w : World} {B t n : Nat} {v : Value} {xs : List Value} (h : w.ownsRow B t 1 v n xs) : ∃ a c, v = .slice a n c := by
  rcases h.2 with ⟨h1, h2⟩ | ⟨g, cap, cur, h1, _⟩
  · exact ⟨none, 0, by rw [h1, h2]⟩
  · exact ⟨_, _, h1⟩
theorem holds_of_own {w : World} {B t g cap : Nat} {ks : List Int} (h : w.ownsRow B t 1 (.slice (some ⟨g, 0, none⟩) ks.length cap) ks.length (ks.map encU)) : Go.Sort.Holds encU w g 0 ks.toArray ∧ g < w.heap.size ∧ B ≤ g := by
  have hc := h
  obtain ⟨h0, ⟨h1, _⟩ | ⟨g', cap', cur, h1, h2, h3, h4, h5, h6, h7⟩⟩ := h
  · cases h1
  · simp only [Value.slice.injEq, Option.some.injEq, Addr.mk.injEq] at h1
    obtain ⟨⟨rfl, _⟩, _, rfl⟩ := h1
    refine ⟨fun j hj => ⟨?_, ?_⟩, (Array.getElem?_eq_some_iff.1 h3).1, h2⟩
    · have hj' : j < ks.length := by simpa using hj
      have := hc.cellAt j (by simpa using hj')
      rw [Nat.zero_add]
      simpa [hj'] using this
    · simp [World.frozen?, h3]
theorem RowAt.owns {w wr : World} {B t g cap : Nat} {ks ts : List Int} (h : w.ownsRow B t 1 (.slice (some ⟨g, 0, none⟩) ks.length cap) ks.length (ks.map encU)) (hr : RowAt w g 0 ks.toArray ts.toArray wr) (hl : ts.length = ks.length) :
    wr.ownsRow B t 1 (.slice (some ⟨g, 0, none⟩) ks.length cap) ks.length (ts.map encU) ∧ w.grownBy wr (some g) := by
  obtain ⟨m, os, rfl⟩ := hr.eq
  have hg := hr.low
  obtain ⟨h0, ⟨h1, _⟩ | ⟨g', cap', cur, h1, h2, h3, h4, h5, h6, h7⟩⟩ := h
  · cases h1
  simp only [Value.slice.injEq, Option.some.injEq, Addr.mk.injEq] at h1
  obtain ⟨⟨rfl, _⟩, _, rfl⟩ := h1
  have hb : (Go.Sort.grow (Go.Sort.putRow encU (Go.Sort.ahead w m) g 0 ts.toArray) os).heap[g]? = some (.cells (Go.Sort.putCells encU 0 ts.toArray cur) t (0, 0)) := by
    rw [Go.Sort.heap_grow_old _ _ (by simpa using hg)]
    simp [Go.Sort.putRow, Go.Sort.mapBlock, Go.Sort.ahead, Array.getElem?_modify, h3, Go.Sort.onCells]
  refine ⟨⟨by simp [hl], .inr ⟨g, cap, _, rfl, h2, hb, h4, h5, by simp [Go.Sort.putCells, h6], ?_⟩⟩, rfl, rfl, rfl, by simp, fun k hk hne => ?_⟩
  · rw [Nat.mul_one, ← hl]
    apply List.ext_getElem?
    intro j
    by_cases hj : j < ts.length
    · rw [List.getElem?_take_of_lt hj, Array.getElem?_toList]
      simp [Go.Sort.putCells, hj, show j < cur.size by omega]
    · rw [List.getElem?_take_eq_none (by omega), List.getElem?_eq_none (by simp; omega)]
  · rw [Go.Sort.heap_grow_old _ _ (by simpa using hk)]
    have : g ≠ k := fun e => hne (by rw [e])
    simp [Go.Sort.putRow, Go.Sort.mapBlock, Go.Sort.ahead, Array.getElem?_modify, this]
/-- Sort of a row of the call's own -/
theorem sort_own (B : Nat) (a : Option Addr) (cap : Nat) (ks : List Int) (w : World) (h : w.ownsRow B 23 1 (.slice a ks.length cap) ks.length (ks.map encU)) (hn : ks.length ≤ 255) :
    Calls Try.prog 17 #[.slice a ks.length cap] w fun e w' => e = .returned (.tuple #[]) ∧ w'.ownsRow B 23 1 (.slice a ks.length cap) ks.length ((sortL ks).map encU) ∧ w.grownBy w' (Value.slice a ks.length cap).ownBlock := by
  have hlen : (sortL ks).length = ks.length := by unfold sortL; exact List.length_mergeSort ks
  cases a with
  | none =>
    have h0 : ks.length = 0 := by
      rcases h.2 with ⟨h1, h2⟩ | ⟨g', cap', cur, h1, _⟩
      · exact h2
      · cases h1
    have hk : ks = [] := List.eq_nil_of_length_eq_zero h0
    subst hk
    refine (sort_one none 0 cap (by omega) w).mono ?_
    rintro e w' ⟨rfl, rfl⟩
    exact ⟨rfl, by simpa [sortL] using h, ⟨rfl, rfl, rfl, Nat.le_refl _, fun _ _ _ => rfl⟩⟩
  | some ad =>
    have hf := h.2
    obtain ⟨g, rfl⟩ : ∃ g, ad = ⟨g, 0, none⟩ := by
      rcases h.2 with ⟨h1, h2⟩ | ⟨g', cap', cur, h1, _⟩
      · cases h1
      · simp only [Value.slice.injEq, Option.some.injEq] at h1
        exact ⟨g', h1.1⟩
    obtain ⟨h1, h2, h3⟩ := holds_of_own h
    refine (so_Sort g 0 cap ks w h1 h2 hn).mono ?_
    rintro e w' ⟨rfl, hr⟩
    obtain ⟨h4, h5⟩ := hr.owns h hlen
    exact ⟨rfl, h4, h5⟩
end Go.Proofs.Ytjehoingphndnaa

/-
  Walks over package net: Take, Drop.
-/
import Derived.Test.YtipobpcafkhknaaNetF
namespace Go.Proofs.Ytipobpcafkhknaa
open Go.RowKit
set_option linter.unusedSimpArgs false
set_option linter.unusedVariables false

/-- the i-th is taken out, and handed over -/
def Taken (w : World) (nb : Nat) (l : List G) (F : List Nat) (i : Nat) (g : G) (e : Ending) (w' : World) : Prop :=
  ∃ gb gc F', e = .returned (.tuple #[.agg #[.int .u8 g.to, .slice (some ⟨gb, 0, none⟩) g.b.length gc], .bool true]) ∧ NetRep w' nb (l.eraseIdx i) F' ∧
    w'.ownsRow 0 5 1 (.slice (some ⟨gb, 0, none⟩) g.b.length gc) g.b.length (bcells g.b) ∧ Chg F (gb :: F') w w' ∧ (gb :: F').Nodup

theorem gflat_erase : ∀ (L : List (G × Value)) (i : Nat), i < L.length → gflat (L.eraseIdx i) = (gflat L).take (i * 3) ++ (gflat L).drop ((i + 1) * 3)
  | (g, v) :: L, 0, _ => by simp [gflat]
  | (g, v) :: L, i + 1, h => by
    have := gflat_erase L i (by simpa using h)
    rw [List.eraseIdx_cons_succ, show (i + 1) * 3 = i * 3 + 1 + 1 + 1 from by omega, show (i + 1 + 1) * 3 = (i + 1) * 3 + 1 + 1 + 1 from by omega]
    simp [gflat, this]
theorem gflat_one (L : List (G × Value)) (h : ∀ p ∈ L, p.2.oneCell' = true) : ∀ u ∈ gflat L, u.oneCell' = true := by
  induction L with
  | nil => intro u hu; simp [gflat] at hu
  | cons p L ih =>
    obtain ⟨g, v⟩ := p
    intro u hu
    simp only [gflat, List.mem_cons] at hu
    rcases hu with rfl | rfl | rfl | hu
    · rfl
    · exact h (g, u) (by simp)
    · rfl
    · exact ih (fun p hp => h p (by simp [hp])) u hu
theorem own_one {w : World} {e n : Nat} {v : Value} {xs : List Value} {size : Nat} (h : w.ownsRow 0 e size v n xs) : v.oneCell' = true := by
  rcases h.2 with ⟨rfl, _⟩ | ⟨g, c, cur, rfl, _⟩ <;> rfl

theorem perm_erase {α : Type} : ∀ (L : List α) (i : Nat) (a : α), L[i]? = some a → (a :: L.eraseIdx i).Perm L
  | x :: L, 0, a, h => by simp at h; subst h; exact List.Perm.refl _
  | x :: L, i + 1, a, h => by
    have := perm_erase L i a (by simpa using h)
    rw [List.eraseIdx_cons_succ]
    exact (List.Perm.swap x a _).trans (this.cons x)
theorem map_erase {α β : Type} (f : α → β) : ∀ (L : List α) (i : Nat), (L.map f).eraseIdx i = (L.eraseIdx i).map f
  | [], _ => by simp
  | x :: L, 0 => by simp
  | x :: L, i + 1 => by simp [map_erase f L i]
theorem netFp_erase {nb ab gb i n m c c' : Nat} {L : List (G × Value)} {g : G} {gl gc : Nat} (h : L[i]? = some (g, .slice (some ⟨gb, 0, none⟩) gl gc)) :
    (netFp nb (.slice (some ⟨ab, 0, none⟩) n c) L).Perm (gb :: netFp nb (.slice (some ⟨ab, 0, none⟩) m c') (L.eraseIdx i)) := by
  have hp := (perm_erase L i _ h).flatMap_right fun p => p.2.ownBlock.toList
  simp only [netFp, Value.ownBlock, Option.toList_some, List.cons_append, List.nil_append, List.flatMap_cons] at hp ⊢
  exact ((hp.symm.cons ab).cons nb).trans ((List.Perm.swap gb ab _).cons nb |>.trans (List.Perm.swap gb nb _))

theorem take_close {w W' : World} {nb ab cap i gb gc : Nat} {L : List (G × Value)} {g : G}
    (h0 : w.heap[nb]? = some (.cells #[.slice (some ⟨ab, 0, none⟩) L.length cap] 50 (0, 0)))
    (h1 : w.ownsRow 0 52 3 (.slice (some ⟨ab, 0, none⟩) L.length cap) L.length (gflat L))
    (h2 : ∀ p ∈ L, w.ownsRow 0 5 1 p.2 p.1.b.length (bcells p.1.b) ∧ p.1.b ≠ []) (hnd : (netFp nb (.slice (some ⟨ab, 0, none⟩) L.length cap) L).Nodup)
    (hg : L[i]? = some (g, .slice (some ⟨gb, 0, none⟩) g.b.length gc))
    (ho : W'.os = w.os) (ht : W'.tape = w.tape) (hp : W'.output = w.output) (hs : w.heap.size ≤ W'.heap.size)
    (hW : ∀ k, k < w.heap.size → k ≠ ab → k ≠ nb → W'.heap[k]? = w.heap[k]?) (hWn : W'.heap[nb]? = some (.cells #[.slice (some ⟨ab, 0, none⟩) (L.length - 1) cap] 50 (0, 0)))
    (hWa : W'.ownsRow 0 52 3 (.slice (some ⟨ab, 0, none⟩) (L.length - 1) cap) (L.length - 1) ((gflat L).take (i * 3) ++ (gflat L).drop ((i + 1) * 3))) :
    Taken w nb (L.map (·.1)) (netFp nb (.slice (some ⟨ab, 0, none⟩) L.length cap) L) i g (.returned (.tuple #[.agg #[.int .u8 g.to, .slice (some ⟨gb, 0, none⟩) g.b.length gc], .bool true])) W' := by
  have hrep : NetRep w nb (L.map (·.1)) _ := ⟨_, L, rfl, rfl, hnd, h0, h1, h2⟩
  have hlt := hrep.lt
  have hi := (List.getElem?_eq_some_iff.1 hg).1
  have hperm := netFp_erase (nb := nb) (ab := ab) (n := L.length) (m := L.length - 1) (c := cap) (c' := cap) hg
  have hnd' := hperm.nodup_iff.1 hnd
  have hd1 := List.nodup_cons.1 hnd
  have hd2 := List.nodup_append.1 hd1.2
  have hab : ab ∈ (Value.slice (some ⟨ab, 0, none⟩) L.length cap).ownBlock.toList := by simp [Value.ownBlock]
  have hin : ∀ p ∈ L, ∀ b, p.2.ownBlock = some b → W'.heap[b]? = w.heap[b]? := by
    intro p hp b hb
    have hbm : b ∈ L.flatMap fun p => p.2.ownBlock.toList := List.mem_flatMap.2 ⟨p, hp, by simp [hb]⟩
    exact hW b (hlt b (List.mem_cons_of_mem _ (List.mem_append_right _ hbm))) (fun e => hd2.2.2 ab hab b hbm e.symm) (fun e => hd1.1 (e ▸ List.mem_append_right _ hbm))
  refine ⟨gb, gc, netFp nb (.slice (some ⟨ab, 0, none⟩) (L.length - 1) cap) (L.eraseIdx i), rfl, ⟨_, L.eraseIdx i, ?_, rfl, (List.nodup_cons.1 hnd').2, hWn, ?_, ?_⟩, ?_, ⟨ho, ht, hp, hs, ?_, ?_⟩, hnd'⟩
  · exact map_erase (·.1) L i
  · rw [List.length_eraseIdx_of_lt hi, gflat_erase L i hi]
    exact hWa
  · intro p hp
    have hpl := List.mem_of_mem_eraseIdx hp
    exact ⟨ownsRow_same (h2 p hpl).1 (hin p hpl), (h2 p hpl).2⟩
  · exact ownsRow_same (h2 _ (List.mem_of_getElem? hg)).1 (hin _ (List.mem_of_getElem? hg))
  · intro k hk hkn
    simp only [netFp, List.mem_cons, List.mem_append, not_or] at hkn
    exact hW k hk (fun e => hkn.2.1 (e ▸ hab)) hkn.1
  · intro k hk
    exact .inl (hperm.mem_iff.2 hk)

set_option maxRecDepth 100000 in
set_option maxHeartbeats 800000 in
theorem net_take_none (nb : Nat) (l : List G) (F : List Nat) (i : Int) (w : World) (hn : NetRep w nb l F) (hl : l.length ≤ 4096) (hi : i < 0 ∨ l.length ≤ i) :
    Calls Try.prog 12 #[.pointer (some ⟨nb, 0, none⟩), .int .i64 i] w fun e w' => e = .returned (.tuple #[.agg #[.int .u8 0, .slice none 0 0], .bool false]) ∧ Below w.heap.size w w' := by
  obtain ⟨a0, c0, hc⟩ := hn.head
  have hnb : nb < w.heap.size := World.block_lt_of_cell? _ _ hc
  have hca : ∀ o, (w.alloc o).cell? ⟨nb, 0, none⟩ = some (.slice a0 l.length c0) := fun o => by rw [World.cell?_alloc_past _ _ _ hnb]; exact hc
  go_enter Try.func12, Try.ntmps12
  go_wp2_with (go_at_call 21; refine (net_at_none nb l.length c0 a0 _ _ hl (hca _) hi).mono ?_; rintro e w' ⟨rfl, rfl⟩)
  refine bodyPost_ret (v := .tuple #[.agg #[.int .u8 0, .slice none 0 0], .bool false]) (by simp [results, Try.results12, go_sem]) rfl ⟨rfl, ?_⟩
  repeat (first | exact (Below.refl _ _).alloc (Nat.le_refl _) _ | refine Below.setCell ?_ (by simp) _)

set_option maxRecDepth 100000 in
set_option maxHeartbeats 1600000 in
theorem net_take (nb : Nat) (l : List G) (F : List Nat) (i : Int) (w : World) (g : G) (hn : NetRep w nb l F) (hl : l.length ≤ 4096) (hi : 0 ≤ i) (hg : l[i.toNat]? = some g) :
    Calls Try.prog 12 #[.pointer (some ⟨nb, 0, none⟩), .int .i64 i] w (Taken w nb l F i.toNat g) := by
  obtain ⟨v, L, rfl, rfl, hnd, h0, h1, h2⟩ := hn
  obtain ⟨i, rfl⟩ := Int.eq_ofNat_of_zero_le hi
  rw [show ((i : Int)).toNat = i from by omega] at hg ⊢
  have hi2 : i < L.length := by simpa using (List.getElem?_eq_some_iff.1 hg).1
  obtain ⟨ab, cap, g', gb, gc, rfl, hg', e0, e1, e2, hfz, hgne, hgo, _⟩ := NetRep.get (nb := nb) h1 h2 i hi2
  obtain rfl : g' = g := by simpa [hg'] using hg
  have c0 : w.cell? ⟨nb, 0, none⟩ = some (.slice (some ⟨ab, 0, none⟩) L.length cap) := by simp [World.cell?, h0]
  have f0 : w.frozen? ⟨nb, 0, none⟩ = false := by simp [World.frozen?, h0]
  have e0' : w.cell? ⟨ab, i * 3, none⟩ = some (.int .u8 g'.to) := by rw [Nat.mul_comm i 3]; exact e0
  have e1' : w.cell? ⟨ab, i * 3 + 1, none⟩ = some (.slice (some ⟨gb, 0, none⟩) g'.b.length gc) := by rw [Nat.mul_comm i 3]; exact e1
  have hl' : L.length ≤ 4096 := by simpa using hl
  have hnb : nb < w.heap.size := World.block_lt_of_cell? _ _ c0
  have hab : ab < w.heap.size := World.block_lt_of_cell? _ _ e0
  have ca : ∀ o, (w.alloc o).cell? ⟨nb, 0, none⟩ = some (.slice (some ⟨ab, 0, none⟩) L.length cap) := fun o => by rw [World.cell?_alloc_past _ _ _ hnb]; exact c0
  have ea0 : ∀ o, (w.alloc o).cell? ⟨ab, i * 3, none⟩ = some (.int .u8 g'.to) := fun o => by rw [World.cell?_alloc_past _ _ _ hab]; exact e0'
  have ea1 : ∀ o, (w.alloc o).cell? ⟨ab, i * 3 + 1, none⟩ = some (.slice (some ⟨gb, 0, none⟩) g'.b.length gc) := fun o => by rw [World.cell?_alloc_past _ _ _ hab]; exact e1'
  have ca2 : ∀ o o2, ((w.alloc o).alloc o2).cell? ⟨nb, 0, none⟩ = some (.slice (some ⟨ab, 0, none⟩) L.length cap) := fun o o2 => by rw [World.cell?_alloc_past _ _ _ (by simp; omega), World.cell?_alloc_past _ _ _ hnb]; exact c0
  have H1 := hide h1; have H0 := hide h0; have H2 := hide h2; have HND := hide hnd; have HG := hide hgo; have HG' := hide hg'
  clear h1 h0 h2 hnd hgo hg' hg e0 e1 e2 hfz hgne
  go_enter Try.func12, Try.ntmps12
  go_wp2_with (go_at_call 21; refine (net_at nb ab 0 L.length cap _ _ hl' (ca _) (by omega) (by omega)).mono ?_; rintro e w' ⟨rfl, rfl⟩)
  have hne : nb ≠ ab := by
    intro e
    exact (List.nodup_cons.1 HND.out).1 (by simp [Value.ownBlock, e])
  refine (net_delete ab L.length cap i (gflat L) _ ((H1.out.alloc _).alloc _) hi2 hl' (gflat_one L fun p hp => own_one (H2.out p hp).1)).mono ?_
  rintro e w1 ⟨rfl, hown, hch⟩
  obtain ⟨kn, fn⟩ := hch.cellAt (b := nb) 0 (by simp; omega) (by simpa using hne)
  obtain ⟨k0, f0'⟩ := hch.cellAt (b := w.heap.size) 0 (by simp; omega) (by simp; omega)
  obtain ⟨k1, f1⟩ := hch.cellAt (b := w.heap.size) 1 (by simp; omega) (by simp; omega)
  obtain ⟨l0, _⟩ := hch.cellAt (b := w.heap.size + 1) 0 (by simp) (by simp; omega)
  obtain ⟨l1, _⟩ := hch.cellAt (b := w.heap.size + 1) 1 (by simp) (by simp; omega)
  have fna : ∀ o o2, ((w.alloc o).alloc o2).frozen? ⟨nb, 0, none⟩ = false := fun o o2 => by rw [World.frozen?_alloc_past _ _ _ (by simp; omega), World.frozen?_alloc_past _ _ _ hnb]; exact f0
  rw [ca2] at kn
  rw [fna] at fn
  simp [go_sem] at k0 f0' k1 f1 l0 l1
  have HC := hide hch; have HO := hide hown
  clear hch hown ca ea0 ea1 ca2 fna
  go_wp2
  have hch := HC.out
  have hfin := take_close (W' := ((w1.setCell ⟨nb, 0, none⟩ (.slice (some ⟨ab, 0, none⟩) (L.length - 1) cap)).setCell ⟨w.heap.size, 0, none⟩ (.int .u8 g'.to)).setCell ⟨w.heap.size, 1, none⟩ (.slice (some ⟨gb, 0, none⟩) g'.b.length gc))
    H0.out H1.out H2.out HND.out HG'.out hch.os hch.tape hch.output (by have := hch.size; simp [World.setCell] at this ⊢; omega)
    (fun k hk hka hkn => by
      rw [heap_set_ne (by omega), heap_set_ne (by omega), heap_set_ne hkn, hch.block k (by simp; omega) (by simpa using hka), Below.heap_alloc _ _ _ (by simp; omega), Below.heap_alloc _ _ _ hk])
    (by
      have e : w1.heap[nb]? = some (.cells #[.slice (some ⟨ab, 0, none⟩) L.length cap] 50 (0, 0)) := by
        rw [hch.block nb (by simp; omega) (by simpa using hne), Below.heap_alloc _ _ _ (by simp; omega), Below.heap_alloc _ _ _ hnb]
        exact H0.out
      rw [heap_set_ne (by omega), heap_set_ne (by omega), setCell_heap e]
      rfl)
    (ownsRow_same (ownsRow_same (ownsRow_same HO.out fun b hb => heap_set_ne (by simp [Value.ownBlock] at hb; omega)) fun b hb => heap_set_ne (by simp [Value.ownBlock] at hb; omega)) fun b hb => heap_set_ne (by simp [Value.ownBlock] at hb; omega))
  refine bodyPost_ret (v := .tuple #[.agg #[.int .u8 g'.to, .slice (some ⟨gb, 0, none⟩) g'.b.length gc], .bool true]) ?_ rfl hfin
  simp [results, Try.results12, go_sem, k0, k1]
end Go.Proofs.Ytipobpcafkhknaa

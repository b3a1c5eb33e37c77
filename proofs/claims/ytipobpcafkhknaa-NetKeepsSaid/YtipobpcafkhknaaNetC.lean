/-
  Walks over package net: Send.
-/
import Derived.Test.YtipobpcafkhknaaNetB
namespace Go.Proofs.Ytipobpcafkhknaa
open Go.RowKit
set_option linter.unusedSimpArgs false
set_option linter.unusedVariables false

theorem info_gram : (Try.prog.info? 52).map (fun i => (i.zero, i.size, i.bytes)) = some (some (.agg #[.int .u8 0, .slice none 0 0, .bool false]), 3, 40) := by kernel_rfl

/-- what Send does -/
def Sent (w : World) (nb : Nat) (l : List G) (F : List Nat) (g : G) (e : Ending) (w' : World) : Prop :=
  e = .returned (.bool true) ∧ ∃ F', NetRep w' nb (l ++ [g]) F' ∧ Chg F F' w w'

theorem nodup_fp_app {nb : Nat} {v v' x : Value} {L : List (G × Value)} {g : G} {B gx : Nat} (h : (netFp nb v L).Nodup) (hlt : ∀ k ∈ netFp nb v L, k < B) (hx : x.ownBlock = some gx) (hgx : B ≤ gx)
    (hv : v'.ownBlock = v.ownBlock ∨ ∃ k, v'.ownBlock = some k ∧ B ≤ k ∧ k ≠ gx) : (netFp nb v' (L ++ [(g, x)])).Nodup := by
  simp only [netFp, List.flatMap_append, List.flatMap_cons, List.flatMap_nil, List.append_nil, hx, Option.toList_some] at h hlt ⊢
  rw [← List.append_assoc, ← List.cons_append]
  have hnb : nb < B := hlt nb (by simp)
  have hL : ∀ k ∈ L.flatMap (fun p => p.2.ownBlock.toList), k < B := fun k hk => hlt k (List.mem_cons_of_mem _ (List.mem_append_right _ hk))
  obtain ⟨h1, h2⟩ := List.nodup_cons.1 h
  have hmid : (nb :: (v'.ownBlock.toList ++ L.flatMap fun p => p.2.ownBlock.toList)).Nodup := by
    rcases hv with e | ⟨k, e, hk, _⟩
    · rw [e]; exact h
    · rw [e]
      simp only [Option.toList_some, List.cons_append, List.nil_append, List.nodup_cons, List.mem_cons, not_or]
      refine ⟨⟨by omega, fun hm => h1 (List.mem_append_right _ hm)⟩, fun hm => ?_, (List.nodup_append.1 h2).2.1⟩
      have := hL k hm
      omega
  refine List.nodup_append.2 ⟨hmid, by simp, fun a ha b hb => ?_⟩
  simp only [List.mem_singleton] at hb
  subst hb
  simp only [List.mem_cons, List.mem_append, Option.mem_toList] at ha
  rcases ha with rfl | ha | ha
  · omega
  · rcases hv with e | ⟨k, e, hk, hne⟩
    · rw [e] at ha
      have := hlt a (by simp [ha])
      omega
    · rw [e] at ha
      cases ha
      exact hne
  · have := hL a ha
    omega

/-- what is left behind the append: the network with one datagram more -/
theorem sent_close {w w1 w2 : World} {nb : Nat} {v v' x : Value} {L : List (G × Value)} {g : G} {o : Obj} {gx : Nat}
    (h0 : w.heap[nb]? = some (.cells #[v] 50 (0, 0))) (h1 : w.ownsRow 0 52 3 v L.length (gflat L))
    (h2 : ∀ p ∈ L, w.ownsRow 0 5 1 p.2 p.1.b.length (bcells p.1.b) ∧ p.1.b ≠ []) (hnd : (netFp nb v L).Nodup)
    (hb : Below w.heap.size w w1) (hx : x.ownBlock = some gx) (hgx : w.heap.size ≤ gx) (hown : w1.ownsRow w.heap.size 5 1 x g.b.length (bcells g.b)) (hgb : g.b ≠ [])
    (hgrow : (w1.alloc o).grownBy w2 v.ownBlock) (hown2 : w2.ownsRow 0 52 3 v' (L.length + 1) (gflat L ++ [.int .u8 g.to, x, .bool g.bent]))
    (hv' : v'.ownBlock = v.ownBlock ∨ v'.ownBlock = some (w1.alloc o).heap.size) :
    ∃ F', NetRep (w2.setCell ⟨nb, 0, none⟩ v') nb (L.map (·.1) ++ [g]) F' ∧ Chg (netFp nb v L) F' w (w2.setCell ⟨nb, 0, none⟩ v') := by
  have hrep : NetRep w nb (L.map (·.1)) (netFp nb v L) := ⟨v, L, rfl, rfl, hnd, h0, h1, h2⟩
  have hlt := hrep.lt
  have hs1 := hb.size
  have hgl := hown.lt gx hx
  have hsz : (w1.alloc o).heap.size = w1.heap.size + 1 := by simp
  have hnd' := nodup_fp_app (g := g) (x := x) (v' := v') hnd hlt hx hgx (by
    rcases hv' with e | e
    · exact .inl e
    · exact .inr ⟨_, e, by omega, by omega⟩)
  have hk2 : ∀ k, k < w1.heap.size → some k ≠ v.ownBlock → w2.heap[k]? = w1.heap[k]? := fun k hk hne => (hgrow.block k (by omega) hne).trans (Below.heap_alloc w1 o k hk)
  have hvn : ∀ k, v'.ownBlock = some k → k ≠ nb := by
    intro k hk e
    have := (List.nodup_cons.1 hnd').1
    subst e
    exact this (by simp [hk])
  refine ⟨_, ⟨v', L ++ [(g, x)], by simp, rfl, hnd', ?_, ?_, ?_⟩, ⟨?_, ?_, ?_, ?_, ?_, ?_⟩⟩
  · have e : w2.heap[nb]? = some (.cells #[v] 50 (0, 0)) := by
      rw [hk2 nb (Nat.lt_of_lt_of_le (hlt nb (by simp [netFp])) hs1) (fun e => (List.nodup_cons.1 hnd).1 (by simp [← e]))]
      rw [hb.block nb (hlt nb (by simp [netFp]))]
      exact h0
    simp [World.setCell, Array.getElem?_modify, e]
  · have := ownsRow_same (w' := w2.setCell ⟨nb, 0, none⟩ v') hown2 fun b hb' => Below.heap_setCell _ _ _ _ (hvn b hb')
    simpa [gflat_append, gflat] using this
  · intro p hp
    rcases List.mem_append.1 hp with hp | hp
    · refine ⟨ownsRow_same (h2 p hp).1 fun b hb' => ?_, (h2 p hp).2⟩
      have hbm : b ∈ L.flatMap fun p => p.2.ownBlock.toList := List.mem_flatMap.2 ⟨p, hp, by simp [hb']⟩
      have hbl := hlt b (List.mem_cons_of_mem _ (List.mem_append_right _ hbm))
      have hn2 := (List.nodup_cons.1 hnd)
      rw [Below.heap_setCell _ _ _ _ (fun e : b = nb => hn2.1 (e ▸ List.mem_append_right _ hbm)), hk2 b (by omega) (fun e => ?_), hb.block b hbl]
      exact (List.nodup_append.1 hn2.2).2.2 b (by simp [← e]) b hbm rfl
    · simp only [List.mem_singleton] at hp
      subst hp
      refine ⟨ownsRow_base (ownsRow_same hown fun b hb' => ?_) (Nat.zero_le _), hgb⟩
      have e : b = gx := by rw [hx] at hb'; exact (Option.some.inj hb').symm
      subst e
      have hbv : some b ≠ v.ownBlock := fun e => by have := hlt b (by simp [netFp, ← e]); omega
      have hbn : b ≠ nb := fun e => by have := hlt nb (by simp [netFp]); omega
      rw [Below.heap_setCell _ _ _ _ hbn, hk2 b (hown.lt b hx).2 hbv]
  · exact hgrow.os.trans hb.os
  · exact hgrow.tape.trans hb.tape
  · exact hgrow.output.trans hb.output
  · have := hgrow.size
    simp [World.setCell]
    omega
  · intro k hk hkn
    simp only [netFp, List.mem_cons, List.mem_append, not_or, Option.mem_toList] at hkn
    rw [Below.heap_setCell _ _ _ _ hkn.1, hk2 k (by omega) (fun e => hkn.2.1 e.symm), hb.block k hk]
  · intro k hk
    simp only [netFp, List.flatMap_append, List.flatMap_cons, List.flatMap_nil, List.append_nil, hx, Option.toList_some, List.mem_cons, List.mem_append, Option.mem_toList, List.not_mem_nil, or_false] at hk ⊢
    rcases hk with rfl | hk | hk | rfl
    · exact .inl (.inl rfl)
    · rcases hv' with e | e
      · exact .inl (.inr (.inl (e ▸ hk)))
      · rw [e] at hk
        cases hk
        exact .inr (by omega)
    · exact .inl (.inr (.inr hk))
    · exact .inr hgx

set_option maxHeartbeats 400000 in
theorem net_send (nb : Nat) (l : List G) (F : List Nat) (t : Int) (ad : Addr) (m c : Nat) (b : List UInt8) (w : World) (hn : NetRep w nb l F) (ht0 : 0 ≤ t) (ht1 : t ≤ 1)
    (hx : Rd w (.slice (some ad) m c) 1 m (bcells b)) (hm0 : 0 < m) (hm : m ≤ 4096) (hl : l.length < 4096) :
    Calls Try.prog 10 #[.pointer (some ⟨nb, 0, none⟩), .int .u8 t, .slice (some ad) m c] w (Sent w nb l F ⟨t, b, false⟩) := by
  obtain ⟨v, L, rfl, rfl, hnd, h0, h1, h2⟩ := hn
  have c0 : w.cell? ⟨nb, 0, none⟩ = some v := by simp [World.cell?, h0]
  have f0 : w.frozen? ⟨nb, 0, none⟩ = false := by simp [World.frozen?, h0]
  have hmz : ((m : Int) == 0) = false := by simp; omega
  have hll : L.length < 4096 := by simpa using hl
  obtain ⟨a0, c0', rfl⟩ : ∃ a c', v = .slice a L.length c' := by
    rcases h1.2 with ⟨rfl, h⟩ | ⟨g, cap, _, rfl, _⟩
    · exact ⟨none, 0, by rw [h]⟩
    · exact ⟨_, _, rfl⟩
  go_enter Try.func10, Try.ntmps10
  obtain ⟨i0, hi, hz0, hz1, hz2⟩ := info_parts info_gram
  have hnb : nb < w.heap.size := (Array.getElem?_eq_some_iff.1 h0).1
  have hne : ∀ k, (Value.slice a0 L.length c0').ownBlock = some k → nb ≠ k := by
    intro k hk e
    have := (List.nodup_cons.1 hnd).1
    exact this (by simp [hk, e])
  have H0 := hide h0; have H1 := hide h1; have H2 := hide h2; have HND := hide hnd; have HNE := hide hne
  clear h0 h1 h2 hnd hne
  go_wp2_with fail
  go_region_law (first | (go_simp; go_at_call 20; refine (gram_clone t false ad m c (bcells b) _ (by exact hx) (bcells_one b) hm).mono ?_; rintro e w1 ⟨g, cap, rfl, hg, hown, hb0⟩; have hb : Below w.heap.size w w1 := below_undrew hb0; clear hb0; have kn := (hb.cell (p := ⟨nb, 0, none⟩) hnb).trans c0; have ka : ∀ o, (w1.alloc o).cell? ⟨nb, 0, none⟩ = _ := fun o => ((hb.alloc hb.size o).cell (p := ⟨nb, 0, none⟩) hnb).trans c0) | (refine step_append_rd rfl (.tmp 31) (.tmp 37) 48 rfl 0 52 i0 _ 3 40 Try.underlying48 hi hz0 hz1 hz2 rfl (by decide) (.slice a0 L.length c0') L.length (gflat L) rfl (ownsRow_below H1.out (hb.alloc hb.size _) (Nat.le_refl _)) _ 1 [.int .u8 t, .slice (some ⟨g, 0, none⟩) m cap, .bool false] rfl (rd_new _ _ _ 1 3 (by simp) (by simp)) (by simp [Value.oneCell']) (by unfold maxLen; omega) (by omega) (by simp) ?_; intro v' w2 hown2 hgrow hnil hv'; have hnb1 : nb < w1.heap.size := Nat.lt_of_lt_of_le hnb hb.size; have kn2 := ((grown_cell hgrow (b := nb) (o := 0) (by simp; omega) (HNE.out)).1.trans ((hb.alloc hb.size _).cell (p := ⟨nb, 0, none⟩) hnb)).trans c0; have fn2 := ((grown_cell hgrow (b := nb) (o := 0) (by simp; omega) (HNE.out)).2.trans ((hb.alloc hb.size _).frozen (p := ⟨nb, 0, none⟩) hnb)).trans f0; obtain ⟨g2, cap2, rfl, _⟩ := ownsRow_some hown2 (by simp [hnil])))
  all_goals
    have hlen : m = b.length := by have := hx.1; simp only [bcells_length] at this; omega
    subst hlen
    have hc := sent_close (g := ⟨t, b, false⟩) H0.out H1.out H2.out HND.out hb (gx := g) rfl hg hown (by intro e; subst e; simp at hm0) hgrow hown2 hv'
    have HC := hide hc; clear hc hown hgrow hown2 hv' hnil hb ka
    go_wp2
    go_ret
    exact ⟨rfl, HC.out⟩

end Go.Proofs.Ytipobpcafkhknaa

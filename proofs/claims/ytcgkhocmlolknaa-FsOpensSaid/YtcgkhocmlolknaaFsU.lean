/-
  The walk of a file system's Files.
-/
import Derived.Test.YtcgkhocmlolknaaFsT
import Derived.Test.YtcgkhocmlolknaaFsL
namespace Go.Proofs.Ytcgkhocmlolknaa
open Go.RowKit Go.Maps
set_option linter.unusedVariables false
set_option linter.unusedSimpArgs false

/-- a file system's files, by their names -/
def fsFiles (s : FsS) : List (Bs × Bs) := s.files.map fun p => (p.1, s.get p.1)

/-- a row of files -/
structure FilesAt (B : Nat) (t : TypeId) (w : World) (v : Value) (L : List (Bs × Ent)) : Prop where
  row : w.ownsRow B t 2 v L.length (eflat L)
  ent : ∀ p ∈ L, EntOk w v.ownBlock.toList p.2
  ge : ∀ p ∈ L, ∀ k, p.2.v.ownBlock = some k → B ≤ k
theorem FilesAt.low {B : Nat} {t : TypeId} {w w' : World} {v : Value} {L : List (Bs × Ent)} (h : FilesAt B t w v L) (hb : Below w.heap.size w w') : FilesAt B t w' v L :=
  ⟨ownsRow_below h.row hb (Nat.le_refl _), fun p hp => (h.ent p hp).same (fun k hk => hb.block k ((h.ent p hp).far k hk).2) hb.size, h.ge⟩
theorem FilesAt.nil (B : Nat) (t : TypeId) (w : World) : FilesAt B t w (.slice none 0 0) [] := ⟨World.ownsRow_nil _ _ _ _, (fun p hp => by cases hp), (fun p hp => by cases hp)⟩
theorem FilesAt.base {B B' : Nat} {t : TypeId} {w : World} {v : Value} {L : List (Bs × Ent)} (h : FilesAt B t w v L) (hb : B' ≤ B) : FilesAt B' t w v L := ⟨ownsRow_base h.row hb, h.ent, fun p hp k hk => Nat.le_trans hb (h.ge p hp k hk)⟩
/-- one file more -/
theorem FilesAt.add {B : Nat} {t : TypeId} {wr w1 W1 w2 : World} {v v' : Value} {L : List (Bs × Ent)} {k : Bs} {e : Ent} (h : FilesAt B t wr v L) (hb1 : Below wr.heap.size wr w1) (he : EntOk w1 v.ownBlock.toList e) (hge : ∀ j, e.v.ownBlock = some j → B ≤ j) (hW : Below w1.heap.size w1 W1)
    (hown : w2.ownsRow B t 2 v' (L.length + 1) (eflat L ++ [encStr k, e.v])) (hg : W1.grownBy w2 v.ownBlock) (hv : v'.ownBlock = v.ownBlock ∨ ∃ g, v'.ownBlock = some g ∧ W1.heap.size ≤ g) : FilesAt B t w2 v' (L ++ [(k, e)]) := by
  have hlt : ∀ j, v.ownBlock = some j → j < wr.heap.size := fun j hj => (h.row.lt j hj).2
  have hw1 := hb1.size
  have hW1 := hW.size
  have hw2 := hg.size
  have ents : ∀ p ∈ L ++ [(k, e)], EntOk w1 v.ownBlock.toList p.2 := fun p hp => by
    rcases List.mem_append.1 hp with hp | hp
    · exact (h.ent p hp).same (fun j hj => hb1.block j ((h.ent p hp).far j hj).2) hb1.size
    · simp only [List.mem_singleton] at hp
      subst hp
      exact he
  refine ⟨?_, fun p hp => ?_, fun p hp j hj => ?_⟩
  · have e2 : eflat (L ++ [(k, e)]) = eflat L ++ [encStr k, e.v] := by rw [eflat_append]; rfl
    rw [e2, List.length_append]
    exact hown
  · have g1 := ents p hp
    have g2 := g1.same (w' := w2) (fun j hj => by
      have h1 := g1.far j hj
      rw [hg.block j (by omega) (fun e => h1.1 (by simp [Option.mem_toList, e])), hW.block j h1.2]) (by omega)
    refine ⟨g2.rd, g2.n, g2.le, g2.cap, fun j hj => ⟨fun hm => ?_, (g2.far j hj).2⟩⟩
    have h1 := g1.far j hj
    rw [Option.mem_toList] at hm h1
    rcases hv with e | ⟨g, e, hge⟩
    · rw [e] at hm
      exact h1.1 hm
    · rw [e] at hm
      simp only [Option.mem_def, Option.some.injEq] at hm
      omega
  · rcases List.mem_append.1 hp with hp | hp
    · exact h.ge p hp j hj
    · simp only [List.mem_singleton] at hp
      subst hp
      exact hge j hj

/-- what Files tells -/
def FilesTold (t : TypeId) (X : List (Bs × Bs)) (w : World) (e : Ending) (w' : World) : Prop := ∃ a c L, e = .returned (.slice a X.length c) ∧ FilesAt w.heap.size t w' (.slice a X.length c) L ∧ L.map ct = X ∧ Below w.heap.size w w'

theorem slice_of_row {w : World} {B t n : Nat} {v : Value} {xs : List Value} (h : w.ownsRow B t 2 v n xs) : ∃ a c, v = .slice a n c := by
  rcases h.2 with ⟨h1, h2⟩ | ⟨g, cap, cur, h1, _⟩
  · exact ⟨none, 0, by rw [h1, h2]⟩
  · exact ⟨_, _, h1⟩
theorem slice_of_row1 {w : World} {B t n : Nat} {v : Value} {xs : List Value} (h : w.ownsRow B t 1 v n xs) : ∃ a c, v = .slice a n c := by
  rcases h.2 with ⟨h1, h2⟩ | ⟨g, cap, cur, h1, _⟩
  · exact ⟨none, 0, by rw [h1, h2]⟩
  · exact ⟨_, _, h1⟩
theorem mget_isSome_of_mem {κ ν : Type} [DecidableEq κ] {E : List (κ × ν)} {p : κ × ν} (h : p ∈ E) : (mget p.1 E).isSome = true := by
  unfold mget
  rw [Option.isSome_map, List.find?_isSome]
  exact ⟨p, h, by simp⟩
theorem names_short {s : FsS} (ok : s.Ok) {k : Bs} (h : s.has k = true) : k.length ≤ 16 := by
  have := has_named ok h
  unfold named at this
  simp only [Bool.and_eq_true, decide_eq_true_eq] at this
  exact this.2

theorem hadd_of {t : TypeId} {w2 wr w3 : World} {oa ra : Option Addr} {i oc rn rc : Nat} {L' : List (Bs × Ent)} {nm b : Bs} {X : List (Bs × Bs)} (hfr : Fresh wr w3 ra rn rc b) (hL1 : FilesAt w2.heap.size t wr (.slice oa i oc) L') (hL2 : L'.map ct = X.take i) (hL3 : L'.length = i)
    (hat : X.take (i + 1) = X.take i ++ [(nm, b)]) (hbw : Below w2.heap.size w2 wr) (hs2 : w2.heap.size ≤ wr.heap.size) : ∀ (cs : Array Value) w5 v, w5.ownsRow w2.heap.size t 2 v (i + 1) (eflat L' ++ [.string ⟨nm.toArray⟩, .slice ra rn rc]) → (w3.alloc (.cells cs t)).grownBy w5 (Value.slice oa i oc).ownBlock → (v.ownBlock = (Value.slice oa i oc).ownBlock ∨ v.ownBlock = some (w3.alloc (.cells cs t)).heap.size) →
      (∃ L'', FilesAt w2.heap.size t w5 v L'' ∧ L''.map ct = X.take (i + 1) ∧ L''.length = i + 1) ∧ Below w2.heap.size w2 w5 := fun cs w5 v hown hgr hv => by
  have hlt : ∀ k ∈ (Value.slice oa i oc).ownBlock.toList, k < wr.heap.size := fun k hk => (hL1.row.lt k (by simpa [Option.mem_toList] using hk)).2
  rw [← hL3] at hown
  have hs3 := hfr.2.2.size
  refine ⟨⟨L' ++ [(nm, ⟨b, ra, rn, rc⟩)], hL1.add (e := ⟨b, ra, rn, rc⟩) hfr.2.2 (hfr.ent hlt) (fun j (hj : (Value.slice ra rn rc).ownBlock = some j) => Nat.le_trans hs2 (hfr.ge j hj).1) (below_alloc w3 _) hown hgr (hv.imp id fun e => ⟨_, e, Nat.le_refl _⟩), ?_, by simp [hL3]⟩, ?_⟩
  · rw [List.map_append, hL2, hat]
    rfl
  · refine (hbw.trans ((hfr.2.2.mono hs2).trans ((below_alloc w3 _).mono (by omega)))).grown hgr (by simp; omega) fun k hk => (hL1.row.lt k hk).1

set_option maxRecDepth 100000 in
set_option maxHeartbeats 1600000 in
theorem fs_Files (sb : Nat) (s : FsS) (F : List Nat) (w : World) (h : FsRep w sb s F) (ok : s.Ok) :
    Calls Try.prog 49 #[.pointer (some ⟨sb, 0, none⟩)] w (FilesTold 34 (fsFiles s) w) := by
  have H := hide h
  have OK := hide ok
  have HLT := hide h.lt
  obtain ⟨mb, wv, lp, E, L, hi, rfl⟩ := h
  obtain ⟨c0, c1, c2, c3, c4, fz⟩ := fs_cells hi.blk
  have hsb := (Array.getElem?_eq_some_iff.1 hi.blk).1
  have hE1 : E.length ≤ 8 := by
    have h3 := files_len hi
    have := ok.few
    omega
  have hm := hide hi.map
  have hks : Hid (s.files.map (·.1) = E.map (·.1)) := hide (by rw [hi.files, List.map_map]; rfl)
  have hfl : Hid ((fsFiles s).length = E.length) := hide (by unfold fsFiles; rw [List.length_map, hi.files, List.length_map])
  clear c0 c2 c3 c4 fz hi ok
  go_enter Try.func49, Try.ntmps49
  go_wp2_with (first
    | (go_at_call 57; refine (keys_told (some mb) _).mono ?_; rintro e w' ⟨rfl, rfl⟩)
    | (go_at_call 56; refine (sorted_told mb E _ hm.out (by omega)).mono ?_; rintro e w2 ⟨v, rfl, hrow, hb⟩; obtain ⟨na, nc, rfl⟩ := slice_of_row1 hrow; have HROW := hide hrow; have HB := hide hb; clear hrow hb c1; have hw2 := HB.out.size))
  obtain ⟨iF, hiF, hyF0, hyF1, hyF2⟩ := info_parts file_info
  go_loopw [3, 5, 6, 7, 15] (fun ov _ _ _ iv wr => ∃ (i : Nat) (oa : Option Addr) (oc : Nat), ov = .slice oa i oc ∧ iv = .int .i64 i ∧ i ≤ E.length ∧ Hid (∃ L', FilesAt w2.heap.size 34 wr (.slice oa i oc) L' ∧ L'.map ct = (fsFiles s).take i ∧ L'.length = i) ∧ Hid (Below w2.heap.size w2 wr)) (fun _ _ _ _ iv _ => match iv with | .int _ j => E.length - j.toNat | _ => 0)
  case atStart => exact ⟨0, none, 0, rfl, rfl, Nat.zero_le _, hide ⟨[], FilesAt.nil _ _ _, rfl, rfl⟩, hide (Below.refl _ _)⟩
  case round =>
    obtain ⟨i, oa, oc, rfl, rfl, hi, hrel, hbw⟩ := hrel
    by_cases hin : i < E.length
    · have i0 : (i : Int) < E.length := by omega
      have hsl : i < s.files.length := by have := hfl.out; unfold fsFiles at this; rw [List.length_map] at this; omega
      obtain ⟨nm, hnm⟩ : ∃ nm, nm = s.files[i].1 := ⟨_, rfl⟩
      have hat : Hid ((fsFiles s).take (i + 1) = (fsFiles s).take i ++ [(nm, s.get nm)]) := hide (by
        have h1 : i < (fsFiles s).length := by rw [hfl.out]; exact hin
        rw [List.take_add_one, List.getElem?_eq_getElem h1, hnm]
        simp only [fsFiles, List.getElem_map]
        rfl)
      have hhas : s.has nm = true := by
        rw [hnm]
        exact mget_isSome_of_mem (List.getElem_mem hsl)
      have hnl : nm.length ≤ maxLen := by have := names_short OK.out hhas; unfold maxLen; omega
      have hrowr := ownsRow_below HROW.out hbw.out (Nat.le_refl _)
      obtain ⟨g, rfl⟩ : ∃ g, na = some ⟨g, 0, none⟩ := by
        rcases hrowr.2 with ⟨h1, h2⟩ | ⟨g, cap, cur, h1, _⟩
        · omega
        · simp only [Value.slice.injEq] at h1
          exact ⟨g, h1.1⟩
      have hc := hrowr.cellAt i (by omega)
      have hki : ((E.map (·.1)).map encStr)[i]? = some (.string ⟨nm.toArray⟩) := by
        have h1 : (s.files.map (·.1))[i]? = some nm := by rw [List.getElem?_map, List.getElem?_eq_getElem hsl, hnm]; rfl
        rw [hks.out] at h1
        rw [List.getElem?_map, h1]
        rfl
      rw [hki] at hc
      have hfz := hrowr.frozenAt i
      have HH := hide hhas; have HNM := hide hnm
      clear hrowr hki hnm
      go_wp2_with fail
      refine (fs_Read sb s _ nm hnl wr ((H.out.low HB.out).same (fun k hk => hbw.out.block k (by have := HLT.out k hk; omega)) hbw.out.size) OK.out).mono ?_
      rintro e w3 hr
      unfold ReadTold at hr
      rw [HH.out, if_pos rfl] at hr
      obtain ⟨ra, rn, rc, rfl, hfr⟩ := hr
      obtain ⟨L', hL1, hL2, hL3⟩ := hrel.out
      have HFR := hide hfr
      have HL1 := hide hL1; have HL2 := hide hL2; have HL3 := hide hL3
      have hrow4 : Hid (∀ o, (w3.alloc o).ownsRow w2.heap.size 34 2 (.slice oa i oc) i (eflat L')) := hide fun o => by
        have h1 := hL1.row
        rw [hL3] at h1
        exact ownsRow_below (ownsRow_below h1 hfr.2.2 (Nat.le_refl _)) (below_alloc w3 o) (Nat.le_refl _)
      have hs3 := hfr.2.2.size
      have hs2 := hbw.out.size
      have hwi : IntKind.i64.wrap ((i : Int) + 1) = (i : Int) + 1 := wrap64 (by omega) (by omega)
      have hadd := hide (hadd_of hfr hL1 hL2 hL3 hat.out hbw.out hs2)
      clear hrel hfr hL1 hL2 hL3 hc hfz
      go_wp2_with (at_builtin; refine wpList_append_rd rfl (.tmp 25) (.tmp 29) 25 rfl w2.heap.size 34 iF (.agg #[.string ⟨#[]⟩, .slice none 0 0]) 2 40 Try.underlying25 hiF hyF0 hyF1 hyF2 rfl (by decide) (.slice oa i oc) i (eflat L') rfl (hrow4.out _) _ 1 [.string ⟨nm.toArray⟩, .slice ra rn rc] rfl (rd_new _ _ _ 1 2 (by simp) (by simp)) (by simp [Value.oneCell']) (by unfold maxLen; omega) (by omega) (by simp; omega) ?_; intro v1 w5 hown hgr hnil hv; obtain ⟨oa1, oc1, rfl⟩ := slice_of_row hown; have HADD := hide (hadd.out _ w5 (.slice oa1 (i + 1) oc1) hown hgr hv); clear hown hgr hnil hv)
      refine ⟨⟨i + 1, oa1, oc1, rfl, by simp, hin, hide HADD.out.1, hide HADD.out.2⟩, ?_⟩
      show E.length - ((i : Int) + 1).toNat < E.length - ((i : Nat) : Int).toNat
      omega
    · obtain rfl : i = E.length := by omega
      have hend : FilesTold 34 (fsFiles s) w (.returned (.slice oa E.length oc)) wr := by
        obtain ⟨L', hL1, hL2, hL3⟩ := hrel.out
        rw [← hfl.out, List.take_length] at hL2
        refine ⟨oa, oc, L', by rw [hfl.out], ?_, hL2, HB.out.trans (hbw.out.mono hw2)⟩
        rw [hfl.out]
        exact hL1.base hw2
      have HE := hide hend
      clear hend hrel
      go_wp2
      go_ret
      exact HE.out
end Go.Proofs.Ytcgkhocmlolknaa

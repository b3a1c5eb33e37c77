/-
  The walk of a file system's Read.
-/
import Derived.Test.YtglgjakjhkdoaaaGreatDoorZFsE
namespace Go.Proofs.YtglgjakjhkdoaaaGreatDoor
open Go.RowKit Go.Maps
set_option linter.unusedVariables false
set_option linter.unusedSimpArgs false

theorem pieces_snoc (k : Bs) (L : List (Bs × Bs)) (p : Bs × Bs) : pieces k (L ++ [p]) = pieces k L ++ (if p.1 = k then p.2 else []) := by
  unfold pieces
  rw [List.filter_append, List.flatMap_append]
  congr 1
  by_cases e : p.1 = k <;> simp [e]
theorem pieces_le (k : Bs) (L : List (Bs × Bs)) : (pieces k L).length ≤ total L := by
  rw [pieces_length]
  exact total_filter_le _ _
theorem pieces_append (k : Bs) (L R : List (Bs × Bs)) : pieces k (L ++ R) = pieces k L ++ pieces k R := by simp [pieces]
theorem take_ct {L : List (Bs × Ent)} {i : Nat} (h : i < L.length) : (L.take (i + 1)).map ct = (L.take i).map ct ++ [ct L[i]] := by
  rw [List.take_add_one, List.getElem?_eq_getElem h, List.map_append]
  rfl
theorem total_take (L : List (Bs × Bs)) (i : Nat) : total (L.take i) ≤ total L := by
  have := total_append (L.take i) (L.drop i)
  rw [List.take_append_drop] at this
  omega

def ReadTold (s : FsS) (k : Bs) (w : World) (e : Ending) (w' : World) : Prop :=
  if s.has k then ∃ a n c, e = .returned (.tuple #[.slice a n c, .int .u16 0]) ∧ Fresh w w' a n c (s.get k)
  else e = .returned (.tuple #[.slice none 0 0, .int .u16 80]) ∧ w = w'

set_option maxRecDepth 100000 in
set_option maxHeartbeats 1600000 in
theorem fs_Read (sb : Nat) (s : FsS) (F : List Nat) (k : Bs) (hk : k.length ≤ maxLen) (w : World) (h : FsRep w sb s F) (ok : s.Ok) :
    Calls Tryz.prog 17 #[.pointer (some ⟨sb, 0, none⟩), .string ⟨k.toArray⟩] w (ReadTold s k w) := by
  have H := hide h
  have OK := hide ok
  clear h ok
  cases hh : s.has k with
  | false =>
    have e : ∀ e' w', (e' = .returned (.tuple #[.slice none 0 0, .int .u16 80]) ∧ w = w') → ReadTold s k w e' w' := fun e' w' h => by unfold ReadTold; rw [hh, if_neg (by simp)]; exact h
    have HE := hide e
    clear e
    go_enter Tryz.func17, Tryz.ntmps17
    go_wp2_with (refine (fs_there sb s _ k hk _ H.out).mono ?_; rintro e w' ⟨rfl, rfl⟩; rw [hh])
    go_ret2
    exact HE.out _ _ ⟨rfl, rfl⟩
  | true =>
    have e : ∀ e' w', (∃ a n c, e' = .returned (.tuple #[.slice a n c, .int .u16 0]) ∧ Fresh w w' a n c (s.get k)) → ReadTold s k w e' w' := fun e' w' h => by unfold ReadTold; rw [hh, if_pos rfl]; exact h
    have HE := hide e
    have H' := H.out
    obtain ⟨mb, wv, lp, E, L, h, rfl⟩ := H'
    obtain ⟨c0, c1, c2, c3, c4, fz⟩ := fs_cells h.blk
    have hsb := (Array.getElem?_eq_some_iff.1 h.blk).1
    obtain ⟨wa, wc, rfl⟩ := (ownsRow_rd h.row).head
    have hm := hide h.map
    have HC2 := hide c2
    have hll : Hid (L.length ≤ 1048576) := hide (by have := OK.out.waits_le; rw [h.waits, List.length_map] at this; exact this)
    obtain ⟨en, hen⟩ : ∃ en, mget k E = some en := by
      have h1 : s.has k = (mget k E).isSome := by unfold FsS.has; rw [mget_files h, Option.isSome_map]
      rw [hh] at h1
      exact Option.isSome_iff_exists.1 h1.symm
    have hget : Hid (s.get k = en.b ++ pieces k (L.map ct)) := hide (by unfold FsS.get; rw [mget_files h, hen, h.waits]; rfl)
    have hEN : EntOk w _ en := h.ent (k, en) (List.mem_append_left _ (mget_mem hen))
    have HEN := hide hEN
    have hln : Hid ((en.b ++ pieces k (L.map ct)).length ≤ 1048576) := hide (by
      rw [← hget.out]
      have h1 := get_total s k
      have h2 := OK.out.used_le
      omega)
    have hel : Hid (en.n ≤ 1048576) := hide (by have := hln.out; rw [List.length_append] at this; have := hEN.n; omega)
    have HG := hide hen
    have H2 := hide h
    clear h c0 c2 c3 c4 fz e hen hEN
    obtain ⟨eb, ea, en, ec⟩ := en
    dsimp only [Ent.v] at *
    go_enter Tryz.func17, Tryz.ntmps17
    go_wp2_with (first | (refine (fs_there sb s _ k hk _ H.out).mono ?_; rintro e w' ⟨rfl, rfl⟩; rw [hh]) | (at_lookup; refine wpList_mlook keysFs rfl _ _ 55 rfl 22 Tryz.underlying55 (zero_bytes _) rfl rfl hm.out k rfl hk (some ⟨eb, ea, en, ec⟩) HG.out (.slice ea en ec) rfl ?_))
    refine (bt_Clone ea en ec eb w HEN.out.rd HEN.out.n (by have := hel.out; omega)).mono ?_
    rintro e w1 ⟨a1, c1, rfl, hf⟩
    have HF := hide hf
    have HB1 := hide hf.2.2
    have hs1 := hf.2.2.size
    have hC2 : w1.cell? ⟨sb, 2, none⟩ = some (.slice wa L.length wc) := (hf.2.2.cell (p := ⟨sb, 2, none⟩) hsb).trans HC2.out
    clear hf
    go_wp2
    go_loopw [6, 8, 25] (fun ov pv iv wr => ∃ (O : Bs) (i nO cO : Nat) (aO : Option Addr), ov = .slice aO nO cO ∧ iv = .int .i64 i ∧ i ≤ L.length ∧ Hid (nO = O.length) ∧ Hid (O = eb ++ pieces k ((L.take i).map ct)) ∧ Hid (RowIs w w.heap.size (.slice aO nO cO) O wr)) (fun _ _ iv _ => match iv with | .int _ j => L.length - j.toNat | _ => 0)
    case atStart =>
      refine ⟨eb, 0, en, c1, a1, rfl, rfl, Nat.zero_le _, hide HEN.out.n, hide (by simp [pieces]), hide ⟨?_, HB1.out, hs1⟩⟩
      have h1 := HF.out.1
      have h2 : en = eb.length := HEN.out.n
      rw [h2] at h1 ⊢
      exact h1
    case round =>
      obtain ⟨O, i, nO, cO, aO, rfl, rfl, hi, hnO, hOe, hO⟩ := hrel
      clear hC2 HB1 HF hs1
      have hbw := hO.out.2.1
      by_cases hil : i < L.length
      · have i0 : (i : Int) < L.length := by omega
        obtain ⟨g, pk, pb, pa, pn, pc, rfl, hpe, a1', a2, hg, hfz⟩ := (H2.out.low hbw).at hil
        have hpE : EntOk w (muts sb mb (.slice (some ⟨g, 0, none⟩) L.length wc) lp) (⟨pb, pa, pn, pc⟩ : Ent) := by
          have := H2.out.ent L[i] (List.mem_append_right _ (List.getElem_mem hil))
          rw [hpe] at this
          exact this
        have hstep : Hid (pieces k ((L.take (i + 1)).map ct) = pieces k ((L.take i).map ct) ++ (if pk = k then pb else [])) := hide (by
          rw [take_ct hil, pieces_snoc, hpe]
          rfl)
        have hln2 : Hid ((eb ++ pieces k ((L.take (i + 1)).map ct)).length ≤ 1048576) := hide (by
          have h1 := hln.out
          have h2 : pieces k (L.map ct) = pieces k ((L.take (i + 1)).map ct) ++ pieces k ((L.drop (i + 1)).map ct) := by
            rw [← pieces_append, ← List.map_append, List.take_append_drop]
          rw [h2] at h1
          simp only [List.length_append] at h1 ⊢
          omega)
        have hw2 : IntKind.i64.wrap ((i : Int) + 1) = (i : Int) + 1 := wrap64 (by omega) (by have := hll.out; omega)
        have HPE := hide hpE
        clear hpe hpE
        by_cases hpk : pk = k
        · subst hpk
          have hst2 : Hid (eb ++ pieces pk ((L.take (i + 1)).map ct) = O ++ pb) := hide (by rw [hstep.out, if_pos rfl, hOe.out, List.append_assoc])
          have hl3 : Hid (O.length + pb.length ≤ 1048576) := hide (by have := hln2.out; rw [hst2.out, List.length_append] at this; exact this)
          have hr2 := hide ((HPE.out.rd.low hbw).low (below_alloc wr (.cells #[.string ⟨pk.toArray⟩, .slice pa pn pc] 68)))
          have hO2 := hide (hO.out.to (below_alloc wr (.cells #[.string ⟨pk.toArray⟩, .slice pa pn pc] 68)))
          have hrd3 : Hid (RdB (wr.alloc (.cells #[.string ⟨pk.toArray⟩, .slice pa pn pc] 68)) (.slice pa pn pc) pb) := hr2
          clear hstep
          go_wp2_with (at_builtin; refine wpList_copy_own rfl _ _ 22 rfl w w.heap.size 5 Tryz.underlying22 (by kernel_rfl) _ O rfl (by exact hO2.out) _ pb rfl (by exact hrd3.out) (by have := hl3.out; omega) ?_; intro a1 co1 w1 hown1 hb1; obtain ⟨n1, hn1⟩ : ∃ n, n = (O ++ pb).length := ⟨_, rfl⟩; rw [← hn1] at hown1 ⊢; have N1 := hide hn1; have HO1 := hide hown1; have HB1 := hide hb1; skip; clear hn1 hown1 hb1)
          refine ⟨⟨O ++ pb, i + 1, n1, co1, a1, rfl, rfl, hil, N1, hide hst2.out.symm, HO1⟩, ?_⟩
          show L.length - ((i : Int) + 1).toNat < L.length - ((i : Nat) : Int).toNat
          omega
        · have hst2 : Hid (eb ++ pieces k ((L.take (i + 1)).map ct) = O) := hide (by rw [hstep.out, if_neg hpk, List.append_nil, hOe.out])
          have hO2 := hide (hO.out.to (below_alloc wr (.cells #[.string ⟨pk.toArray⟩, .slice pa pn pc] 68)))
          have hpb : (pk == k) = false := by simpa using hpk
          clear hstep
          go_wp2
          refine ⟨⟨O, i + 1, nO, cO, aO, rfl, rfl, hil, hnO, hide hst2.out.symm, hO2⟩, ?_⟩
          show L.length - ((i : Int) + 1).toNat < L.length - ((i : Nat) : Int).toNat
          omega
      · obtain rfl : i = L.length := by omega
        have hfin : Hid (O = s.get k) := hide (by rw [hOe.out, hget.out, List.take_length])
        clear hOe
        go_wp2
        go_ret2
        refine HE.out _ _ ⟨aO, nO, cO, rfl, ?_, ?_, hbw⟩
        · have h1 := hO.out.1
          rw [← hnO.out, hfin.out] at h1
          exact h1
        · rw [← hfin.out]
          exact hnO.out
end Go.Proofs.YtglgjakjhkdoaaaGreatDoor

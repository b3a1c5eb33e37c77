/-
  The walk of FsRoom.
-/
import Derived.Test.YtnlmoegdienhiaaFsZ
import Derived.Deep.DeepCutAuto
namespace Go.Proofs.Ytnlmoegdienhiaa
open Go.RowKit Go.Maps
set_option linter.unusedVariables false
set_option linter.unusedSimpArgs false

theorem fsPlay_refuse {s : FsS} {o : Opr} (h : (fsPlay s o).1 ≠ 0) : (fsPlay s o).2 = s := by
  unfold fsPlay at h ⊢
  repeat' split at h
  all_goals
    unfold fsCreate fsSync fsCut fsRename fsRemove fsAppend at *
    repeat' split at h
  all_goals simp_all
theorem fsPlay_room (s : FsS) (o : Opr) : (fsPlay s o).2.room = s.room := by
  have e := (went_parts s).1
  unfold fsPlay
  repeat' split
  all_goals
    first
    | (unfold fsCreate; repeat' split) | (unfold fsSync; repeat' split) | (unfold fsCut; repeat' split) | (unfold fsRename; repeat' split) | (unfold fsRemove; repeat' split) | (unfold fsAppend; repeat' split)
  all_goals first | rfl | exact e

theorem FilesAt.chg {B : Nat} {t : TypeId} {w w' : World} {v : Value} {L : List (Bs × Ent)} {F F' : List Nat} (h : FilesAt B t w v L) (hC : Chg F F' w w') (hd : ∀ k ∈ F, k < B) : FilesAt B t w' v L :=
  ⟨ownsRow_same h.row fun k hk => hC.block k (h.row.lt k hk).2 fun hm => by have := hd k hm; have := (h.row.lt k hk).1; omega,
   fun p hp => (h.ent p hp).same (fun k hk => hC.block k ((h.ent p hp).far k hk).2 fun hm => by have := hd k hm; have := h.ge p hp k hk; omega) hC.size, h.ge⟩
theorem Opr.Ok.lowB {W : World} {o : Opr} (h : o.Ok W) : 0 < o.bn → ∀ k, (Value.slice o.ba o.bn o.bc).ownBlock = some k → k < W.heap.size := fun h0 k hk => by
  obtain ⟨b9, o9, c9, he, _, hb9⟩ := RdB.at h.rb (k := 0) (by have := h.bn; omega)
  simp only [Value.slice.injEq] at he
  rw [he.1] at hk
  simp only [Value.ownBlock, Option.some.injEq] at hk
  omega
theorem Opr.Ok.lowK {W : World} {o : Opr} (h : o.Ok W) : 0 < o.kn → ∀ k, (Value.slice o.ka o.kn o.kc).ownBlock = some k → k < W.heap.size := RdK.lowK h.rk h.kn
theorem wf_u16 {n : Int} (h : (Lit.int .u16 n).wf = true) : 0 ≤ n ∧ n ≤ 65535 := by simpa [Lit.wf, IntKind.min, IntKind.max, IntKind.signed, IntKind.bits] using h
theorem tmod14 (k : Nat) : (k : Int).tmod 14 = ((k % 14 : Nat) : Int) := by
  rw [Int.tmod_eq_emod_of_nonneg (by omega)]
  omega
theorem fsFiles_len {s : FsS} (ok : s.Ok) : (fsFiles s).length ≤ 8 := by unfold fsFiles; rw [List.length_map]; exact ok.few

set_option maxRecDepth 100000 in
set_option maxHeartbeats 3200000 in
theorem law_FsRoom (W : World) (room : Int) (lo : 0 ≤ room) (hi : room ≤ 65535) (v : Value) (L : List Opr) (h : RdOps W v L) :
    Calls Try.prog 6 #[.int .u16 room, v] W fun e w' => e = .returned (.bool true) ∧ Below W.heap.size W w' := by
  obtain ⟨a, c, rfl⟩ := h.head
  have H := hide h
  clear h
  have hwr : IntKind.i64.wrap room = room := wrap64 (by omega) (by omega)
  go_enter Try.func6, Try.ntmps6
  go_wp2_with fail
  refine (law_heavy _ L W H.out).mono ?_
  rintro e w1 ⟨rfl | ⟨rfl, h50, hlight⟩, hb1⟩
  · have HB1 := hide hb1
    clear hb1
    go_wp2_with (refine (fs_known _).mono ?_; rintro e w' ⟨rfl, hb⟩; have HB := hide hb; clear hb)
    go_ret
    exact ⟨rfl, HB1.out.trans (HB.out.mono HB1.out.size)⟩
  have HB1 := hide hb1; have HLI := hide hlight
  clear hb1 hlight
  go_wp2_with fail
  refine (fs_known _).mono ?_
  rintro e w2 ⟨rfl, hb2⟩
  have HB2 := hide (HB1.out.trans (hb2.mono HB1.out.size))
  clear hb2 HB1
  go_wp2_with fail
  refine (fs_New' room lo (by omega) W w2 HB2.out).mono ?_
  rintro e w3 ⟨sb, F0, rfl, hf0, _, _⟩
  have G0 := hide hf0
  clear hf0 HB2
  go_wp2
  go_loopw [6, 7, 8, 9] (fun iv _ _ _ wr => ∃ (i : Nat) (s : FsS) (F : List Nat), iv = .int .i64 i ∧ i ≤ L.length ∧ Hid (FsOwn W wr sb s F ∧ s.room = room)) (fun iv _ _ _ _ => match iv with | .int _ j => L.length - j.toNat | _ => 0)
  case atStart => exact ⟨0, _, F0, rfl, Nat.zero_le _, hide ⟨G0.out, rfl⟩⟩
  case round =>
    obtain ⟨i, s, F, rfl, hil, hs⟩ := hrel
    clear G0
    by_cases hin : i < L.length
    · have i0 : (i : Int) < L.length := by omega
      obtain ⟨bb, off, cc, o, he, hLo, hbb, hok, c0, c1, c2, c3, c4, c5, c6⟩ := H.out.at hin
      simp only [Value.slice.injEq] at he
      obtain ⟨rfl, -, rfl⟩ := he
      have hlo := HLI.out o (by rw [← hLo]; exact List.getElem_mem hin)
      have hcl : Hid (∀ w', Below W.heap.size W w' → w'.cell? ⟨bb, off + i * 7, none⟩ = some (.int .u8 o.kind) ∧ w'.cell? ⟨bb, off + i * 7 + 1, none⟩ = some (.string ⟨o.name.toArray⟩) ∧ w'.cell? ⟨bb, off + i * 7 + 2, none⟩ = some (.string ⟨o.other.toArray⟩) ∧ w'.cell? ⟨bb, off + i * 7 + 3, none⟩ = some (.slice o.ba o.bn o.bc) ∧ w'.cell? ⟨bb, off + i * 7 + 4, none⟩ = some (.int .i64 o.num) ∧ w'.cell? ⟨bb, off + i * 7 + 5, none⟩ = some (.slice o.ka o.kn o.kc) ∧ w'.cell? ⟨bb, off + i * 7 + 6, none⟩ = some (.int .i64 o.t)) := hide fun w' hw => ⟨(hw.cell (p := ⟨bb, _, none⟩) hbb).trans c0, (hw.cell (p := ⟨bb, _, none⟩) hbb).trans c1, (hw.cell (p := ⟨bb, _, none⟩) hbb).trans c2, (hw.cell (p := ⟨bb, _, none⟩) hbb).trans c3, (hw.cell (p := ⟨bb, _, none⟩) hbb).trans c4, (hw.cell (p := ⟨bb, _, none⟩) hbb).trans c5, (hw.cell (p := ⟨bb, _, none⟩) hbb).trans c6⟩
      have HOK := hide hok; have HLO := hide hlo
      have hmod := tmod14 o.kind
      have hwi : IntKind.i64.wrap ((i : Int) + 1) = (i : Int) + 1 := wrap64 (by omega) (by omega)
      clear c0 c1 c2 c3 c4 c5 c6 hok hlo hLo
      obtain ⟨m, hm⟩ : ∃ m, m = o.kind % 14 := ⟨_, rfl⟩
      rw [← hm] at hmod
      clear hm
      obtain ⟨c0, c1, c2, c3, c4, c5, c6⟩ := hcl.out wr hs.out.1.low
      by_cases hk : 10 < m
      · have i5 : (10 : Int) < m := by omega
        go_wp2
        exact ⟨⟨i + 1, s, F, by simp, hin, hs⟩, by show L.length - ((i : Int) + 1).toNat < L.length - ((i : Nat) : Int).toNat; omega⟩
      · have i5 : ¬ ((10 : Int) < m) := by omega
        go_wp2_with fail
        refine (law_Files sb s F wr hs.out.1.rep hs.out.1.ok).mono ?_
        rintro e w4 ⟨a4, q4, L4, rfl, hf4, hc4, hb4⟩
        obtain ⟨n4, hn4⟩ : ∃ n, n = (fsFiles s).length := ⟨_, rfl⟩
        rw [← hn4] at hf4 ⊢
        have n48 : n4 ≤ 8 := by rw [hn4]; exact fsFiles_len hs.out.1.ok
        have HF4 := hide hf4; have HC4 := hide hc4; have HN4 := hide hn4
        have G4 := hide (hs.out.1.then hb4)
        have HFB : Hid (∀ k ∈ F, k < wr.heap.size) := hide hs.out.1.rep.lt
        have HRM := hide hs.out.2
        clear hf4 hc4 hb4 hn4 hs c0 c1 c2 c3 c4 c5 c6
        obtain ⟨c0, c1, c2, c3, c4, c5, c6⟩ := hcl.out w4 G4.out.low
        go_wp2_with fail
        refine (fs_plays sb s F o w4 G4.out.rep G4.out.ok (HOK.out.low G4.out.low) HLO.out.1 (fun h0 k hk hm => by have := HOK.out.lowB h0 k hk; have := G4.out.up k hm; omega)).mono ?_
        rintro e w5 ⟨rfl, ht⟩
        obtain ⟨F5, hg5, hC5⟩ := G4.out.step ht (fsPlay_ok G4.out.ok o)
        have HF5 := hide (HF4.out.chg hC5 HFB.out)
        obtain ⟨S, hS⟩ : ∃ S, S = (fsPlay s o).2 := ⟨_, rfl⟩
        obtain ⟨err, herr⟩ : ∃ err, err = (fsPlay s o).1 := ⟨_, rfl⟩
        rw [← hS] at hg5
        have G5 := hide hg5
        have HRM5 : Hid (S.room = room) := hide (by rw [hS, fsPlay_room]; exact HRM.out)
        have HREF : Hid (err ≠ 0 → S = s) := hide (fun h => by rw [hS]; exact fsPlay_refuse (by rw [← herr]; exact h))
        rw [← herr]
        clear ht hg5 hC5 HF4 HRM hS herr c0 c1 c2 c3 c4 c5 c6
        go_wp2_with fail
        refine (law_Files sb S F5 w5 G5.out.rep G5.out.ok).mono ?_
        rintro e w6 ⟨a6, q6, L6, rfl, hf6, hc6, hb6⟩
        obtain ⟨n6, hn6⟩ : ∃ n, n = (fsFiles S).length := ⟨_, rfl⟩
        rw [← hn6] at hf6 ⊢
        have n68 : n6 ≤ 8 := by rw [hn6]; exact fsFiles_len G5.out.ok
        have HF6 := hide hf6; have HC6 := hide hc6; have HN6 := hide hn6
        have HFF := hide (HF5.out.low hb6)
        have G6 := hide (G5.out.then hb6)
        have i8 : ¬ ((8 : Int) < n6) := by omega
        clear hf6 hc6 hb6 hn6 G4 G5 HF5
        by_cases he : err = 0
        · have e1 : (err == 0) = true := by simpa using he
          have e2 : (err != 0) = false := by simpa using he
          go_wp2_with fail
          refine (fs_Used sb S F5 w6 G6.out.rep G6.out.ok).mono ?_
          rintro e w7 ⟨rfl, hb7⟩
          have G7 := hide (G6.out.then hb7)
          have i9 : ¬ (room < (S.used : Int)) := by have := G6.out.ok.used; have := HRM5.out; omega
          clear hb7
          go_wp2
          exact ⟨⟨i + 1, S, F5, by simp, hin, hide ⟨G7.out, HRM5.out⟩⟩, by show L.length - ((i : Int) + 1).toNat < L.length - ((i : Nat) : Int).toNat; omega⟩
        · have e1 : (err == 0) = false := by simpa using he
          have e2 : (err != 0) = true := by simpa using he
          have hsame : Hid (L4.map ct = L6.map ct) := hide (by rw [HC4.out, HC6.out, HREF.out he])
          go_wp2_with fail
          refine (ref_SameFiles _ _ a4 a6 n4 q4 n6 q6 L4 L6 w6 HFF.out (by rw [HN4.out, ← HC4.out, List.length_map]) HF6.out (by rw [HN6.out, ← HC6.out, List.length_map]) (by omega) (by omega)).mono ?_
          rintro e w7 ⟨rfl, hb7⟩
          rw [decide_eq_true hsame.out]
          have G7 := hide (G6.out.then hb7)
          clear hb7
          go_wp2_with fail
          refine (fs_Used sb S F5 w7 G7.out.rep G7.out.ok).mono ?_
          rintro e w8 ⟨rfl, hb8⟩
          have G8 := hide (G7.out.then hb8)
          have i9 : ¬ (room < (S.used : Int)) := by have := G6.out.ok.used; have := HRM5.out; omega
          clear hb8
          go_wp2
          exact ⟨⟨i + 1, S, F5, by simp, hin, hide ⟨G8.out, HRM5.out⟩⟩, by show L.length - ((i : Int) + 1).toNat < L.length - ((i : Nat) : Int).toNat; omega⟩
    · have i0 : ¬ ((i : Int) < L.length) := by omega
      go_wp2
      go_ret
      exact ⟨rfl, hs.out.1.low⟩
end Go.Proofs.Ytnlmoegdienhiaa

/-
  The walk of FsDoes.
-/
import Derived.Test.YtcgkhocmlolknaaDoB
namespace Go.Proofs.Ytcgkhocmlolknaa
open Go.RowKit Go.Maps
set_option linter.unusedVariables false
set_option linter.unusedSimpArgs false

set_option maxRecDepth 100000 in
set_option maxHeartbeats 3200000 in
theorem law_FsDoes (W : World) (room : Int) (lo : -9223372036854775808 ≤ room) (hi : room ≤ 9223372036854775807) (v : Value) (L : List Opr) (h : RdOps W v L) :
    Calls Try.prog 4 #[.int .i64 room, v] W fun e w' => e = .returned (.bool true) ∧ Below W.heap.size W w' := by
  obtain ⟨a, c, rfl⟩ := h.head
  have H := hide h
  clear h
  go_enter Try.func4, Try.ntmps4
  go_wp2_with fail
  refine (law_heavy _ L W H.out).mono ?_
  rintro e w1 ⟨rfl | ⟨rfl, h50, hlight⟩, hb1⟩
  · have HB1 := hide hb1
    clear hb1
    go_wp2_with (refine (fs_known _).mono ?_; rintro e w' ⟨rfl, hb⟩; have HB := hide hb; clear hb)
    go_ret
    exact ⟨rfl, HB1.out.trans (HB.out.mono HB1.out.size)⟩
  have HB1 := hide hb1; have HLI := hide hlight
  clear hb1 hlight
  go_wp2_with fail
  refine (fs_known _).mono ?_
  rintro e w2 ⟨rfl, hb2⟩
  have HB2 := hide (HB1.out.trans (hb2.mono HB1.out.size))
  clear hb2 HB1
  by_cases hroom : room < 0 ∨ 1048576 < room
  · have HR := hide hroom
    clear hroom
    go_wp2_with fail
    refine (fs_New_none room HR.out w2).mono ?_
    rintro e w3 ⟨rfl, rfl⟩
    go_wp2_with fail
    refine (rf_New_none room HR.out w2).mono ?_
    rintro e w3 ⟨rfl, rfl⟩
    go_wp2
    go_ret
    exact ⟨rfl, HB2.out⟩
  · have h0 : 0 ≤ room := by omega
    have h1 : room ≤ 1048576 := by omega
    clear hroom
    go_wp2_with fail
    refine (fs_New' room h0 h1 W w2 HB2.out).mono ?_
    rintro e w3 ⟨sb, F0, rfl, hf0, _, hb3⟩
    have HF0 := hide hf0
    clear hf0 hb3
    go_wp2_with fail
    refine (rf_New room h0 h1 w3).mono ?_
    rintro e w4 ⟨rb, G0, rfl, hg0, hup, hb4⟩
    have hst : Hid (∃ F G, Pr W w4 sb (fsNew room) F rb (fsNew room) G) := hide ⟨F0, G0, HF0.out.then hb4, ⟨hg0, fun k hk => Nat.le_trans HF0.out.low.size (hup k hk), HF0.out.low.trans (hb4.mono HF0.out.low.size), fsNew_ok h0 h1⟩, fun k hk hm => by
      have := hup k hm
      have := HF0.out.rep.lt k hk
      omega⟩
    clear hg0 hup hb4 HF0
    go_wp2
    go_loopw [7] (fun iv wr => ∃ (i : Nat) (s : FsS), iv = .int .i64 i ∧ i ≤ L.length ∧ Hid (∃ F G, Pr W wr sb s F rb s G)) (fun iv _ => match iv with | .int _ j => L.length - j.toNat | _ => 0)
    case atStart => exact ⟨0, _, rfl, Nat.zero_le _, hst⟩
    case round =>
      clear hst
      obtain ⟨i, s, rfl, hil, hs⟩ := hrel
      obtain ⟨F, G, hs⟩ := hs.out
      have HS := hide hs
      clear hs
      by_cases hin : i < L.length
      · have i0 : (i : Int) < L.length := by omega
        obtain ⟨bb, off, cc, o, he, hLo, hbb, hok, c0, c1, c2, c3, c4, c5, c6⟩ := (H.out.low HS.out.a.low).at hin
        simp only [Value.slice.injEq] at he
        obtain ⟨rfl, -, rfl⟩ := he
        have HOK := hide (H.out.2.1 o (by rw [← hLo]; exact List.getElem_mem hin))
        have HLO := hide (HLI.out o (by rw [← hLo]; exact List.getElem_mem hin))
        have hwi : IntKind.i64.wrap ((i : Int) + 1) = (i : Int) + 1 := wrap64 (by omega) (by omega)
        clear hLo hok
        go_wp2_with fail
        refine (law_does sb rb s F G o W wr HS.out HOK.out HLO.out).mono ?_
        rintro e w5 ⟨rfl, F5, G5, hp5, _⟩
        have HS5 := hide hp5
        clear hp5 c0 c1 c2 c3 c4 c5 c6
        go_wp2_with fail
        refine (law_Same sb rb (fsDo s o) F5 G5 W w5 HS5.out).mono ?_
        rintro e w6 ⟨rfl, hb6⟩
        have HS6 : Hid (∃ F G, Pr W w6 sb (fsDo s o) F rb (fsDo s o) G) := hide ⟨F5, G5, HS5.out.then hb6⟩
        clear hb6
        go_wp2
        exact ⟨⟨i + 1, _, by simp, hin, HS6⟩, by show L.length - ((i : Int) + 1).toNat < L.length - ((i : Nat) : Int).toNat; omega⟩
      · have hd : decide ((i : Int) < L.length) = false := decide_eq_false (by omega)
        go_wp2_with fail
        refine (law_Same sb rb s F G W wr HS.out).mono ?_
        rintro e w6 ⟨rfl, hb6⟩
        have HB6 := hide (HS.out.a.low.trans (hb6.mono HS.out.a.low.size))
        clear hb6
        go_wp2
        go_ret
        exact ⟨rfl, HB6.out⟩
end Go.Proofs.Ytcgkhocmlolknaa

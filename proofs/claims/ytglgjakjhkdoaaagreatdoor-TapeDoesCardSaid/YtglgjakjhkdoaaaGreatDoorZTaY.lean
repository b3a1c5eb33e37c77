/-
  The walk of TapeDoes.
-/
import Derived.Test.YtglgjakjhkdoaaaGreatDoorZTaX
import Derived.Test.YtglgjakjhkdoaaaGreatDoorZTaGTaITaQ
namespace Go.Proofs.YtglgjakjhkdoaaaGreatDoor
open Go.RowKit Go.Maps
set_option linter.unusedVariables false
set_option linter.unusedSimpArgs false

theorem TwE.low {W w : World} {xb sb rb : Nat} {k : Bs} {tv : Value} (h : TwE W w xb sb rb k tv) : Below W.heap.size W w := by
  obtain ⟨S, F, G, ⟨-, h⟩ | ⟨tb, ub, -, h⟩⟩ := h
  · exact h.pr.a.low
  · exact h.pr.a.low
set_option maxRecDepth 100000 in
set_option maxHeartbeats 6400000 in
theorem law_TapeDoes0 (W : World) (room : Int) (lo : -9223372036854775808 ≤ room) (hi : room ≤ 9223372036854775807) (name : Bs) (hname : name.length ≤ maxLen) (a2 : Option Addr) (n2 c2 : Nat) (b2 : Bs) (h2 : RdB W (.slice a2 n2 c2) b2) (hn2 : n2 = b2.length) (v : Value) (L : List Opt) (h : RdOpts W v L) :
    Calls Tryz.prog 3 #[.int .i64 room, .string ⟨name.toArray⟩, .slice a2 n2 c2, v] W fun e w' => e = .returned (.bool true) ∧ Below W.heap.size W w' := by
  obtain ⟨a, c, rfl⟩ := h.head
  have H := hide h
  have H2 := hide h2; have HN2 := hide hn2
  clear h h2 hn2
  go_enter Tryz.func3, Tryz.ntmps3
  go_wp2_with fail
  refine (tp_heavy _ L W H.out).mono ?_
  rintro e w1 ⟨rfl | ⟨rfl, h30, hlight⟩, rfl⟩
  · go_wp2_with (refine (tp_known _).mono ?_; rintro e w' ⟨rfl, hb⟩; have HB := hide hb; clear hb)
    go_ret
    exact ⟨rfl, HB.out⟩
  have HLI := hide hlight
  clear hlight
  by_cases hnm : 40 < name.length
  · have d1 : decide ((40 : Int) < name.length) = true := decide_eq_true (by omega)
    go_wp2_with (refine (tp_known _).mono ?_; rintro e w' ⟨rfl, hb⟩; have HB := hide hb; clear hb)
    go_ret
    exact ⟨rfl, HB.out⟩
  have d1 : decide ((40 : Int) < name.length) = false := decide_eq_false (by omega)
  by_cases hfs : 1000 < n2
  · have d2 : decide ((1000 : Int) < n2) = true := decide_eq_true (by omega)
    go_wp2_with (refine (tp_known _).mono ?_; rintro e w' ⟨rfl, hb⟩; have HB := hide hb; clear hb)
    go_ret
    exact ⟨rfl, HB.out⟩
  have d2 : decide ((1000 : Int) < n2) = false := decide_eq_false (by omega)
  go_wp2_with fail
  refine (tp_known _).mono ?_
  rintro e w2 ⟨rfl, hb2⟩
  have HB2 := hide hb2
  clear hb2 d1 d2
  by_cases hroom : room < 0 ∨ 1048576 < room
  · have HR := hide hroom
    clear hroom
    go_wp2_with fail
    refine (fs_New_none room HR.out w2).mono ?_
    rintro e w3 ⟨rfl, rfl⟩
    go_wp2_with fail
    refine (rf_New_none room HR.out w2).mono ?_
    rintro e w3 ⟨rfl, rfl⟩
    go_upto_region 4 with fail
    have hb3 := below_alloc w2 (.cells #[.pointer none, .pointer none, .pointer none, .pointer none, .string ⟨name.toArray⟩] 34)
    have hg3 := heap_alloc_at w2 (.cells #[.pointer none, .pointer none, .pointer none, .pointer none, .string ⟨name.toArray⟩] 34)
    obtain ⟨w3, hw3⟩ : ∃ w3, w3 = w2.alloc (.cells #[.pointer none, .pointer none, .pointer none, .pointer none, .string ⟨name.toArray⟩] 34) := ⟨_, rfl⟩
    rw [← hw3] at hb3 hg3 ⊢
    have x0 : w3.cell? ⟨w2.heap.size, 0, none⟩ = some (.pointer none) := by rw [cell_of_row w3 w2.heap.size 0 _ _ (0, 0) hg3]; rfl
    have x1 : w3.cell? ⟨w2.heap.size, 1, none⟩ = some (.pointer none) := by rw [cell_of_row w3 w2.heap.size 1 _ _ (0, 0) hg3]; rfl
    have HB3 := hide (HB2.out.trans (hb3.mono HB2.out.size))
    clear hb3 hg3 hw3
    go_wp2
    go_ret
    exact ⟨rfl, HB3.out⟩
  have h0 : 0 ≤ room := by omega
  have h1 : room ≤ 1048576 := by omega
  clear hroom
  go_wp2_with fail
  refine (fs_New' room h0 h1 W w2 HB2.out).mono ?_
  rintro e w3 ⟨sb, F0, rfl, hf0, _, hb3⟩
  have HF0 := hide hf0
  clear hf0 hb3
  go_wp2_with fail
  refine (rf_New room h0 h1 w3).mono ?_
  rintro e w4 ⟨rb, G0, rfl, hg0, hup, hb4⟩
  have hpr : Pr W w4 sb (fsNew room) F0 rb (fsNew room) G0 := ⟨HF0.out.then hb4, ⟨hg0, fun k hk => Nat.le_trans HF0.out.low.size (hup k hk), HF0.out.low.trans (hb4.mono HF0.out.low.size), fsNew_ok h0 h1⟩, fun k hk hm => by
    have := hup k hm
    have := HF0.out.rep.lt k hk
    omega⟩
  have hT0 : Tw W w4 sb (fsNew room) F0 rb (fsNew room) G0 [] := ⟨hpr, fun p hp => by cases hp⟩
  have HT1 := hide (hT0.new (twoO sb rb (.pointer none) (.pointer none) name))
  go_upto_region 4 with fail
  have HT : Hid (TwK W (w4.alloc (twoO sb rb (.pointer none) (.pointer none) name)) w4.heap.size sb rb (.pointer none) (.pointer none) name) := hide ⟨_, _, _, _, HT1.out⟩
  unfold twoO at HT1 HT
  obtain ⟨w5, hw5⟩ : ∃ w5, w5 = w4.alloc (.cells #[.pointer (some ⟨sb, 0, none⟩), .pointer (some ⟨rb, 0, none⟩), .pointer none, .pointer none, .string ⟨name.toArray⟩] 34) := ⟨_, rfl⟩
  obtain ⟨xb, hxb⟩ : ∃ xb, xb = w4.heap.size := ⟨_, rfl⟩
  rw [← hw5, ← hxb] at HT HT1
  rw [← hw5, ← hxb]
  obtain ⟨x0, x1, x2, x3, x4⟩ := HT.out.cells
  have hxl : Hid (∀ w' S F R G, Tw W w' sb S F rb R G [(xb, twoO sb rb (.pointer none) (.pointer none) name)] → w'.cell? ⟨xb, 0, none⟩ = some (.pointer (some ⟨sb, 0, none⟩)) ∧ w'.cell? ⟨xb, 1, none⟩ = some (.pointer (some ⟨rb, 0, none⟩))) := hide fun w' S F R G h => by
    have := (show TwK W w' xb sb rb _ _ name from ⟨_, _, _, _, h⟩).cells
    exact ⟨this.1, this.2.1⟩
  have hnl : Hid (0 < n2 → ∀ j, (Value.slice a2 n2 c2).ownBlock = some j → j < W.heap.size) := hide (H2.out.lt0 HN2.out)
  clear hw5 hxb hg0 hup hb4 HF0 hpr hT0 HT
  go_wp2_with fail
  refine (fs_Create sb _ F0 name hname w5 HT1.out.pr.a.rep HT1.out.pr.a.ok).mono ?_
  rintro e w6 ⟨rfl, ht⟩
  obtain ⟨F6, h6⟩ := HT1.out.stepA ht (fsCreate_ok HT1.out.pr.a.ok name)
  have H6 := hide h6
  clear ht h6 x0 x1 x2 x3 x4
  obtain ⟨x0, x1⟩ := hxl.out _ _ _ _ _ H6.out
  go_wp2_with fail
  refine (fs_Append sb _ F6 name hname a2 n2 c2 b2 w6 H6.out.pr.a.rep H6.out.pr.a.ok (H2.out.low H6.out.pr.a.low) HN2.out (by omega) (fun hp j hj hm => by have := hnl.out hp j hj; have := H6.out.pr.a.up j hm; omega)).mono ?_
  rintro e w7 ⟨rfl, ht⟩
  obtain ⟨F7, h7⟩ := H6.out.stepA ht (fsAppend_ok H6.out.pr.a.ok name b2)
  have H7 := hide h7
  clear ht h7 x0 x1
  obtain ⟨x0, x1⟩ := hxl.out _ _ _ _ _ H7.out
  go_wp2_with fail
  refine (rf_Create rb _ G0 name hname w7 H7.out.pr.b.rep H7.out.pr.b.ok).mono ?_
  rintro e w8 ⟨rfl, ht⟩
  obtain ⟨G8, h8⟩ := H7.out.stepB ht (fsCreate_ok H7.out.pr.b.ok name)
  have H8 := hide h8
  clear ht h8 x0 x1
  obtain ⟨x0, x1⟩ := hxl.out _ _ _ _ _ H8.out
  go_wp2_with fail
  refine (rf_Append rb _ G8 name hname a2 n2 c2 b2 w8 H8.out.pr.b.rep H8.out.pr.b.ok (H2.out.low H8.out.pr.b.low) HN2.out (by omega) (fun hp j hj hm => by have := hnl.out hp j hj; have := H8.out.pr.b.up j hm; omega)).mono ?_
  rintro e w9 ⟨rfl, ht⟩
  obtain ⟨G9, h9⟩ := H8.out.stepB ht (fsAppend_ok H8.out.pr.b.ok name b2)
  have H9 := hide h9
  clear ht h9 x0 x1
  go_wp2_with fail
  refine (law_topen xb sb rb _ F7 G9 name _ _ W w9 H9.out (by omega)).mono ?_
  rintro e wA ⟨rfl, tv, SA, FA, GA, hE⟩
  have HLOW := hide (TwE.low ⟨SA, FA, GA, hE⟩)
  rcases hE with ⟨rfl, hT⟩ | ⟨tb, ub, rfl, hT⟩
  · obtain ⟨x0, x1, x2, x3, x4⟩ := (show TwK W wA xb sb rb _ _ name from ⟨_, _, _, _, hT⟩).cells
    clear hT
    go_wp2
    go_ret
    exact ⟨rfl, HLOW.out⟩
  have hxc : Hid (∀ w' S F R G tb ub, Tw W w' sb S F rb R G [(xb, twoO sb rb (.pointer (some ⟨tb, 0, none⟩)) (.pointer (some ⟨ub, 0, none⟩)) name), (tb, tpO sb name), (ub, rtO rb name)] → w'.cell? ⟨xb, 0, none⟩ = some (.pointer (some ⟨sb, 0, none⟩)) ∧ w'.cell? ⟨xb, 1, none⟩ = some (.pointer (some ⟨rb, 0, none⟩)) ∧ w'.cell? ⟨xb, 2, none⟩ = some (.pointer (some ⟨tb, 0, none⟩))) := hide fun w' S F R G tb ub h => by
    have := (show TwK W w' xb sb rb (.pointer (some ⟨tb, 0, none⟩)) (.pointer (some ⟨ub, 0, none⟩)) name from ⟨S, F, R, G, h.less (fun p hp => by rw [List.mem_singleton] at hp; subst hp; exact List.mem_cons_self)⟩).cells
    exact ⟨this.1, this.2.1, this.2.2.1⟩
  have hst : Hid (∃ S F G tb ub, Tw W wA sb S F rb S G [(xb, twoO sb rb (.pointer (some ⟨tb, 0, none⟩)) (.pointer (some ⟨ub, 0, none⟩)) name), (tb, tpO sb name), (ub, rtO rb name)]) := hide ⟨_, _, _, _, _, hT⟩
  obtain ⟨x0, x1, x2⟩ := hxc.out _ _ _ _ _ _ _ hT
  clear hT HLOW HT1 H6 H7 H8 H9 hxl
  go_wp2
  go_loopw [11] (fun iv wr => ∃ (i : Nat), iv = .int .i64 i ∧ i ≤ L.length ∧ Hid (∃ S F G tb ub, Tw W wr sb S F rb S G [(xb, twoO sb rb (.pointer (some ⟨tb, 0, none⟩)) (.pointer (some ⟨ub, 0, none⟩)) name), (tb, tpO sb name), (ub, rtO rb name)])) (fun iv _ => match iv with | .int _ j => L.length - j.toNat | _ => 0)
  case atStart => exact ⟨0, rfl, Nat.zero_le _, hst⟩
  case round =>
    clear hst x0 x1 x2
    obtain ⟨i, rfl, hil, hs⟩ := hrel
    obtain ⟨S, F, G, tb, ub, hs⟩ := hs.out
    have HS := hide hs
    clear hs
    by_cases hin : i < L.length
    · have i0 : (i : Int) < L.length := by omega
      obtain ⟨bb, off, cc, o, he, hLo, hbb, hok, c0, c1, c2, c3, c4, c5⟩ := (H.out.low HS.out.pr.a.low).at hin
      simp only [Value.slice.injEq] at he
      obtain ⟨rfl, -, rfl⟩ := he
      have HOK := hide (H.out.2.1 o (by rw [← hLo]; exact List.getElem_mem hin))
      have HLO := hide (HLI.out o (by rw [← hLo]; exact List.getElem_mem hin))
      have hwi : IntKind.i64.wrap ((i : Int) + 1) = (i : Int) + 1 := wrap64 (by omega) (by omega)
      clear hLo hok
      go_wp2_with fail
      refine (law_tdoes xb sb rb tb ub S F G name o W wr HS.out (by omega) HOK.out HLO.out).mono ?_
      rintro e w5' ⟨rfl, tv, S5, F5, G5, hE⟩
      clear c0 c1 c2 c3 c4 c5
      have hP : Hid (Pr W w5' sb S5 F5 rb S5 G5) := hide (by
        rcases hE with ⟨-, hT⟩ | ⟨tb, ub, -, hT⟩
        · exact hT.pr
        · exact hT.pr)
      have hE5 : Hid (∀ w', Below w5'.heap.size w5' w' → TwE W w' xb sb rb name tv) := hide fun w' hb => by
        rcases hE with ⟨e, hT⟩ | ⟨tb, ub, e, hT⟩
        · exact ⟨S5, F5, G5, .inl ⟨e, hT.then hb⟩⟩
        · exact ⟨S5, F5, G5, .inr ⟨tb, ub, e, hT.then hb⟩⟩
      have hx5 : Hid (∀ w', Below w5'.heap.size w5' w' → w'.cell? ⟨xb, 0, none⟩ = some (.pointer (some ⟨sb, 0, none⟩)) ∧ w'.cell? ⟨xb, 1, none⟩ = some (.pointer (some ⟨rb, 0, none⟩)) ∧ w'.cell? ⟨xb, 2, none⟩ = some tv) := hide fun w' hb => by
        obtain ⟨S', F', G', ⟨e, hT⟩ | ⟨tb, ub, e, hT⟩⟩ := hE5.out w' hb
        · subst e
          have := (show TwK W w' xb sb rb _ _ name from ⟨_, _, _, _, hT⟩).cells
          exact ⟨this.1, this.2.1, this.2.2.1⟩
        · subst e
          exact hxc.out _ _ _ _ _ _ _ hT
      clear hE
      go_wp2_with fail
      refine wp_region_three 14 140 (by kernel_rfl) (by kernel_rfl) rfl (by kernel_rfl) (fun D v w' => Below w5'.heap.size w5' w') (fun _ => undef) (Below.refl _ _).drew ?_
      simp only [List.take_succ_cons, List.take_zero, List.drop_succ_cons, List.drop_zero]
      iterate 11 (refine Hav3.read (e := ?_) (fun v => by rfl) (fun D v w h => h) (fun D v w' hD hS => ?_) ?_; rotate_left; (obtain ⟨x0, x1, x2⟩ := hx5.out w' hS; clear hS hD; first | (go_simp; done) | (go_simp; with_reducible rfl)); go_simp)
      refine Hav3.call (.int .i64 1) (fun v => by rfl) (fun D v w' hD hS => ?_) ?_
      · have HSS := hide hS
        clear hS hD
        go_simp
        go_at_call 14
        refine (law_Same sb rb S5 F5 G5 W w' (hP.out.then HSS.out)).mono ?_
        rintro e w'' ⟨rfl, hb⟩
        exact ⟨rfl, HSS.out.trans (hb.mono HSS.out.size)⟩
      go_simp
      iterate 2 (refine Hav3.read (e := ?_) (fun v => by rfl) (fun D v w h => h) (fun D v w' hD hS => ?_) ?_; rotate_left; (skip; clear hS hD; first | (go_simp; done) | (go_simp; with_reducible rfl)); go_simp)
      refine Hav3.fin (fun v w6 hS => ?_)
      obtain ⟨x0, x1, x2⟩ := hx5.out w6 hS
      have hE6 := hE5.out w6 hS
      have HL6 := hide hE6.low
      obtain ⟨S6, F6, G6, ⟨rfl, hT⟩ | ⟨tb, ub, rfl, hT⟩⟩ := hE6
      · clear hT hS
        go_wp2
        go_ret
        exact ⟨rfl, HL6.out⟩
      · have HT6 : Hid (∃ S F G tb ub, Tw W w6 sb S F rb S G [(xb, twoO sb rb (.pointer (some ⟨tb, 0, none⟩)) (.pointer (some ⟨ub, 0, none⟩)) name), (tb, tpO sb name), (ub, rtO rb name)]) := hide ⟨_, _, _, _, _, hT⟩
        clear hT hS
        go_wp2
        exact ⟨⟨i + 1, by simp, hin, HT6⟩, by show L.length - ((i : Int) + 1).toNat < L.length - ((i : Nat) : Int).toNat; omega⟩
    · have hd : decide ((i : Int) < L.length) = false := decide_eq_false (by omega)
      have hxr : Hid (∀ w', Below wr.heap.size wr w' → w'.cell? ⟨xb, 0, none⟩ = some (.pointer (some ⟨sb, 0, none⟩)) ∧ w'.cell? ⟨xb, 1, none⟩ = some (.pointer (some ⟨rb, 0, none⟩)) ∧ w'.cell? ⟨xb, 2, none⟩ = some (.pointer (some ⟨tb, 0, none⟩))) := hide fun w' hb => hxc.out _ _ _ _ _ _ _ (HS.out.then hb)
      go_wp2_with fail
      refine wp_region_three 11 140 (by kernel_rfl) (by kernel_rfl) rfl (by kernel_rfl) (fun D v w' => Below wr.heap.size wr w') (fun _ => undef) (Below.refl _ _).drew ?_
      simp only [List.take_succ_cons, List.take_zero, List.drop_succ_cons, List.drop_zero]
      iterate 8 (refine Hav3.read (e := ?_) (fun v => by rfl) (fun D v w h => h) (fun D v w' hD hS => ?_) ?_; rotate_left; (obtain ⟨x0, x1, x2⟩ := hxr.out w' hS; clear hS hD; first | (go_simp; done) | (go_simp; with_reducible rfl)); go_simp)
      refine Hav3.call (.int .i64 1) (fun v => by rfl) (fun D v w' hD hS => ?_) ?_
      · have HSS := hide hS
        clear hS hD
        go_simp
        go_at_call 14
        refine (law_Same sb rb S F G W w' (HS.out.pr.then HSS.out)).mono ?_
        rintro e w'' ⟨rfl, hb⟩
        exact ⟨rfl, HSS.out.trans (hb.mono HSS.out.size)⟩
      go_simp
      iterate 2 (refine Hav3.read (e := ?_) (fun v => by rfl) (fun D v w h => h) (fun D v w' hD hS => ?_) ?_; rotate_left; (skip; clear hS hD; first | (go_simp; done) | (go_simp; with_reducible rfl)); go_simp)
      refine Hav3.fin (fun v w6 hS => ?_)
      have HB6 := hide (HS.out.pr.a.low.trans (hS.mono HS.out.pr.a.low.size))
      clear hS
      go_wp2
      go_ret
      exact ⟨rfl, HB6.out⟩
theorem law_TapeDoes (W : World) (room : Int) (lo : -9223372036854775808 ≤ room) (hi : room ≤ 9223372036854775807) (name : Bs) (hname : name.length ≤ maxLen) (a2 : Option Addr) (c2 : Nat) (b2 : Bs) (h2 : RdB W (.slice a2 b2.length c2) b2) (_ : b2.length ≤ c2) (_ : c2 ≤ 9223372036854775807) (v : Value) (L : List Opt) (h : RdOpts W v L) :
    Calls Tryz.prog 3 #[.int .i64 room, .string ⟨name.toArray⟩, .slice a2 b2.length c2, v] W fun e w' => e = .returned (.bool true) ∧ Below W.heap.size W w' :=
  law_TapeDoes0 W room lo hi name hname a2 _ c2 b2 h2 rfl v L h
end Go.Proofs.YtglgjakjhkdoaaaGreatDoor

/-
  Open of any files: the document's.
-/
import Derived.Test.YtcgkhocmlolknaaDoD
namespace Go.Proofs.Ytcgkhocmlolknaa
open Go.RowKit Go.Maps
set_option linter.unusedVariables false
set_option linter.unusedSimpArgs false

/-- what the document's Open tells -/
def OpToldR (room : Int) (X : List (Bs × Bs)) (w : World) (e : Ending) (w' : World) : Prop :=
  Below w.heap.size w w' ∧ ((opFails room X ∧ e = .returned (.pointer none)) ∨ (opWorks room X ∧ ∃ rb G, e = .returned (.pointer (some ⟨rb, 0, none⟩)) ∧ RfRep w' rb (opS room X X.length) G ∧ ∀ k ∈ G, w.heap.size ≤ k))
structure OpInR (w : World) (room : Int) (X : List (Bs × Bs)) (rb : Nat) (i : Nat) (wr : World) : Prop where
  rep : ∃ G, RfRep wr rb (opS room X i) G ∧ ∀ k ∈ G, w.heap.size ≤ k
  low : Below w.heap.size w wr
  ok : opOk X i

set_option maxRecDepth 100000 in
set_option maxHeartbeats 3200000 in
theorem rf_Open (room : Int) (lo : -9223372036854775808 ≤ room) (hi : room ≤ 9223372036854775807) (a : Option Addr) (n c : Nat) (L : List (Bs × Ent)) (w : World) (h : RdFs w (.slice a n c) L) (hn : n = L.length) (hn12 : n ≤ 12) (ht : total (L.map ct) ≤ 1048576) :
    Calls Try.prog 8 #[.int .i64 room, .slice a n c] w (OpToldR room (L.map ct) w) := by
  have H := hide h
  have HN := hide hn
  have HT := hide ht
  obtain ⟨X, hX⟩ : ∃ X, X = L.map ct := ⟨_, rfl⟩
  have hXl : n = X.length := by rw [hX, List.length_map, hn]
  have HX := hide hX; have HXL := hide hXl
  rw [← hX] at HT ⊢
  clear h hn ht hX hXl
  by_cases hroom : room < 0 ∨ 1048576 < room
  · have HR := hide hroom
    clear hroom
    go_enter Try.func8, Try.ntmps8
    go_wp2_with fail
    refine (rf_New_none room HR.out w).mono ?_
    rintro e w3 ⟨rfl, rfl⟩
    go_wp2
    go_ret
    exact ⟨Below.refl _ _, .inl ⟨HR.out.elim .inl fun h => .inr (.inl h), rfl⟩⟩
  have h0 : 0 ≤ room := by omega
  have h1 : room ≤ 1048576 := by omega
  clear hroom
  by_cases hn8 : 8 < n
  · have hd : decide ((8 : Int) < n) = true := decide_eq_true (by omega)
    go_enter Try.func8, Try.ntmps8
    go_wp2_with fail
    refine (rf_New room h0 h1 w).mono ?_
    rintro e w3 ⟨sb, F, rfl, _, _, hb⟩
    have HB := hide hb
    clear hb
    go_wp2
    go_ret
    exact ⟨HB.out, .inl ⟨.inr (.inr (.inl (by rw [← HXL.out]; exact hn8))), rfl⟩⟩
  have hd8 : decide ((8 : Int) < n) = false := decide_eq_false (by omega)
  go_enter Try.func8, Try.ntmps8
  go_wp2_with fail
  refine (rf_New room h0 h1 w).mono ?_
  rintro e w3 ⟨rb, G, rfl, hr3, hup3, hb3⟩
  have hst : Hid (OpInR w room X rb 0 w3) := hide ⟨⟨G, hr3, hup3⟩, hb3, fun j hj => by omega⟩
  clear hr3 hup3 hb3
  go_wp2_with fail
  go_loopw [6] (fun iv wr => ∃ i : Nat, iv = .int .i64 i ∧ i ≤ n ∧ Hid (OpInR w room X rb i wr)) (fun iv _ => match iv with | .int _ j => n - j.toNat | _ => 0)
  case atStart => exact ⟨0, rfl, Nat.zero_le _, hst⟩
  case round =>
    clear hst
    obtain ⟨i, rfl, hin, hst⟩ := hrel
    obtain ⟨G, hrep, hup⟩ := hst.out.rep
    by_cases hil : i < n
    · have hd : decide ((i : Int) < n) = true := by simpa using hil
      obtain ⟨p, hp⟩ : ∃ p, L[i]? = some p := ⟨_, List.getElem?_eq_getElem (by have := HN.out; omega)⟩
      obtain ⟨bb, off, cc, he, hbb, d0, d1⟩ := (H.out.low hst.out.low).at hp
      simp only [Value.slice.injEq] at he
      obtain ⟨rfl, -, rfl⟩ := he
      have hpe := (H.out.low hst.out.low).ent p (List.mem_of_getElem? hp)
      have hXi : X[i]? = some (ct p) := by rw [HX.out, List.getElem?_map, hp]; rfl
      obtain ⟨pk, pb, xa, xn, xc⟩ := p
      obtain ⟨hrd, hxn, hkl⟩ := hpe
      simp only at d0 d1 hrd hxn hkl
      have hXi2 : Hid (X[i]? = some (pk, pb)) := hide hXi
      have hpt : pb.length ≤ 1048576 := by
        have h5 : total (X.take (i + 1)) = total (X.take i) + pb.length := by rw [List.take_add_one, hXi, total_append]; simp [total, ct]
        have h6 : total X = total (X.take (i + 1)) + total (X.drop (i + 1)) := by rw [← total_append, List.take_append_drop]
        have := HT.out
        omega
      have HRD := hide hrd
      have HXN := hide hxn
      have HUP := hide hup
      have hxl : xn ≤ 1048576 := by omega
      have hwi : IntKind.i64.wrap ((i : Int) + 1) = (i : Int) + 1 := wrap64 (by omega) (by omega)
      obtain ⟨fa, fc, pa, pc, lv, E, Lw, hfi, hF⟩ := hrep
      have hEmap : E.map ct = opSt X i := hfi.files.symm
      have hLw : Lw = [] := by
        have h5 := hfi.waits
        have h6 : (opS room X i).waits = [] := rfl
        rw [h6] at h5
        simpa using h5.symm
      subst hLw
      have hlenE : E.length ≤ 8 := by
        have h5 := congrArg List.length hEmap
        rw [List.length_map] at h5
        have h6 := opSt_len X i
        omega
      have hnmE : ∀ q ∈ E, q.1.length ≤ 16 := fun q hq => by
        have h5 := opSt_names hst.out.ok (ct q) (by rw [← hEmap]; exact List.mem_map_of_mem hq)
        unfold named at h5
        simp only [Bool.and_eq_true, decide_eq_true_eq] at h5
        exact h5.2
      have HFI := hide hfi
      have HF := hide hF
      have hmg : Hid (mget pk (opSt X i) = (mget pk E).map Ent.b) := hide (by
        rw [← hEmap]
        exact mget_ct Ent.b pk E)
      have HLE := hide hlenE
      have HNE := hide hnmE
      have hcl : Hid (∀ w', Below wr.heap.size wr w' → w'.cell? ⟨bb, off + i * 2, none⟩ = some (.string ⟨pk.toArray⟩) ∧ w'.cell? ⟨bb, off + i * 2 + 1, none⟩ = some (.slice xa xn xc)) := hide fun w' hw => ⟨(hw.cell (p := ⟨bb, off + i * 2, none⟩) hbb).trans d0, (hw.cell (p := ⟨bb, off + i * 2 + 1, none⟩) hbb).trans d1⟩
      have HF4 := hide (rf_find rb (opS room X i) fa pa fc pc lv E [] pk hkl hlenE hnmE wr hfi)
      obtain ⟨bo, hbo⟩ : ∃ bo, bo = (mget pk E).isSome := ⟨_, rfl⟩
      obtain ⟨po, hpo⟩ : ∃ po, po = posF pk E := ⟨_, rfl⟩
      rw [← hbo, ← hpo] at HF4
      have HBO := hide hbo
      clear hp hXi hrd hxn hup hF hfi hpt hEmap hlenE hnmE hbo hpo
      go_wp2_with fail
      refine HF4.out.mono ?_
      rintro e w4 ⟨rfl, hb4⟩
      have HB4 := hide hb4
      have hlw : Hid (Below w.heap.size w w4) := hide (hst.out.low.trans (hb4.mono hst.out.low.size))
      clear hb4 d0 d1
      obtain ⟨d0, d1⟩ := hcl.out w4 HB4.out
      cases bo with
      | true =>
        have hfail : Hid (opFails room X) := hide (.inr (.inr (.inr (.inl ⟨i, by rw [← HXL.out]; exact hil, hst.out.ok, by rw [opBad_at hXi2.out, hmg.out, Option.isSome_map, ← HBO.out]; rfl⟩))))
        go_wp2
        go_ret
        exact ⟨hlw.out, .inl ⟨hfail.out, rfl⟩⟩
      | false =>
        obtain ⟨nm, hnm⟩ : ∃ nm, nm = named pk := ⟨_, rfl⟩
        have HNM := hide hnm
        clear hnm
        go_wp2_with fail
        refine (rf_named pk hkl w4).mono ?_
        rintro e w' ⟨rfl, rfl⟩
        rw [← HNM.out]
        cases nm with
        | false =>
          have hfail : Hid (opFails room X) := hide (.inr (.inr (.inr (.inl ⟨i, by rw [← HXL.out]; exact hil, hst.out.ok, by rw [opBad_at hXi2.out, ← HNM.out]; simp⟩))))
          go_wp2
          go_ret
          exact ⟨hlw.out, .inl ⟨hfail.out, rfl⟩⟩
        | true =>
          have hgood : Hid (opBad X i = false) := hide (by rw [opBad_at hXi2.out, hmg.out, Option.isSome_map, ← HBO.out, ← HNM.out]; rfl)
          have hno : Hid (mget pk E = none) := hide (by
            have := HBO.out
            cases hg : mget pk E with
            | none => rfl
            | some v => rw [hg] at this; cases this)
          have HFI4 := hide (HFI.out.low HB4.out)
          have hrd4 := HRD.out.low HB4.out
          have HRD4 := hide hrd4
          clear hrd4
          go_upto_region 12 with (at_builtin; refine wpList_clone_rd rfl (.tmp 45) (.tmp 50) 27 rfl 5 Try.underlying27 (by kernel_rfl) rfl (.slice xa xn xc) pb rfl HRD4.out (by have := HXN.out; omega) ?_; intro oa oc w5 hown hb5; rw [← HXN.out] at hown ⊢; have HOWN := hide hown; have HB5 := hide hb5; clear hown hb5)
          have HFI5 := hide (HFI4.out.low HB5.out)
          have hxe : Hid (EX w5 (⟨pb, oa, xn, oc⟩ : Ent)) := hide ⟨ownsRow_base HOWN.out (Nat.zero_le _), HXN.out⟩
          have hnd : Hid ((ebs ((pk, (⟨pb, oa, xn, oc⟩ : Ent)) :: E ++ [])).Nodup) := hide (by
            have h5 := HFI5.out.ex
            rw [List.append_nil] at h5 ⊢
            rw [ebs_cons]
            refine List.nodup_append.2 ⟨?_, h5, fun x hx y hy e => ?_⟩
            · cases (Ent.v ⟨pb, oa, xn, oc⟩).ownBlock <;> simp
            · subst e
              have h6 := (HOWN.out.lt x (by have h6' : x ∈ (Value.slice oa xn oc).ownBlock.toList := hx; simpa using h6')).1
              have h7 := HFI4.out.lt x (by rw [rfBl_G0]; exact List.mem_append_right _ (by rw [List.append_nil]; exact hy))
              omega)
          clear d0 d1
          obtain ⟨d0, d1⟩ := hcl.out w5 (HB4.out.trans (HB5.out.mono HB4.out.size))
          go_wp2_with fail
          refine (rf_insert rb (opS room X i) fa pa fc pc lv E [] pk pb oa xn oc hkl HLE.out HNE.out w5 HFI5.out hxe.out hnd.out hno.out).mono ?_
          rintro e w6 ⟨rfl, hmid⟩
          have hst2 : Hid (OpInR w room X rb (i + 1) w6) := hide (by
            obtain ⟨fa', fc', pa', pc', h5, h6⟩ := hmid
            have e1 : ({ opS room X i with files := mput strL pk pb (opS room X i).files } : FsS) = opS room X (i + 1) := by
              unfold opS
              rw [opSt_step hXi2.out]
            rw [e1] at h5
            have hlw5 : Below w.heap.size w w5 := hlw.out.trans (HB5.out.mono hlw.out.size)
            have hG0 : ∀ k ∈ G0 rb fa pa, w.heap.size ≤ k := fun k hk => HUP.out k (by rw [HF.out, rfBl_G0]; exact List.mem_append_left _ hk)
            refine ⟨⟨_, ⟨fa', fc', pa', pc', lv, _, [], h5, rfl⟩, fun k hk => ?_⟩, hlw5.trans (h6.below hlw5.size hG0), hst.out.ok.step hgood.out⟩
            rw [rfBl_G0] at hk
            rcases List.mem_append.1 hk with hk | hk
            · rcases h6.fresh k hk with h7 | h7
              · exact hG0 k h7
              · have := hlw5.size; omega
            · rw [List.append_nil] at hk
              have h7 := (ebs_perm (mput_perm (e := (⟨pb, oa, xn, oc⟩ : Ent)) hno.out)).mem_iff.1 hk
              rw [ebs_cons] at h7
              rcases List.mem_append.1 h7 with h8 | h8
              · have h9 := (HOWN.out.lt k (by have h6' : k ∈ (Value.slice oa xn oc).ownBlock.toList := h8; simpa using h6')).1
                have := hlw.out.size
                omega
              · exact HUP.out k (by rw [HF.out, rfBl_G0, List.append_nil]; exact List.mem_append_right _ h8))
          clear hmid
          go_wp2
          refine ⟨⟨i + 1, by simp, hil, hst2⟩, ?_⟩
          show n - ((i : Int) + 1).toNat < n - ((i : Nat) : Int).toNat
          omega
    · obtain rfl : i = n := by omega
      have hd : decide ((i : Int) < i) = false := by simp
      have HREP := hide hrep
      have HUP := hide hup
      have hokB := hide (opS_okB (room := room) hst.out.ok (by omega) HT.out)
      have hus : Hid ((opS room X i).used = total (opSt X i)) := hide rfl
      obtain ⟨tt, htt⟩ : ∃ tt, tt = total (opSt X i) := ⟨_, rfl⟩
      have HTT := hide htt
      clear hrep hup htt
      go_wp2_with fail
      refine (rf_UsedB rb (opS room X i) G wr HREP.out hokB.out).mono ?_
      rintro e w4 ⟨rfl, hb4⟩
      rw [hus.out, ← HTT.out]
      have HB4 := hide (hst.out.low.trans (hb4.mono hst.out.low.size))
      have HREP4 := hide (HREP.out.low hb4)
      clear hb4
      by_cases hbig : room < tt
      · have hd2 : decide (room < (tt : Int)) = true := decide_eq_true hbig
        have hfail : Hid (opFails room X) := hide (.inr (.inr (.inr (.inr ⟨by rw [← HXL.out]; exact hst.out.ok, by rw [← HXL.out, ← HTT.out]; exact hbig⟩))))
        clear hbig
        go_wp2
        go_ret
        exact ⟨HB4.out, .inl ⟨hfail.out, rfl⟩⟩
      · have hd2 : decide (room < (tt : Int)) = false := decide_eq_false hbig
        have hwk : Hid (opWorks room X) := hide ⟨h0, h1, by rw [← HXL.out]; omega, by rw [← HXL.out]; exact hst.out.ok, by rw [← HXL.out, ← HTT.out]; omega⟩
        clear hbig
        go_wp2
        go_ret
        exact ⟨HB4.out, .inr ⟨hwk.out, rb, G, rfl, by rw [← HXL.out]; exact HREP4.out, HUP.out⟩⟩
end Go.Proofs.Ytcgkhocmlolknaa

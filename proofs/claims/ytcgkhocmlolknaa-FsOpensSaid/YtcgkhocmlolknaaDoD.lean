/-
  Open of any files: plain; rows of files that came in.
-/
import Derived.Test.YtcgkhocmlolknaaDoC
namespace Go.Proofs.Ytcgkhocmlolknaa
open Go.RowKit Go.Maps
set_option linter.unusedVariables false
set_option linter.unusedSimpArgs false

/-- files that were laid in, one behind the other -/
def opSt (X : List (Bs × Bs)) : Nat → List (Bs × Bs)
  | 0 => []
  | i + 1 => match X[i]? with
    | some p => mput strL p.1 p.2 (opSt X i)
    | none => opSt X i
def opBad (X : List (Bs × Bs)) (i : Nat) : Bool := match X[i]? with
  | some p => (mget p.1 (opSt X i)).isSome || !named p.1
  | none => false
def opOk (X : List (Bs × Bs)) (i : Nat) : Prop := ∀ j, j < i → opBad X j = false
def opS (room : Int) (X : List (Bs × Bs)) (i : Nat) : FsS := { fsNew room with files := opSt X i }
theorem opSt_step {X : List (Bs × Bs)} {i : Nat} {p : Bs × Bs} (h : X[i]? = some p) : opSt X (i + 1) = mput strL p.1 p.2 (opSt X i) := by simp [opSt, h]
theorem opBad_at {X : List (Bs × Bs)} {i : Nat} {p : Bs × Bs} (h : X[i]? = some p) : opBad X i = ((mget p.1 (opSt X i)).isSome || !named p.1) := by simp [opBad, h]
theorem opOk.step {X : List (Bs × Bs)} {i : Nat} (h : opOk X i) (hb : opBad X i = false) : opOk X (i + 1) := fun j hj => by
  by_cases e : j = i
  · rw [e]; exact hb
  · exact h j (by omega)
theorem opSt_len (X : List (Bs × Bs)) : ∀ i, (opSt X i).length ≤ i
  | 0 => Nat.le_refl _
  | i + 1 => by
    have ih := opSt_len X i
    unfold opSt
    split
    · rename_i p _
      have := mput_length strL p.1 p.2 (opSt X i)
      omega
    · omega
theorem opSt_total (X : List (Bs × Bs)) : ∀ i, total (opSt X i) ≤ total (X.take i)
  | 0 => by simp [opSt, total]
  | i + 1 => by
    have ih := opSt_total X i
    rw [List.take_add_one]
    unfold opSt
    split
    · rename_i p hp
      rw [hp, total_append, mput_total]
      have := mdel_total p.1 (opSt X i)
      simp [total] at *
      omega
    · rename_i hp
      rw [hp]
      simpa using ih
theorem opSt_names {X : List (Bs × Bs)} : ∀ {i : Nat}, opOk X i → ∀ p ∈ opSt X i, named p.1 = true
  | 0, _, p, hp => by cases hp
  | i + 1, h, p, hp => by
    have ih := opSt_names (i := i) fun j hj => h j (by omega)
    have hb := h i (by omega)
    cases hx : X[i]? with
    | none =>
      simp only [opSt, hx] at hp
      exact ih p hp
    | some q =>
      rw [opSt_step hx] at hp
      rw [opBad_at hx] at hb
      simp only [Bool.or_eq_false_iff, Bool.not_eq_false'] at hb
      rcases (mput_mem _ _ _ _ _).1 hp with rfl | ⟨h1, _⟩
      · exact hb.2
      · exact ih p h1
/-- what Open tells: where it is none -/
def opFails (room : Int) (X : List (Bs × Bs)) : Prop := room < 0 ∨ 1048576 < room ∨ 8 < X.length ∨ (∃ i, i < X.length ∧ opOk X i ∧ opBad X i = true) ∨ (opOk X X.length ∧ room < total (opSt X X.length))
def opWorks (room : Int) (X : List (Bs × Bs)) : Prop := 0 ≤ room ∧ room ≤ 1048576 ∧ X.length ≤ 8 ∧ opOk X X.length ∧ (total (opSt X X.length) : Int) ≤ room
theorem op_apart {room : Int} {X : List (Bs × Bs)} (h : opFails room X) (k : opWorks room X) : False := by
  obtain ⟨k1, k2, k3, k4, k5⟩ := k
  rcases h with h | h | h | ⟨i, h1, _, h2⟩ | ⟨_, h⟩
  · omega
  · omega
  · omega
  · rw [k4 i h1] at h2
    cases h2
  · omega
theorem opS_ok {room : Int} {X : List (Bs × Bs)} (h : opWorks room X) : (opS room X X.length).Ok := by
  obtain ⟨k1, k2, k3, k4, k5⟩ := h
  refine ⟨k1, k2, ?_, Nat.le_trans (opSt_len X _) k3, opSt_names k4, (fun p hp => by cases hp), (fun n hn => by cases hn)⟩
  show ((total (opSt X X.length) + total [] : Nat) : Int) ≤ room
  have : total [] = 0 := rfl
  omega
theorem opS_okB {room : Int} {X : List (Bs × Bs)} {i : Nat} (h : opOk X i) (hi : i ≤ 8) (ht : total X ≤ 1048576) : (opS room X i).OkB := by
  refine ⟨?_, Nat.le_trans (opSt_len X i) hi, opSt_names h, (fun p hp => by cases hp)⟩
  show total (opSt X i) + total [] ≤ 1048576
  have h1 := opSt_total X i
  have h2 : total [] = 0 := rfl
  have h3 : total X = total (X.take i) + total (X.drop i) := by rw [← total_append, List.take_append_drop]
  omega

/-- files that came in -/
structure RdFs (w : World) (x : Value) (L : List (Bs × Ent)) : Prop where
  row : Rd w x 2 L.length (eflat L)
  ent : ∀ p ∈ L, RdB w p.2.v p.2.b ∧ p.2.n = p.2.b.length ∧ p.1.length ≤ maxLen
theorem RdFs.low {w w' : World} {x : Value} {L : List (Bs × Ent)} (h : RdFs w x L) (hb : Below w.heap.size w w') : RdFs w' x L := ⟨Rd.low h.row hb, fun p hp => ⟨(h.ent p hp).1.low hb, (h.ent p hp).2⟩⟩
theorem RdFs.at {w : World} {x : Value} {L : List (Bs × Ent)} (h : RdFs w x L) {i : Nat} {p : Bs × Ent} (hi : L[i]? = some p) : ∃ bb off c, x = .slice (some ⟨bb, off, none⟩) L.length c ∧ bb < w.heap.size ∧ w.cell? ⟨bb, off + i * 2, none⟩ = some (.string ⟨p.1.toArray⟩) ∧ w.cell? ⟨bb, off + i * 2 + 1, none⟩ = some (.slice p.2.a p.2.n p.2.c) := by
  obtain ⟨hil, rfl⟩ := List.getElem?_eq_some_iff.1 hi
  obtain ⟨bb, off, c, rfl, hc, hb⟩ := Rd.addr h.row (by omega) (by omega)
  obtain ⟨g1, g2⟩ := eflat_get hil
  refine ⟨bb, off, c, rfl, hb, ?_, ?_⟩
  · have := hc _ _ g1
    rw [Nat.mul_comm] at this
    exact this
  · have := hc _ _ g2
    rw [show 2 * i + 1 = i * 2 + 1 by omega, ← Nat.add_assoc] at this
    exact this
theorem RdFs.head {w : World} {x : Value} {L : List (Bs × Ent)} (h : RdFs w x L) : ∃ a c, x = .slice a L.length c := Rd.head h.row

theorem run_mlook_ok {κ ν : Type} [DecidableEq κ] {P : Program} {kT : TypeId} {kv : κ → Value} {kl : κ → Lit} {ok : κ → Prop} {w : World} {sh : Value → Bool} {f : ν → Value} {b : Nat} {E : List (κ × ν)} (K : KeyAs P kT kv kl ok) (t e : TypeId) (ht : P.underlying t = some (.map kT e)) {z : Value} (hz : (zeroValue e).run P w = .ok z w) (hzs : sh z = true)
    (hown : OwnM w P kT kl sh f b E) (k : κ) (hok : ok k) (g : Option ν) (hget : mget k E = g) (u : Value) (hu : (g.map f).getD z = u) (bo : Bool) (hbo : g.isSome = bo) : (Instr.lookup t (.map (some b)) (kv k) true).run P w = .ok (.tuple #[u, .bool bo]) w := by
  obtain ⟨v, ps, hrun, hv⟩ := World.ownsMap.look_ok hown K.keyed ht hz (heldR_of hzs) (K.of k hok)
  rw [MD_at f K.same, hget, hu] at hv
  rw [MD_has f K.same, hget, hbo] at hrun
  obtain ⟨h1, _⟩ := heldR_inv hv
  simp only [Prod.mk.injEq, DataW.held.injEq] at h1
  rw [hrun, ← h1.1]

/-- what Open tells -/
def OpTold (room : Int) (X : List (Bs × Bs)) (w : World) (e : Ending) (w' : World) : Prop :=
  Below w.heap.size w w' ∧ ((opFails room X ∧ e = .returned (.pointer none)) ∨ (opWorks room X ∧ ∃ sb F, e = .returned (.pointer (some ⟨sb, 0, none⟩)) ∧ FsRep w' sb (opS room X X.length) F ∧ ∀ k ∈ F, w.heap.size ≤ k))
/-- under way -/
structure OpIn (w : World) (room : Int) (X : List (Bs × Bs)) (sb : Nat) (i : Nat) (wr : World) : Prop where
  rep : ∃ F, FsRep wr sb (opS room X i) F ∧ ∀ k ∈ F, w.heap.size ≤ k
  low : Below w.heap.size w wr
  ok : opOk X i

set_option maxRecDepth 100000 in
set_option maxHeartbeats 3200000 in
theorem fs_Open (room : Int) (lo : -9223372036854775808 ≤ room) (hi : room ≤ 9223372036854775807) (a : Option Addr) (n c : Nat) (L : List (Bs × Ent)) (w : World) (h : RdFs w (.slice a n c) L) (hn : n = L.length) (hn12 : n ≤ 12) (ht : total (L.map ct) ≤ 1048576) :
    Calls Try.prog 7 #[.int .i64 room, .slice a n c] w (OpTold room (L.map ct) w) := by
  have H := hide h
  have HN := hide hn
  have HT := hide ht
  obtain ⟨X, hX⟩ : ∃ X, X = L.map ct := ⟨_, rfl⟩
  have hXl : n = X.length := by rw [hX, List.length_map, hn]
  have HX := hide hX; have HXL := hide hXl
  rw [← hX] at HT ⊢
  clear h hn ht hX hXl
  by_cases hroom : room < 0 ∨ 1048576 < room
  · have HR := hide hroom
    clear hroom
    go_enter Try.func7, Try.ntmps7
    go_wp2_with fail
    refine (fs_New_none room HR.out w).mono ?_
    rintro e w3 ⟨rfl, rfl⟩
    go_wp2
    go_ret
    exact ⟨Below.refl _ _, .inl ⟨HR.out.elim .inl fun h => .inr (.inl h), rfl⟩⟩
  have h0 : 0 ≤ room := by omega
  have h1 : room ≤ 1048576 := by omega
  clear hroom
  by_cases hn8 : 8 < n
  · have hd : decide ((8 : Int) < n) = true := decide_eq_true (by omega)
    go_enter Try.func7, Try.ntmps7
    go_wp2_with fail
    refine (fs_New room h0 h1 w).mono ?_
    rintro e w3 ⟨sb, F, rfl, _, _, hb⟩
    have HB := hide hb
    clear hb
    go_wp2
    go_ret
    exact ⟨HB.out, .inl ⟨.inr (.inr (.inl (by rw [← HXL.out]; exact hn8))), rfl⟩⟩
  have hd8 : decide ((8 : Int) < n) = false := decide_eq_false (by omega)
  go_enter Try.func7, Try.ntmps7
  go_wp2_with fail
  refine (fs_New room h0 h1 w).mono ?_
  rintro e w3 ⟨sb, F, rfl, hr3, hup3, hb3⟩
  have hst : Hid (OpIn w room X sb 0 w3) := hide ⟨⟨F, hr3, hup3⟩, hb3, fun j hj => by omega⟩
  clear hr3 hup3 hb3
  go_wp2_with fail
  go_loopw [21] (fun iv wr => ∃ i : Nat, iv = .int .i64 i ∧ i ≤ n ∧ Hid (OpIn w room X sb i wr)) (fun iv _ => match iv with | .int _ j => n - j.toNat | _ => 0)
  case atStart => exact ⟨0, rfl, Nat.zero_le _, hst⟩
  case round =>
    clear hst
    obtain ⟨i, rfl, hin, hst⟩ := hrel
    obtain ⟨F, hrep, hup⟩ := hst.out.rep
    by_cases hil : i < n
    · have hd : decide ((i : Int) < n) = true := by simpa using hil
      obtain ⟨p, hp⟩ : ∃ p, L[i]? = some p := ⟨_, List.getElem?_eq_getElem (by have := HN.out; omega)⟩
      obtain ⟨bb, off, cc, he, hbb, d0, d1⟩ := (H.out.low hst.out.low).at hp
      simp only [Value.slice.injEq] at he
      obtain ⟨rfl, -, rfl⟩ := he
      have hpe := (H.out.low hst.out.low).ent p (List.mem_of_getElem? hp)
      have hXi : X[i]? = some (ct p) := by rw [HX.out, List.getElem?_map, hp]; rfl
      obtain ⟨pk, pb, xa, xn, xc⟩ := p
      obtain ⟨hrd, hxn, hkl⟩ := hpe
      simp only at d0 d1 hrd hxn hkl
      have hXi2 : Hid (X[i]? = some (pk, pb)) := hide hXi
      have hpt : pb.length ≤ 1048576 := by
        have h5 : total (X.take (i + 1)) = total (X.take i) + pb.length := by rw [List.take_add_one, hXi, total_append]; simp [total, ct]
        have h6 : total X = total (X.take (i + 1)) + total (X.drop (i + 1)) := by rw [← total_append, List.take_append_drop]
        have := HT.out
        omega
      have HRD := hide hrd
      have HXN := hide hxn
      have HUP := hide hup
      have hxl : xn ≤ 1048576 := by omega
      have hwi : IntKind.i64.wrap ((i : Int) + 1) = (i : Int) + 1 := wrap64 (by omega) (by omega)
      obtain ⟨mb, wv, lp, E, Lw, hfi, hF⟩ := hrep
      have HFI := hide hfi
      have HF := hide hF
      have hmg : Hid (mget pk (opSt X i) = (mget pk E).map Ent.b) := hide (by
        have h5 := hfi.files
        show mget pk (opS room X i).files = _
        rw [h5]
        exact mget_ct Ent.b pk E)
      have hlenE : E.length < maxLen := by
        have h5 := files_len hfi
        have h6 := opSt_len X i
        unfold maxLen
        have h7 : (opS room X i).files = opSt X i := rfl
        rw [h7] at h5
        omega
      clear hp hXi hrd hxn hup hF hfi hpt
      go_upto_region 7 with fail
      have HBA := hide (below_alloc wr (.cells #[.string ⟨pk.toArray⟩, .slice xa xn xc] 34))
      obtain ⟨W3, hW3⟩ : ∃ W3, W3 = wr.alloc (.cells #[.string ⟨pk.toArray⟩, .slice xa xn xc] 34) := ⟨_, rfl⟩
      have hat : W3.heap[wr.heap.size]? = some (.cells #[.string ⟨pk.toArray⟩, .slice xa xn xc] 34 (0, 0)) := by rw [hW3]; exact heap_alloc_at _ _
      have hsz3 : wr.heap.size < W3.heap.size := (Array.getElem?_eq_some_iff.1 hat).1
      rw [← hW3] at HBA ⊢
      have HFI3 := hide (HFI.out.low HBA.out)
      have hcl : Hid (∀ w', Below W3.heap.size W3 w' → w'.cell? ⟨wr.heap.size, 0, none⟩ = some (.string ⟨pk.toArray⟩) ∧ w'.cell? ⟨wr.heap.size, 1, none⟩ = some (.slice xa xn xc) ∧ w'.cell? ⟨sb, 1, none⟩ = some (.map (some mb))) := hide fun w' hw => by
        have h5 := (hw.block _ hsz3).trans hat
        obtain ⟨_, e1, _⟩ := fs_cells (HFI3.out.low hw).blk
        exact ⟨by simp [World.cell?, h5], by simp [World.cell?, h5], e1⟩
      have hbo : ∃ bo, (mget pk E).isSome = bo := ⟨_, rfl⟩
      obtain ⟨bo, hbo⟩ := hbo
      obtain ⟨u0, hu0⟩ : ∃ u0, ((mget pk E).map Ent.v).getD (.slice none 0 0) = u0 := ⟨_, rfl⟩
      have hlk : Hid (∀ W, Below W3.heap.size W3 W → (Instr.lookup 54 (.map (some mb)) (.string ⟨pk.toArray⟩) true).run Try.prog W = .ok (.tuple #[u0, .bool bo]) W) := hide fun W hW =>
        run_mlook_ok keysFs 54 27 Try.underlying54 (zero_bytes _) rfl (HFI3.out.map.low hW) pk hkl _ rfl _ hu0 bo hbo
      have HBO := hide hbo
      have hlow3 := hide (hst.out.low.trans (HBA.out.mono hst.out.low.size))
      clear hbo hu0 hW3 hat d0 d1 hsz3
      go_wp2_with fail
      refine wp_region_three 12 57 (by kernel_rfl) (by kernel_rfl) rfl (by kernel_rfl) (fun D v w' => Below W3.heap.size W3 w') (fun _ => undef) (Below.refl _ _).drew ?_
      simp only [List.take_succ_cons, List.take_zero, List.drop_succ_cons, List.drop_zero]
      iterate 12 (refine Hav3.read (e := ?_) (fun v => by rfl) (fun D v w h => h) (fun D v w' hD hS => ?_) ?_; rotate_left; (obtain ⟨x0, x1, x2⟩ := hcl.out w' hS; have x3 := hlk.out w' hS; clear hS hD; first | (go_simp; done) | (go_simp; with_reducible rfl)); go_simp)
      refine Hav3.fin (fun v w4 hS => ?_)
      obtain ⟨x0, x1, x2⟩ := hcl.out w4 hS
      have HS := hide hS
      clear hS
      cases bo with
      | true =>
        have hfail : Hid (opFails room X) := hide (.inr (.inr (.inr (.inl ⟨i, by rw [← HXL.out]; exact hil, hst.out.ok, by rw [opBad_at hXi2.out, hmg.out, Option.isSome_map, HBO.out]; rfl⟩))))
        have hlw : Hid (Below w.heap.size w w4) := hide (hlow3.out.trans (HS.out.mono hlow3.out.size))
        clear x2
        go_wp2
        go_ret
        exact ⟨hlw.out, .inl ⟨hfail.out, rfl⟩⟩
      | false =>
        obtain ⟨nm, hnm⟩ : ∃ nm, nm = named pk := ⟨_, rfl⟩
        have HNM := hide hnm
        clear hnm
        have hlw : Hid (Below w.heap.size w w4) := hide (hlow3.out.trans (HS.out.mono hlow3.out.size))
        go_wp2_with fail
        refine (fs_named pk hkl w4).mono ?_
        rintro e w' ⟨rfl, rfl⟩
        rw [← HNM.out]
        cases nm with
        | false =>
          have hfail : Hid (opFails room X) := hide (.inr (.inr (.inr (.inl ⟨i, by rw [← HXL.out]; exact hil, hst.out.ok, by rw [opBad_at hXi2.out, ← HNM.out]; simp⟩))))
          go_wp2
          go_ret
          exact ⟨hlw.out, .inl ⟨hfail.out, rfl⟩⟩
        | true =>
          have hgood : Hid (opBad X i = false) := hide (by rw [opBad_at hXi2.out, hmg.out, Option.isSome_map, HBO.out, ← HNM.out]; rfl)
          have HFI4 := hide (HFI3.out.low HS.out)
          have HRD4 := hide ((HRD.out.low HBA.out).low HS.out)
          have hcl4 : Hid (∀ w', Below w4.heap.size w4 w' → w'.cell? ⟨wr.heap.size, 0, none⟩ = some (.string ⟨pk.toArray⟩) ∧ w'.cell? ⟨wr.heap.size, 1, none⟩ = some (.slice xa xn xc) ∧ w'.cell? ⟨sb, 1, none⟩ = some (.map (some mb))) := hide fun w' hw => hcl.out w' (HS.out.trans (hw.mono HS.out.size))
          clear x0 x1 x2
          go_wp2_with fail
          refine wp_region_three 9 57 (by kernel_rfl) (by kernel_rfl) rfl (by kernel_rfl) (fun D v w' => Below w4.heap.size w4 w' ∧ (D 8 = true → ∃ a' c', v 8 = .slice a' xn c' ∧ w'.ownsRow w4.heap.size 5 1 (.slice a' xn c') xn (bcells pb))) (fun _ => undef) ⟨(Below.refl _ _).drew, fun h => by cases h⟩ ?_
          simp only [List.take_succ_cons, List.take_zero, List.drop_succ_cons, List.drop_zero]
          iterate 8 (refine Hav3.read (e := ?_) (fun v => by rfl) (fun D v w h => h) (fun D v w' hD hS => ?_) ?_; rotate_left; (obtain ⟨x0, x1, x2⟩ := hcl4.out w' hS.1; clear hS hD; first | (go_simp; done) | (go_simp; with_reducible rfl)); go_simp)
          refine Hav3.rel (fun v => by rfl) (fun D v w' hD hS => ?_) ?_
          · have HS5 := hide hS.1
            clear hS hD
            go_simp
            go_at_call 20
            refine (bt_Clone xa xn xc pb w' (HRD4.out.low HS5.out) HXN.out (by omega)).mono ?_
            rintro e w'' ⟨a', c', rfl, hf⟩
            exact ⟨HS5.out.trans (hf.2.2.mono HS5.out.size), fun _ => ⟨a', c', rfl, ownsRow_base hf.1 HS5.out.size⟩⟩
          go_simp
          refine Hav3.fin (fun v w5 hS => ?_)
          obtain ⟨a', c', hv8, hown⟩ := hS.2 rfl
          have HS5 := hide hS.1
          have HOWN := hide hown
          have HFI5 := hide (HFI4.out.low HS5.out)
          have hm5 := hide HFI5.out.map
          rw [hv8]
          clear hS hv8 hown
          go_wp2_with (at_mapUpdate; refine wpList_mput keysFs rfl _ _ _ 54 rfl 27 Try.underlying54 rfl hm5.out hlenE pk rfl hkl ⟨pb, a', xn, c'⟩ rfl rfl ?_; intro w6 hm6 hg6 hs6; have HM6 := hide hm6; have HG6 := hide hg6; clear hm6 hg6 hs6)
          refine ⟨⟨i + 1, by simp, hil, hide ?_⟩, ?_⟩
          · have hent : EntOk w5 (muts sb mb wv lp) ⟨pb, a', xn, c'⟩ := by
              have hcap := ownsRow_cap HOWN.out
              have hr9 := ownsRow_rd HOWN.out
              refine ⟨by unfold RdB; rw [← HXN.out]; exact hr9, HXN.out, hcap.1, hcap.2, fun k hk => ?_⟩
              have h9 := HOWN.out.lt k hk
              exact ⟨fun hm => by have := HFI4.out.mut_lt k hm; omega, h9.2⟩
            have hnew := HFI5.out.mapTo (s' := opS room X (i + 1)) HM6.out HG6.out rfl rfl rfl (by show opSt X (i + 1) = _; rw [opSt_step hXi2.out, ← mput_files HFI5.out]; rfl) rfl (fun p hp => by
              rcases (mput_mem _ _ _ _ _).1 hp with rfl | ⟨h5, _⟩
              · exact .inr hent
              · exact .inl h5)
            have hmbW : w.heap.size ≤ mb := HUP.out mb (by rw [HF.out]; exact mem_fpOf.2 (.inl (by simp [muts])))
            have hlw5 : Below w.heap.size w w5 := hlw.out.trans (HS5.out.mono hlw.out.size)
            refine ⟨⟨_, ⟨mb, wv, lp, _, Lw, hnew, rfl⟩, fun k hk => ?_⟩, hlw5.grown HG6.out hlw5.size (fun k hk => by simp only [Option.some.injEq] at hk; omega), hst.out.ok.step hgood.out⟩
            rcases mem_fpOf.1 hk with h5 | ⟨p, hp, h5⟩
            · exact HUP.out k (by rw [HF.out]; exact mem_fpOf.2 (.inl h5))
            · rcases List.mem_append.1 hp with hp | hp
              · rcases (mput_mem _ _ _ _ _).1 hp with rfl | ⟨h6, _⟩
                · have := (HOWN.out.lt k h5).1
                  have := hlw.out.size
                  omega
                · exact HUP.out k (by rw [HF.out]; exact mem_fpOf.2 (.inr ⟨p, List.mem_append_left _ h6, h5⟩))
              · exact HUP.out k (by rw [HF.out]; exact mem_fpOf.2 (.inr ⟨p, List.mem_append_right _ hp, h5⟩))
          · show n - ((i : Int) + 1).toNat < n - ((i : Nat) : Int).toNat
            omega
    · obtain rfl : i = n := by omega
      have hd : decide ((i : Int) < i) = false := by simp
      have HREP := hide hrep
      have HUP := hide hup
      have hokB := hide (opS_okB (room := room) hst.out.ok (by omega) HT.out)
      have hus : Hid ((opS room X i).used = total (opSt X i)) := hide rfl
      obtain ⟨tt, htt⟩ : ∃ tt, tt = total (opSt X i) := ⟨_, rfl⟩
      have HTT := hide htt
      clear hrep hup htt
      go_wp2_with fail
      refine (fs_UsedB sb (opS room X i) F wr HREP.out hokB.out).mono ?_
      rintro e w4 ⟨rfl, hb4⟩
      rw [hus.out, ← HTT.out]
      have HB4 := hide (hst.out.low.trans (hb4.mono hst.out.low.size))
      have HREP4 := hide (HREP.out.low hb4)
      clear hb4
      by_cases hbig : room < tt
      · have hd2 : decide (room < (tt : Int)) = true := decide_eq_true hbig
        have hfail : Hid (opFails room X) := hide (.inr (.inr (.inr (.inr ⟨by rw [← HXL.out]; exact hst.out.ok, by rw [← HXL.out, ← HTT.out]; exact hbig⟩))))
        clear hbig
        go_wp2
        go_ret
        exact ⟨HB4.out, .inl ⟨hfail.out, rfl⟩⟩
      · have hd2 : decide (room < (tt : Int)) = false := decide_eq_false hbig
        have hwk : Hid (opWorks room X) := hide ⟨h0, h1, by rw [← HXL.out]; omega, by rw [← HXL.out]; exact hst.out.ok, by rw [← HXL.out, ← HTT.out]; omega⟩
        clear hbig
        go_wp2
        go_ret
        exact ⟨HB4.out, .inr ⟨hwk.out, sb, F, rfl, by rw [← HXL.out]; exact HREP4.out, HUP.out⟩⟩
end Go.Proofs.Ytcgkhocmlolknaa

/-
  The calls as they come in; TimerDoes.
-/
import Derived.Test.YtjehoingphndnaaTiJ
import Derived.Test.YtjehoingphndnaaTiD
import Derived.Test.YtjehoingphndnaaLaw
namespace Go.Proofs.Ytjehoingphndnaa
open Go.RowKit Go.Maps
set_option linter.unusedVariables false
set_option linter.unusedSimpArgs false

abbrev POp := Nat × Nat × Nat
def p3 (p : POp) : List Value := [.int .u8 p.1, .int .u32 p.2.1, .int .u64 p.2.2]
def POp.Ok (p : POp) : Prop := p.1 ≤ 255 ∧ p.2.1 < 4294967296 ∧ p.2.2 < Md
structure RdP (w : World) (v : Value) (L : List POp) : Prop where
  row : Rd w v 3 L.length (L.flatMap p3)
  ok : ∀ p ∈ L, p.Ok
  len : L.length ≤ maxLen
theorem RdP.low {w w' : World} {v : Value} {L : List POp} (h : RdP w v L) (hb : Below w.heap.size w w') : RdP w' v L :=
  ⟨h.row.kept fun b _ hl => hb.block b hl, h.ok, h.len⟩
theorem RdP.head {w : World} {v : Value} {L : List POp} (h : RdP w v L) : ∃ a c, v = .slice a L.length c := h.row.head
theorem p3_get : ∀ (L : List POp) {i : Nat} {p : POp}, L[i]? = some p → ∀ j, j < 3 → (L.flatMap p3)[i * 3 + j]? = (p3 p)[j]?
  | q :: L, 0, p, h, j, hj => by
    simp only [List.getElem?_cons_zero, Option.some.injEq] at h
    subst h
    rw [List.flatMap_cons, Nat.zero_mul, Nat.zero_add, List.getElem?_append_left (by simp [p3]; omega)]
  | q :: L, i + 1, p, h, j, hj => by
    rw [List.flatMap_cons, List.getElem?_append_right (by simp [p3]; omega), show (i + 1) * 3 + j - (p3 q).length = i * 3 + j by simp [p3]; omega]
    exact p3_get L (by simpa using h) j hj
theorem add_spot {w : World} {ad : Addr} {n : Nat} {u u' : Value} (h0 : w.cell? (ad.add 0) = some u) : ad = ⟨ad.block, ad.off, none⟩ := by
  have e : ad.add 0 = ad := by unfold Addr.add; simp
  rw [e] at h0
  obtain ⟨b, o, sp⟩ := ad
  cases sp with
  | none => rfl
  | some s =>
    exfalso
    unfold World.cell? at h0
    split at h0 <;> simp at h0
theorem RdP.get {w : World} {v : Value} {L : List POp} (h : RdP w v L) {i : Nat} {p : POp} (hi : L[i]? = some p) :
    ∃ b o c, v = .slice (some ⟨b, o, none⟩) L.length c ∧ w.cell? ⟨b, o + i * 3, none⟩ = some (.int .u8 p.1) ∧ w.cell? ⟨b, o + i * 3 + 1, none⟩ = some (.int .u32 p.2.1) ∧ w.cell? ⟨b, o + i * 3 + 2, none⟩ = some (.int .u64 p.2.2) ∧ b < w.heap.size := by
  have hil := (List.getElem?_eq_some_iff.1 hi).1
  obtain ⟨h0, ⟨h1, h2⟩ | ⟨ad, c, h1, h2⟩⟩ := h.row
  · omega
  · have hfirst : ∃ q, L[0]? = some q := ⟨_, List.getElem?_eq_getElem (by omega)⟩
    obtain ⟨q, hq⟩ := hfirst
    have e0 := h2 0 (.int .u8 q.1) (by have := p3_get L hq 0 (by omega); simpa [p3] using this)
    have hs := add_spot (n := 0) (u' := undef) e0
    obtain ⟨b, o, sp⟩ := ad
    simp only [Addr.mk.injEq, true_and] at hs
    subst hs
    have g : ∀ j, j < 3 → ∀ u, (p3 p)[j]? = some u → w.cell? ⟨b, o + i * 3 + j, none⟩ = some u := fun j hj u hu => by
      have := h2 (i * 3 + j) u (by rw [p3_get L hi j hj]; exact hu)
      rw [add_g] at this
      rw [Nat.add_assoc]; exact this
    have g0 := g 0 (by omega) _ rfl
    exact ⟨b, o, c, h1, g0, g 1 (by omega) _ rfl, g 2 (by omega) _ rfl, World.block_lt_of_cell? _ _ g0⟩

theorem pops_of {W : World} : ∀ (M : List (List Value)), (∀ c ∈ M, ∃ p : POp, c = p3 p ∧ p.Ok) → ∃ L : List POp, M = L.map p3 ∧ ∀ p ∈ L, p.Ok
  | [], _ => ⟨[], rfl, fun p hp => by cases hp⟩
  | c :: M, h => by
    obtain ⟨p, hp, hk⟩ := h c (by simp)
    obtain ⟨L, hL, hO⟩ := pops_of (W := W) M fun c hc => h c (by simp [hc])
    exact ⟨p :: L, by rw [hL, hp]; rfl, fun q hq => by rcases List.mem_cons.1 hq with rfl | hq; exact hk; exact hO q hq⟩
theorem open_tops {H : Type} {enc : TypeId × Value → H} {W : World} {fuel : Nat} {cs : List Value} {x : DataW H × List MemPlace} (h : DataW.trod enc Try.prog W 0 (fun _ => true) true fuel 34 cs = some x) :
    ∃ (v : Value) (L : List POp), cs = [v] ∧ RdP W v L := by
  obtain ⟨v, L, rfl, hr, hc, hl⟩ := open_structs Try.underlying34 Try.underlying39 (by kernel_rfl) (by kernel_rfl) h (fun c => ∃ p : POp, c = p3 p ∧ p.Ok) (fun vs hvl hf => by
    match vs, hvl with
    | [v0, v1, v2], _ =>
      obtain ⟨_, _, _, e0, t0⟩ := hf 0 _ rfl
      obtain ⟨_, _, _, e1, t1⟩ := hf 1 _ rfl
      obtain ⟨_, _, _, e2, t2⟩ := hf 2 _ rfl
      obtain ⟨z0, q0, _, w0⟩ := DataW.trod_int Try.underlying5 t0
      obtain ⟨z1, q1, _, w1⟩ := DataW.trod_int Try.underlying23 t1
      obtain ⟨z2, q2, _, w2⟩ := DataW.trod_int Try.underlying27 t2
      simp at e0 e1 e2 q0 q1 q2
      subst e0; subst e1; subst e2; subst q0; subst q1; subst q2
      have b0 := wf_u8 w0; have b1 := wf_u32 w1; have b2 := wf_u64 w2
      refine ⟨(z0.toNat, z1.toNat, z2.toNat), ?_, ?_⟩
      · simp only [p3]
        rw [Int.toNat_of_nonneg b0.1, Int.toNat_of_nonneg b1.1, Int.toNat_of_nonneg b2.1]
      · unfold POp.Ok Md; simp only; omega)
  obtain ⟨M, rfl, hM⟩ := pops_of (W := W) L fun c hc' => (hc c hc').2
  refine ⟨v, M, rfl, ⟨?_, hM, by simpa using hl⟩⟩
  rw [List.flatMap_def]
  simpa using hr

theorem ti_New_none (n : Int) (h : n < 1 ∨ 1000 < n) (w : World) : Calls Try.prog 7 #[.int .i64 n] w fun e w' => e = .returned (.pointer none) ∧ w = w' := by
  by_cases h1 : n < 1
  · go_enter Try.func7, Try.ntmps7
    go_wp2
    go_ret
    exact ⟨rfl, rfl⟩
  · have h2 : 1000 < n := by omega
    go_enter Try.func7, Try.ntmps7
    go_wp2
    go_ret
    exact ⟨rfl, rfl⟩
theorem rt_New_none (n : Int) (h : n < 1 ∨ 1000 < n) (w : World) : Calls Try.prog 13 #[.int .i64 n] w fun e w' => e = .returned (.pointer none) ∧ w = w' := by
  by_cases h1 : n < 1
  · go_enter Try.func13, Try.ntmps13
    go_wp2
    go_ret
    exact ⟨rfl, rfl⟩
  · have h2 : 1000 < n := by omega
    go_enter Try.func13, Try.ntmps13
    go_wp2
    go_ret
    exact ⟨rfl, rfl⟩
/-- both are new -/
theorem two_new {W w1 w2 : World} {tb rb tk : Nat} {F Fr : List Nat} (hb : Below W.heap.size W w1) (h1 : TM w1 tb tk (fun _ => none) 0 F) (hF : ∀ k ∈ F, W.heap.size ≤ k) (h2 : RRep w2 w1.heap.size rb tk [] Fr) (hb2 : Below w1.heap.size w1 w2) : Two W w2 tb tk (fun _ => none) 0 rb tk [] [] [] := by
  have hs := hb.size
  obtain ⟨a, c, g1, g2, g3, g4, g5⟩ := h2.rep
  refine ⟨F, Fr, h1.low hb2, ⟨a, c, g1, ownsRow_base g2 hs, g3, by omega, g5⟩, fun k hk => ⟨hF k hk, fun hf => ?_⟩, hb.trans (hb2.mono hs), fun q hq => (by cases hq), fun q hq => (by cases hq)⟩
  have := (h2.lt k hf).1
  have := h1.lt k hk
  omega
theorem agree_new : TAgree (fun _ => none) [] := ⟨List.Pairwise.nil, fun _ => rfl⟩
theorem bound_new : TBound (fun _ => none) [] 0 := ⟨fun k r h => (by cases h), fun p hp => (by cases hp), Nat.le_refl _⟩

theorem Two.tAt {W w : World} {tb tk n rb rk : Nat} {m : Runs} {l : Tl} {rows : List (Value × List Int)} {ks : List (Nat × Obj)} (h : Two W w tb tk m n rb rk l rows ks) (k : Nat) (hk : k < 4294967296) :
    Calls Try.prog 10 #[.pointer (some ⟨tb, 0, none⟩), .int .u32 k] w fun e w' => e = .returned (.tuple #[.int .u64 (((m k).getD (0, 0)).2 : Nat), .bool (m k).isSome]) ∧ Two W w' tb tk m n rb rk l rows ks :=
  h.tStep (Q := fun e _ => e = .returned (.tuple #[.int .u64 (((m k).getD (0, 0)).2 : Nat), .bool (m k).isSome])) fun F hF => (tm_At tb tk n m F k hk w hF).mono fun e w' ⟨he, hb⟩ => ⟨he, hF.low hb, Chg.of_below hb⟩
theorem Two.rAt {W w : World} {tb tk n rb rk : Nat} {m : Runs} {l : Tl} {rows : List (Value × List Int)} {ks : List (Nat × Obj)} (h : Two W w tb tk m n rb rk l rows ks) (k : Nat) (hl : l.length ≤ 1000) :
    Calls Try.prog 14 #[.pointer (some ⟨rb, 0, none⟩), .int .u32 k] w fun e w' => e = .returned (.tuple #[.int .u64 (((mget (k : Int) l).getD (0, 0)).2 : Nat), .bool (mget (k : Int) l).isSome]) ∧ Two W w' tb tk m n rb rk l rows ks :=
  h.rStep (Q := fun e _ => e = .returned (.tuple #[.int .u64 (((mget (k : Int) l).getD (0, 0)).2 : Nat), .bool (mget (k : Int) l).isSome])) fun Fr hF => (rt_At W.heap.size rb rk l Fr k hl w hF).mono fun e w' ⟨he, hb⟩ => ⟨he, Fr, hF.low hb, Chg.of_below hb⟩

set_option maxRecDepth 100000 in
set_option maxHeartbeats 3200000 in
theorem law_TimerDoes (w : World) (tk0 : Int) (a0 : -9223372036854775808 ≤ tk0) (a1 : tk0 ≤ 9223372036854775807) (v : Value) (L : List POp) (hL : RdP w v L) :
    Calls Try.prog 5 #[.int .i64 tk0, v] w fun e w' => e = .returned (.bool true) ∧ Below w.heap.size w w' := by
  obtain ⟨va, vc, rfl⟩ := hL.head
  have HL := hide hL
  obtain ⟨n, hn⟩ : ∃ n, n = L.length := ⟨_, rfl⟩
  have HN := hide hn
  rw [← hn]
  clear hL hn
  go_enter Try.func5, Try.ntmps5
  by_cases h100 : 100 < n
  · have h100z : (100 : Int) < n := by omega
    go_wp2_with (go_at_call 8; refine (ti_known _).mono ?_; rintro e w2 ⟨rfl, hb2⟩; have HB2 := hide hb2; clear hb2)
    go_ret
    exact ⟨rfl, HB2.out⟩
  have h100z : ¬ (100 : Int) < n := by omega
  by_cases htk : tk0 < 1 ∨ 1000 < tk0
  · have HN1 := hide (ti_New_none tk0 htk)
    have HN2 := hide (rt_New_none tk0 htk)
    clear htk
    go_wp2_with (first
      | (go_at_call 8; refine (ti_known _).mono ?_; rintro e w2 ⟨rfl, hb2⟩; have HB2 := hide hb2; clear hb2)
      | (go_at_call 7; refine (HN1.out _).mono ?_; rintro e w3 ⟨rfl, rfl⟩)
      | (go_at_call 13; refine (HN2.out _).mono ?_; rintro e w3 ⟨rfl, rfl⟩))
    go_ret
    exact ⟨rfl, HB2.out⟩
  obtain ⟨tk, rfl⟩ : ∃ tk : Nat, tk0 = tk := ⟨tk0.toNat, by omega⟩
  have htk1 : 1 ≤ tk ∧ tk ≤ 1000 := by omega
  clear htk
  go_wp2_with (first
    | (go_at_call 8; refine (ti_known _).mono ?_; rintro e w2 ⟨rfl, hb2⟩; have HB2 := hide hb2; clear hb2))
  refine (tm_New tk htk1.1 htk1.2 w2).mono ?_
  rintro e w3 ⟨tb, F, rfl, ht3, hF, hb3⟩
  have HB3 := hide (HB2.out.trans (hb3.mono HB2.out.size))
  have HT3 := hide ht3
  have HF3 : Hid (∀ k ∈ F, w.heap.size ≤ k) := hide fun k hk => Nat.le_trans HB2.out.size (hF k hk)
  clear ht3 hF hb3
  go_wp2_with fail
  refine (rt_New tk htk1.1 htk1.2 w3).mono ?_
  rintro e w4 ⟨rb, Fr, rfl, hr4, hb4⟩
  have H4 := hide (two_new HB3.out HT3.out HF3.out hr4 hb4)
  clear hr4 hb4 HB2 HB3 HT3 HF3
  go_wp2
  go_loopw [7, 8, 9, 10, 11, 12, 13] (fun iv _ _ _ _ _ _ wr => ∃ (i : Nat) (m : Runs) (l : Tl), iv = .int .i64 i ∧ i ≤ n ∧ Hid (Two w wr tb tk m i rb tk l [] []) ∧ Hid (TAgree m l) ∧ Hid (TBound m l i)) (fun iv _ _ _ _ _ _ _ => match iv with | .int _ j => n - j.toNat | _ => 0)
  case atStart => exact ⟨0, _, _, rfl, Nat.zero_le _, H4, hide agree_new, hide bound_new⟩
  case round =>
    clear H4
    obtain ⟨i, m, l, rfl, hi, hW, hA, hB⟩ := hrel
    by_cases hin : i < n
    · obtain ⟨p, hp⟩ : ∃ p, L[i]? = some p := ⟨_, List.getElem?_eq_getElem (by have := HN.out; omega)⟩
      obtain ⟨b, o, c, hv, c0, c1, c2, _⟩ := (HL.out.low hW.out.base).get hp
      simp only [Value.slice.injEq] at hv
      obtain ⟨rfl, _, rfl⟩ := hv
      have hok := HL.out.ok p (List.mem_of_getElem? hp)
      obtain ⟨kd, k, now⟩ := p
      simp only at c0 c1 c2
      have hkd : kd ≤ 255 := hok.1
      have hkk : k < 4294967296 := hok.2.1
      have hnow : now < Md := hok.2.2
      have HBN := hide hnow
      clear hp hok hnow
      go_wp2_with fail
      refine (ti_does w tb tk i rb tk m l i kd k now [] hkd hkk HBN.out htk1.2 htk1.2 (by omega) hB.out (by omega) _ hW.out).mono ?_
      rintro e w5 ⟨⟨b5, rfl, hb5⟩, h5⟩
      obtain rfl : b5 = true := hb5 hA.out rfl
      have H5 := hide h5
      have hA5 := hide (hA.out.step tk kd k now)
      have hB5 := hide (hB.out.step tk tk kd k now)
      generalize stepT tk m kd k now = m5 at H5 hA5 hB5
      generalize stepR tk l kd k now = l5 at H5 hA5 hB5
      clear hb5 h5 c0 c1 c2 hW hA hB
      go_wp2
      go_loopw [9, 10, 11, 12, 13] (fun jv _ _ _ _ wx => ∃ j : Nat, jv = .int .i64 j ∧ j ≤ i + 1 ∧ Hid (Two w wx tb tk m5 (i + 1) rb tk l5 [] [])) (fun jv _ _ _ _ _ => match jv with | .int _ j => i + 1 - j.toNat | _ => 0)
      case atStart => exact ⟨0, rfl, Nat.zero_le _, H5⟩
      case round =>
        clear H5
        obtain ⟨j, rfl, hj, hW⟩ := hrel
        by_cases hji : j ≤ i
        · obtain ⟨p, hp⟩ : ∃ p, L[j]? = some p := ⟨_, List.getElem?_eq_getElem (by have := HN.out; omega)⟩
          obtain ⟨b, o, c, hv, c0, c1, c2, _⟩ := (HL.out.low hW.out.base).get hp
          simp only [Value.slice.injEq, Option.some.injEq, Addr.mk.injEq, and_true] at hv
          obtain ⟨⟨rfl, rfl⟩, _, rfl⟩ := hv
          have hok := HL.out.ok p (List.mem_of_getElem? hp)
          obtain ⟨kd', k', now'⟩ := p
          simp only at c0 c1 c2
          have hkk' : k' < 4294967296 := hok.2.1
          have HP := hide hp
          clear hp hok
          go_wp2_with fail
          refine (hW.out.tAt k' hkk').mono ?_
          rintro e w6 ⟨rfl, h6⟩
          have H6 := hide h6
          obtain ⟨b', o', c', hv', c0', c1', c2', _⟩ := (HL.out.low h6.base).get HP.out
          simp only [Value.slice.injEq, Option.some.injEq, Addr.mk.injEq, and_true] at hv'
          obtain ⟨⟨rfl, rfl⟩, _, rfl⟩ := hv'
          simp only at c0' c1' c2'
          have he := hA5.out.eq k'
          rw [he]
          obtain ⟨g, hg⟩ : ∃ g, g = mget (k' : Int) l5 := ⟨_, rfl⟩
          rw [← hg]
          have HG := hide hg
          obtain ⟨av, hav⟩ : ∃ av, av = (g.getD (0, 0)).2 := ⟨_, rfl⟩
          rw [← hav]
          have HAV := hide hav
          clear h6 c0 c1 c2 he hg hav
          go_wp2_with fail
          have hr := H6.out.rAt k' (by have := hB5.out.2.2; omega)
          rw [← HG.out, ← HAV.out] at hr
          refine hr.mono ?_
          rintro e w7 ⟨rfl, h7⟩
          have H7 := hide h7
          clear h7 hr c0' c1' c2'
          go_wp2
          refine ⟨⟨j + 1, by simp, by omega, H7⟩, ?_⟩
          show i + 1 - ((j : Int) + 1).toNat < i + 1 - ((j : Nat) : Int).toNat
          omega
        · go_wp2
          refine ⟨⟨i + 1, m5, l5, by simp, hin, hW, hA5, hB5⟩, ?_⟩
          show n - ((i : Int) + 1).toNat < n - ((i : Nat) : Int).toNat
          omega
    · obtain rfl : i = n := by omega
      go_wp2
      go_ret
      exact ⟨rfl, hW.out.base⟩
end Go.Proofs.Ytjehoingphndnaa

/-
  The timer of the program alone, what stays beside it; TimerApart (printed by gen_til.py).
-/
import Derived.Test.YtjehoingphndnaaTiK
namespace Go.Proofs.Ytjehoingphndnaa
open Go.RowKit Go.Maps
set_option linter.unusedVariables false
set_option linter.unusedSimpArgs false

/-- one of the program's, all of it from W on, and what stays beside it -/
structure Own1 (W w : World) (tb tk : Nat) (m : Runs) (n : Nat) (ks : List (Nat × Obj)) : Prop where
  of : ∃ F, TM w tb tk m n F ∧ (∀ k ∈ F, W.heap.size ≤ k) ∧ Below W.heap.size W w ∧ ∀ q ∈ ks, w.heap[q.1]? = some q.2 ∧ q.1 ∉ F
theorem Own1.base {W w : World} {tb tk n : Nat} {m : Runs} {ks : List (Nat × Obj)} (h : Own1 W w tb tk m n ks) : Below W.heap.size W w := by
  obtain ⟨F, _, _, h, _⟩ := h.of
  exact h
theorem Own1.low {W w w' : World} {tb tk n : Nat} {m : Runs} {ks : List (Nat × Obj)} (h : Own1 W w tb tk m n ks) (hb : Below w.heap.size w w') : Own1 W w' tb tk m n ks := by
  obtain ⟨F, h1, h2, h3, h4⟩ := h.of
  exact ⟨F, h1.low hb, h2, h3.trans (hb.mono h3.size), fun q hq => ⟨(hb.block _ (Array.getElem?_eq_some_iff.1 (h4 q hq).1).1).trans (h4 q hq).1, (h4 q hq).2⟩⟩
theorem Own1.new {W w w1 : World} {tb tk n rb : Nat} {m : Runs} {ks : List (Nat × Obj)} {Fr : List Nat} (h : Own1 W w tb tk m n ks) (hr : RRep w1 w.heap.size rb 1 [] Fr) (hb : Below w.heap.size w w1) : Two W w1 tb tk m n rb 1 [] [] ks := by
  obtain ⟨F, h1, h2, h3, h4⟩ := (h.low hb).of
  obtain ⟨F0, g1, g2, g3, g4⟩ := h.of
  obtain ⟨a, c, r1, r2, r3, r4, r5⟩ := hr.rep
  have hs := g3.size
  refine ⟨F0, Fr, g1.low hb, ⟨a, c, r1, ownsRow_base r2 hs, r3, by omega, r5⟩, fun k hk => ⟨g2 k hk, fun hf => ?_⟩, h3, fun q hq => (by cases hq), fun q hq => ⟨(h4 q hq).1, (g4 q hq).2, fun hf => ?_⟩⟩
  · have := (hr.lt k hf).1; have := g1.lt k hk; omega
  · have := (hr.lt _ hf).1; have := (Array.getElem?_eq_some_iff.1 (g4 q hq).1).1; omega
theorem Two.own {W w : World} {tb tk n rb rk : Nat} {m : Runs} {l : Tl} {rows : List (Value × List Int)} {ks : List (Nat × Obj)} (h : Two W w tb tk m n rb rk l rows ks) : Own1 W w tb tk m n ks := by
  obtain ⟨F, Fr, h1, h2, h3, h4, h5, h6⟩ := h.of
  exact ⟨F, h1, fun k hk => (h3 k hk).1, h4, fun q hq => ⟨(h6 q hq).1, (h6 q hq).2.1⟩⟩
theorem Own1.step {W w : World} {tb tk n n' : Nat} {m m' : Runs} {ks : List (Nat × Obj)} (h : Own1 W w tb tk m n ks) {f : FuncId} {args : Array Value} {Q : Ending → World → Prop}
    (hc : ∀ F, TM w tb tk m n F → Calls Try.prog f args w fun e w' => Q e w' ∧ TM w' tb tk m' n' F ∧ Chg F F w w') : Calls Try.prog f args w fun e w' => Q e w' ∧ Own1 W w' tb tk m' n' ks := by
  obtain ⟨F, h1, h2, h3, h4⟩ := h.of
  refine (hc F h1).mono ?_
  rintro e w' ⟨hq, ht, hg⟩
  exact ⟨hq, F, ht, h2, h3.trans (hg.below h3.size h2), fun q hq => ⟨(hg.block _ (Array.getElem?_eq_some_iff.1 (h4 q hq).1).1 (h4 q hq).2).trans (h4 q hq).1, (h4 q hq).2⟩⟩
theorem Own1.at {W w : World} {tb tk n : Nat} {m : Runs} {ks : List (Nat × Obj)} (h : Own1 W w tb tk m n ks) (k : Nat) (hk : k < 4294967296) :
    Calls Try.prog 10 #[.pointer (some ⟨tb, 0, none⟩), .int .u32 k] w fun e w' => e = .returned (.tuple #[.int .u64 (((m k).getD (0, 0)).2 : Nat), .bool (m k).isSome]) ∧ Own1 W w' tb tk m n ks ∧ Below w.heap.size w w' := by
  obtain ⟨F, h1, h2, h3, h4⟩ := h.of
  exact (tm_At tb tk n m F k hk w h1).mono fun e w' ⟨he, hb⟩ => ⟨he, h.low hb, hb⟩
/-- the region under way -/
structure DoesS (W : World) (tb tk n : Nat) (m : Runs) (kd k now : Nat) (ks : List (Nat × Obj)) (D : Nat → Bool) (v : Nat → Value) (w' : World) : Prop where
  a : D 1 = false → Own1 W w' tb tk m n ks
  b : D 1 = true → D 6 = false → ∃ rb, v 1 = .pointer (some ⟨rb, 0, none⟩) ∧ Two W w' tb tk m n rb 1 [] [] ks
  c : D 6 = true → Own1 W w' tb tk (stepT tk m kd k now) (n + 1) ks
  low : Below W.heap.size W w'
theorem DoesS.start {W w' : World} {tb tk n kd k now : Nat} {m : Runs} {ks : List (Nat × Obj)} {v : Nat → Value} (h : Own1 W w' tb tk m n ks) : DoesS W tb tk n m kd k now ks (fun _ => false) v w' :=
  ⟨fun _ => h, fun h => (by cases h), fun h => (by cases h), h.base⟩
def MBound (m : Runs) (T : Nat) : Prop := ∀ k r, m k = some r → r.1 ≤ T
theorem MBound.step {m : Runs} {T : Nat} (h : MBound m T) (tk kd : Nat) (k : Int) (now : Nat) : MBound (stepT tk m kd k now) (T + 1) :=
  (TBound.step (l := []) ⟨h, fun p hp => (by cases hp), Nat.zero_le _⟩ tk 1 kd k now).1
theorem MBound.mono {m : Runs} {T T' : Nat} (h : MBound m T) (ht : T ≤ T') : MBound m T' := fun k r hr => Nat.le_trans (h k r hr) ht
/-- what another series' call does to one -/
theorem stepT_other (tk : Nat) (m : Runs) (kd : Nat) (k : Int) (now : Nat) (s : Int) (hs : k ≠ s) (hk : ¬ 3 < kd % 6) : stepT tk m kd k now s = m s := by
  have e : ∀ o, setR m k o s = m s := fun o => by unfold setR; rw [if_neg (fun e => hs e.symm)]
  unfold stepT
  split
  · exact e _
  · split
    · exact e _
    · split
      · omega
      · unfold startM
        split
        · exact e _
        · rfl
theorem stepT_same (tk : Nat) (m m' : Runs) (kd : Nat) (k : Int) (now : Nat) (s : Int) (h : m s = m' s) (hk : k = s ∨ 3 < kd % 6) : stepT tk m kd k now s = stepT tk m' kd k now s := by
  have e : ∀ o, setR m k o s = setR m' k o s := fun o => by unfold setR; split; rfl; exact h
  unfold stepT
  split
  · exact e _
  · split
    · exact e _
    · split
      · unfold dueM; rw [h]
      · rename_i h1 h2 h3
        have hks : k = s := by omega
        subst hks
        unfold startM
        rw [h]
        split
        · exact e _
        · exact h
/-- two of the program's -/
structure Both2 (W w : World) (ta tb tk : Nat) (m m' : Runs) (n n' : Nat) : Prop where
  of : ∃ F F', TM w ta tk m n F ∧ TM w tb tk m' n' F' ∧ (∀ k ∈ F, W.heap.size ≤ k ∧ k ∉ F') ∧ (∀ k ∈ F', W.heap.size ≤ k) ∧ Below W.heap.size W w
theorem TM.keep {w w' : World} {tb tk n : Nat} {m : Runs} {F : List Nat} (h : TM w tb tk m n F) (hk : ∀ k ∈ F, w'.heap[k]? = w.heap[k]?) : TM w' tb tk m n F := by
  obtain ⟨E, ⟨mb, h1, h4, h5, rfl⟩, h2, h3⟩ := h.of
  exact ⟨E, ⟨mb, (hk tb (by simp)).trans h1, h4.same (hk mb (by simp)), h5, rfl⟩, h2, h3⟩
theorem objs_of {w : World} : ∀ (F : List Nat), (∀ k ∈ F, k < w.heap.size) → ∃ ks : List (Nat × Obj), (∀ q ∈ ks, w.heap[q.1]? = some q.2 ∧ q.1 ∈ F) ∧ ∀ k ∈ F, ∃ o, (k, o) ∈ ks
  | [], _ => ⟨[], fun q hq => (by cases hq), fun k hk => (by cases hk)⟩
  | a :: F, h => by
    obtain ⟨ks, h1, h2⟩ := objs_of F fun k hk => h k (by simp [hk])
    have ha := h a (by simp)
    refine ⟨(a, w.heap[a]) :: ks, fun q hq => ?_, fun k hk => ?_⟩
    · rcases List.mem_cons.1 hq with rfl | hq
      · exact ⟨Array.getElem?_eq_getElem ha, by simp⟩
      · exact ⟨(h1 q hq).1, by simp [(h1 q hq).2]⟩
    · rcases List.mem_cons.1 hk with rfl | hk
      · exact ⟨_, by simp; exact .inl rfl⟩
      · obtain ⟨o, ho⟩ := h2 k hk
        exact ⟨o, by simp [ho]⟩
/-- the first one alone, the other one as it lies; and back -/
theorem Both2.first {W w : World} {ta tb tk n n' : Nat} {m m' : Runs} (h : Both2 W w ta tb tk m m' n n') : ∃ ks, Own1 W w ta tk m n ks ∧ ∀ w' m2 n2, Own1 W w' ta tk m2 n2 ks → Both2 W w' ta tb tk m2 m' n2 n' := by
  obtain ⟨F, F', h1, h2, h3, h4, h5⟩ := h.of
  obtain ⟨ks, k1, k2⟩ := objs_of F' h2.lt
  refine ⟨ks, ⟨F, h1, fun k hk => (h3 k hk).1, h5, fun q hq => ⟨(k1 q hq).1, fun hf => (h3 _ hf).2 (k1 q hq).2⟩⟩, fun w' m2 n2 ho => ?_⟩
  obtain ⟨G, g1, g2, g3, g4⟩ := ho.of
  refine ⟨G, F', g1, h2.keep fun k hk => ?_, fun k hk => ⟨g2 k hk, fun hf => ?_⟩, h4, g3⟩
  · obtain ⟨o, hko⟩ := k2 k hk
    exact (g4 _ hko).1.trans (k1 _ hko).1.symm
  · obtain ⟨o, hko⟩ := k2 k hf
    exact (g4 _ hko).2 hk
theorem Both2.swap {W w : World} {ta tb tk n n' : Nat} {m m' : Runs} (h : Both2 W w ta tb tk m m' n n') : Both2 W w tb ta tk m' m n' n := by
  obtain ⟨F, F', h1, h2, h3, h4, h5⟩ := h.of
  exact ⟨F', F, h2, h1, fun k hk => ⟨h4 k hk, fun hf => (h3 k hf).2 hk⟩, fun k hk => (h3 k hk).1, h5⟩
theorem both_two {W w w' : World} {ta tb tk : Nat} {F F' : List Nat} (hb : Below W.heap.size W w) (h1 : TM w ta tk (fun _ => none) 0 F) (hF : ∀ k ∈ F, W.heap.size ≤ k) (h2 : TM w' tb tk (fun _ => none) 0 F') (hF' : ∀ k ∈ F', w.heap.size ≤ k) (hb' : Below w.heap.size w w') : Both2 W w' ta tb tk (fun _ => none) (fun _ => none) 0 0 := by
  have hs := hb.size
  refine ⟨F, F', h1.low hb', h2, fun k hk => ⟨hF k hk, fun hf => ?_⟩, fun k hk => by have := hF' k hk; omega, hb.trans (hb'.mono hs)⟩
  have := hF' k hf; have := h1.lt k hk; omega
theorem Both2.base {W w : World} {ta tb tk n n' : Nat} {m m' : Runs} (h : Both2 W w ta tb tk m m' n n') : Below W.heap.size W w := by
  obtain ⟨F, F', _, _, _, _, h⟩ := h.of
  exact h

set_option maxRecDepth 100000 in
set_option maxHeartbeats 6400000 in
theorem law_TimerApart (w : World) (tk0 : Int) (a0 : 0 ≤ tk0) (a1 : tk0 ≤ 65535) (v : Value) (L : List POp) (hL : RdP w v L) (s : Int) (s0 : 0 ≤ s) (s1 : s ≤ 4294967295) :
    Calls Try.prog 4 #[.int .u16 tk0, v, .int .u32 s] w fun e w' => e = .returned (.bool true) ∧ Below w.heap.size w w' := by
  obtain ⟨va, vc, rfl⟩ := hL.head
  have HL := hide hL
  obtain ⟨nl, hn⟩ : ∃ n, n = L.length := ⟨_, rfl⟩
  have HN := hide hn
  rw [← hn]
  obtain ⟨s, rfl⟩ : ∃ n : Nat, s = n := ⟨s.toNat, by omega⟩
  obtain ⟨tk0, rfl⟩ : ∃ n : Nat, tk0 = n := ⟨tk0.toNat, by omega⟩
  obtain ⟨tk, htk⟩ : ∃ tk, tk = 1 + tk0 % 1000 := ⟨_, rfl⟩
  have htk1 : 1 ≤ tk ∧ tk ≤ 1000 := by omega
  have htz : (1 : Int) + (tk0 : Int) % 1000 = tk := by omega
  have htz2 : (1 : Int) + (tk0 : Int).tmod 1000 = tk := by rw [Int.tmod_eq_emod_of_nonneg (by omega)]; exact htz
  clear htk hL hn
  go_enter Try.func4, Try.ntmps4
  by_cases h100 : 60 < nl
  · have h100z : (60 : Int) < nl := by omega
    go_wp2_with (go_at_call 8; refine (ti_known _).mono ?_; rintro e w2 ⟨rfl, hb2⟩; have HB2 := hide hb2; clear hb2)
    go_ret
    exact ⟨rfl, HB2.out⟩
  have h100z : ¬ (60 : Int) < nl := by omega
  go_wp2_with (first
    | (go_at_call 8; refine (ti_known _).mono ?_; rintro e w2 ⟨rfl, hb2⟩; have HB2 := hide hb2; clear hb2))
  refine (tm_New tk htk1.1 htk1.2 w2).mono ?_
  rintro e w3 ⟨ta, F, rfl, ht3, hF, hb3⟩
  have HB3 := hide (HB2.out.trans (hb3.mono HB2.out.size))
  have HT3 := hide ht3
  have HF3 : Hid (∀ k ∈ F, w.heap.size ≤ k) := hide fun k hk => Nat.le_trans HB2.out.size (hF k hk)
  clear ht3 hF hb3
  go_wp2_with fail
  refine (tm_New tk htk1.1 htk1.2 w3).mono ?_
  rintro e w4 ⟨tb, F', rfl, ht4, hF4, hb4⟩
  have H4 := hide (both_two HB3.out HT3.out HF3.out ht4 hF4 hb4)
  clear ht4 hF4 hb4 HB2 HB3 HT3 HF3
  go_wp2
  go_loopw [9, 10, 11, 12, 13] (fun iv _ _ _ _ wr => ∃ (i : Nat) (m m' : Runs) (n' : Nat), iv = .int .i64 i ∧ i ≤ nl ∧ n' ≤ i ∧ Hid (Both2 w wr ta tb tk m m' i n') ∧ Hid (m s = m' s) ∧ Hid (MBound m i ∧ MBound m' i)) (fun iv _ _ _ _ _ => match iv with | .int _ j => nl - j.toNat | _ => 0)
  case atStart => exact ⟨0, _, _, 0, rfl, Nat.zero_le _, Nat.le_refl _, H4, hide rfl, hide ⟨fun k r h => (by cases h), fun k r h => (by cases h)⟩⟩
  case round =>
    clear H4
    obtain ⟨i, m, m', n', rfl, hi, hn', hW, hE, hB⟩ := hrel
    by_cases hin : i < nl
    · obtain ⟨p, hp⟩ : ∃ p, L[i]? = some p := ⟨_, List.getElem?_eq_getElem (by have := HN.out; omega)⟩
      obtain ⟨b, o, c, hv, c0, c1, c2, hbl⟩ := HL.out.get hp
      simp only [Value.slice.injEq] at hv
      obtain ⟨rfl, _, rfl⟩ := hv
      have hok := HL.out.ok p (List.mem_of_getElem? hp)
      obtain ⟨kd, k, now⟩ := p
      simp only at c0 c1 c2
      have HCL : Hid (∀ w', Below w.heap.size w w' → w'.cell? ⟨b, o + i * 3, none⟩ = some (.int .u8 kd) ∧ w'.cell? ⟨b, o + i * 3 + 1, none⟩ = some (.int .u32 k) ∧ w'.cell? ⟨b, o + i * 3 + 2, none⟩ = some (.int .u64 now)) := hide fun w' hb => ⟨(hb.cell (p := ⟨b, _, none⟩) hbl).trans c0, (hb.cell (p := ⟨b, _, none⟩) hbl).trans c1, (hb.cell (p := ⟨b, _, none⟩) hbl).trans c2⟩
      have hkd : kd ≤ 255 := hok.1
      have hkk : k < 4294967296 := hok.2.1
      have HBN : Hid (now < Md) := hide hok.2.2
      obtain ⟨ks, hO, hback⟩ := hW.out.first
      have HOA := hide hO
      have HBK := hide hback
      have HBD : Hid (∀ k r, m k = some r → r.1 ≤ 200) := hide fun k r hr => by have := hB.out.1 k r hr; omega
      clear hp hok c0 c1 c2 hO hback
      go_upto_region 10 with fail
      refine wp_region_three 7 94 (by kernel_rfl) (by kernel_rfl) rfl (by kernel_rfl) (fun D v w' => DoesS w ta tk i m kd k now ks D v w') (fun _ => undef) (DoesS.start (HOA.out.low (Below.refl _ _).drew)) ?_
      simp only [List.take_succ_cons, List.take_zero, List.drop_succ_cons, List.drop_zero]
      iterate 1 (refine Hav3.read (e := ?_) (fun v => by rfl) (fun D v w h => ⟨h.a, h.b, h.c, h.low⟩) (fun D v w' hD hS => ?_) ?_; rotate_left; (clear hS hD; first | (go_simp; done) | (go_simp; with_reducible rfl)); go_simp)
      refine Hav3.rel (fun v => by rfl) (fun D v w' hD hS => ?_) ?_
      · have d1 : D 1 = false := hD.self
        have D6 : Hid (D 6 = false) := hide (hD.post 6 _ rfl (by kernel_rfl))
        have HA := hide (hS.a d1)
        clear hS hD d1
        go_simp
        go_at_call 13
        refine (rt_New 1 (by decide) (by decide) w').mono ?_
        rintro e w'' ⟨rb, Fr, rfl, hr, hb⟩
        exact ⟨fun h => (by cases h), fun _ _ => ⟨rb, rfl, HA.out.new hr hb⟩, fun h => (by rw [show mark D 1 6 = D 6 from rfl, D6.out] at h; cases h), HA.out.base.trans (hb.mono HA.out.base.size)⟩
      go_simp
      iterate 3 (refine Hav3.read (e := ?_) (fun v => by rfl) (fun D v w h => ⟨h.a, h.b, h.c, h.low⟩) (fun D v w' hD hS => ?_) ?_; rotate_left; (clear hS hD; first | (go_simp; done) | (go_simp; with_reducible rfl)); go_simp)
      iterate 1 (refine Hav3.read (e := ?_) (fun v => by rfl) (fun D v w h => ⟨h.a, h.b, h.c, h.low⟩) (fun D v w' hD hS => ?_) ?_; rotate_left; (obtain ⟨f0, f1, f2⟩ := HCL.out w' hS.low; clear hS hD; first | (go_simp; done) | (go_simp; with_reducible rfl)); go_simp)
      refine Hav3.rel (fun v => by rfl) (fun D v w' hD hS => ?_) ?_
      · have d1 : D 1 = true := hD.pre 1 (by kernel_rfl)
        have d6 : D 6 = false := hD.self
        obtain ⟨rb, h1, h2⟩ := hS.b d1 d6
        have H2 := hide h2
        have D1 := hide d1
        rw [h1]
        clear hS hD h1 h2 d1 d6
        go_simp
        go_at_call 12
        refine (ti_does w ta tk i rb 1 m [] 200 kd k now ks hkd hkk HBN.out htk1.2 (by decide) (by omega) ⟨?_, fun p hp => (by cases hp), by decide⟩ (by decide) w' H2.out).mono ?_
        · exact HBD.out
        rintro e w'' ⟨⟨b, rfl, _⟩, h3⟩
        exact ⟨fun h => (by rw [show mark D 6 1 = D 1 from rfl, D1.out] at h; cases h), fun _ h => (by cases h), fun _ => h3.own, h3.base⟩
      go_simp
      refine Hav3.fin (fun v w' hS => ?_)
      have HO := hide (hS.c rfl)
      clear hS
      have HW2 := hide (HBK.out _ _ _ HO.out)
      obtain ⟨f0, f1, f2⟩ := HCL.out w' HO.out.base
      have hmd : ((kd : Int)).tmod 6 = ((kd % 6 : Nat) : Int) := by rw [Int.tmod_eq_emod_of_nonneg (by omega)]; omega
      obtain ⟨go, hgo⟩ : ∃ go : Bool, go = (decide (k = s) || decide (3 < kd % 6)) := ⟨_, rfl⟩
      have HGO := hide hgo
      clear HO HOA HBK HBD hgo hW
      go_upto_region 11 with fail
      go_cut [66] (fun v wx => v = .bool go ∧ w' = wx)
      case first =>
        by_cases hks : k = s
        · have hkb : ((k : Int) == s) = true := by simpa using (by omega : (k : Int) = s)
          have hg : Hid (go = true) := hide (by rw [HGO.out]; simp [hks])
          go_wp2
          go_meet
          exact ⟨by rw [hg.out], by first | trivial | rfl⟩
        · have hkb : ((k : Int) == s) = false := by simpa using (by omega : ¬ (k : Int) = s)
          have hg : Hid (go = decide (3 < kd % 6)) := hide (by rw [HGO.out]; simp [hks])
          go_wp2
          go_meet
          refine ⟨?_, by first | trivial | rfl⟩
          rw [hg.out]
          congr 1
          rw [Bool.eq_iff_iff]
          simp
          omega
      case rest =>
      obtain ⟨rfl, hwc⟩ := hcut
      subst hwc
      obtain ⟨m2, hm2⟩ : ∃ m2, m2 = stepT tk m kd k now := ⟨_, rfl⟩
      rw [← hm2] at HW2
      have HM2 := hide hm2
      have HB2' : Hid (MBound m2 (i + 1)) := hide (by rw [hm2]; exact hB.out.1.step tk kd k now)
      clear hm2 f0 f1 f2
      go_upto_if 66 with fail
      go_cut [] (fun wx => ∃ (m4 : Runs) (n4 : Nat), n4 ≤ i + 1 ∧ Hid (Both2 w wx ta tb tk m2 m4 (i + 1) n4) ∧ Hid (m2 s = m4 s) ∧ Hid (MBound m4 (i + 1)))
      case first =>
        cases go with
        | false =>
          go_wp2
          go_meet
          refine ⟨m', n', by omega, HW2, hide ?_, hide fun k r hr => by have := hB.out.2 k r hr; omega⟩
          have h := HGO.out
          simp only [Bool.false_eq, Bool.or_eq_false_iff, decide_eq_false_iff_not] at h
          rw [HM2.out, stepT_other tk m kd k now s (by omega) h.2]
          exact hE.out
        | true =>
          obtain ⟨ks, hO, hback⟩ := HW2.out.swap.first
          have HOA := hide hO
          have HBK := hide hback
          have HBD : Hid (∀ k r, m' k = some r → r.1 ≤ 200) := hide fun k r hr => by have := hB.out.2 k r hr; omega
          clear hO hback
          go_upto_region 12 with fail
          refine wp_region_three 7 94 (by kernel_rfl) (by kernel_rfl) rfl (by kernel_rfl) (fun D v w' => DoesS w tb tk n' m' kd k now ks D v w') (fun _ => undef) (DoesS.start (HOA.out.low (Below.refl _ _).drew)) ?_
          simp only [List.take_succ_cons, List.take_zero, List.drop_succ_cons, List.drop_zero]
          iterate 1 (refine Hav3.read (e := ?_) (fun v => by rfl) (fun D v w h => ⟨h.a, h.b, h.c, h.low⟩) (fun D v w' hD hS => ?_) ?_; rotate_left; (clear hS hD; first | (go_simp; done) | (go_simp; with_reducible rfl)); go_simp)
          refine Hav3.rel (fun v => by rfl) (fun D v w' hD hS => ?_) ?_
          · have d1 : D 1 = false := hD.self
            have D6 : Hid (D 6 = false) := hide (hD.post 6 _ rfl (by kernel_rfl))
            have HA := hide (hS.a d1)
            clear hS hD d1
            go_simp
            go_at_call 13
            refine (rt_New 1 (by decide) (by decide) w').mono ?_
            rintro e w'' ⟨rb, Fr, rfl, hr, hb⟩
            exact ⟨fun h => (by cases h), fun _ _ => ⟨rb, rfl, HA.out.new hr hb⟩, fun h => (by rw [show mark D 1 6 = D 6 from rfl, D6.out] at h; cases h), HA.out.base.trans (hb.mono HA.out.base.size)⟩
          go_simp
          iterate 3 (refine Hav3.read (e := ?_) (fun v => by rfl) (fun D v w h => ⟨h.a, h.b, h.c, h.low⟩) (fun D v w' hD hS => ?_) ?_; rotate_left; (clear hS hD; first | (go_simp; done) | (go_simp; with_reducible rfl)); go_simp)
          iterate 1 (refine Hav3.read (e := ?_) (fun v => by rfl) (fun D v w h => ⟨h.a, h.b, h.c, h.low⟩) (fun D v w' hD hS => ?_) ?_; rotate_left; (obtain ⟨f0, f1, f2⟩ := HCL.out w' hS.low; clear hS hD; first | (go_simp; done) | (go_simp; with_reducible rfl)); go_simp)
          refine Hav3.rel (fun v => by rfl) (fun D v w' hD hS => ?_) ?_
          · have d1 : D 1 = true := hD.pre 1 (by kernel_rfl)
            have d6 : D 6 = false := hD.self
            obtain ⟨rb, h1, h2⟩ := hS.b d1 d6
            have H2 := hide h2
            have D1 := hide d1
            rw [h1]
            clear hS hD h1 h2 d1 d6
            go_simp
            go_at_call 12
            refine (ti_does w tb tk n' rb 1 m' [] 200 kd k now ks hkd hkk HBN.out htk1.2 (by decide) (by omega) ⟨?_, fun p hp => (by cases hp), by decide⟩ (by decide) w' H2.out).mono ?_
            · exact HBD.out
            rintro e w'' ⟨⟨b, rfl, _⟩, h3⟩
            exact ⟨fun h => (by rw [show mark D 6 1 = D 1 from rfl, D1.out] at h; cases h), fun _ h => (by cases h), fun _ => h3.own, h3.base⟩
          go_simp
          refine Hav3.fin (fun v w' hS => ?_)
          have HO := hide (hS.c rfl)
          clear hS
          go_wp2
          go_meet
          refine ⟨_, n' + 1, by omega, hide (HBK.out _ _ _ HO.out).swap, hide ?_, hide (hB.out.2.step tk kd k now |>.mono (by omega))⟩
          have h := HGO.out
          simp only [Bool.true_eq, Bool.or_eq_true, decide_eq_true_eq] at h
          rw [HM2.out]
          exact stepT_same tk m m' kd k now s hE.out (by omega)
      case rest =>
      clear HW2
      obtain ⟨m4, n4, hn4, hW4, hE4, hB4⟩ := hcut
      obtain ⟨ks, hO, hback⟩ := hW4.out.first
      have HO := hide hO
      have HBK := hide hback
      clear hO hback
      go_wp2_with fail
      refine (HO.out.at s (by omega)).mono ?_
      rintro e w6 ⟨rfl, h6, _⟩
      have H6 := hide (HBK.out _ _ _ h6).swap
      obtain ⟨gs, hgs⟩ : ∃ gs, gs = m2 s := ⟨_, rfl⟩
      rw [← hgs]
      have HGS := hide hgs
      obtain ⟨av, hav⟩ : ∃ av, av = (gs.getD (0, 0)).2 := ⟨_, rfl⟩
      rw [← hav]
      have HAV := hide hav
      clear h6 hgs hav HO HBK
      obtain ⟨ks', hO, hback⟩ := H6.out.first
      have HO := hide hO
      have HBK := hide hback
      clear hO hback
      go_wp2_with fail
      have hr := HO.out.at s (by omega)
      rw [← hE4.out, ← HGS.out, ← HAV.out] at hr
      refine hr.mono ?_
      rintro e w7 ⟨rfl, h7, _⟩
      have H7 := hide (HBK.out _ _ _ h7).swap
      clear h7 hr HO HBK
      go_wp2
      refine ⟨⟨i + 1, m2, m4, n4, by simp, hin, hn4, H7, hE4, hide ⟨HB2'.out, hB4.out⟩⟩, ?_⟩
      show nl - ((i : Int) + 1).toNat < nl - ((i : Nat) : Int).toNat
      omega
    · obtain rfl : i = nl := by omega
      go_wp2
      go_ret
      exact ⟨rfl, hW.out.base⟩
end Go.Proofs.Ytjehoingphndnaa

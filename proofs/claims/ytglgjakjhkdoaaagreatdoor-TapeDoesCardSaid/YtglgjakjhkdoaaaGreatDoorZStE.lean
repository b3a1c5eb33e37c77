/-
  The walk of stuff.Open.
-/
import Derived.Test.YtglgjakjhkdoaaaGreatDoorZRdStMStA
import Derived.Test.YtglgjakjhkdoaaaGreatDoorZOwnZer
import Derived.Deep.DeepCutAuto
namespace Go.Proofs.YtglgjakjhkdoaaaGreatDoor
open Go.RowKit
set_option linter.unusedVariables false
set_option linter.unusedSimpArgs false

def nul : List UInt8 → List UInt8
  | [] => []
  | c :: l => if c = 0 then [] else c :: nul l
theorem nul_noZ : ∀ {l : List UInt8}, NoZ l → nul l = l
  | [], _ => rfl
  | c :: l, h => by
    have hc := h c (by simp)
    show (if c = 0 then [] else c :: nul l) = _
    rw [if_neg hc, nul_noZ fun x hx => h x (by simp [hx])]
theorem nul_app : ∀ {o : List UInt8}, NoZ o → ∀ r, nul (o ++ 0 :: r) = o
  | [], _, r => by simp [nul]
  | c :: o, h, r => by
    have hc := h c (by simp)
    show (if c = 0 then [] else c :: nul (o ++ 0 :: r)) = _
    rw [if_neg hc, nul_app (fun x hx => h x (by simp [hx]))]
theorem nul_is (l : List UInt8) : NoZ (nul l) ∧ ((nul l = l ∧ Lib.indexByte l 0 = -1) ∨ ∃ r, l = nul l ++ 0 :: r ∧ Lib.indexByte l 0 = ((nul l).length : Int)) := by
  rcases split_cases l with ⟨hz, hi⟩ | ⟨o, r, rfl, hz, hi⟩
  · rw [nul_noZ hz]
    exact ⟨hz, .inl ⟨rfl, hi⟩⟩
  · rw [nul_app hz r]
    exact ⟨hz, .inr ⟨r, rfl, hi⟩⟩

def opened (b : List UInt8) : Option (List UInt8) := if nul b = [] ∨ nul b = b then none else openR (nul b) false
def oB (b : List UInt8) : List UInt8 := (opened b).getD []
def oN (b : List UInt8) : Int := if (opened b).isSome then (((nul b).length + 1 : Nat) : Int) else 0
def oE (b : List UInt8) : Int := if (opened b).isSome then 0 else 90
theorem opened_none {b : List UInt8} (h : opened b = none) : oB b = [] ∧ oN b = 0 ∧ oE b = 90 := by simp [oB, oN, oE, h]
theorem opened_some {b x : List UInt8} (h : opened b = some x) : oB b = x ∧ oN b = (((nul b).length + 1 : Nat) : Int) ∧ oE b = 0 := by simp [oB, oN, oE, h]

def OpTold (b : List UInt8) (w : World) (e : Ending) (w' : World) : Prop :=
  ∃ a n' c', e = .returned (.tuple #[.slice a n' c', .int .i64 (oN b), .int .u16 (oE b)]) ∧ w'.ownsRow w.heap.size 5 1 (.slice a n' c') n' (bcells (oB b)) ∧ n' = (oB b).length ∧ Below w.heap.size w w'
theorem opTold_none {b : List UInt8} {w w' : World} (h : opened b = none) (hb : Below w.heap.size w w') : OpTold b w (.returned (.tuple #[.slice none 0 0, .int .i64 0, .int .u16 90])) w' := by
  obtain ⟨o1, o2, o3⟩ := opened_none h
  unfold OpTold
  rw [o1, o2, o3]
  exact ⟨_, _, _, rfl, World.ownsRow_nil _ _ _ _, rfl, hb⟩
theorem opTold_some {b x : List UInt8} {w w' : World} {a : Option Addr} {n c : Nat} {k : Int} (h : opened b = some x) (ho : w'.ownsRow w.heap.size 5 1 (.slice a n c) x.length (bcells x)) (hn : n = x.length) (hk : k = oN b) (hb : Below w.heap.size w w') :
    OpTold b w (.returned (.tuple #[.slice a n c, .int .i64 k, .int .u16 0])) w' := by
  obtain ⟨o1, o2, o3⟩ := opened_some h
  unfold OpTold
  rw [o1, o3, hk]
  exact ⟨_, _, _, rfl, by rw [hn]; rw [hn] at ho; exact ho, hn, hb⟩

theorem RdB.mid {w : World} {ad : Addr} {c n : Nat} {l : List UInt8} (h : RdB w (.slice (some ad) n c) l) (hn : n = l.length) (hc : n ≤ c) (k : Nat) (hk : k ≤ n) (c' : Nat) :
    RdB w (.slice (if c = 1 then some ad else some ⟨ad.block, ad.off + 1, none⟩) (k - 1) c') ((l.take k).drop 1) := by
  have h1 := h.upto hn k c k (by simp; omega)
  exact h1.rest (by simp; omega) (by omega) 1 c' (k - 1) (by simp; omega)

def OpRel (s : List UInt8) (w : World) (ov lv rv : Value) (wr : World) : Prop :=
  ∃ (O t : List UInt8) (lg : Bool) (aO ar : Option Addr) (nO cO nt ct : Nat), ov = .slice aO nO cO ∧ lv = .bool lg ∧ rv = .slice ar nt ct ∧ nt ≤ ct ∧ ct ≤ 9223372036854775807 ∧ nO + nt ≤ 1100000 ∧ Hid (nt = t.length) ∧ Hid (nO = O.length) ∧ Hid (NoZ t) ∧
         Hid (RowIn w w.heap.size 5 (.slice aO nO cO) O wr) ∧ Hid (RdB wr (.slice ar nt ct) t) ∧ Hid (∀ k, (Value.slice ar nt ct).ownBlock = some k → k < w.heap.size) ∧ Hid (openR s false = (openR t lg).map fun r => O ++ r)

set_option maxRecDepth 100000 in
set_option maxHeartbeats 6400000 in
theorem st_Open (b : List UInt8) (ao : Option Addr) (c : Nat) (w : World) (hx : RdB w (.slice ao b.length c) b) (hle : b.length ≤ c) (hc : c ≤ 9223372036854775807) (hlen : b.length ≤ 1100000) :
    Calls Tryz.prog 77 #[.slice ao b.length c] w (OpTold b w) := by
  have H := hide (bt_IndexByte _ b w hx)
  have HX := hide hx
  obtain ⟨hz, ⟨h1, h2⟩ | ⟨r, h1, h2⟩⟩ := nul_is b
  · have ho : opened b = none := by unfold opened; rw [if_pos (.inr h1)]
    rw [h2] at H
    have HOO := hide ho
    clear hx hz h1 h2 ho HX
    go_enter Tryz.func77, Tryz.ntmps77
    go_wp2_with (refine H.out.mono ?_; rintro e w' ⟨rfl, rfl⟩)
    go_ret3
    exact opTold_none HOO.out (Below.refl _ _)
  · rw [h2] at H
    by_cases hs : nul b = []
    · have ho : opened b = none := by unfold opened; rw [if_pos (.inl hs)]
      rw [hs] at H
      have HOO := hide ho
      clear hx hz h1 h2 ho HX hs
      go_enter Tryz.func77, Tryz.ntmps77
      go_wp2_with (refine H.out.mono ?_; rintro e w' ⟨rfl, rfl⟩)
      go_ret3
      exact opTold_none HOO.out (Below.refl _ _)
    · have hne : nul b ≠ b := fun e => by
        have := congrArg List.length h1
        rw [e] at this
        simp at this
      have ho : opened b = openR (nul b) false := by unfold opened; rw [if_neg (by simp [hs, hne])]
      have hlb : b.length = (nul b).length + 1 + r.length := by
        have := congrArg List.length h1
        rw [List.length_append, List.length_cons] at this
        omega
      have hpos : 0 < (nul b).length := List.length_pos_iff.2 hs
      obtain ⟨s, hS⟩ : ∃ s, s = nul b := ⟨_, rfl⟩
      rw [← hS] at H hz hlb hpos ho
      have hN : ∀ x, opened b = some x → oN b = ((s.length + 1 : Nat) : Int) := fun x hx => by rw [(opened_some hx).2.1, hS]
      have htk : b.take s.length = s := by rw [h1, ← hS, List.take_left' rfl]
      obtain ⟨m, hm⟩ : ∃ m, m = s.length := ⟨_, rfl⟩
      rw [← hm] at H
      have HM := hide hm
      have hm1 : (0 : Int) < m := by omega
      have hm2 : ¬ ((m : Int) ≤ 0) := by omega
      have hm3 : (m : Int) ≤ c := by omega
      have hml : m ≤ 1100000 := by omega
      obtain ⟨ad, rfl⟩ : ∃ ad, ao = some ad := by
        rcases hx.2 with ⟨he, hz⟩ | ⟨ad2, c2, he, _⟩
        · have : b.length = 0 := hz
          omega
        · simp only [Value.slice.injEq] at he
          exact ⟨ad2, he.1⟩
      have hbl : Hid (∀ k, (Value.slice (some ad) m c).ownBlock = some k → k < w.heap.size) := hide fun k hk => by
        obtain ⟨b0, o0, c0, he, _, hb0⟩ := RdB.at (k := 0) hx (by omega)
        simp only [Value.slice.injEq, Option.some.injEq] at he
        obtain ⟨rfl, _⟩ := he
        have : k = b0 := by simpa [Value.ownBlock] using hk.symm
        omega
      have hr0 := hide (by have := hx.upto rfl m c m (by rw [hm, htk]); rwa [hm, htk, ← hm] at this)
      have HZ := hide hz; have HO := hide ho; have HN := hide hN
      clear hx h1 h2 ho HX hs hne hlb hpos hS hN htk hm hz
      go_enter Tryz.func77, Tryz.ntmps77
      go_wp2_with (refine H.out.mono ?_; clear H; rintro e w ⟨rfl, rfl⟩)
      go_loopw [6, 7, 8] (fun ov lv rv wr => OpRel s w ov lv rv wr) (fun _ _ rv _ => match rv with | .slice _ n _ => n | _ => 0)
      case atStart => exact ⟨[], s, false, none, some ad, 0, 0, m, c, rfl, rfl, rfl, by omega, hc, by omega, HM, hide rfl, HZ, hide ⟨World.ownsRow_nil _ _ _ _, Below.refl _ _, Nat.le_refl _⟩, hr0, hbl, hide (by simp)⟩
      case round =>
        obtain ⟨O, t, lg, aO, ar, nO, cO, nt, ct, rfl, rfl, rfl, hntc, hct, hsum, hnt, hnO, hzt, hO, ht, hbt, hop⟩ := hrel
        clear hr0 hbl HZ
        cases t with
        | nil =>
          have h0 : nt = 0 := hnt.out
          subst h0
          cases lg with
          | true =>
            have ho : opened b = none := by rw [HO.out, hop.out, openR_nil]; rfl
            have HOO := hide ho
            have HB := hide hO.out.2.1
            clear ho
            go_wp2
            go_ret3
            exact opTold_none HOO.out HB.out
          | false =>
            have ho : opened b = some O := by rw [HO.out, hop.out, openR_nil]; simp
            have HOO := hide ho
            have HNN := hide (show ((m : Int) + 1) = oN b by rw [HN.out O ho, HM.out]; rfl)
            have HR := hide hO.out
            clear ho
            go_wp2
            go_ret3
            exact opTold_some HOO.out HR.out.1 hnO.out HNN.out HR.out.2.1
        | cons ch t =>
          have hch : ch ≠ 0 := hzt.out ch (by simp)
          have hk0 : 0 < ch.toNat := by
            rcases Nat.eq_zero_or_pos ch.toNat with h | h
            · exact absurd (UInt8.toNat.inj h) hch
            · exact h
          have hk1 := ch.toNat_lt
          obtain ⟨bb, off, c9, he, hcell, hbw⟩ := RdB.at (k := 0) (l := ch :: t) (by have := ht.out; rw [hnt.out] at this; exact this) (by simp)
          simp only [Value.slice.injEq] at he
          obtain ⟨rfl, -⟩ := he
          have hcell0 : wr.cell? ⟨bb, off, none⟩ = some (.int .u8 (ch.toNat : Nat)) := by simpa using hcell
          obtain ⟨k, hk⟩ : ∃ k, k = ch.toNat := ⟨_, rfl⟩
          rw [← hk] at hk0 hk1 hcell0
          have HK := hide hk
          have hnt1 : 0 < nt := by rw [hnt.out]; simp
          have i1 : (0 : Int) < nt := by omega
          clear hcell hk hch
          by_cases hbig : nt < k
          · have ho : opened b = none := by
              rw [HO.out, hop.out, openR_no ch t lg (by
                have h1 := HK.out; have h2 := hnt.out
                simp at h2
                omega)]
              rfl
            have HOO := hide ho
            have HB := hide hO.out.2.1
            have i2 : (nt : Int) < k := by omega
            clear ho
            go_wp2
            go_ret3
            exact opTold_none HOO.out HB.out
          · have i2 : ¬ ((nt : Int) < k) := by omega
            have i3 : (1 : Int) ≤ k := by omega
            have i4 : (k : Int) ≤ ct := by omega
            have i5 : (k : Int) ≤ nt := by omega
            have hP0 := hide (show RdB wr (.slice (if ct = 1 then some ⟨bb, off, none⟩ else some ⟨bb, off + 1, none⟩) (k - 1) (ct - 1)) (((ch :: t).take k).drop 1) by
              exact ht.out.mid hnt.out hntc k (by omega) (ct - 1))
            have hT0 := hide (show RdB wr (.slice (if ct = k then some ⟨bb, off, none⟩ else some ⟨bb, off + k, none⟩) (nt - k) (ct - k)) ((ch :: t).drop k) by
              exact ht.out.rest hnt.out hntc k (ct - k) (nt - k) (by have := hnt.out; simp at this ⊢; omega))
            obtain ⟨P, hP⟩ : ∃ P, P = t.take (k - 1) := ⟨_, rfl⟩
            obtain ⟨T, hT⟩ : ∃ T, T = t.drop (k - 1) := ⟨_, rfl⟩
            have hPe : ((ch :: t).take k).drop 1 = P := by
              obtain ⟨j, rfl⟩ : ∃ j, k = j + 1 := ⟨k - 1, by omega⟩
              rw [hP]; simp
            have hTe : (ch :: t).drop k = T := by
              obtain ⟨j, rfl⟩ : ∃ j, k = j + 1 := ⟨k - 1, by omega⟩
              rw [hT]; simp
            rw [hPe] at hP0
            rw [hTe] at hT0
            have hPl : Hid (P.length = k - 1) := hide (by rw [hP]; have := hnt.out; simp at this ⊢; omega)
            have hTl : Hid (nt - k = T.length) := hide (by rw [hT]; have := hnt.out; simp at this ⊢; omega)
            have hzT : Hid (NoZ T) := hide fun x hx => hzt.out x (List.mem_cons_of_mem _ (List.mem_of_mem_drop (by rw [hT] at hx; exact hx)))
            have hop2 : Hid (openR s false = (openR T (ch == 255)).map fun r => O ++ (P ++ ((if ch ≠ 255 ∧ T ≠ [] then [0] else []) ++ r))) := hide (by
              rw [hop.out, openR_cons ch t lg (by have := HK.out; have := hnt.out; simp at this; omega), ← HK.out, ← hP, ← hT]
              simp only [Option.map_map]
              rfl)
            have hbk : Hid (∀ j, (Value.slice (if ct = k then some ⟨bb, off, none⟩ else some ⟨bb, off + k, none⟩) (nt - k) (ct - k)).ownBlock = some j → j < w.heap.size) := hide fun j hj => by
              have h1 := ownBlock_rest ⟨bb, off, none⟩ ct k (nt - k) (ct - k)
              rw [h1] at hj
              exact hbt.out j hj
            have hl1 : (O.length + P.length : Nat) ≤ 1100000 := by rw [hPl.out, ← hnO.out]; omega
            have HL1 := hide hl1
            clear hP hT hPe hTe hl1 ht hop hzt
            have hOw : Hid (RowIn w w.heap.size 5 (.slice aO nO cO) O wr) := hO
            have hn1' : Hid ((O ++ P).length + (nt - k) ≤ 1100000) := hide (by rw [List.length_append]; have := HL1.out; have := hPl.out; have := hnO.out; omega)
            go_upto_region 13 with (at_builtin; refine wpList_copy_own rfl _ _ 22 rfl w w.heap.size 5 Tryz.underlying22 (by kernel_rfl) _ O rfl (by exact hOw.out) _ P rfl (by exact hP0.out) (by have := HL1.out; omega) ?_; intro a1 co1 w1 hown1 hb1; obtain ⟨n1, hn1⟩ : ∃ n1, n1 = (O ++ P).length := ⟨_, rfl⟩; rw [← hn1] at hown1 ⊢; have N1 := hide hn1; have HO1 := hide hown1; have hT1 := hide (RdB.keep hT0.out (w' := w1) fun j hj => hb1.block j (hbk.out j hj)); clear hn1 hown1 hb1)
            by_cases h255 : k = 255
            · subst h255
              have hc2 : ch = 255 := UInt8.toNat.inj HK.out.symm
              have hop3 : Hid (openR s false = (openR T true).map fun r => (O ++ P) ++ r) := hide (by
                rw [hop2.out, hc2]
                simp)
              have HREL : Hid (OpRel s w (.slice a1 n1 co1) (.bool true) (.slice (if ct = 255 then some ⟨bb, off, none⟩ else some ⟨bb, off + 255, none⟩) (nt - 255) (ct - 255)) w1) := hide
                ⟨O ++ P, T, true, a1, (if ct = 255 then some ⟨bb, off, none⟩ else some ⟨bb, off + 255, none⟩), n1, co1, nt - 255, ct - 255, rfl, rfl, rfl, by omega, by omega, by have := hn1'.out; have := N1.out; omega, hTl, N1, hzT, HO1, hT1, hbk, hop3⟩
              clear hop2 hc2
              go_wp2_with fail
              all_goals (first
                | (refine ⟨⟨_, _, _, _, _, _, ?_, rfl, rfl, rfl, rfl, rfl, rfl⟩, by omega⟩; simpa [*] using HREL.out)
                | (refine ⟨_, _, _, _, _, _, ?_, rfl, rfl, rfl, rfl, rfl, rfl⟩; simpa [*] using HREL.out))
            · have hc2 : ch ≠ 255 := fun e => h255 (by rw [HK.out, e]; rfl)
              have hcf : (ch == 255) = false := by simpa using hc2
              have j1 : ¬ ((k : Int) = 255) := by omega
              have j2 : ((k : Int) == 255) = false := by simpa using j1
              by_cases hTn : nt = k
              · have hTe : T = [] := List.eq_nil_of_length_eq_zero (by have := hTl.out; omega)
                have hop3 : Hid (openR s false = (openR T false).map fun r => (O ++ P) ++ r) := hide (by
                  rw [hop2.out, hcf, hTe]
                  simp)
                have HREL : Hid (OpRel s w (.slice a1 n1 co1) (.bool false) (.slice (if ct = k then some ⟨bb, off, none⟩ else some ⟨bb, off + k, none⟩) (nt - k) (ct - k)) w1) := hide
                  ⟨O ++ P, T, false, a1, (if ct = k then some ⟨bb, off, none⟩ else some ⟨bb, off + k, none⟩), n1, co1, nt - k, ct - k, rfl, rfl, rfl, by omega, by omega, by have := hn1'.out; have := N1.out; omega, hTl, N1, hzT, HO1, hT1, hbk, hop3⟩
                have j3 : ¬ (0 < nt - k) := by omega
                have j4 : ¬ ((0 : Int) < ((nt - k : Nat) : Int)) := by omega
                have j5 : nt ≤ k := by omega
                clear hop2 hc2 hcf hTe hTn
                go_wp2_with fail
                all_goals (first
                  | (refine ⟨⟨_, _, _, _, _, _, ?_, rfl, rfl, rfl, rfl, rfl, rfl⟩, by omega⟩; simpa [*] using HREL.out)
                  | (refine ⟨_, _, _, _, _, _, ?_, rfl, rfl, rfl, rfl, rfl, rfl⟩; simpa [*] using HREL.out))
              · have hTe : T ≠ [] := fun e => hTn (by have := hTl.out; rw [e] at this; simp at this; omega)
                have hop3 : Hid (openR s false = (openR T false).map fun r => (O ++ P ++ [0]) ++ r) := hide (by
                  rw [hop2.out, hcf, if_pos ⟨hc2, hTe⟩]
                  simp)
                have j3 : 0 < nt - k := by omega
                have j4 : (0 : Int) < ((nt - k : Nat) : Int) := by omega
                have j5 : k < nt := by omega
                have j6 : ct ≠ k := by omega
                have hkk : Hid ((O ++ P ++ [0]).length + (nt - k) ≤ 1100000) := hide (by
                  have h1 := HL1.out; have h2 := hPl.out; have h3 := hnO.out
                  simp only [List.length_append, List.length_cons, List.length_nil]
                  omega)
                clear hop2 hc2 hcf hTe hTn
                have hrd2 := hide (rd_new w1 #[.int .u8 0] 5 1 1 (by decide) rfl)
                have HO2 := hide (HO1.out.to (below_alloc w1 (.cells #[.int .u8 0] 5)))
                go_wp2_with (at_builtin; refine wpList_copy_own rfl _ _ 22 rfl w w.heap.size 5 Tryz.underlying22 (by kernel_rfl) _ (O ++ P) rfl (by exact HO2.out) _ [0] rfl (by exact hrd2.out) (by have := HL1.out; simp; omega) ?_; intro a2 co2 w2 hown2 hb2; obtain ⟨n2, hn2⟩ : ∃ n2, n2 = (O ++ P ++ [0]).length := ⟨_, rfl⟩; rw [← hn2] at hown2 ⊢; have N2 := hide hn2; have HO3 := hide hown2; have hT2 := hide (RdB.keep hT1.out (w' := w2) fun j hj => (hb2.block j (hbk.out j hj)).trans (Below.heap_alloc w1 _ j (by have := hbk.out j hj; have := HO1.out.2.2; omega))); clear hn2 hown2 hb2)
                all_goals
                  have HREL : Hid (OpRel s w (.slice a2 n2 co2) (.bool false) (.slice (if ct = k then some ⟨bb, off, none⟩ else some ⟨bb, off + k, none⟩) (nt - k) (ct - k)) w2) := hide
                    ⟨O ++ P ++ [0], T, false, a2, (if ct = k then some ⟨bb, off, none⟩ else some ⟨bb, off + k, none⟩), n2, co2, nt - k, ct - k, rfl, rfl, rfl, by omega, by omega, by have := hkk.out; have := N2.out; omega, hTl, N2, hzT, HO3, hT2, hbk, hop3⟩
                all_goals (first
                  | (refine ⟨⟨_, _, _, _, _, _, ?_, rfl, rfl, rfl, rfl, rfl, rfl⟩, by omega⟩; simpa [*] using HREL.out)
                  | (refine ⟨_, _, _, _, _, _, ?_, rfl, rfl, rfl, rfl, rfl, rfl⟩; simpa [*] using HREL.out))
end Go.Proofs.YtglgjakjhkdoaaaGreatDoor

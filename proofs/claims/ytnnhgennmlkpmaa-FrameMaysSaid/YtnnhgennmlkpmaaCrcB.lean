/-
  Walks over package crc: Sum; the reference's Sum.
-/
import Derived.Test.YtnnhgennmlkpmaaCrcA
import Derived.Test.YtnnhgennmlkpmaaRd
namespace Go.Proofs.Ytnnhgennmlkpmaa
open Go.RowKit
set_option linter.unusedVariables false
set_option linter.unusedSimpArgs false

/-- a Table that the call owns: new, or made -/
def Tab (w : World) (tb : Nat) (f : Bool) : Prop := TabAt w tb (if f then 1 else 0) 0 (if f then 1 else 0) (if f then tabT else zeroT)
theorem Tab.low {w w' : World} {tb : Nat} {f : Bool} (h : Tab w tb f) (hb : Below w.heap.size w w') : Tab w' tb f := TabAt.low h hb

theorem not_u32 (c : Nat) (h : c < 4294967296) : bits .xor .u32 4294967295 (c : Int) = ((4294967295 ^^^ c : Nat) : Int) := by
  simpa using u32_xor_nat 4294967295 c (by omega) h

set_option maxHeartbeats 800000 in
theorem ref_sum (x : Value) (l : List UInt8) (w : World) (hx : RdB w x l) (hl : l.length ≤ 9223372036854775807) :
    Calls Try.prog 19 #[x] w fun e w' => e = .returned (.int .u32 (crcSum l : Nat)) ∧ w = w' := by
  obtain ⟨a, c, rfl⟩ := hx.head
  have HX := hide hx
  clear hx
  go_enter Try.func19, Try.ntmps19
  go_wp2
  go_loop [3, 4] (fun c j => ∃ (n m : Nat), m ≤ l.length ∧ n < 4294967296 ∧ c = .int .u32 n ∧ j = .int .i64 m ∧ Hid (n = crcFold 4294967295 (l.take m))) (fun _ j => l.length - (intOf j).toNat)
  case atStart => exact ⟨4294967295, 0, by omega, by omega, rfl, rfl, rfl⟩
  case round =>
    obtain ⟨n, m, hm, hn, rfl, rfl, hnm⟩ := hrel
    by_cases hlt : m < l.length
    · obtain ⟨b, off, c', he, hc, hb⟩ := HX.out.at hlt
      simp only [Value.slice.injEq, true_and] at he
      obtain ⟨rfl, rfl⟩ := he
      have h2 := upd_lt l[m] (c := n) hn
      have hnm2 : Hid (upd n l[m] = crcFold 4294967295 (l.take (m + 1))) := by
        exact hide (by rw [hnm.out, List.take_succ_eq_append_getElem hlt, crcFold_append]; rfl)
      have i1 : (0 : Int) ≤ m := by omega
      have i2 : (m : Int) < l.length := by omega
      generalize l[m] = y at hc h2 hnm2
      go_wp2_with (go_at_call 33; refine (ref_next n y _ hn).mono ?_; rintro e w' ⟨rfl, rfl⟩)
      go_round
      case rel => exact ⟨_, m + 1, by omega, h2, rfl, by go_num, hnm2⟩
      case measure => simp [intOf]; omega
    · obtain rfl : m = l.length := by omega
      have hx := not_u32 n hn
      have HZ := hide hx
      clear hx
      go_wp2
      go_ret
      rw [List.take_length] at hnm
      exact ⟨by unfold crcSum; rw [← hnm.out, ← HZ.out]; rfl, rfl⟩

/-- a byte, as the code says it -/
theorem upd_code (c : Nat) (b : UInt8) (h : c < 4294967296) :
    bits .xor .u8 ((c : Int) % 256) (b.toNat : Int) = ((c % 256 ^^^ b.toNat : Nat) : Int) ∧ c % 256 ^^^ b.toNat < 256 ∧ bits .xor .u32 ((c : Int) / 256) ((stepN 8 (c % 256 ^^^ b.toNat) : Nat) : Int) = ((upd c b : Nat) : Int) := by
  have hb := b.toNat_lt
  have h1 := u8_xor_nat (c % 256) b.toNat (by omega) (by omega)
  have h2 : c % 256 ^^^ b.toNat < 2 ^ 8 := Nat.xor_lt_two_pow (by omega) (by omega)
  have h3 := stepN_lt 8 (c := c % 256 ^^^ b.toNat) (by omega)
  have h4 := u32_xor_nat (c / 256) (stepN 8 (c % 256 ^^^ b.toNat)) (by omega) (by omega)
  refine ⟨by simpa using h1, by omega, ?_⟩
  rw [← upd_table]
  simpa using h4

theorem call_fill (tb : Nat) (w : World) : (callFunc 37 (#[.pointer (some ⟨tb, 0, none⟩)] ++ #[])).run Try.prog w = .ok (.enter 37 (#[.pointer (some ⟨tb, 0, none⟩)] ++ #[])) w := by
  kernel_rfl

/-- the table is made when Do is called first -/
theorem once_fill (tb : Nat) (w : World) (hT : Tab w tb false) :
    Calls Try.prog 36 #[.pointer (some ⟨tb, 0, none⟩), .func (.func 37) #[.pointer (some ⟨tb, 0, none⟩)] #[]] w fun e w' => e = .returned (.tuple #[]) ∧ Tab w' tb true ∧ Chg [tb] [tb] w w' := by
  have hT1 := TabAt.set1 hT 1
  obtain ⟨h0, h1, _, hz, _⟩ := TabAt.heads hT
  refine (once_first (fun w1 w2 => TabAt w2 tb 0 1 1 tabT ∧ Chg [tb] [tb] w1 w2) tb 0 _ _ _ w h0 h1 (hz 0) (hz 1) ?_ (call_fill tb)).mono ?_
  · refine (crc_fill tb 0 1 0 zeroT _ hT1 (by omega) (by omega)).mono ?_
    rintro e w' ⟨rfl, h2, h3⟩
    obtain ⟨a0, a1, _, az, _⟩ := hT1.heads
    obtain ⟨b0, b1, _, bz, _⟩ := h2.heads
    exact ⟨rfl, b0.trans a0.symm, b1.trans a1.symm, bz 0, bz 1, h2, h3⟩
  · rintro e w' ⟨rfl, w2, ⟨h2, h3⟩, rfl⟩
    refine ⟨rfl, TabAt.set1 (TabAt.set0 (w := w2.drew) (h2.same rfl) 1) 0, ?_⟩
    have h4 : Chg [tb] [tb] w2 w2.drew := ⟨rfl, rfl, rfl, Nat.le_refl _, fun _ _ _ => rfl, fun _ h => .inl h⟩
    exact ((((Chg.set w 1 _).trans h3).trans h4).trans (Chg.set _ 0 _)).trans (Chg.set _ 1 _)

theorem once_tab (tb : Nat) (f : Bool) (w : World) (hT : Tab w tb f) :
    Calls Try.prog 36 #[.pointer (some ⟨tb, 0, none⟩), .func (.func 37) #[.pointer (some ⟨tb, 0, none⟩)] #[]] w fun e w' => e = .returned (.tuple #[]) ∧ Tab w' tb true ∧ Chg [tb] [tb] w w' := by
  cases f with
  | false => exact once_fill tb w hT
  | true =>
    refine (once_done ⟨tb, 0, none⟩ _ w (TabAt.heads hT).1).mono ?_
    rintro e w' ⟨rfl, rfl⟩
    exact ⟨rfl, hT, Chg.refl _ _⟩

set_option maxRecDepth 100000 in
set_option maxHeartbeats 1600000 in
/-- Sum, whatever was summed ahead -/
theorem crc_sum (tb : Nat) (f : Bool) (x : Value) (ls : List (List UInt8)) (w0 : World) (hT : Tab w0 tb f) (hx : ∀ w', Chg [tb] [tb] w0 w' → RdBs w' x ls) (hl : ls.length ≤ 9223372036854775807) (hls : ∀ l ∈ ls, l.length ≤ 9223372036854775807) :
    Calls Try.prog 26 #[.pointer (some ⟨tb, 0, none⟩), x] w0 fun e w' => e = .returned (.int .u32 (crcSum ls.flatten : Nat)) ∧ Tab w' tb true ∧ Chg [tb] [tb] w0 w' := by
  obtain ⟨a, c, rfl⟩ := (hx w0 (Chg.refl _ _)).head
  have HX := hide hx; have HT := hide hT; have HL := hide hls
  clear hx hT hls
  go_enter Try.func26, Try.ntmps26
  go_wp2_with (go_at_call 36; refine (once_tab tb f _ HT.out).mono ?_; rintro e w ⟨rfl, hT1, hc1⟩; replace HX := hide (HX.out w hc1); replace HT := hide hT1; have HC := hide hc1; clear hT1 hc1)
  go_loop [5, 18] (fun c j => ∃ (n m : Nat), m ≤ ls.length ∧ n < 4294967296 ∧ c = .int .u32 n ∧ j = .int .i64 m ∧ Hid (n = crcFold 4294967295 (ls.take m).flatten)) (fun _ j => ls.length - (intOf j).toNat)
  case atStart => exact ⟨4294967295, 0, by omega, by omega, rfl, rfl, rfl⟩
  case round =>
    obtain ⟨n, m, hm, hn, rfl, rfl, hnm⟩ := hrel
    by_cases hlt : m < ls.length
    · obtain ⟨b, off, c', v, he, hc, hv, hb⟩ := HX.out.at hlt
      simp only [Value.slice.injEq, true_and] at he
      obtain ⟨rfl, rfl⟩ := he
      have hlm := HL.out _ (List.getElem_mem hlt)
      obtain ⟨l, hle⟩ : ∃ l, l = ls[m] := ⟨_, rfl⟩
      have hfl : Hid ((ls.take (m + 1)).flatten = (ls.take m).flatten ++ l) := by
        exact hide (by rw [List.take_succ_eq_append_getElem hlt, hle, List.flatten_append]; simp)
      rw [← hle] at hv hlm
      clear hle
      obtain ⟨a2, c2, rfl⟩ := hv.head
      have HV := hide hv
      have i1 : (0 : Int) ≤ m := by omega
      have i2 : (m : Int) < ls.length := by omega
      clear hv
      go_wp2
      go_loop [5, 24] (fun c j => ∃ (n k : Nat), k ≤ l.length ∧ n < 4294967296 ∧ c = .int .u32 n ∧ j = .int .i64 k ∧ Hid (n = crcFold 4294967295 ((ls.take m).flatten ++ l.take k))) (fun _ j => l.length - (intOf j).toNat)
      case atStart => exact ⟨n, 0, by omega, hn, rfl, rfl, hide (by rw [hnm.out]; simp)⟩
      case round =>
        obtain ⟨n, k, hk, hn, rfl, rfl, hnk⟩ := hrel
        by_cases hlk : k < l.length
        · obtain ⟨b3, off3, c3, he3, hc3, hb3⟩ := HV.out.at hlk
          simp only [Value.slice.injEq, true_and] at he3
          obtain ⟨rfl, rfl⟩ := he3
          obtain ⟨u1, u2, u3⟩ := upd_code n l[k] hn
          have h2 := upd_lt l[k] (c := n) hn
          have hnk2 : Hid (upd n l[k] = crcFold 4294967295 ((ls.take m).flatten ++ l.take (k + 1))) := by
            exact hide (by rw [hnk.out, List.take_succ_eq_append_getElem hlk, ← List.append_assoc, crcFold_append (b := [_])]; rfl)
          have ht : w.cell? ⟨tb, 4 + (n % 256 ^^^ l[k].toNat), none⟩ = some (.int .u32 (stepN 8 (n % 256 ^^^ l[k].toNat) : Nat)) := by
            have := (TabAt.cell HT.out (n % 256 ^^^ l[k].toNat)).trans (c := some (u32v (stepN 8 (n % 256 ^^^ l[k].toNat)))) (by simp [tabT, u2])
            exact this
          have k1 : (0 : Int) ≤ k := by omega
          have k2 : (k : Int) < l.length := by omega
          obtain ⟨y, hy⟩ : ∃ y, y = l[k] := ⟨_, rfl⟩
          rw [← hy] at hc3 u1 u2 u3 h2 hnk2 ht
          obtain ⟨q, hq⟩ : ∃ q, q = n % 256 ^^^ y.toNat := ⟨_, rfl⟩
          rw [← hq] at u1 u2 u3 ht
          have q2 : (q : Int) < 256 := by omega
          clear hy hq
          have U3 := hide u3
          clear u3
          go_wp2
          rw [U3.out]
          go_round
          case rel => exact ⟨_, k + 1, by omega, h2, rfl, by go_num, hnk2⟩
          case measure => simp [intOf]; omega
        · obtain rfl : k = l.length := by omega
          have hn2 : Hid (n = crcFold 4294967295 (ls.take (m + 1)).flatten) := hide (by rw [hfl.out, hnk.out, List.take_length])
          go_wp2
          go_round
          case rel => exact ⟨n, m + 1, by omega, hn, rfl, by go_num, hn2⟩
          case measure => simp [intOf]; omega
    · obtain rfl : m = ls.length := by omega
      have hx := not_u32 n hn
      have HZ := hide hx
      clear hx
      rw [List.take_length] at hnm
      go_wp2
      go_ret
      exact ⟨by unfold crcSum; rw [← hnm.out, ← HZ.out]; rfl, HT.out, HC.out⟩
end Go.Proofs.Ytnnhgennmlkpmaa

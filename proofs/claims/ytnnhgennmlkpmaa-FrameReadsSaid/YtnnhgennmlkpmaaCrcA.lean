/-
  Walks over package crc: the table, New, fill, Made; the reference's next.
-/
import Derived.Test.YtnnhgennmlkpmaaOnce
import Derived.Test.YtnnhgennmlkpmaaCrcM
import Derived.Laws.BitsAllLaws
namespace Go.Proofs.Ytnnhgennmlkpmaa
open Go.RowKit
set_option linter.unusedVariables false
set_option linter.unusedSimpArgs false

def u32v (n : Nat) : Value := .int .u32 n
def zeroT : List Value := List.replicate 256 (.int .u32 0)
def tabT : List Value := (List.range 256).map fun i => u32v (stepN 8 i)
/-- the cells of a Table: its Once's word and lock, how often it was made, the table -/
def tabC (d st made : Int) (T : List Value) : Array Value := (.int .u32 d :: .int .i32 st :: .int .u32 0 :: .int .i64 made :: T).toArray
structure TabAt (w : World) (tb : Nat) (d st made : Int) (T : List Value) : Prop where
  cells : w.heap[tb]? = some (.cells (tabC d st made T) 82 (0, 0))
  len : T.length = 256

theorem TabAt.heads {w : World} {tb : Nat} {d st made : Int} {T : List Value} (h : TabAt w tb d st made T) :
    w.cell? ⟨tb, 0, none⟩ = some (.int .u32 d) ∧ w.cell? ⟨tb, 1, none⟩ = some (.int .i32 st) ∧ w.cell? ⟨tb, 3, none⟩ = some (.int .i64 made) ∧ (∀ o, w.frozen? ⟨tb, o, none⟩ = false) ∧ tb < w.heap.size := by
  refine ⟨?_, ?_, ?_, fun o => by simp [World.frozen?, h.cells], (Array.getElem?_eq_some_iff.1 h.cells).1⟩ <;> simp [World.cell?, h.cells, tabC]
theorem TabAt.cell {w : World} {tb : Nat} {d st made : Int} {T : List Value} (h : TabAt w tb d st made T) (k : Nat) : w.cell? ⟨tb, 4 + k, none⟩ = T[k]? := by
  rw [Nat.add_comm]
  simp [World.cell?, h.cells, tabC]
theorem TabAt.same {w w' : World} {tb : Nat} {d st made : Int} {T : List Value} (h : TabAt w tb d st made T) (hk : w'.heap[tb]? = w.heap[tb]?) : TabAt w' tb d st made T := ⟨hk.trans h.cells, h.len⟩
theorem TabAt.low {w w' : World} {tb : Nat} {d st made : Int} {T : List Value} (h : TabAt w tb d st made T) (hb : Below w.heap.size w w') : TabAt w' tb d st made T := h.same (hb.block _ h.heads.2.2.2.2)
theorem TabAt.set {w : World} {tb : Nat} {d st made : Int} {T : List Value} (h : TabAt w tb d st made T) (k : Nat) (u : Value) : TabAt (w.setCell ⟨tb, 4 + k, none⟩ u) tb d st made (T.set k u) :=
  ⟨by rw [setCell_heap h.cells, Nat.add_comm]; simp [tabC], by simpa using h.len⟩
theorem TabAt.set3 {w : World} {tb : Nat} {d st made : Int} {T : List Value} (h : TabAt w tb d st made T) (m : Int) : TabAt (w.setCell ⟨tb, 3, none⟩ (.int .i64 m)) tb d st m T :=
  ⟨by rw [setCell_heap h.cells]; simp [tabC], h.len⟩
theorem TabAt.set1 {w : World} {tb : Nat} {d st made : Int} {T : List Value} (h : TabAt w tb d st made T) (m : Int) : TabAt (w.setCell ⟨tb, 1, none⟩ (.int .i32 m)) tb d m made T :=
  ⟨by rw [setCell_heap h.cells]; simp [tabC], h.len⟩
theorem TabAt.set0 {w : World} {tb : Nat} {d st made : Int} {T : List Value} (h : TabAt w tb d st made T) (m : Int) : TabAt (w.setCell ⟨tb, 0, none⟩ (.int .u32 m)) tb m st made T :=
  ⟨by rw [setCell_heap h.cells]; simp [tabC], h.len⟩
theorem Chg.set {tb : Nat} (w : World) (o : Nat) (u : Value) : Chg [tb] [tb] w (w.setCell ⟨tb, o, none⟩ u) :=
  ⟨rfl, rfl, rfl, by simp [World.setCell], fun k _ hk => heap_set_ne (by simpa using hk), fun k hk => .inl hk⟩

theorem zero_table : Try.zeroCells82 = tabC 0 0 0 zeroT := by kernel_rfl

theorem crc_new (w : World) : Calls Try.prog 25 #[] w fun e w' =>
    e = .returned (.pointer (some ⟨w.heap.size, 0, none⟩)) ∧ w' = w.alloc (.cells (tabC 0 0 0 zeroT) 82) := by
  rw [← zero_table]
  go_enter Try.func25, Try.ntmps25
  go_wp2
  go_ret
  exact ⟨rfl, rfl⟩
theorem TabAt.made (w : World) : TabAt (w.alloc (.cells (tabC 0 0 0 zeroT) 82)) w.heap.size 0 0 0 zeroT :=
  ⟨Array.getElem?_push_size, by rw [zeroT, List.length_replicate]⟩

/-- a step, as the code says it -/
theorem step_code (c : Nat) (h : c < 4294967296) : bits .xor .u32 ((c : Int) / 2) (bits .and .u32 2197175160 (-(bits .and .u32 (c : Int) 1) % 4294967296)) = ((step1 c : Nat) : Int) := by
  have h1 : bits .and .u32 (c : Int) 1 = ((c % 2 : Nat) : Int) := by
    have := u32_and_nat c 1 h (by omega)
    rw [nat_mask1] at this
    exact this
  rw [h1]
  unfold step1
  have hc := Nat.mod_two_eq_zero_or_one c
  rcases hc with hc | hc
  · rw [hc]
    have h2 := u32_and_nat 2197175160 0 (by omega) (by omega)
    have e : (-((0 : Nat) : Int)) % 4294967296 = ((0 : Nat) : Int) := by omega
    rw [e, show (2197175160 : Int) = ((2197175160 : Nat) : Int) from rfl, h2]
    have h3 := u32_xor_nat (c / 2) 0 (by omega) (by omega)
    simpa using h3
  · rw [hc]
    have h2 := u32_and_nat 2197175160 4294967295 (by omega) (by omega)
    have e : (-((1 : Nat) : Int)) % 4294967296 = ((4294967295 : Nat) : Int) := by omega
    rw [e, show (2197175160 : Int) = ((2197175160 : Nat) : Int) from rfl, h2]
    have h3 := u32_xor_nat (c / 2) 2197175160 (by omega) (by omega)
    have e2 : 2197175160 &&& 4294967295 = 2197175160 := by decide
    rw [e2]
    simpa [poly] using h3

theorem atomic_add (a : Addr) (x y : Int) (w : World) (hc : w.cell? a = some (.int .i64 x)) (hz : w.frozen? a = false) (h0 : 0 ≤ x) (h1 : x ≤ 1000) (h2 : 0 ≤ y) (h3 : y ≤ 1000) :
    Calls Try.prog 40 #[.pointer (some a), .int .i64 y] w fun e w' => e = .returned (.int .i64 (x + y)) ∧ w' = w.setCell a (.int .i64 (x + y)) := by
  have hadd := run_call_add (P := Try.prog) Try.func45 (by kernel_rfl) (by kernel_rfl) (by kernel_rfl) .i64 (by kernel_rfl) (y := y) (s := x + y) hc hz (by have e : IntKind.i64.wrap (x + y) = x + y := by { rw [IntKind.wrap_i64]; omega }; simp [go_sem, Op.intArith, e])
  go_enter Try.func40, Try.ntmps40
  go_wp2
  go_ret
  exact ⟨rfl, rfl⟩

set_option maxRecDepth 100000 in
set_option maxHeartbeats 800000 in
theorem crc_fill (tb : Nat) (d st made : Int) (T : List Value) (w : World) (h : TabAt w tb d st made T) (hm0 : 0 ≤ made) (hm1 : made ≤ 1000) :
    Calls Try.prog 37 #[.pointer (some ⟨tb, 0, none⟩)] w fun e w' => e = .returned (.tuple #[]) ∧ TabAt w' tb d st (made + 1) tabT ∧ Chg [tb] [tb] w w' := by
  have H := hide h
  clear h
  go_enter Try.func37, Try.ntmps37
  go_wp2
  go_loopw [4] (fun i wr => ∃ (k : Nat), k ≤ 256 ∧ i = .int .i64 k ∧ Hid (∃ T, TabAt wr tb d st made T ∧ (∀ j, j < k → T[j]? = some (u32v (stepN 8 j))) ∧ Chg [tb] [tb] w wr)) (fun i _ => 256 - (intOf i).toNat)
  case atStart => exact ⟨0, Nat.zero_le _, rfl, T, H.out, fun j hj => absurd hj (Nat.not_lt_zero j), Chg.refl _ _⟩
  case round =>
    obtain ⟨k, hk, rfl, hT⟩ := hrel
    by_cases hlt : k < 256
    · have hk0 : (0 : Int) ≤ k := by omega
      have hk1 : (k : Int) < 256 := by omega
      obtain ⟨wo, rfl⟩ : ∃ wo : World, wo = wr := ⟨_, rfl⟩
      go_wp2
      go_loop [3, 9] (fun c j => ∃ (n m : Nat), m ≤ 8 ∧ n < 4294967296 ∧ c = .int .u32 n ∧ j = .int .i64 m ∧ Hid (n = stepN m k)) (fun _ j => 8 - (intOf j).toNat)
      case atStart => exact ⟨k, 0, by omega, by omega, rfl, rfl, rfl⟩
      case round =>
        obtain ⟨n, m, hm, hn, rfl, rfl, hnm⟩ := hrel
        by_cases hlm : m < 8
        · have hst := step_code n hn
          have hlt2 := step1_lt (c := n) hn
          obtain ⟨n2, hn2⟩ : ∃ n2, n2 = step1 n := ⟨_, rfl⟩
          rw [← hn2] at hst hlt2
          have HS := hide hst
          have hnm2 : Hid (n2 = stepN (m + 1) k) := by rw [hn2, hnm.out, stepN_succ']; exact rfl
          clear hst hn2
          go_wp2
          rw [HS.out]
          go_round
          case rel => exact ⟨n2, m + 1, by omega, by omega, rfl, by go_num, hnm2⟩
          case measure => simp [intOf]; omega
        · obtain rfl : m = 8 := by omega
          obtain ⟨T, hT1, hT2, hT3⟩ := hT.out
          have z := hT1.heads.2.2.2.1
          have hTk : T[k]? = some (T[k]'(by rw [hT1.len]; exact hlt)) := List.getElem?_eq_getElem (by rw [hT1.len]; exact hlt)
          have c1 : wo.cell? ⟨tb, 4 + k, none⟩ = some (T[k]'(by rw [hT1.len]; exact hlt)) := (hT1.cell k).trans hTk
          generalize T[k]'(by rw [hT1.len]; exact hlt) = tk at c1
          have z1 := z (4 + k)
          have hT4 : Hid (∃ T, TabAt (wo.setCell ⟨tb, 4 + k, none⟩ (.int .u32 n)) tb d st made T ∧ (∀ j, j < k + 1 → T[j]? = some (u32v (stepN 8 j))) ∧ Chg [tb] [tb] w (wo.setCell ⟨tb, 4 + k, none⟩ (.int .u32 n))) := by
            refine ⟨T.set k (.int .u32 n), hT1.set k _, fun j hj => ?_, hT3.trans (Chg.set _ _ _)⟩
            rw [List.getElem?_set]
            by_cases e : k = j
            · subst e
              rw [if_pos rfl, if_pos (by rw [hT1.len]; exact hlt), hnm.out]; rfl
            · rw [if_neg e]; exact hT2 j (by omega)
          clear hT1 hT2 hT3 hTk z hnm hT
          go_wp2
          go_roundw
          case rel => exact ⟨k + 1, by omega, by go_num, hT4⟩
          case measure => simp [intOf]; omega
    · obtain rfl : k = 256 := by omega
      obtain ⟨T, hT1, hT2, hT3⟩ := hT.out
      have c3 := hT1.heads.2.2.1
      have z3 := hT1.heads.2.2.2.1 3
      have hTe : T = tabT := by
        apply List.ext_getElem?
        intro j
        by_cases hj : j < 256
        · rw [hT2 j hj]; simp [tabT, hj]
        · rw [List.getElem?_eq_none (by rw [hT1.len]; omega), List.getElem?_eq_none (by simp [tabT]; omega)]
      subst hTe
      have hT4 := hide (hT1.set3 (made + 1))
      have hT5 := hide (hT3.trans (Chg.set wr 3 (.int .i64 (made + 1))))
      clear hT1 hT2 hT3 hT
      go_wp2_with (go_at_call 40; refine (atomic_add ⟨tb, 3, none⟩ made 1 _ c3 z3 hm0 hm1 (by omega) (by omega)).mono ?_; rintro e w' ⟨rfl, rfl⟩)
      go_end0
      exact ⟨rfl, hT4.out, hT5.out⟩

theorem next_odd (n : Nat) : ((n : Int) % 2 == 1) = decide (n % 2 = 1) := by
  rw [Bool.eq_iff_iff]
  simp
  omega
set_option maxHeartbeats 800000 in
theorem ref_next (c : Nat) (b : UInt8) (w : World) (hc : c < 4294967296) :
    Calls Try.prog 33 #[.int .u32 c, .int .u8 b.toNat] w fun e w' => e = .returned (.int .u32 (upd c b : Nat)) ∧ w = w' := by
  have hb := b.toNat_lt
  have hx := u32_xor_nat c b.toNat hc (by omega)
  have hlt : c ^^^ b.toNat < 4294967296 := Nat.xor_lt_two_pow (n := 32) hc (by omega)
  obtain ⟨n0, hn0⟩ : ∃ n0, n0 = c ^^^ b.toNat := ⟨_, rfl⟩
  rw [← hn0] at hlt hx
  have hup : Hid (upd c b = stepN 8 n0) := by rw [hn0]; exact rfl
  clear hn0
  go_enter Try.func33, Try.ntmps33
  go_wp2
  go_loop [0, 5] (fun c j => ∃ (n m : Nat), m ≤ 8 ∧ n < 4294967296 ∧ c = .int .u32 n ∧ j = .int .i64 m ∧ Hid (n = stepN m n0)) (fun _ j => 8 - (intOf j).toNat)
  case atStart => exact ⟨n0, 0, by omega, hlt, rfl, rfl, rfl⟩
  case round =>
    clear hx
    obtain ⟨n, m, hm, hn, rfl, rfl, hnm⟩ := hrel
    by_cases hlm : m < 8
    · have hlt2 := step1_lt (c := n) hn
      have hnm2 : Hid (step1 n = stepN (m + 1) n0) := by rw [hnm.out, stepN_succ']; exact rfl
      have ho := next_odd n
      by_cases hod : n % 2 = 1
      · have ho2 : ((n : Int) % 2 == 1) = true := by rw [ho]; simpa using hod
        have hst : bits .xor .u32 ((n : Int) / 2) 2197175160 = ((step1 n : Nat) : Int) := by
          have := u32_xor_nat (n / 2) 2197175160 (by omega) (by omega)
          unfold step1
          rw [if_pos hod]
          simpa [poly] using this
        obtain ⟨n2, hn2⟩ : ∃ n2, n2 = step1 n := ⟨_, rfl⟩
        rw [← hn2] at hst hlt2 hnm2
        have HS := hide hst
        clear hst hn2 ho hod
        go_wp2
        rw [HS.out]
        go_round
        case rel => exact ⟨n2, m + 1, by omega, by omega, rfl, by go_num, hnm2⟩
        case measure => simp [intOf]; omega
      · have ho2 : ((n : Int) % 2 == 1) = false := by rw [ho]; simpa using hod
        have hst : step1 n = n / 2 := by unfold step1; rw [if_neg hod, Nat.xor_zero]
        rw [hst] at hlt2 hnm2
        clear hst ho hod
        go_wp2
        go_round
        case rel => exact ⟨n / 2, m + 1, by omega, by omega, by go_num, by go_num, hnm2⟩
        case measure => simp [intOf]; omega
    · obtain rfl : m = 8 := by omega
      go_wp2
      go_ret
      exact ⟨by rw [hup.out, ← hnm.out]; rfl, rfl⟩
end Go.Proofs.Ytnnhgennmlkpmaa

/-
  Walks over package frame: put, get, flag, none; bit.bytes; slices of bytes that are cut.
-/
import Derived.Test.YtnnhgennmlkpmaaCrcD
import Derived.Test.YtnnhgennmlkpmaaFrM
namespace Go.Proofs.Ytnnhgennmlkpmaa
open Go.RowKit
set_option linter.unusedVariables false
set_option linter.unusedSimpArgs false

theorem bcells_be4 {n : Nat} (h : n < 4294967296) : bcells (be4 n) = [.int .u8 ((n : Int) / 16777216), .int .u8 ((n : Int) / 65536 % 256), .int .u8 ((n : Int) / 256 % 256), .int .u8 ((n : Int) % 256)] := by
  simp only [bcells, be4, List.map_cons, List.map_nil, UInt8.toNat_ofNat', List.cons.injEq, Value.int.injEq, true_and, and_true]
  omega

theorem rdb_be4 {n : Nat} (w : World) (h : n < 4294967296) : RdB (w.alloc (.cells #[.int .u8 ((n : Int) / 16777216), .int .u8 ((n : Int) / 65536 % 256), .int .u8 ((n : Int) / 256 % 256), .int .u8 ((n : Int) % 256)] 5)) (.slice (some ⟨w.heap.size, 0, none⟩) 4 4) (be4 n) := by
  refine rdb_row (l := be4 n) (e := 5) (fr := (0, 0)) ?_ (by simp [be4]) 4
  rw [heap_alloc_at, bcells_be4 h]

/-- put: four bytes behind bytes of the call's own -/
def PutOwn (w : World) (base : Nat) (v : Value) (l : List UInt8) (e : Ending) (w' : World) : Prop :=
  ∃ g cap, e = .returned (.slice (some ⟨g, 0, none⟩) l.length cap) ∧ base ≤ g ∧ w'.ownsRow base 5 1 (.slice (some ⟨g, 0, none⟩) l.length cap) l.length (bcells l) ∧ Below base w w'

set_option maxRecDepth 100000 in
set_option maxHeartbeats 800000 in
theorem fr_put (v : Value) (l : List UInt8) (n base : Nat) (w : World) (hn : n < 4294967296) (hown : w.ownsRow base 5 1 v l.length (bcells l)) (hl : l.length ≤ 2000000) (hb : base ≤ w.heap.size) :
    Calls Try.prog 31 #[v, .int .u32 n] w (PutOwn w base v (l ++ be4 n)) := by
  have hr := rdb_be4 w hn
  obtain ⟨a0, c0, rfl⟩ := (ownsRow_rd hown).head
  have HO := hide (ownsRow_below hown (below_alloc w (.cells #[.int .u8 ((n : Int) / 16777216), .int .u8 ((n : Int) / 65536 % 256), .int .u8 ((n : Int) / 256 % 256), .int .u8 ((n : Int) % 256)] 5)) (Nat.le_refl _)); have HR := hide hr
  clear hr
  go_enter Try.func31, Try.ntmps31
  go_wp2_with (at_builtin; refine wpList_copy_rd rfl (.tmp 5) (.tmp 17) 26 rfl base 5 Try.underlying26 info_u8' _ l rfl HO.out _ (be4 n) rfl HR.out (by simp [be4]; omega) (by simp; omega) ?_)
  intro ao co w3 h1 h2 h3
  have hge : ∀ k, (Value.slice a0 l.length c0).ownBlock = some k → base ≤ k := fun k hk => (hown.lt k hk).1
  have hb3 : Below base w w3 := ((Below.refl base w).alloc hb _).grown h2 (by simp; omega) hge
  obtain ⟨g, cap, he, hg⟩ := ownsRow_some h1 (by intro e; have := h1.1; rw [e] at h1; rcases h1.2 with ⟨_, hz⟩ | ⟨_, _, _, hz, _⟩ <;> simp [be4] at hz)
  have e4 : l.length + (be4 n).length = (l ++ be4 n).length := by simp
  rw [e4] at he h1 h3 ⊢
  simp only [Value.slice.injEq, true_and] at he
  obtain ⟨rfl, rfl⟩ := he
  have HP : Hid (PutOwn w base (.slice a0 l.length c0) (l ++ be4 n) (.returned (.slice (some ⟨g, 0, none⟩) (l ++ be4 n).length co)) w3) := ⟨g, co, rfl, hg, h1, hb3⟩
  clear h1 h2 h3 hge hb3 e4 HR HO hown
  go_wp2
  go_ret
  exact HP.out

theorem fr_flag (b : Bool) (w : World) : Calls Try.prog 32 #[.bool b] w fun e w' => e = .returned (.int .u8 ((flagB b).toNat : Nat)) ∧ w = w' := by
  cases b
  all_goals
    go_enter Try.func32, Try.ntmps32
    go_wp2
    go_ret
    exact ⟨rfl, rfl⟩

/-- what of a slice stays for a cut: its capacity -/
def CapOk (x : Value) : Prop := ∃ a n c, x = .slice a n c ∧ n ≤ c ∧ c ≤ 9223372036854775807
theorem CapOk.mk {a : Option Addr} {n c : Nat} (h1 : n ≤ c) (h2 : c ≤ 9223372036854775807) : CapOk (.slice a n c) := ⟨a, n, c, rfl, h1, h2⟩

set_option maxRecDepth 100000 in
set_option maxHeartbeats 800000 in
theorem fr_get (a : Option Addr) (c : Nat) (l : List UInt8) (w : World) (hx : RdB w (.slice a l.length c) l) (hl : 4 ≤ l.length) (hc : l.length ≤ c) (hc2 : c ≤ 9223372036854775807) :
    Calls Try.prog 24 #[.slice a l.length c] w fun e w' => e = .returned (.int .u32 (unB (l.take 4) : Nat)) ∧ w = w' := by
  have HX := hide hx
  clear hx
  go_enter Try.func24, Try.ntmps24
  go_wp2
  go_loop [3, 9] (fun v j => ∃ (n m : Nat), m ≤ 4 ∧ v = .int .u32 n ∧ n < 256 ^ m ∧ j = .int .i64 m ∧ Hid (n = unB (l.take m))) (fun _ j => 4 - (intOf j).toNat)
  case atStart => exact ⟨0, 0, by omega, rfl, by simp, rfl, rfl⟩
  case round =>
    obtain ⟨n, m, hm, rfl, hn, rfl, hnm⟩ := hrel
    by_cases hlt : m < 4
    · have hlt2 : m < l.length := by omega
      obtain ⟨b, off, c', he, hc3, hb⟩ := HX.out.at hlt2
      simp only [Value.slice.injEq, true_and] at he
      obtain ⟨rfl, rfl⟩ := he
      have hn3 : n < 16777216 := Nat.lt_of_lt_of_le hn (Nat.pow_le_pow_right (n := 256) (by omega) (by omega : m ≤ 3))
      have hlt3 := l[m].toNat_lt
      have hor : bits .or .u32 ((n : Int) * 256) (l[m].toNat : Int) = ((n * 256 + l[m].toNat : Nat) : Int) := by
        have := u32_or_nat (n * 256) l[m].toNat (by omega) (by omega)
        rw [nat_join 8 _ _ (by omega) (by omega)] at this
        simpa using this
      have hn4 : n * 256 + l[m].toNat < 256 ^ (m + 1) := by rw [Nat.pow_succ]; omega
      have hnm2 : Hid (n * 256 + l[m].toNat = unB (l.take (m + 1))) := hide (by rw [hnm.out, List.take_succ_eq_append_getElem hlt2, unB_snoc])
      obtain ⟨y, hy⟩ : ∃ y, y = l[m] := ⟨_, rfl⟩
      rw [← hy] at hc3 hlt3 hor hn4 hnm2
      have HO := hide hor
      have i0 : (0 : Int) ≤ m := by omega
      have i1 : (m : Int) < 4 := by omega
      clear hor hy
      go_wp2
      rw [HO.out]
      go_round
      case rel => exact ⟨_, m + 1, by omega, rfl, hn4, by go_num, hnm2⟩
      case measure => simp [intOf]; omega
    · obtain rfl : m = 4 := by omega
      go_wp2
      go_ret
      exact ⟨by rw [← hnm.out]; rfl, rfl⟩
end Go.Proofs.Ytnnhgennmlkpmaa

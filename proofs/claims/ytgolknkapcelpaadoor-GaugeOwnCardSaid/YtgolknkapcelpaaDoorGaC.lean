/-
  The walks of a gauge's New, Count, Value, Total.
-/
import Derived.Test.YtgolknkapcelpaaDoorGaB
namespace Go.Proofs.YtgolknkapcelpaaDoor
open Go.RowKit Go.Maps
set_option linter.unusedVariables false
set_option linter.unusedSimpArgs false

theorem GRep.cell {w : World} {gb : Nat} {N F : List Nat} (h : GRep w gb N F) : (∀ i, w.frozen? ⟨gb, i, none⟩ = false) ∧ ∀ (i n : Nat), N[i]? = some n → w.cell? ⟨gb, 4 + i, none⟩ = some (.int .u64 n) := by
  rcases h.at_ with ⟨h1, rfl⟩ | ⟨mb, h1, _, _, rfl⟩
  · exact ⟨h1.facts.2.2.2.1, h1.facts.2.2.2.2.2⟩
  · exact ⟨h1.facts.2.2.2.1, h1.facts.2.2.2.2.2⟩
theorem GRep.set {w : World} {gb : Nat} {N F : List Nat} (h : GRep w gb N F) (i m : Nat) (hm : m ≤ 1000000) : GRep (w.setCell ⟨gb, 4 + i, none⟩ (.int .u64 m)) gb (N.set i m) F := by
  refine ⟨by rw [List.length_set]; exact h.len, fun n hn => ?_, ?_⟩
  · rcases List.mem_or_eq_of_mem_set hn with hn | rfl
    · exact h.small n hn
    · exact hm
  · rcases h.at_ with ⟨h1, rfl⟩ | ⟨mb, h1, h2, h3, rfl⟩
    · exact .inl ⟨h1.setN i m, rfl⟩
    · exact .inr ⟨mb, h1.setN i m, h2.same (heap_set_ne h3), h3, rfl⟩
theorem Chg.setIn {F : List Nat} {gb : Nat} (hg : gb ∈ F) (w : World) (i : Nat) (v : Value) : Chg F F w (w.setCell ⟨gb, i, none⟩ v) :=
  ⟨rfl, rfl, rfl, by simp [World.setCell], fun k _ hk => heap_set_ne fun e => hk (by rw [e]; exact hg), fun k hk => .inl hk⟩

def gaAdd (N : List Nat) (k : Bs) : List Nat := match nmIdx k with | none => N | some i => N.set i (N.getD i 0 + 1)
def gaVal (N : List Nat) (k : Bs) : Nat := match nmIdx k with | none => 0 | some i => N.getD i 0
theorem getD_at {N : List Nat} {i : Nat} (hi : i < N.length) : N[i]? = some (N.getD i 0) := by
  rw [List.getD_eq_getElem?_getD, List.getElem?_eq_getElem hi]
  rfl
theorem getD_mem {N : List Nat} {i : Nat} (hi : i < N.length) : N.getD i 0 ∈ N := List.mem_of_getElem? (getD_at hi)

theorem u64_add (a : Addr) (x : Nat) (w : World) (hc : w.cell? a = some (.int .u64 x)) (hz : w.frozen? a = false) (h1 : x ≤ 1000000) :
    Calls Tryd.prog 21 #[.pointer (some a), .int .u64 1] w fun e w' => e = .returned (.int .u64 ((x : Int) + 1)) ∧ w' = w.setCell a (.int .u64 ((x : Int) + 1)) := by
  have hadd := run_call_add (P := Tryd.prog) Tryd.func28 (by kernel_rfl) (by kernel_rfl) (by kernel_rfl) .u64 (by kernel_rfl) (y := 1) (s := (x : Int) + 1) hc hz (by have e : IntKind.u64.wrap ((x : Int) + 1) = (x : Int) + 1 := wrapU (by omega) (by omega); simp [go_sem, Op.intArith, e])
  go_enter Tryd.func21, Tryd.ntmps21
  go_wp2
  go_ret
  exact ⟨rfl, rfl⟩
theorem u64_load (a : Addr) (x : Nat) (w : World) (hc : w.cell? a = some (.int .u64 x)) :
    Calls Tryd.prog 23 #[.pointer (some a)] w fun e w' => e = .returned (.int .u64 x) ∧ w = w' := by
  have hl := run_call_load (P := Tryd.prog) Tryd.func29 (by kernel_rfl) (by kernel_rfl) (by kernel_rfl) .u64 (by kernel_rfl) hc
  go_enter Tryd.func23, Tryd.ntmps23
  go_wp2
  go_ret
  exact ⟨rfl, rfl⟩

theorem ga_Count (gb : Nat) (N F : List Nat) (k : Bs) (hk : k.length ≤ maxLen) (w : World) (h : GRep w gb N F) (hs : ∀ n ∈ N, n < 1000000) (ht : Tab w) :
    Calls Tryd.prog 13 #[.pointer (some ⟨gb, 0, none⟩), .string ⟨k.toArray⟩] w fun e w' => e = .returned (.bool (nmIdx k).isSome) ∧ ∃ F', GRep w' gb (gaAdd N k) F' ∧ Chg F F' w w' := by
  have hf := hide (ga_find gb N F k hk w h ht)
  have HL := hide h.len
  have HS := hide hs
  clear h hs ht
  cases hi : nmIdx k with
  | none =>
    have e : gaAdd N k = N := by unfold gaAdd; rw [hi]
    rw [e]
    rw [hi] at hf
    clear e hi
    go_enter Tryd.func13, Tryd.ntmps13
    go_wp2_with (go_at_call 20; refine hf.out.mono ?_; rintro e w' ⟨rfl, hF⟩; have HF := hide hF; clear hF)
    go_ret
    exact ⟨rfl, HF.out⟩
  | some i =>
    have hi11 := nmIdx_lt hi
    have e : gaAdd N k = N.set i (N.getD i 0 + 1) := by unfold gaAdd; rw [hi]
    rw [e]
    rw [hi] at hf
    have hil : i < N.length := by rw [HL.out]; exact hi11
    obtain ⟨n, hn⟩ : ∃ n, n = N.getD i 0 := ⟨_, rfl⟩
    have hget : Hid (N[i]? = some n) := hide (by rw [hn]; exact getD_at hil)
    have hsm : Hid (n < 1000000) := hide (HS.out n (by rw [hn]; exact getD_mem hil))
    rw [← hn]
    clear e hi hn HL
    go_enter Tryd.func13, Tryd.ntmps13
    go_wp2_with fail
    refine hf.out.mono ?_
    rintro e w2 ⟨rfl, F', hg, hc⟩
    have c1 := hg.cell.2 i n hget.out
    have z1 := hg.cell.1 (4 + i)
    have HG := hide hg; have HC := hide hc
    clear hg hc hf
    go_wp2_with fail
    refine (u64_add ⟨gb, 4 + i, none⟩ n w2 c1 z1 (by have := hsm.out; omega)).mono ?_
    rintro e w3 ⟨rfl, rfl⟩
    clear c1 z1
    go_wp2
    go_ret
    exact ⟨rfl, F', HG.out.set i (n + 1) (by have := hsm.out; omega), HC.out.trans (Chg.setIn HG.out.gb_mem _ _ _)⟩

theorem ga_Value (gb : Nat) (N F : List Nat) (k : Bs) (hk : k.length ≤ maxLen) (w : World) (h : GRep w gb N F) (ht : Tab w) :
    Calls Tryd.prog 15 #[.pointer (some ⟨gb, 0, none⟩), .string ⟨k.toArray⟩] w fun e w' => e = .returned (.tuple #[.int .u64 (gaVal N k), .bool (nmIdx k).isSome]) ∧ ∃ F', GRep w' gb N F' ∧ Chg F F' w w' := by
  have hf := hide (ga_find gb N F k hk w h ht)
  have HL := hide h.len
  clear h ht
  cases hi : nmIdx k with
  | none =>
    have e : gaVal N k = 0 := by unfold gaVal; rw [hi]
    rw [e]
    rw [hi] at hf
    clear e hi
    go_enter Tryd.func15, Tryd.ntmps15
    go_wp2_with (go_at_call 20; refine hf.out.mono ?_; rintro e w' ⟨rfl, hF⟩; have HF := hide hF; clear hF)
    go_ret2
    exact ⟨rfl, HF.out⟩
  | some i =>
    have hi11 := nmIdx_lt hi
    have e : gaVal N k = N.getD i 0 := by unfold gaVal; rw [hi]
    rw [e]
    rw [hi] at hf
    have hil : i < N.length := by rw [HL.out]; exact hi11
    obtain ⟨n, hn⟩ : ∃ n, n = N.getD i 0 := ⟨_, rfl⟩
    have hget : Hid (N[i]? = some n) := hide (by rw [hn]; exact getD_at hil)
    rw [← hn]
    clear e hi hn HL
    go_enter Tryd.func15, Tryd.ntmps15
    go_wp2_with fail
    refine hf.out.mono ?_
    rintro e w2 ⟨rfl, F', hg, hc⟩
    have c1 := hg.cell.2 i n hget.out
    have HG := hide hg; have HC := hide hc
    clear hg hc hf
    go_wp2_with fail
    refine (u64_load ⟨gb, 4 + i, none⟩ n w2 c1).mono ?_
    rintro e w3 ⟨rfl, rfl⟩
    clear c1
    go_wp2
    go_ret2
    exact ⟨rfl, F', HG.out, HC.out⟩

theorem sum_take_le (N : List Nat) (i : Nat) : (N.take i).sum ≤ N.sum := by
  have h := List.sum_append (l₁ := N.take i) (l₂ := N.drop i)
  rw [List.take_append_drop] at h
  omega
theorem sum_le {N : List Nat} {B : Nat} (h : ∀ n ∈ N, n ≤ B) : N.sum ≤ N.length * B := by
  induction N with
  | nil => simp
  | cons n N ih =>
    have := ih fun m hm => h m (by simp [hm])
    have := h n (by simp)
    rw [List.sum_cons, List.length_cons, Nat.add_mul]
    omega
theorem sum_take_next {N : List Nat} {i n : Nat} (h : N[i]? = some n) : (N.take (i + 1)).sum = (N.take i).sum + n := by
  rw [List.take_add_one, h, List.sum_append]
  simp

set_option maxRecDepth 100000 in
theorem ga_Total (gb : Nat) (N F : List Nat) (w : World) (h : GRep w gb N F) :
    Calls Tryd.prog 17 #[.pointer (some ⟨gb, 0, none⟩)] w fun e w' => e = .returned (.int .u64 N.sum) ∧ w = w' := by
  have hsum : N.sum ≤ 11000000 := by have := sum_le h.small; rw [h.len] at this; omega
  have HS := hide hsum
  have HL := hide h.len
  have HC := hide h.cell.2
  clear h hsum
  go_enter Tryd.func17, Tryd.ntmps17
  go_wp2
  go_loopw [3, 4, 5] (fun nv _ jv wr => ∃ (j n : Nat), nv = .int .u64 n ∧ jv = .int .i64 j ∧ j ≤ 11 ∧ Hid (n = (N.take j).sum) ∧ w = wr) (fun _ _ jv _ => match jv with | .int _ j => 11 - j.toNat | _ => 0)
  case atStart => exact ⟨0, 0, rfl, rfl, by omega, hide rfl, rfl⟩
  case round =>
    obtain ⟨j, n, rfl, rfl, hj, hn, rfl⟩ := hrel
    by_cases hjn : j < 11
    · have i0 : (j : Int) < 11 := by omega
      obtain ⟨m, hm⟩ : ∃ m, N[j]? = some m := ⟨_, getD_at (by rw [HL.out]; exact hjn)⟩
      have c1 := HC.out j m hm
      have hnx : Hid (n + m = (N.take (j + 1)).sum) := hide (by rw [sum_take_next hm, hn.out])
      have hwi : IntKind.i64.wrap ((j : Int) + 1) = (j : Int) + 1 := wrapI (by omega) (by omega)
      have hws : IntKind.u64.wrap ((n : Int) + m) = (n : Int) + m := wrapU (by omega) (by have := hnx.out; have := sum_take_le N (j + 1); have := HS.out; omega)
      clear hm hn
      go_wp2_with fail
      refine (u64_load ⟨gb, 4 + j, none⟩ m w c1).mono ?_
      rintro e w3 ⟨rfl, rfl⟩
      clear c1
      go_wp2
      exact ⟨⟨j + 1, n + m, by simp, by simp, hjn, hnx, by trivial⟩, by show 11 - ((j : Int) + 1).toNat < 11 - ((j : Nat) : Int).toNat; omega⟩
    · obtain rfl : j = 11 := by omega
      have hend : Hid (n = N.sum) := hide (by rw [hn.out, ← HL.out, List.take_length])
      clear hn
      go_wp2
      go_ret
      exact ⟨by rw [hend.out]; rfl, rfl⟩

theorem ga_New (w : World) : Calls Tryd.prog 7 #[] w fun e w' => e = .returned (.pointer (some ⟨w.heap.size, 0, none⟩)) ∧ GRep w' w.heap.size (List.replicate 11 0) [w.heap.size] ∧ Below w.heap.size w w' := by
  go_enter Tryd.func7, Tryd.ntmps7
  go_wp2
  go_ret
  have h := heap_alloc_at w (.cells (GC 0 0 (.map none) (List.replicate 11 0)) 58)
  exact ⟨rfl, ⟨rfl, (fun n hn => by rw [List.eq_of_mem_replicate hn]; omega), .inl ⟨h, rfl⟩⟩, below_alloc w _⟩
end Go.Proofs.YtgolknkapcelpaaDoor

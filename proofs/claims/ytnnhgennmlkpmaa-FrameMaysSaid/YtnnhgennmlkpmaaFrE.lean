/-
  Walks: slices.Clone, bytes.Equal; frame.Decode's closure.
-/
import Derived.Test.YtnnhgennmlkpmaaFrD
namespace Go.Proofs.Ytnnhgennmlkpmaa
open Go.RowKit
set_option linter.unusedVariables false
set_option linter.unusedSimpArgs false

theorem addr_add_add (a : Addr) (i j : Nat) : (a.add i).add j = a.add (i + j) := by
  unfold Addr.add
  split <;> split <;> split <;> simp_all <;> omega
/-- a cut of a slice reads as what it cuts -/
theorem RdB.drop {w : World} {a : Option Addr} {c : Nat} {l : List UInt8} (h : RdB w (.slice a l.length c) l) (k : Nat) (hk : k < l.length) (c' : Nat) : RdB w (.slice (a.map fun x => x.add k) (l.length - k) c') (l.drop k) := by
  obtain ⟨h1, ⟨he, hz⟩ | ⟨ad, c2, he, hc⟩⟩ := h
  · omega
  · simp only [Value.slice.injEq, true_and] at he
    obtain ⟨rfl, rfl⟩ := he
    refine ⟨by simp [bcells], .inr ⟨ad.add k, c', by simp, fun j u hu => ?_⟩⟩
    rw [addr_add_add]
    refine hc (k + j) u ?_
    simpa [bcells] using hu
theorem RdB.take {w : World} {a : Option Addr} {c : Nat} {l : List UInt8} (h : RdB w (.slice a l.length c) l) (k : Nat) (hk : k ≤ l.length) (h0 : 0 < l.length) : RdB w (.slice a k c) (l.take k) := by
  obtain ⟨h1, ⟨he, hz⟩ | ⟨ad, c2, he, hc⟩⟩ := h
  · omega
  · simp only [Value.slice.injEq, true_and] at he
    obtain ⟨rfl, rfl⟩ := he
    have e : (l.take k).length = k := by simp; omega
    show Rd _ _ 1 (l.take k).length _
    rw [e]
    refine ⟨by simp [bcells]; omega, .inr ⟨ad, c, rfl, fun j u hu => hc j u ?_⟩⟩
    simp only [bcells, List.map_take, List.getElem?_take] at hu ⊢
    split at hu
    · exact hu
    · cases hu

set_option maxRecDepth 100000 in
set_option maxHeartbeats 800000 in
theorem fr_next (q p : Nat) (hqp : q ≠ p) (a : Option Addr) (c k : Nat) (l : List UInt8) (w : World) (hx : RdB (w.setCell ⟨q, 0, none⟩ (.int .i64 ((k : Int) + 4))) (.slice a l.length c) l) (hl : l.length ≤ 4096) (hc : l.length ≤ c) (hc2 : c ≤ 9223372036854775807) (hk : k + 4 ≤ l.length)
    (hq : w.cell? ⟨q, 0, none⟩ = some (.int .i64 k)) (hqf : w.frozen? ⟨q, 0, none⟩ = false) (hp : w.cell? ⟨p, 0, none⟩ = some (.slice a l.length c)) :
    Calls Try.prog 27 #[.pointer (some ⟨q, 0, none⟩), .pointer (some ⟨p, 0, none⟩)] w fun e w' => e = .returned (.int .u32 (unB ((l.drop k).take 4) : Nat)) ∧ w' = w.setCell ⟨q, 0, none⟩ (.int .i64 ((k : Int) + 4)) := by
  have hd := hx.drop k (by omega) (c - k)
  have e : l.length - k = (l.drop k).length := by simp
  rw [e] at hd
  have HD := hide hd
  have HE := hide e
  clear hx hd e
  go_enter Try.func27, Try.ntmps27
  go_wp2_with fail
  rw [HE.out]
  refine (fr_get _ (c - k) (l.drop k) _ HD.out (by simp; omega) (by simp; omega) (by omega)).mono ?_
  rintro e w' ⟨rfl, rfl⟩
  go_wp2
  go_ret
  exact ⟨rfl, rfl⟩

set_option maxRecDepth 100000 in
set_option maxHeartbeats 800000 in
theorem sl_clone (ad : Addr) (l : List UInt8) (c : Nat) (w : World) (hx : RdB w (.slice (some ad) l.length c) l) (hl : l.length ≤ 70368744177664) :
    Calls Try.prog 28 #[.slice (some ad) l.length c] w fun e w' => ∃ a c, e = .returned (.slice a l.length c) ∧ w'.ownsRow w.heap.size 5 1 (.slice a l.length c) l.length (bcells l) ∧ Below w.heap.size w w' := by
  have hn := fun (w : World) => Lib.run_eql_slice_nil (P := Try.prog) w 26 5 (some ad) l.length c 0 0 Try.underlying26
  have hx' : RdB (w.alloc (.cells #[] 5)) (.slice (some ad) l.length c) l := hx.low (below_alloc _ _)
  have HX := hide hx'
  clear hx hx'
  go_enter Try.func28, Try.ntmps28
  go_wp2_with (at_builtin; refine wpList_copy_rd rfl (.tmp 5) (.tmp 6) 26 rfl w.heap.size 5 Try.underlying26 info_u8' _ [] rfl (World.ownsRow_made w #[] 0 (Nat.le_refl _) (by decide) rfl) _ l rfl HX.out (by simp; omega) (by simp) ?_)
  intro ao co w2 h1 h2 _
  have hb : Below w.heap.size w w2 := ((Below.refl _ _).alloc (Nat.le_refl _) _).grown h2 (by simp) (by simp [Value.ownBlock])
  have HO := hide h1
  have HB := hide hb
  clear h1 h2 hb
  go_wp2
  go_ret
  exact ⟨ao, co, rfl, HO.out, HB.out⟩

set_option maxRecDepth 100000 in
set_option maxHeartbeats 800000 in
theorem bytes_equal (x y : Value) (l m : List UInt8) (w : World) (hx : RdB w x l) (hy : RdB w y m) :
    Calls Try.prog 29 #[x, y] w fun e w' => e = .returned (.bool (l == m)) ∧ w = w' := by
  have v1 := convert_rd l _ _ hx
  have v2 := convert_rd m _ _ hy
  have e1 := bytes_toList l
  have e2 := bytes_toList m
  have hx1 := hx.oneCell; have hy1 := hy.oneCell
  obtain ⟨a1, c1, rfl⟩ := hx.head
  obtain ⟨a2, c2, rfl⟩ := hy.head
  clear hx hy hx1 hy1
  go_enter Try.func29, Try.ntmps29
  go_wp2
  go_ret
  exact ⟨ret_bool (by first | rfl | simp [e1, e2]), rfl⟩
end Go.Proofs.Ytnnhgennmlkpmaa

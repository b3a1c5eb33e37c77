/-
  Walks over package bytes at one nought: IndexByte, Index.
-/
import Derived.Test.YtglgjakjhkdoaaaDoorRd
import Derived.Test.YtglgjakjhkdoaaaDoorStM
import Derived.Lib.BytesEntry
import Derived.Lib.Walk
import Derived.ProofKit
namespace Go.Proofs.YtglgjakjhkdoaaaDoor
open Go.RowKit
set_option linter.unusedVariables false
set_option linter.unusedSimpArgs false

/-- the first nought -/
theorem noZ_nil : NoZ [] := by
  intro c h
  cases h
theorem noZ_cons {c : UInt8} {l : List UInt8} (hc : c ≠ 0) (h : NoZ l) : NoZ (c :: l) := by
  intro x hx
  rcases List.mem_cons.1 hx with e | hx
  · rw [e]
    exact hc
  · exact h x hx
theorem split_cases : ∀ l : List UInt8, (NoZ l ∧ Lib.indexByte l 0 = -1) ∨ ∃ o r, l = o ++ 0 :: r ∧ NoZ o ∧ Lib.indexByte l 0 = (o.length : Int)
  | [] => .inl ⟨noZ_nil, rfl⟩
  | c :: l => by
    by_cases hc : c = 0
    · subst hc
      refine .inr ⟨[], l, rfl, noZ_nil, ?_⟩
      simp [Lib.indexByte]
    · rcases split_cases l with ⟨hz, hi⟩ | ⟨o, r, rfl, hz, hi⟩
      · exact .inl ⟨noZ_cons hc hz, by simp [Lib.indexByte, hc, hi]⟩
      · refine .inr ⟨c :: o, r, rfl, noZ_cons hc hz, ?_⟩
        have : ¬ ((o.length : Int) = -1) := by omega
        simp [Lib.indexByte, hc, hi, this]

theorem bytes_ints : ∀ l : List UInt8, Lib.bytesOf (l.map fun b => (b.toNat : Int)) = l
  | [] => rfl
  | c :: l => by
    have ih := bytes_ints l
    simp only [Lib.bytesOf, List.map_cons, Int.toNat_natCast] at ih ⊢
    rw [ih]
    congr 1
    exact UInt8.ofNat_toNat

theorem run_indexRd {P : Program} (w : World) (x : Value) (l : List UInt8) (h : RdB w x l) (c : Int) :
    (Extern.BytealgIndexByte.indexByte #[x, .int .u8 c]).run P w = .ok (.int .i64 (Lib.indexByte l c.toNat.toUInt8)) w := by
  obtain ⟨hl, ⟨rfl, hz⟩ | ⟨ad, cap, rfl, hc⟩⟩ := h
  · obtain rfl : l = [] := List.eq_nil_of_length_eq_zero hz
    exact Lib.run_indexByteNil w 0 0 c
  · obtain ⟨xs, hxs⟩ : ∃ xs : List Int, xs = l.map fun b => (b.toNat : Int) := ⟨_, rfl⟩
    have hb : Lib.bytesOf xs = l := by rw [hxs, bytes_ints]
    have hn : xs.length = l.length := by simp [hxs]
    have hl := Lib.run_loadBytesX (P := P) w xs ad .empty (fun j y hj => by
      refine hc j _ ?_
      rw [hxs] at hj
      simp only [List.getElem?_map, Option.map_eq_some_iff] at hj
      obtain ⟨u, hu, rfl⟩ := hj
      simp [bcells, hu])
    rw [hn, hb] at hl
    have hs := Lib.run_indexByteString (P := P) ⟨l.toArray⟩ c w
    have he : (⟨ByteArray.empty.data ++ l.toArray⟩ : ByteArray) = ⟨l.toArray⟩ := by
      apply ByteArray.ext
      show (#[] : Array UInt8) ++ l.toArray = l.toArray
      simp
    rw [he] at hl
    change Sem.run P (do
      let b ← Extern.Bytes.bytesOf (.slice (some ad) l.length cap)
      let c ← Extern.Bytes.asByte (.int .u8 c)
      match (List.range b.size).find? fun i => b[i]! == c with
      | some i => pure (goInt i)
      | none => pure (goInt (-1))) w = _
    change Sem.run P (do
      let b ← Extern.Bytes.bytesOf (.string ⟨l.toArray⟩)
      let c ← Extern.Bytes.asByte (.int .u8 c)
      match (List.range b.size).find? fun i => b[i]! == c with
      | some i => pure (goInt i)
      | none => pure (goInt (-1))) w = _ at hs
    simp only [Extern.Bytes.bytesOf, Sem.run_bind, Sem.run_pure, hl, Result.andThen] at hs ⊢
    exact hs

set_option maxRecDepth 100000 in
set_option maxHeartbeats 1600000 in
theorem bt_IndexByte (x : Value) (l : List UInt8) (w : World) (h : RdB w x l) :
    Calls Tryd.prog 47 #[x, .int .u8 0] w fun e w' => e = .returned (.int .i64 (Lib.indexByte l 0)) ∧ w' = w := by
  have hr := run_indexRd (P := Tryd.prog) w x l h 0
  obtain ⟨a, c, rfl⟩ := h.head
  go_enter Tryd.func47, Tryd.ntmps47
  go_wp2
  rw [run_callFunc_extern Tryd.func51 (by kernel_rfl) (by kernel_rfl) (by kernel_rfl) (e := Extern.BytealgIndexByte.indexByte) (by kernel_rfl), hr]
  simp only [Result.andThen]
  rw [Oper.upon_value]
  go_wp2
  go_ret
  exact ⟨rfl, rfl⟩

set_option maxRecDepth 100000 in
set_option maxHeartbeats 3200000 in
/-- at a list of one nought -/
theorem bt_Index (x : Value) (l : List UInt8) (b c : Nat) (w : World) (h : RdB w x l) (hs : w.cell? ⟨b, 0, none⟩ = some (.int .u8 0)) :
    Calls Tryd.prog 55 #[x, .slice (some ⟨b, 0, none⟩) 1 c] w fun e w' => e = .returned (.int .i64 (Lib.indexByte l 0)) ∧ w' = w := by
  have H := hide (bt_IndexByte x l w h)
  obtain ⟨a, c', rfl⟩ := h.head
  clear h
  go_enter Tryd.func55, Tryd.ntmps55
  go_wp2_with (refine H.out.mono ?_; rintro e w' ⟨rfl, rfl⟩)
  go_ret
  exact ⟨rfl, rfl⟩
end Go.Proofs.YtglgjakjhkdoaaaDoor

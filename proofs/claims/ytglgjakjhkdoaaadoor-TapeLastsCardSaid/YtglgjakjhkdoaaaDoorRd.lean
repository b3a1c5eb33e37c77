/-
  What a slice reads as: heads, addresses, and a list of lists of bytes.
-/
import Derived.Test.YtglgjakjhkdoaaaDoorBase
namespace Go.Proofs.YtglgjakjhkdoaaaDoor
open Go.RowKit
set_option linter.unusedVariables false
set_option linter.unusedSimpArgs false

theorem Rd.addr {w : World} {x : Value} {size m : Nat} {xs : List Value} (h : Rd w x size m xs) (hp : 0 < m) (hs : 0 < size) : ∃ b off c, x = .slice (some ⟨b, off, none⟩) m c ∧ (∀ j u, xs[j]? = some u → w.cell? ⟨b, off + j, none⟩ = some u) ∧ b < w.heap.size := by
  obtain ⟨hl, ⟨_, hz⟩ | ⟨ad, c, rfl, hc⟩⟩ := h
  · omega
  · have h0 : 0 < xs.length := by rw [hl]; exact Nat.mul_pos hp hs
    have hc0 := hc 0 _ (List.getElem?_eq_getElem h0)
    have hadd : ad.add 0 = ad := by unfold Addr.add; simp
    rw [hadd] at hc0
    obtain ⟨b, off, spot⟩ := ad
    have hsp : spot = none := by
      obtain ⟨e, n, _, _, hsp⟩ := World.shape?_of_cell? hc0
      exact hsp
    subst hsp
    refine ⟨b, off, c, rfl, fun j u hu => ?_, World.block_lt_of_cell? _ _ hc0⟩
    have h1 := hc j u hu
    have hadd : (⟨b, off, none⟩ : Addr).add j = ⟨b, off + j, none⟩ := by unfold Addr.add; split <;> simp_all
    rw [hadd] at h1
    exact h1
theorem Rd.head {w : World} {x : Value} {size m : Nat} {xs : List Value} (h : Rd w x size m xs) : ∃ a c, x = .slice a m c := by
  obtain ⟨hl, ⟨rfl, hz⟩ | ⟨ad, c, rfl, hc⟩⟩ := h
  · exact ⟨none, 0, by rw [hz]⟩
  · exact ⟨_, _, rfl⟩
theorem Rd.low {w w' : World} {x : Value} {size m : Nat} {xs : List Value} (h : Rd w x size m xs) (hb : Below w.heap.size w w') : Rd w' x size m xs := h.kept fun b _ hlt => hb.block b hlt
theorem Rd.chg {w w' : World} {x : Value} {size m : Nat} {xs : List Value} {F F' : List Nat} (h : Rd w x size m xs) (hc : Chg F F' w w') (hx : ∀ k, x.ownBlock = some k → k ∉ F) : Rd w' x size m xs := h.kept fun b hb hlt => hc.block b hlt (hx b hb)
theorem Rd.nil (w : World) (size : Nat) : Rd w (.slice none 0 0) size 0 [] := ⟨by simp, .inl ⟨rfl, rfl⟩⟩

/-- bytes that a value reads as -/
def RdB (w : World) (x : Value) (l : List UInt8) : Prop := Rd w x 1 l.length (bcells l)
theorem RdB.low {w w' : World} {x : Value} {l : List UInt8} (h : RdB w x l) (hb : Below w.heap.size w w') : RdB w' x l := Rd.low h hb
theorem RdB.chg {w w' : World} {x : Value} {l : List UInt8} {F F' : List Nat} (h : RdB w x l) (hc : Chg F F' w w') (hx : ∀ k, x.ownBlock = some k → k ∉ F) : RdB w' x l := Rd.chg h hc hx
theorem RdB.nil (w : World) : RdB w (.slice none 0 0) [] := Rd.nil w 1
theorem RdB.head {w : World} {x : Value} {l : List UInt8} (h : RdB w x l) : ∃ a c, x = .slice a l.length c := Rd.head h
/-- its k-th byte -/
theorem RdB.at {w : World} {x : Value} {l : List UInt8} (h : RdB w x l) {k : Nat} (hk : k < l.length) : ∃ b off c, x = .slice (some ⟨b, off, none⟩) l.length c ∧ w.cell? ⟨b, off + k, none⟩ = some (.int .u8 (l[k].toNat : Nat)) ∧ b < w.heap.size := by
  obtain ⟨b, off, c, rfl, hc, hb⟩ := Rd.addr h (by omega) (by omega)
  exact ⟨b, off, c, rfl, hc k _ (by simp [bcells, hk]), hb⟩
theorem RdB.oneCell {w : World} {x : Value} {l : List UInt8} (h : RdB w x l) : x.oneCell' = true := by obtain ⟨a, c, rfl⟩ := h.head; rfl

/-- a list of lists of bytes -/
def RdBs (w : World) (x : Value) (ls : List (List UInt8)) : Prop := ∃ xs : List Value, Rd w x 1 ls.length xs ∧ xs.length = ls.length ∧ ∀ (i : Nat) (v : Value) (l : List UInt8), xs[i]? = some v → ls[i]? = some l → RdB w v l
theorem RdBs.low {w w' : World} {x : Value} {ls : List (List UInt8)} (h : RdBs w x ls) (hb : Below w.heap.size w w') : RdBs w' x ls := by
  obtain ⟨xs, h1, h2, h3⟩ := h
  exact ⟨xs, h1.low hb, h2, fun i v l hv hl => (h3 i v l hv hl).low hb⟩
theorem RdBs.head {w : World} {x : Value} {ls : List (List UInt8)} (h : RdBs w x ls) : ∃ a c, x = .slice a ls.length c := by
  obtain ⟨xs, h1, _⟩ := h
  exact Rd.head h1
theorem RdBs.nil (w : World) : RdBs w (.slice none 0 0) [] := ⟨[], Rd.nil w 1, rfl, fun i v l h => by simp at h⟩
theorem RdBs.at {w : World} {x : Value} {ls : List (List UInt8)} (h : RdBs w x ls) {k : Nat} (hk : k < ls.length) : ∃ b off c v, x = .slice (some ⟨b, off, none⟩) ls.length c ∧ w.cell? ⟨b, off + k, none⟩ = some v ∧ RdB w v ls[k] ∧ b < w.heap.size := by
  obtain ⟨xs, h1, h2, h3⟩ := h
  obtain ⟨b, off, c, rfl, hc, hb⟩ := Rd.addr h1 (by omega) (by omega)
  have hx : xs[k]? = some (xs[k]'(by omega)) := List.getElem?_eq_getElem (by omega)
  exact ⟨b, off, c, _, rfl, hc k _ hx, h3 k _ _ hx (List.getElem?_eq_getElem hk), hb⟩
theorem bytes_toList (l : List UInt8) : (⟨l.toArray⟩ : ByteArray).toList = l := by
  have key : ∀ (n i : Nat) (r : List UInt8), l.length - i = n → ByteArray.toList.loop ⟨l.toArray⟩ i r = r.reverse ++ l.drop i := by
    intro n
    induction n with
    | zero =>
      intro i r h
      unfold ByteArray.toList.loop
      have : ¬ i < (⟨l.toArray⟩ : ByteArray).size := by simp [ByteArray.size]; omega
      rw [if_neg this, List.drop_eq_nil_of_le (by omega), List.append_nil]
    | succ n ih =>
      intro i r h
      unfold ByteArray.toList.loop
      have hi : i < l.length := by omega
      have : i < (⟨l.toArray⟩ : ByteArray).size := by simpa [ByteArray.size] using hi
      rw [if_pos this, ih (i + 1) _ (by omega), List.drop_eq_getElem_cons hi]
      have e : (⟨l.toArray⟩ : ByteArray).get! i = l[i] := by simp [ByteArray.get!, hi]
      rw [e]
      simp
  have := key (l.length - 0) 0 [] rfl
  simpa [ByteArray.toList] using this
theorem convert_rd (b : List UInt8) (x : Value) (w : World) (h : RdB w x b) : (convert 23 9 x).run Tryd.prog w = .ok (.string ⟨b.toArray⟩) w := by
  obtain ⟨hl, ⟨rfl, hm⟩ | ⟨a, c, rfl, hc⟩⟩ := h
  · have : b = [] := List.eq_nil_of_length_eq_zero hm
    subst this
    exact run_convert_bytes_nil (P := Tryd.prog) (w := w) 23 5 Tryd.underlying23 Tryd.underlying5 0 0 9 Tryd.underlying9
  · exact run_convert_bytes_back (P := Tryd.prog) w 23 9 5 a c b Tryd.underlying23 Tryd.underlying5 Tryd.underlying9 (fun j hj => hc j _ (by simp [bcells, List.getElem?_eq_getElem hj]))
end Go.Proofs.YtglgjakjhkdoaaaDoor

/-
  The walk of the law NetTwice.
-/
import Derived.Test.YtipobpcafkhknaaNetJ
namespace Go.Proofs.Ytipobpcafkhknaa
open Go.RowKit
set_option linter.unusedSimpArgs false
set_option linter.unusedVariables false

theorem convert_rd (b : List UInt8) (x : Value) (w : World) (h : Rd w x 1 b.length (bcells b)) : (convert 22 9 x).run Try.prog w = .ok (.string ⟨b.toArray⟩) w := by
  obtain ⟨hl, ⟨rfl, hm⟩ | ⟨a, c, rfl, hc⟩⟩ := h
  · have : b = [] := List.eq_nil_of_length_eq_zero hm
    subst this
    exact run_convert_bytes_nil (P := Try.prog) (w := w) 22 5 Try.underlying22 Try.underlying5 0 0 9 Try.underlying9
  · exact run_convert_bytes_back (P := Try.prog) w 22 9 5 a c b Try.underlying22 Try.underlying5 Try.underlying9 (fun j hj => hc j _ (by simp [bcells, List.getElem?_eq_getElem hj]))

theorem rd_cap {w : World} {x : Value} {m : Nat} {b : List UInt8} (h : Rd w x 1 m (bcells b)) (hm : 0 < m) : ∃ ad c, x = .slice (some ad) m c := by
  obtain ⟨hl, ⟨_, h0⟩ | ⟨a, c, rfl, _⟩⟩ := h
  · omega
  · exact ⟨a, c, rfl⟩

/-- whatever is sent: it is refused, or stands behind the others -/
def SentOrNot (W : World) (nb : Nat) (l : List G) (e : Ending) (w' : World) : Prop :=
  ∃ r, e = .returned (.bool r) ∧ ∃ rest, rest.length ≤ 1 ∧ (∀ g ∈ rest, g.b.length ≤ 4096 ∧ 0 ≤ g.to ∧ g.to ≤ 1) ∧ NetAt W nb (l ++ rest) w'
theorem net_send_any (W : World) (nb : Nat) (l : List G) (t : Int) (x : Value) (b : List UInt8) (w : World) (hn : NetAt W nb l w) (ht : 0 ≤ t) (hx : Rd w x 1 b.length (bcells b)) (hb : b.length ≤ 9223372036854775807) (hl : l.length ≤ 4096) :
    Calls Try.prog 10 #[.pointer (some ⟨nb, 0, none⟩), .int .u8 t, x] w (SentOrNot W nb l) := by
  obtain ⟨F, hr, hf, hbel⟩ := hn
  by_cases h : 1 < t ∨ b.length = 0 ∨ 4096 < b.length ∨ l.length = 4096
  · obtain ⟨a, c, rfl⟩ := hx.head
    refine (net_send_no nb l F t a b.length c w hr hb hl h).mono ?_
    rintro e w' ⟨rfl, rfl⟩
    exact ⟨false, rfl, [], by simp, by simp, by simpa using ⟨F, hr, hf, hbel⟩⟩
  · obtain ⟨ad, c, rfl⟩ := rd_cap hx (by omega)
    refine (net_send nb l F t ad b.length c b w hr ht (by omega) hx (by omega) (by omega) (by omega)).mono ?_
    rintro e w' ⟨rfl, F', hr', hc⟩
    exact ⟨true, rfl, [⟨t, b, false⟩], by simp, (fun g hg => by simp only [List.mem_singleton] at hg; subst hg; exact ⟨by simp only; omega, ht, by simp only; omega⟩), NetAt.step hf hbel hr' hc⟩

set_option maxRecDepth 100000 in
set_option maxHeartbeats 1600000 in
theorem law_twice_known (xb : Value) (b : List UInt8) (to : Int) (v : Value) (L : List Item) (w : World) (hx : Rd w xb 1 b.length (bcells b)) (hbl : b.length ≤ 9223372036854775807) (hL : RdItems w 6 v L) (hop : ∀ t ∈ L, IsOp t) (hl : L.length ≤ 9223372036854775807) (hlb : ∀ t ∈ L, t.b.length ≤ 9223372036854775807)
    (hk : heavyB L = true ∨ b.length < 1 ∨ 4096 < b.length) :
    Calls Try.prog 3 #[xb, .int .u8 to, v] w fun e w' => e = .returned (.bool true) ∧ Below w.heap.size w w' := by
  obtain ⟨a0, c0, rfl⟩ := hx.head
  have HL := hide hL; have HO := hide hop; have HB := hide hlb
  clear hL hop hlb hx
  rcases Bool.eq_false_or_eq_true (heavyB L) with hh | hh
  · have HH := hide hh; clear hh hk
    go_enter Try.func3, Try.ntmps3
    go_wp2_with fail
    refine (law_heavy v L _ HL.out HO.out hl HB.out).mono ?_
    rintro e w' ⟨rfl, rfl⟩
    rw [HH.out]
    go_wp2_with (go_at_call 8; refine (law_known _).mono ?_; rintro e w' ⟨rfl, hb⟩; have HBw := hide hb; clear hb)
    go_ret
    exact ⟨rfl, HBw.out⟩
  · have HH := hide hh
    have hk' : b.length < 1 ∨ 4096 < b.length := by rcases hk with h | h | h; · rw [hh] at h; cases h
                                                    · exact .inl h
                                                    · exact .inr h
    clear hh hk
    by_cases h1 : b.length < 1
    all_goals
      go_enter Try.func3, Try.ntmps3
      go_wp2_with fail
      refine (law_heavy v L _ HL.out HO.out hl HB.out).mono ?_
      rintro e w' ⟨rfl, rfl⟩
      rw [HH.out]
      go_wp2_with (go_at_call 8; refine (law_known _).mono ?_; rintro e w' ⟨rfl, hb⟩; have HBw := hide hb; clear hb)
      go_ret
      exact ⟨rfl, HBw.out⟩
end Go.Proofs.Ytipobpcafkhknaa

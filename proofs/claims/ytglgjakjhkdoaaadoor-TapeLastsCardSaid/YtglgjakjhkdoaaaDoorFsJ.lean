/-
  What a crash keeps, as plain data; the walk of keeps.
-/
import Derived.Test.YtglgjakjhkdoaaaDoorFsI
namespace Go.Proofs.YtglgjakjhkdoaaaDoor
open Go.RowKit Go.Maps
set_option linter.unusedVariables false
set_option linter.unusedSimpArgs false

def keptB (K : List Bool) (i : Nat) : Bool := (K[i]?).getD false
def lastK (K : List Bool) : Nat → Int
  | 0 => -1
  | n + 1 => if keptB K n then n else lastK K n
/-- what is kept of a piece -/
def tornB (torn last : Int) (i : Nat) (b : Bs) : Bs := if (i : Int) = last ∧ 0 ≤ torn ∧ torn < b.length then b.take torn.toNat else b
def gapOf (k : Bs) (G : List (Bs × Int)) : Int := (mget k G).getD 0
/-- a piece of a crash -/
def crashStep (K : List Bool) (torn last : Int) (i : Nat) (p : Bs × Bs) (st : List (Bs × Bs) × List (Bs × Int)) : List (Bs × Bs) × List (Bs × Int) :=
  if keptB K i then (mput strL p.1 ((mget p.1 st.1).getD [] ++ List.replicate (gapOf p.1 st.2).toNat 0 ++ tornB torn last i p.2) st.1, mput strL p.1 0 st.2)
  else (st.1, mput strL p.1 (gapOf p.1 st.2 + p.2.length) st.2)
def crashTo (K : List Bool) (torn last : Int) (L : List (Bs × Bs)) (F : List (Bs × Bs)) : Nat → List (Bs × Bs) × List (Bs × Int)
  | 0 => (F, [])
  | n + 1 => match L[n]? with
    | some p => crashStep K torn last n p (crashTo K torn last L F n)
    | none => crashTo K torn last L F n
def fsCrash (s : FsS) (K : List Bool) (torn : Int) : FsS :=
  { s with files := (crashTo K torn (lastK K s.waits.length) s.waits s.files s.waits.length).1, waits := [], left := none, halted := false }

/-- bools that came in -/
def RdK (w : World) (x : Value) (K : List Bool) : Prop := Rd w x 1 K.length (K.map Value.bool)
theorem RdK.low {w w' : World} {x : Value} {K : List Bool} (h : RdK w x K) (hb : Below w.heap.size w w') : RdK w' x K := Rd.low h hb
theorem RdK.chg0 {w w' : World} {a : Option Addr} {n c : Nat} {K : List Bool} {F F' : List Nat} (h : RdK w (.slice a n c) K) (hn : n = K.length) (hc : Chg F F' w w') (hd : 0 < n → ∀ k, (Value.slice a n c).ownBlock = some k → k ∉ F) : RdK w' (.slice a n c) K := by
  by_cases h0 : 0 < n
  · exact Rd.chg h hc (hd h0)
  · have hK : K = [] := List.eq_nil_of_length_eq_zero (by omega)
    subst hK
    refine ⟨h.1, h.2.imp id ?_⟩
    rintro ⟨ad, c', h1, _⟩
    exact ⟨ad, c', h1, fun j u hu => by simp at hu⟩
theorem RdK.at {w : World} {x : Value} {K : List Bool} (h : RdK w x K) {k : Nat} (hk : k < K.length) : ∃ b off c, x = .slice (some ⟨b, off, none⟩) K.length c ∧ w.cell? ⟨b, off + k, none⟩ = some (.bool K[k]) ∧ b < w.heap.size := by
  obtain ⟨b, off, c, rfl, hc, hb⟩ := Rd.addr h (by omega) (by omega)
  exact ⟨b, off, c, rfl, hc k _ (by simp [hk]), hb⟩

set_option maxRecDepth 100000 in
set_option maxHeartbeats 800000 in
theorem fs_keeps (a : Option Addr) (n c : Nat) (torn : Int) (K : List Bool) (i : Nat) (w : World) (hx : RdK w (.slice a n c) K) (hn : n = K.length) (hl : n ≤ 1048576) (hi : i ≤ 1048576) :
    Calls Tryd.prog 33 #[.agg #[.slice a n c, .int .i64 torn], .int .i64 i] w fun e w' => e = .returned (.bool (keptB K i)) ∧ Below w.heap.size w w' := by
  have hb := below_alloc w (.cells #[.slice a n c, .int .i64 torn] 27)
  have HB := hide hb
  have HX := hide (hx.low hb)
  by_cases hin : i < n
  · have i0 : (i : Int) < n := by omega
    obtain ⟨bb, off, cc, he, hc, hlt⟩ := RdK.at HX.out (k := i) (by omega)
    simp only [Value.slice.injEq] at he
    obtain ⟨rfl, -⟩ := he
    have hk : keptB K i = K[i]'(by omega) := by unfold keptB; rw [List.getElem?_eq_getElem (by omega)]; rfl
    rw [hk]
    generalize K[i]'(by omega) = y at hc
    clear hk hx hb hn HX
    go_enter Tryd.func33, Tryd.ntmps33
    go_wp2
    go_ret
    exact ⟨rfl, HB.out⟩
  · have i0 : ¬ ((i : Int) < n) := by omega
    have hk : keptB K i = false := by unfold keptB; rw [List.getElem?_eq_none (by omega)]; rfl
    rw [hk]
    clear hk hx hb hn HX
    go_enter Tryd.func33, Tryd.ntmps33
    go_wp2
    go_ret
    exact ⟨rfl, HB.out⟩
end Go.Proofs.YtglgjakjhkdoaaaDoor

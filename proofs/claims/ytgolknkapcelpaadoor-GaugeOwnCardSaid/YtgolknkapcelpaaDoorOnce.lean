/-
  Walks over package sync's Once and package sync/atomic's words, in one goroutine, the lock free: contracts at any address.
-/
import Derived.Test.YtgolknkapcelpaaDoorBase
import Derived.Tactics
import Derived.Tactics2
import Derived.Defers
import Derived.Laws.Pointers
import Derived.Laws.LoneSync
import Derived.RegionTactic
import Derived.RegionCalls
namespace Go.Proofs.YtgolknkapcelpaaDoor
open Go.RowKit
set_option linter.unusedVariables false
set_option linter.unusedSimpArgs false

theorem race_off (w : World) : (callFunc 43 #[]).run Tryd.prog w = .ok (.value (.tuple #[])) w := run_call_mark0 Tryd.func43 (by kernel_rfl) (by kernel_rfl) (by kernel_rfl) .disable (by kernel_rfl) w
theorem race_on (w : World) : (callFunc 45 #[]).run Tryd.prog w = .ok (.value (.tuple #[])) w := run_call_mark0 Tryd.func45 (by kernel_rfl) (by kernel_rfl) (by kernel_rfl) .enable (by kernel_rfl) w
theorem race_acq (a : Addr) (w : World) : (callFunc 46 #[.pointer (some a)]).run Tryd.prog w = .ok (.value (.tuple #[])) w := run_call_marked Tryd.func46 (by kernel_rfl) (by kernel_rfl) (by kernel_rfl) .acquire (by kernel_rfl) a w
theorem race_rel (a : Addr) (w : World) : (callFunc 48 #[.pointer (some a)]).run Tryd.prog w = .ok (.value (.tuple #[])) w := run_call_marked Tryd.func48 (by kernel_rfl) (by kernel_rfl) (by kernel_rfl) .releaseMerge (by kernel_rfl) a w

theorem bool_store_deferred (a : Addr) (x : Value) (u : FrameMode) (w : World) (hc : w.cell? a = some x) (hz : w.frozen? a = false) :
    CallsD Tryd.prog 38 #[.pointer (some a), .bool true] u w fun e u' w' => u' = u ∧ (e = .returned (.tuple #[]) ∧ w' = w.drew.setCell a (.int .u32 1)) := by
  have hc' : w.drew.cell? a = some x := by go_simp
  have hz' : w.drew.frozen? a = false := by go_simp
  have hst := run_call_store (P := Tryd.prog) Tryd.func41 (by kernel_rfl) (by kernel_rfl) (by kernel_rfl) (by kernel_rfl) (k := .u32) (y := 1) hc' hz'
  go_enter_d Tryd.func38, Tryd.ntmps38
  go_wp2
  go_region_calls
  all_goals (go_end0; exact ⟨rfl, rfl⟩)

set_option maxRecDepth 100000 in
theorem mutex_unlock_deferred (a : Addr) (u : FrameMode) (w : World) (hc : w.cell? a = some (.int .i32 1)) (hz : w.frozen? a = false) :
    CallsD Tryd.prog 37 #[.pointer (some a)] u w fun e u' w' => u' = u ∧ (e = .returned (.tuple #[]) ∧ w' = w.setCell a (.int .i32 0)) := by
  have hd := race_off
  have he := race_on
  have hr := race_rel
  have hadd := run_call_add (P := Tryd.prog) Tryd.func49 (by kernel_rfl) (by kernel_rfl) (by kernel_rfl) .i32 (by kernel_rfl) (y := -1) (s := 0) hc hz (by simp [go_sem]; rfl)
  have hcv := run_convert_to_unsafe (P := Tryd.prog) (src := 101) (dst := 105) Tryd.underlying101 Tryd.underlying105 (by kernel_rfl) hc
  go_enter_d Tryd.func37, Tryd.ntmps37
  go_wp2
  go_end0
  go_wp2
  go_end0
  exact ⟨rfl, rfl⟩

set_option maxRecDepth 100000 in
theorem mutex_lock (a : Addr) (w : World) (hc : w.cell? a = some (.int .i32 0)) (hz : w.frozen? a = false) :
    Calls Tryd.prog 36 #[.pointer (some a)] w fun e w' => e = .returned (.tuple #[]) ∧ w' = w.setCell a (.int .i32 1) := by
  have hd := race_off
  have he := race_on
  have ha := race_acq
  have hcas := run_call_cas_hit (P := Tryd.prog) Tryd.func44 (by kernel_rfl) (by kernel_rfl) (by kernel_rfl) .i32 (by kernel_rfl) (y := 1) hc hz
  have hc' : (w.setCell a (.int .i32 1)).cell? a = some (.int .i32 1) := World.cell?_setCell_same w a _ hc
  have hcv := run_convert_to_unsafe (P := Tryd.prog) (src := 101) (dst := 105) Tryd.underlying101 Tryd.underlying105 (by kernel_rfl) hc'
  go_enter Tryd.func36, Tryd.ntmps36
  go_wp2
  first | go_end0 | (simp only [Exit.inBlock, Exit.then]; refine bodyPost_ret (results_none rfl _ _ _) rfl ?_) | refine bodyPost_ret (results_none rfl _ _ _) rfl ?_
  go_wp2
  go_end0
  exact ⟨rfl, rfl⟩

theorem atomic_bool_load (a : Addr) (d : Int) (b : Bool) (w : World) (h0 : w.cell? a = some (.int .u32 d)) (hb : (d != 0) = b) :
    Calls Tryd.prog 31 #[.pointer (some a)] w fun e w' => e = .returned (.bool b) ∧ w = w' := by
  have hl := run_call_load (P := Tryd.prog) Tryd.func35 (by kernel_rfl) (by kernel_rfl) (by kernel_rfl) .u32 (by kernel_rfl) h0
  subst hb
  go_enter Tryd.func31, Tryd.ntmps31
  go_wp2
  go_ret
  exact ⟨rfl, rfl⟩

/-- Do, done already -/
theorem once_done (a : Addr) (fv : Value) (w : World) (h0 : w.cell? a = some (.int .u32 1)) :
    Calls Tryd.prog 26 #[.pointer (some a), fv] w fun e w' => e = .returned (.tuple #[]) ∧ w = w' := by
  have hnot : ∀ (x : Bool) (w : World), (Op.unary .not (.bool x)).run Tryd.prog w = .ok (.bool (!x)) w := fun _ _ => rfl
  go_enter Tryd.func26, Tryd.ntmps26
  go_wp2_with (go_at_call 31; refine (atomic_bool_load a 1 true _ h0 rfl).mono ?_; rintro e w' ⟨rfl, rfl⟩)
  go_end0
  exact ⟨rfl, rfl⟩

/-- what the function that is handed to Do leaves: the Once's own cells as they were -/
def OnceRan (R : World → World → Prop) (b o : Nat) (w1 w2 : World) : Prop :=
  w2.cell? ⟨b, o, none⟩ = w1.cell? ⟨b, o, none⟩ ∧ w2.cell? ⟨b, o + 1, none⟩ = w1.cell? ⟨b, o + 1, none⟩ ∧ w2.frozen? ⟨b, o, none⟩ = false ∧ w2.frozen? ⟨b, o + 1, none⟩ = false ∧ R w1 w2

set_option maxRecDepth 100000 in
set_option maxHeartbeats 1600000 in
/-- doSlow, not yet done, the lock free: the function f is called with what it captured -/
theorem once_slow (R : World → World → Prop) (b o f : Nat) (first cap : Array Value) (w : World)
    (h0 : w.cell? ⟨b, o, none⟩ = some (.int .u32 0)) (h1 : w.cell? ⟨b, o + 1, none⟩ = some (.int .i32 0))
    (f0 : w.frozen? ⟨b, o, none⟩ = false) (f1 : w.frozen? ⟨b, o + 1, none⟩ = false)
    (hf : Calls Tryd.prog f (first ++ cap) (w.setCell ⟨b, o + 1, none⟩ (.int .i32 1)) fun e w' => e = .returned (.tuple #[]) ∧ OnceRan R b o (w.setCell ⟨b, o + 1, none⟩ (.int .i32 1)) w')
    (hcall : ∀ w', (callFunc f (first ++ cap)).run Tryd.prog w' = .ok (.enter f (first ++ cap)) w') :
    Calls Tryd.prog 32 #[.pointer (some ⟨b, o, none⟩), .func (.func f) first cap] w fun e w' => e = .returned (.tuple #[]) ∧
      ∃ w2, R (w.setCell ⟨b, o + 1, none⟩ (.int .i32 1)) w2 ∧ w' = (w2.drew.setCell ⟨b, o, none⟩ (.int .u32 1)).setCell ⟨b, o + 1, none⟩ (.int .i32 0) := by
  have a0 : (w.setCell ⟨b, o + 1, none⟩ (.int .i32 1)).cell? ⟨b, o, none⟩ = some (.int .u32 0) := (World.cell?_setCell_other _ ⟨b, o + 1, none⟩ ⟨b, o, none⟩ _ (by simp)).trans h0
  have a1 : (w.setCell ⟨b, o + 1, none⟩ (.int .i32 1)).cell? ⟨b, o + 1, none⟩ = some (.int .i32 1) := World.cell?_setCell_same w _ _ h1
  have hnot : ∀ (x : Bool) (w : World), (Op.unary .not (.bool x)).run Tryd.prog w = .ok (.bool (!x)) w := fun _ _ => rfl
  have HF := hide hf
  clear hf
  go_enter_defers Tryd.func32, Tryd.ntmps32
  go_wp2_with (go_at_call 36; refine (mutex_lock ⟨b, o + 1, none⟩ _ h1 f1).mono ?_; rintro e w' ⟨rfl, rfl⟩)
  go_wp2_with (go_at_call 31; refine (atomic_bool_load ⟨b, o, none⟩ 0 false _ a0 rfl).mono ?_; rintro e w' ⟨rfl, rfl⟩)
  refine HF.out.mono ?_
  rintro e w2 ⟨rfl, c0, c1, z0, z1, hR⟩
  have d0 := c0.trans a0
  have d1 := c1.trans a1
  clear c0 c1
  go_wp2
  refine leaves_cons (f := 38) (args := #[.pointer (some ⟨b, o, none⟩), .bool true]) (by simp) (by simp [go_sem]) ?_
  refine (bool_store_deferred ⟨b, o, none⟩ (.int .u32 0) .returning _ d0 z0).mono ?_
  rintro e u' w'' ⟨rfl, rfl, rfl⟩
  refine leaves_cons (f := 37) (args := #[.pointer (some ⟨b, o + 1, none⟩)]) (by simp [settle]) (by simp [go_sem]) ?_
  refine (mutex_unlock_deferred ⟨b, o + 1, none⟩ _ _ ?_ (by simp [z1])).mono ?_
  · refine (World.cell?_setCell_other _ ⟨b, o, none⟩ ⟨b, o + 1, none⟩ _ (by simp)).trans ?_
    rw [World.cell?_drew]
    exact d1
  rintro e u' w'' ⟨rfl, rfl, rfl⟩
  simp [Leaves, settle, results, Tryd.results32]
  exact ⟨w2, hR, rfl⟩

/-- Do, the first time -/
theorem once_first (R : World → World → Prop) (b o f : Nat) (first cap : Array Value) (w : World)
    (h0 : w.cell? ⟨b, o, none⟩ = some (.int .u32 0)) (h1 : w.cell? ⟨b, o + 1, none⟩ = some (.int .i32 0))
    (f0 : w.frozen? ⟨b, o, none⟩ = false) (f1 : w.frozen? ⟨b, o + 1, none⟩ = false)
    (hf : Calls Tryd.prog f (first ++ cap) (w.setCell ⟨b, o + 1, none⟩ (.int .i32 1)) fun e w' => e = .returned (.tuple #[]) ∧ OnceRan R b o (w.setCell ⟨b, o + 1, none⟩ (.int .i32 1)) w')
    (hcall : ∀ w', (callFunc f (first ++ cap)).run Tryd.prog w' = .ok (.enter f (first ++ cap)) w') :
    Calls Tryd.prog 26 #[.pointer (some ⟨b, o, none⟩), .func (.func f) first cap] w fun e w' => e = .returned (.tuple #[]) ∧
      ∃ w2, R (w.setCell ⟨b, o + 1, none⟩ (.int .i32 1)) w2 ∧ w' = (w2.drew.setCell ⟨b, o, none⟩ (.int .u32 1)).setCell ⟨b, o + 1, none⟩ (.int .i32 0) := by
  have HF := hide hf
  have HC := hide hcall
  clear hf hcall
  have hnot : ∀ (x : Bool) (w : World), (Op.unary .not (.bool x)).run Tryd.prog w = .ok (.bool (!x)) w := fun _ _ => rfl
  go_enter Tryd.func26, Tryd.ntmps26
  go_wp2_with (go_at_call 31; refine (atomic_bool_load ⟨b, o, none⟩ 0 false _ h0 rfl).mono ?_; rintro e w' ⟨rfl, rfl⟩)
  refine (once_slow R b o f first cap _ h0 h1 f0 f1 HF.out HC.out).mono ?_
  rintro e w' ⟨rfl, w2, hR, rfl⟩
  go_wp2
  go_end0
  exact ⟨rfl, w2, hR, rfl⟩
end Go.Proofs.YtgolknkapcelpaaDoor

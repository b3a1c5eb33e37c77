/-
  Timers in memory; the walks of New, Again, Start, Stop, At; slices.Sort of no element and of one.
-/
import Derived.Test.YtjehoingphndnaaFsM
import Derived.Test.YtjehoingphndnaaReg3
namespace Go.Proofs.Ytjehoingphndnaa
open Go.RowKit Go.Maps
set_option linter.unusedVariables false
set_option linter.unusedSimpArgs false

theorem heap_alloc_at (w : World) (o : Obj) : (w.alloc o).heap[w.heap.size]? = some o := Array.getElem?_push_size
theorem below_alloc (w : World) (o : Obj) : Below w.heap.size w (w.alloc o) := (Below.refl _ _).alloc (Nat.le_refl _) _
theorem wrapI {n : Int} (h0 : -9223372036854775808 ≤ n) (h1 : n ≤ 9223372036854775807) : IntKind.i64.wrap n = n := by
  unfold IntKind.wrap
  simp [IntKind.bits, IntKind.signed]
  omega
theorem wrapU {n : Int} (h0 : 0 ≤ n) (h1 : n ≤ 18446744073709551615) : IntKind.u64.wrap n = n := by
  unfold IntKind.wrap
  simp [IntKind.bits, IntKind.signed]
  omega
/-- a timer: how often it was due, when it is -/
abbrev Run := Nat × Nat
def runV (r : Run) : Value := .agg #[.int .i64 r.1, .int .u64 r.2]
def isI : Value → Bool
  | .int .i64 _ => true
  | _ => false
def isU : Value → Bool
  | .int .u64 _ => true
  | _ => false
def isRunL : List Value → Bool
  | [x, y] => isI x && isU y
  | _ => false
def isRun : Value → Bool
  | .agg cs => isRunL cs.toList
  | _ => false
abbrev keyV (n : Int) : Value := .int .u32 n
abbrev keyL (n : Int) : Lit := .int .u32 n
theorem keysTi : KeyAs Try.prog 23 keyV keyL (fun n => (Lit.int .u32 n).wf = true) := int_as Try.underlying23
theorem key_ok {n : Nat} (h : n < 4294967296) : (Lit.int .u32 (n : Int)).wf = true := by simp [Lit.wf, IntKind.min, IntKind.max, IntKind.signed, IntKind.bits]; omega
abbrev TMap (w : World) (mb : Nat) (E : List (Int × Run)) : Prop := OwnM w Try.prog 23 keyL isRun runV mb E
theorem zero_run (w : World) : (zeroValue 50).run Try.prog w = .ok (.agg #[.int .i64 0, .int .u64 0]) w := by kernel_rfl

def TAt (w : World) (tb mb : Nat) (tk : Nat) : Prop := w.heap[tb]? = some (.cells #[.int .u64 tk, .map (some mb)] 48 (0, 0))
theorem TAt.facts {w : World} {tb mb tk : Nat} (h : TAt w tb mb tk) : w.cell? ⟨tb, 0, none⟩ = some (.int .u64 tk) ∧ w.cell? ⟨tb, 1, none⟩ = some (.map (some mb)) ∧ tb < w.heap.size := by
  unfold TAt at h
  exact ⟨by simp [World.cell?, h], by simp [World.cell?, h], (Array.getElem?_eq_some_iff.1 h).1⟩
/-- timers -/
structure TRep (w : World) (tb : Nat) (tk : Nat) (E : List (Int × Run)) (F : List Nat) : Prop where
  rep : ∃ mb, TAt w tb mb tk ∧ TMap w mb E ∧ mb ≠ tb ∧ F = [tb, mb]
theorem TRep.lt {w : World} {tb tk : Nat} {E : List (Int × Run)} {F : List Nat} (h : TRep w tb tk E F) : ∀ k ∈ F, k < w.heap.size := by
  obtain ⟨mb, h1, h2, h3, rfl⟩ := h
  intro k hk
  simp only [List.mem_cons, List.not_mem_nil, or_false] at hk
  rcases hk with rfl | rfl
  · exact h1.facts.2.2
  · exact h2.lt
theorem TRep.low {w w' : World} {tb tk : Nat} {E : List (Int × Run)} {F : List Nat} (h : TRep w tb tk E F) (hb : Below w.heap.size w w') : TRep w' tb tk E F := by
  obtain ⟨mb, h1, h2, h3, rfl⟩ := h
  exact ⟨mb, (hb.block tb h1.facts.2.2).trans h1, h2.low hb, h3, rfl⟩
def TTo (w : World) (tb tk : Nat) (F : List Nat) (E : List (Int × Run)) (w' : World) : Prop := TRep w' tb tk E F ∧ Chg F F w w'

theorem ti_New (n : Nat) (h0 : 1 ≤ n) (h1 : n ≤ 1000) (w : World) : Calls Try.prog 7 #[.int .i64 n] w fun e w' => ∃ tb F, e = .returned (.pointer (some ⟨tb, 0, none⟩)) ∧ TRep w' tb n [] F ∧ (∀ k ∈ F, w.heap.size ≤ k) ∧ Below w.heap.size w w' := by
  have i0 : ¬ ((n : Int) < 1) := by omega
  have i1 : ¬ ((1000 : Int) < n) := by omega
  have hmm := @run_makeMap Try.prog
  have hwn : IntKind.u64.wrap (n : Int) = n := wrapU (by omega) (by omega)
  go_enter Try.func7, Try.ntmps7
  go_wp2
  go_ret
  have hb1 := below_alloc w (.map #[] 0)
  have hb2 := hb1.trans ((below_alloc (w.alloc (.map #[] 0)) (.cells #[.int .u64 n, .map (some w.heap.size)] 48)).mono (by simp))
  refine ⟨w.heap.size + 1, rfl, _, ⟨w.heap.size, ?_, ?_, by omega, rfl⟩, fun k hk => by simp only [List.mem_cons, List.not_mem_nil, or_false] at hk; omega, hb2⟩
  · have := heap_alloc_at (w.alloc (.map #[] 0)) (.cells #[.int .u64 n, .map (some w.heap.size)] 48)
    simpa [TAt] using this
  · exact OwnM.low (ownM_made w) (below_alloc _ _)

/-! timers as what each series' timer is -/
abbrev Md : Nat := 18446744073709551616
theorem wrapUm (n : Nat) : IntKind.u64.wrap (n : Int) = ((n % Md : Nat) : Int) := by rw [IntKind.wrap_u64]; unfold Md; omega
abbrev Runs := Int → Option Run
def setR (m : Runs) (k : Int) (r : Option Run) : Runs := fun k' => if k' = k then r else m k'
def mkOk (n : Int) : Prop := (Lit.int .u32 n).wf = true
theorem OwnM.okE {w : World} {mb : Nat} {E : List (Int × Run)} (h : TMap w mb E) : MOk mkOk E := (OwnM.mok h keysTi).1
theorem mget_set {E E' : List (Int × Run)} {k : Int} {r : Run} (h : MOk mkOk E) (h' : MOk mkOk E') (he : ∀ p, p ∈ E' ↔ p = (k, r) ∨ (p ∈ E ∧ p.1 ≠ k)) (k' : Int) : mget k' E' = setR (fun k => mget k E) k (some r) k' := by
  unfold setR
  by_cases hk : k' = k
  · subst hk
    rw [if_pos rfl, mget_of_mem h' (p := (k', r)) ((he _).2 (.inl rfl))]
  · rw [if_neg hk]
    show mget k' E' = mget k' E
    cases hg : mget k' E with
    | none =>
      cases hg' : mget k' E' with
      | none => rfl
      | some v =>
        rcases (he _).1 (mget_mem hg') with h1 | h1
        · simp only [Prod.mk.injEq] at h1
          exact absurd h1.1 hk
        · exact absurd rfl (mget_none hg _ h1.1)
    | some v => exact mget_of_mem h' (p := (k', v)) ((he _).2 (.inr ⟨mget_mem hg, hk⟩))
theorem mget_unset {E : List (Int × Run)} {k : Int} (h : MOk mkOk E) (h' : MOk mkOk (mdel k E)) (k' : Int) : mget k' (mdel k E) = setR (fun k => mget k E) k none k' := by
  unfold setR
  by_cases hk : k' = k
  · subst hk
    rw [if_pos rfl]
    cases hg' : mget k' (mdel k' E) with
    | none => rfl
    | some v =>
      have := (mdel_mem k' _ E).1 (mget_mem hg')
      exact absurd rfl this.2
  · rw [if_neg hk]
    show mget k' (mdel k E) = mget k' E
    cases hg : mget k' E with
    | none =>
      cases hg' : mget k' (mdel k E) with
      | none => rfl
      | some v => exact absurd rfl (mget_none hg _ ((mdel_mem k _ E).1 (mget_mem hg')).1)
    | some v => exact mget_of_mem h' (p := (k', v)) ((mdel_mem k _ E).2 ⟨mget_mem hg, hk⟩)
/-- timers: what each one is, at most so many -/
structure TM (w : World) (tb tk : Nat) (m : Runs) (n : Nat) (F : List Nat) : Prop where
  of : ∃ E, TRep w tb tk E F ∧ (∀ k, mget k E = m k) ∧ E.length ≤ n
theorem TM.low {w w' : World} {tb tk n : Nat} {m : Runs} {F : List Nat} (h : TM w tb tk m n F) (hb : Below w.heap.size w w') : TM w' tb tk m n F := by
  obtain ⟨E, h1, h2, h3⟩ := h.of
  exact ⟨E, h1.low hb, h2, h3⟩
theorem TM.lt {w : World} {tb tk n : Nat} {m : Runs} {F : List Nat} (h : TM w tb tk m n F) : ∀ k ∈ F, k < w.heap.size := by
  obtain ⟨E, h1, h2, h3⟩ := h.of
  exact h1.lt
theorem TM.more {w : World} {tb tk n n' : Nat} {m : Runs} {F : List Nat} (h : TM w tb tk m n F) (hn : n ≤ n') : TM w tb tk m n' F := by
  obtain ⟨E, h1, h2, h3⟩ := h.of
  exact ⟨E, h1, h2, by omega⟩
theorem TM.keyOk {w : World} {tb tk n : Nat} {m : Runs} {F : List Nat} (h : TM w tb tk m n F) {k : Int} {r : Run} (hk : m k = some r) : 0 ≤ k ∧ k < 4294967296 := by
  obtain ⟨E, ⟨mb, h1, h4, _⟩, h2, h3⟩ := h.of
  have := (OwnM.okE h4).2 _ (mget_mem ((h2 k).trans hk))
  simp only [mkOk, Lit.wf, IntKind.min, IntKind.max, IntKind.signed, IntKind.bits] at this
  simp at this
  omega
theorem TM.same {w w' : World} {tb tk n : Nat} {m : Runs} {F F' F'' : List Nat} (h : TM w tb tk m n F) (hc : Chg F' F'' w w') (hd : ∀ k ∈ F, k ∉ F') : TM w' tb tk m n F := by
  obtain ⟨E, ⟨mb, h1, h4, h5, rfl⟩, h2, h3⟩ := h.of
  have e1 := hc.block tb h1.facts.2.2 (hd tb (by simp))
  exact ⟨E, ⟨mb, e1.trans h1, h4.same (hc.block mb h4.lt (hd mb (by simp))), h5, rfl⟩, h2, h3⟩

theorem tm_New (n : Nat) (h0 : 1 ≤ n) (h1 : n ≤ 1000) (w : World) : Calls Try.prog 7 #[.int .i64 n] w fun e w' => ∃ tb F, e = .returned (.pointer (some ⟨tb, 0, none⟩)) ∧ TM w' tb n (fun _ => none) 0 F ∧ (∀ k ∈ F, w.heap.size ≤ k) ∧ Below w.heap.size w w' :=
  (ti_New n h0 h1 w).mono fun e w' ⟨tb, F, h1, h2, h3, h4⟩ => ⟨tb, F, h1, ⟨[], h2, fun _ => rfl, Nat.le_refl _⟩, h3, h4⟩

set_option maxRecDepth 100000 in
theorem ti_Again (tb tk : Nat) (E : List (Int × Run)) (F : List Nat) (k now : Nat) (hk : k < 4294967296) (hn : now < Md) (htk : tk ≤ 1000) (he : E.length ≤ 1000000) (w : World) (h : TRep w tb tk E F) :
    Calls Try.prog 16 #[.pointer (some ⟨tb, 0, none⟩), .int .u32 k, .int .u64 now] w fun e w' => e = .returned (.tuple #[]) ∧ TTo w tb tk F (mput keyL (k : Int) ((0, (now + tk) % Md) : Run) E) w' := by
  obtain ⟨mb, h1, h2, h3, rfl⟩ := h
  have H1 := hide h1; have H2 := hide h2
  obtain ⟨at', hat⟩ : ∃ a, a = (now + tk) % Md := ⟨_, rfl⟩
  have hwn : IntKind.u64.wrap ((now : Int) + tk) = (at' : Int) := by rw [hat, ← wrapUm]; rw [show ((now + tk : Nat) : Int) = (now : Int) + tk by omega]
  rw [← hat]
  have hel : E.length < maxLen := by unfold maxLen; omega
  have hcl : Hid (∀ w', Below w.heap.size w w' → w'.cell? ⟨tb, 0, none⟩ = some (.int .u64 tk) ∧ w'.cell? ⟨tb, 1, none⟩ = some (.map (some mb))) := hide fun w' hb => ⟨(hb.cell (p := ⟨tb, 0, none⟩) H1.out.facts.2.2).trans H1.out.facts.1, (hb.cell (p := ⟨tb, 1, none⟩) H1.out.facts.2.2).trans H1.out.facts.2.1⟩
  clear h1 h2 hat hn
  go_enter Try.func16, Try.ntmps16
  refine wp_region_three 12 18 (by kernel_rfl) (by kernel_rfl) rfl (by kernel_rfl) (fun D v w' => Below w.heap.size w w') (fun _ => undef) (Below.refl _ _).drew ?_
  simp only [List.take_succ_cons, List.take_zero, List.drop_succ_cons, List.drop_zero]
  iterate 12 (refine Hav3.read (e := ?_) (fun v => by rfl) (fun D v w h => h) (fun D v w' hD hS => ?_) ?_; rotate_left; (obtain ⟨f1, f2⟩ := hcl.out w' hS; clear hS hD; first | (go_simp; done) | (go_simp; with_reducible rfl)); go_simp)
  refine Hav3.fin (fun v w2 hS => ?_)
  have HS := hide hS
  have hm2 := hide (H2.out.low hS)
  clear hS
  go_wp2_with (at_mapUpdate; refine wpList_mput keysTi rfl _ _ _ 46 rfl 50 Try.underlying46 rfl hm2.out hel (k : Int) rfl (key_ok hk) ((0, at') : Run) rfl rfl ?_; intro w3 hm3 hg3 hs3; have HM3 := hide hm3; have HG3 := hide hg3; clear hm3 hg3 hs3)
  go_end0
  have hg := HG3.out
  refine ⟨rfl, ⟨mb, ?_, HM3.out, h3, rfl⟩, ?_⟩
  · exact (hg.block tb (Nat.lt_of_lt_of_le H1.out.facts.2.2 HS.out.size) fun e => h3 (by simpa using e.symm)).trans ((HS.out.block tb H1.out.facts.2.2).trans H1.out)
  · refine (Chg.of_below HS.out).trans ⟨hg.os, hg.tape, hg.output, hg.size, fun j hj hn => hg.block j hj fun e => hn ?_, fun j hj => .inl hj⟩
    simp only [Option.some.injEq] at e
    simp [e]

theorem mput_len (k : Int) (r : Run) (E : List (Int × Run)) : (mput keyL k r E).length ≤ E.length + 1 := by
  unfold mput
  rw [mins_length]
  have := List.length_filter_le (fun p : Int × Run => decide (p.1 ≠ k)) E
  unfold mdel
  omega
theorem tm_Again (tb tk n : Nat) (m : Runs) (F : List Nat) (k now : Nat) (hk : k < 4294967296) (hn : now < Md) (htk : tk ≤ 1000) (he : n ≤ 1000000) (w : World) (h : TM w tb tk m n F) :
    Calls Try.prog 16 #[.pointer (some ⟨tb, 0, none⟩), .int .u32 k, .int .u64 now] w fun e w' => e = .returned (.tuple #[]) ∧ TM w' tb tk (setR m k (some (0, (now + tk) % Md))) (n + 1) F ∧ Chg F F w w' := by
  obtain ⟨E, h1, h2, h3⟩ := h.of
  refine (ti_Again tb tk E F k now hk hn htk (by omega) w h1).mono ?_
  rintro e w' ⟨rfl, h4, h5⟩
  refine ⟨rfl, ⟨_, h4, fun k' => ?_, ?_⟩, h5⟩
  · obtain ⟨mb, _, ho, _⟩ := h1
    obtain ⟨mb', _, ho', _⟩ := h4
    rw [mget_set (OwnM.okE ho) (OwnM.okE ho') (fun p => mput_mem (kl := keyL) (k : Int) _ p E) k']
    unfold setR
    simp only [h2]
  · have := mput_len (k : Int) ((0, (now + tk) % Md) : Run) E
    omega

/-- what a series' timer is -/
theorem ti_At (tb tk : Nat) (E : List (Int × Run)) (F : List Nat) (k : Nat) (hk : k < 4294967296) (g : Option Run) (hg : mget (k : Int) E = g) (w : World) (h : TRep w tb tk E F) :
    Calls Try.prog 10 #[.pointer (some ⟨tb, 0, none⟩), .int .u32 k] w fun e w' => e = .returned (.tuple #[.int .u64 ((g.getD (0, 0)).2 : Nat), .bool g.isSome]) ∧ Below w.heap.size w w' := by
  obtain ⟨mb, h1, h2, h3, rfl⟩ := h
  have H2 := hide h2
  have f1 := h1.facts.2.1
  have HG := hide hg
  obtain ⟨r1, r2, hr⟩ : ∃ r1 r2, (r1, r2) = g.getD (0, 0) := ⟨_, _, rfl⟩
  obtain ⟨bo, hbo⟩ : ∃ bo, bo = g.isSome := ⟨_, rfl⟩
  have HV : Hid ((g.map runV).getD (.agg #[.int .i64 0, .int .u64 0]) = .agg #[.int .i64 r1, .int .u64 r2]) := hide (by
    cases g with
    | none => simp only [Option.getD_none, Prod.mk.injEq] at hr; simp [hr.1, hr.2]
    | some r => simp only [Option.getD_some] at hr; subst hr; rfl)
  have HBO := hide hbo
  rw [← hr, ← hbo]
  clear h1 h2 hg hr hbo
  go_enter Try.func10, Try.ntmps10
  go_wp2_with (at_lookup; refine wpList_mlook_ok keysTi rfl _ _ 46 rfl 50 Try.underlying46 (zero_run _) rfl rfl H2.out (k : Int) rfl (key_ok hk) g HG.out _ HV.out bo (by rw [HBO.out]) ?_)
  go_ret2
  exact ⟨rfl, below_alloc w _⟩
theorem tm_At (tb tk n : Nat) (m : Runs) (F : List Nat) (k : Nat) (hk : k < 4294967296) (w : World) (h : TM w tb tk m n F) :
    Calls Try.prog 10 #[.pointer (some ⟨tb, 0, none⟩), .int .u32 k] w fun e w' => e = .returned (.tuple #[.int .u64 (((m k).getD (0, 0)).2 : Nat), .bool (m k).isSome]) ∧ Below w.heap.size w w' := by
  obtain ⟨E, h1, h2, h3⟩ := h.of
  exact ti_At tb tk E F k hk (m k) (h2 k) w h1

theorem ti_Start1 (tb tk : Nat) (E : List (Int × Run)) (F : List Nat) (k now : Nat) (hk : k < 4294967296) (hn : now < Md) (htk : tk ≤ 1000) (he : E.length ≤ 1000000) (hno : mget (k : Int) E = none) (w : World) (h : TRep w tb tk E F) :
    Calls Try.prog 9 #[.pointer (some ⟨tb, 0, none⟩), .int .u32 k, .int .u64 now] w fun e w' => e = .returned (.bool true) ∧ TTo w tb tk F (mput keyL (k : Int) ((0, (now + tk) % Md) : Run) E) w' := by
  have H := hide h
  obtain ⟨mb, h1, h2, h3, hF⟩ := h
  have H2 := hide h2
  have f1 := h1.facts.2.1
  have HN := hide hno
  have HNN := hide hn
  clear h1 h2 hno hF hn
  go_enter Try.func9, Try.ntmps9
  go_wp2_with (at_lookup; refine wpList_mlook_ok keysTi rfl _ _ 46 rfl 50 Try.underlying46 (zero_run _) rfl rfl H2.out (k : Int) rfl (key_ok hk) none HN.out _ rfl false rfl ?_)
  have hb := hide (below_alloc w (.cells #[.int .i64 0, .int .u64 0] 50))
  clear f1
  refine (ti_Again tb tk E F k now hk HNN.out htk he _ (H.out.low hb.out)).mono ?_
  rintro e w2 ⟨rfl, hr, hc⟩
  have HR := hide hr; have HC := hide ((Chg.of_below hb.out).trans hc)
  clear hr hc
  go_wp2
  go_ret
  exact ⟨rfl, HR.out, HC.out⟩
theorem ti_Start0 (tb tk : Nat) (E : List (Int × Run)) (F : List Nat) (k now : Nat) (hk : k < 4294967296) (r : Run) (hno : mget (k : Int) E = some r) (w : World) (h : TRep w tb tk E F) :
    Calls Try.prog 9 #[.pointer (some ⟨tb, 0, none⟩), .int .u32 k, .int .u64 now] w fun e w' => e = .returned (.bool false) ∧ Below w.heap.size w w' := by
  have H := hide h
  obtain ⟨mb, h1, h2, h3, hF⟩ := h
  have H2 := hide h2
  have f1 := h1.facts.2.1
  obtain ⟨r1, r2⟩ := r
  have HN := hide hno
  clear h1 h2 hno hF
  go_enter Try.func9, Try.ntmps9
  go_wp2_with (at_lookup; refine wpList_mlook_ok keysTi rfl _ _ 46 rfl 50 Try.underlying46 (zero_run _) rfl rfl H2.out (k : Int) rfl (key_ok hk) (some (r1, r2)) HN.out (.agg #[.int .i64 r1, .int .u64 r2]) rfl true rfl ?_)
  go_ret
  exact ⟨rfl, below_alloc w _⟩
theorem tm_Start (tb tk n : Nat) (m : Runs) (F : List Nat) (k now : Nat) (hk : k < 4294967296) (hn : now < Md) (htk : tk ≤ 1000) (he : n ≤ 1000000) (w : World) (h : TM w tb tk m n F) :
    Calls Try.prog 9 #[.pointer (some ⟨tb, 0, none⟩), .int .u32 k, .int .u64 now] w fun e w' => e = .returned (.bool (m k).isNone) ∧ TM w' tb tk (if (m k).isNone then setR m k (some (0, (now + tk) % Md)) else m) (n + 1) F ∧ Chg F F w w' := by
  obtain ⟨E, h1, h2, h3⟩ := h.of
  cases hm : m k with
  | none =>
    refine (ti_Start1 tb tk E F k now hk hn htk (by omega) ((h2 k).trans hm) w h1).mono ?_
    rintro e w' ⟨rfl, h4, h5⟩
    refine ⟨rfl, ⟨_, h4, fun k' => ?_, ?_⟩, h5⟩
    · obtain ⟨mb, _, ho, _⟩ := h1
      obtain ⟨mb', _, ho', _⟩ := h4
      rw [mget_set (OwnM.okE ho) (OwnM.okE ho') (fun p => mput_mem (kl := keyL) (k : Int) _ p E) k']
      simp only [Option.isNone_none, if_true]
      unfold setR
      simp only [h2]
    · have := mput_len (k : Int) ((0, (now + tk) % Md) : Run) E
      omega
  | some r =>
    refine (ti_Start0 tb tk E F k now hk r ((h2 k).trans hm) w h1).mono ?_
    rintro e w' ⟨rfl, hb⟩
    exact ⟨rfl, (h.low hb).more (by omega), Chg.of_below hb⟩

theorem ti_Stop (tb tk : Nat) (E : List (Int × Run)) (F : List Nat) (k : Nat) (hk : k < 4294967296) (g : Option Run) (hg : mget (k : Int) E = g) (w : World) (h : TRep w tb tk E F) :
    Calls Try.prog 15 #[.pointer (some ⟨tb, 0, none⟩), .int .u32 k] w fun e w' => e = .returned (.bool g.isSome) ∧ TTo w tb tk F (mdel (k : Int) E) w' := by
  obtain ⟨mb, h1, h2, h3, rfl⟩ := h
  have H1 := hide h1
  have H2 := hide h2
  have f1 := h1.facts.2.1
  have HG := hide hg
  obtain ⟨r1, r2, hr⟩ : ∃ r1 r2, (r1, r2) = g.getD (0, 0) := ⟨_, _, rfl⟩
  obtain ⟨bo, hbo⟩ : ∃ bo, bo = g.isSome := ⟨_, rfl⟩
  have HV : Hid ((g.map runV).getD (.agg #[.int .i64 0, .int .u64 0]) = .agg #[.int .i64 r1, .int .u64 r2]) := hide (by
    cases g with
    | none => simp only [Option.getD_none, Prod.mk.injEq] at hr; simp [hr.1, hr.2]
    | some r => simp only [Option.getD_some] at hr; subst hr; rfl)
  have HBO := hide hbo
  have HB := hide (below_alloc w (.cells #[.int .i64 r1, .int .u64 r2] 50))
  have htb := H1.out.facts.2.2
  have x1 : (w.alloc (.cells #[.int .i64 r1, .int .u64 r2] 50)).cell? ⟨tb, 1, none⟩ = some (.map (some mb)) := (HB.out.cell (p := ⟨tb, 1, none⟩) H1.out.facts.2.2).trans f1
  have HM2 := hide (H2.out.low HB.out)
  rw [← hbo]
  clear h1 h2 hg hr hbo
  go_enter Try.func15, Try.ntmps15
  go_wp2_with (first
    | (at_lookup; refine wpList_mlook_ok keysTi rfl _ _ 46 rfl 50 Try.underlying46 (zero_run _) rfl rfl H2.out (k : Int) rfl (key_ok hk) g HG.out _ HV.out bo (by rw [HBO.out]) ?_)
    | (at_delete; refine wpList_mdel keysTi rfl _ _ 46 rfl 50 Try.underlying46 rfl HM2.out (k : Int) rfl (key_ok hk) ?_; intro w3 hm3 hg3 hs3; have HM3 := hide hm3; have HG3 := hide hg3; clear hm3 hg3 hs3))
  go_ret
  have hg := HG3.out
  have HS := HB
  refine ⟨rfl, ⟨mb, ?_, HM3.out, h3, rfl⟩, ?_⟩
  · exact (hg.block tb (Nat.lt_of_lt_of_le H1.out.facts.2.2 HS.out.size) fun e => h3 (by simpa using e.symm)).trans ((HS.out.block tb H1.out.facts.2.2).trans H1.out)
  · refine (Chg.of_below HS.out).trans ⟨hg.os, hg.tape, hg.output, hg.size, fun j hj hn => hg.block j hj fun e => hn ?_, fun j hj => .inl hj⟩
    simp only [Option.some.injEq] at e
    simp [e]
theorem tm_Stop (tb tk n : Nat) (m : Runs) (F : List Nat) (k : Nat) (hk : k < 4294967296) (w : World) (h : TM w tb tk m n F) :
    Calls Try.prog 15 #[.pointer (some ⟨tb, 0, none⟩), .int .u32 k] w fun e w' => e = .returned (.bool (m k).isSome) ∧ TM w' tb tk (setR m k none) n F ∧ Chg F F w w' := by
  obtain ⟨E, h1, h2, h3⟩ := h.of
  refine (ti_Stop tb tk E F k hk (m k) (h2 k) w h1).mono ?_
  rintro e w' ⟨rfl, h4, h5⟩
  refine ⟨rfl, ⟨_, h4, fun k' => ?_, ?_⟩, h5⟩
  · obtain ⟨mb, _, ho, _⟩ := h1
    obtain ⟨mb', _, ho', _⟩ := h4
    rw [mget_unset (OwnM.okE ho) (OwnM.okE ho') k']
    unfold setR
    simp only [h2]
  · have := List.length_filter_le (fun p : Int × Run => decide (p.1 ≠ (k : Int))) E
    unfold mdel
    omega

/-! slices.Sort of no element, of one -/
set_option maxRecDepth 100000 in
theorem bitsLen (n : Nat) (h : n ≤ 1) (w : World) : Calls Try.prog 24 #[.int .u64 n] w fun e w' => e = .returned (.int .i64 n) ∧ w = w' := by
  have h64 : Calls Try.prog 35 #[.int .u64 n] w fun e w' => e = .returned (.int .i64 n) ∧ w = w' := by
    obtain rfl | rfl : n = 0 ∨ n = 1 := by omega
    · go_enter Try.func35, Try.ntmps35
      go_wp2
      go_ret
      exact ⟨by kernel_rfl, rfl⟩
    · go_enter Try.func35, Try.ntmps35
      go_wp2
      go_ret
      exact ⟨by kernel_rfl, rfl⟩
  have H := hide h64
  clear h64
  go_enter Try.func24, Try.ntmps24
  go_wp2_with (refine H.out.mono ?_; rintro e w' ⟨rfl, rfl⟩)
  go_ret
  exact ⟨rfl, rfl⟩

set_option maxRecDepth 100000 in
theorem sort_ins (a : Option Addr) (n c : Nat) (h : n ≤ 1) (w : World) : Calls Try.prog 25 #[.slice a n c, .int .i64 0, .int .i64 n] w fun e w' => e = .returned (.tuple #[]) ∧ w = w' := by
  have i0 : ¬ ((1 : Int) < n) := by omega
  go_enter Try.func25, Try.ntmps25
  go_wp2
  go_loopw [6] (fun iv wr => iv = .int .i64 1 ∧ w = wr) (fun _ _ => 0)
  case atStart => exact ⟨rfl, rfl⟩
  case round =>
    obtain ⟨rfl, rfl⟩ := hrel
    go_wp2
    go_end0
    exact ⟨rfl, rfl⟩

set_option maxRecDepth 100000 in
theorem sort_pdq (a : Option Addr) (n c : Nat) (h : n ≤ 1) (w : World) : Calls Try.prog 23 #[.slice a n c, .int .i64 0, .int .i64 n, .int .i64 n] w fun e w' => e = .returned (.tuple #[]) ∧ w = w' := by
  have i0 : (n : Int) ≤ 12 := by omega
  have hw : IntKind.i64.wrap (n : Int) = n := wrapI (by omega) (by omega)
  have hw2 : IntKind.i64.wrap ((n : Int) - 0) = n := by simpa using hw
  go_enter Try.func23, Try.ntmps23
  go_wp2
  refine wp_loop_rounds 1 ?_
  rw [rounds_succ]
  go_wp2_with (go_at_call 25; refine (sort_ins a n c h _).mono ?_; rintro e w' ⟨rfl, rfl⟩)
  (try simp only [Exit.inBlock, Exit.then])
  refine bodyPost_ret (results_none rfl _ _ _) rfl ?_
  exact ⟨rfl, rfl⟩

set_option maxRecDepth 100000 in
theorem sort_one (a : Option Addr) (n c : Nat) (h : n ≤ 1) (w : World) : Calls Try.prog 17 #[.slice a n c] w fun e w' => e = .returned (.tuple #[]) ∧ w = w' := by
  have hw : IntKind.u64.wrap (n : Int) = n := wrapU (by omega) (by omega)
  go_enter Try.func17, Try.ntmps17
  go_wp2_with (first
    | (go_at_call 24; refine (bitsLen n h _).mono ?_; rintro e w' ⟨rfl, rfl⟩)
    | (go_at_call 23; refine (sort_pdq a n c h _).mono ?_; rintro e w' ⟨rfl, rfl⟩))
  go_end0
  exact ⟨rfl, rfl⟩
end Go.Proofs.Ytjehoingphndnaa

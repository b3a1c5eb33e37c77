/-
  Timers of both kinds beside one another; a call on both.
-/
import Derived.Test.YtjehoingphndnaaTiH
namespace Go.Proofs.Ytjehoingphndnaa
open Go.RowKit Go.Maps
set_option linter.unusedVariables false
set_option linter.unusedSimpArgs false

/-- some numbers that were told: in a row that nobody else has -/
def Told1 (w0 w : World) (F Fr : List Nat) (q : Value × List Int) : Prop := ∃ a n c, q.1 = .slice a n c ∧ n = q.2.length ∧ WRow w w0.heap.size a n c q.2 ∧ ∀ b, q.1.ownBlock = some b → b ∉ F ∧ b ∉ Fr
theorem Told1.keep {w0 w w' : World} {F Fr Fr' : List Nat} {q : Value × List Int} (h : Told1 w0 w F Fr q) (hb : ∀ b, b < w.heap.size → b ∉ F → b ∉ Fr → w'.heap[b]? = w.heap[b]?) (hf : ∀ k ∈ Fr', k ∈ Fr ∨ w.heap.size ≤ k) : Told1 w0 w' F Fr' q := by
  obtain ⟨a, n, c, h1, h2, h3, h4⟩ := h
  refine ⟨a, n, c, h1, h2, ownsRow_same h3 fun b hb' => hb b (h3.lt b hb').2 (h4 b (by rw [h1]; exact hb')).1 (h4 b (by rw [h1]; exact hb')).2, fun b hb' => ⟨(h4 b hb').1, fun hr => ?_⟩⟩
  rcases hf b hr with h5 | h5
  · exact (h4 b hb').2 h5
  · have := (h3.lt b (by rw [← h1]; exact hb')).2
    omega
/-- a block that nobody changes -/
def Kept (w : World) (F Fr : List Nat) (q : Nat × Obj) : Prop := w.heap[q.1]? = some q.2 ∧ q.1 ∉ F ∧ q.1 ∉ Fr
theorem Kept.keep {w w' : World} {F Fr Fr' : List Nat} {q : Nat × Obj} (h : Kept w F Fr q) (hb : ∀ b, b < w.heap.size → b ∉ F → b ∉ Fr → w'.heap[b]? = w.heap[b]?) (hf : ∀ k ∈ Fr', k ∈ Fr ∨ w.heap.size ≤ k) : Kept w' F Fr' q := by
  obtain ⟨h1, h2, h3⟩ := h
  have hl := (Array.getElem?_eq_some_iff.1 h1).1
  refine ⟨(hb _ hl h2 h3).trans h1, h2, fun hr => ?_⟩
  rcases hf _ hr with h5 | h5
  · exact h3 h5
  · omega
/-- both beside one another, all of it from W on; what was told; what stays -/
structure Two (W w : World) (tb tk : Nat) (m : Runs) (n : Nat) (rb rk : Nat) (l : Tl) (rows : List (Value × List Int)) (ks : List (Nat × Obj)) : Prop where
  of : ∃ F Fr, TM w tb tk m n F ∧ RRep w W.heap.size rb rk l Fr ∧ (∀ k ∈ F, W.heap.size ≤ k ∧ k ∉ Fr) ∧ Below W.heap.size W w ∧ (∀ q ∈ rows, Told1 W w F Fr q) ∧ ∀ q ∈ ks, Kept w F Fr q
section
variable {W w w' : World} {tb tk n n' rb rk : Nat} {m m' : Runs} {l l' : Tl} {rows rows' : List (Value × List Int)} {ks ks' : List (Nat × Obj)}
theorem Two.low (h : Two W w tb tk m n rb rk l rows ks) (hb : Below w.heap.size w w') : Two W w' tb tk m n rb rk l rows ks := by
  obtain ⟨F, Fr, h1, h2, h3, h4, h5, h6⟩ := h.of
  exact ⟨F, Fr, h1.low hb, h2.low hb, h3, h4.trans (hb.mono h4.size), fun q hq => (h5 q hq).keep (fun b hb' _ _ => hb.block b hb') fun k hk => .inl hk, fun q hq => (h6 q hq).keep (fun b hb' _ _ => hb.block b hb') fun k hk => .inl hk⟩
theorem Two.more (h : Two W w tb tk m n rb rk l rows ks) (hn : n ≤ n') : Two W w tb tk m n' rb rk l rows ks := by
  obtain ⟨F, Fr, h1, h2⟩ := h.of
  exact ⟨F, Fr, h1.more hn, h2⟩
theorem Two.less (h : Two W w tb tk m n rb rk l rows ks) (hr : ∀ q ∈ rows', q ∈ rows) (hk : ∀ q ∈ ks', q ∈ ks) : Two W w tb tk m n rb rk l rows' ks' := by
  obtain ⟨F, Fr, h1, h2, h3, h4, h5, h6⟩ := h.of
  exact ⟨F, Fr, h1, h2, h3, h4, fun q hq => h5 q (hr q hq), fun q hq => h6 q (hk q hq)⟩
theorem Two.base (h : Two W w tb tk m n rb rk l rows ks) : Below W.heap.size W w := by
  obtain ⟨F, Fr, _, _, _, h4, _⟩ := h.of
  exact h4
theorem Two.kept (h : Two W w tb tk m n rb rk l rows ks) {q : Nat × Obj} (hq : q ∈ ks) : w.heap[q.1]? = some q.2 := by
  obtain ⟨F, Fr, _, _, _, _, _, h6⟩ := h.of
  exact (h6 q hq).1
theorem Two.told (h : Two W w tb tk m n rb rk l rows ks) {v : Value} {L : List Int} (hq : (v, L) ∈ rows) : ∃ a c, v = .slice a L.length c ∧ WRow w W.heap.size a L.length c L := by
  obtain ⟨F, Fr, _, _, _, _, h5, _⟩ := h.of
  obtain ⟨a, n, c, h1, h2, h3, _⟩ := h5 _ hq
  simp only at h1 h2 h3
  subst h2
  exact ⟨a, c, h1, h3⟩
theorem Two.alloc (h : Two W w tb tk m n rb rk l rows ks) (o : Obj) : Two W (w.alloc o) tb tk m n rb rk l rows ((w.heap.size, o) :: ks) := by
  have hb := below_alloc w o
  obtain ⟨F, Fr, h1, h2, h3, h4, h5, h6⟩ := (h.low hb).of
  obtain ⟨F0, Fr0, g1, g2, g3, g4, g5, g6⟩ := h.of
  refine ⟨F0, Fr0, g1.low hb, g2.low hb, g3, g4.trans (hb.mono g4.size), fun q hq => (g5 q hq).keep (fun b hb' _ _ => hb.block b hb') fun k hk => .inl hk, fun q hq => ?_⟩
  rcases List.mem_cons.1 hq with rfl | hq
  · exact ⟨heap_alloc_at w o, fun hf => by have := g1.lt _ hf; simp only at this; omega, fun hf => by have := (g2.lt _ hf).2; simp only at this; omega⟩
  · exact (g6 q hq).keep (fun b hb' _ _ => hb.block b hb') fun k hk => .inl hk
/-- a call on the program's -/
theorem Two.tStep (h : Two W w tb tk m n rb rk l rows ks) {f : FuncId} {args : Array Value} {Q : Ending → World → Prop}
    (hc : ∀ F, TM w tb tk m n F → Calls Try.prog f args w fun e w' => Q e w' ∧ TM w' tb tk m' n' F ∧ Chg F F w w') : Calls Try.prog f args w fun e w' => Q e w' ∧ Two W w' tb tk m' n' rb rk l rows ks := by
  obtain ⟨F, Fr, h1, h2, h3, h4, h5, h6⟩ := h.of
  refine (hc F h1).mono ?_
  rintro e w' ⟨hq, ht, hg⟩
  exact ⟨hq, F, Fr, ht, h2.chg hg fun k hk hf => (h3 k hf).2 hk, h3, h4.trans (hg.below h4.size fun k hk => (h3 k hk).1), fun q hq => (h5 q hq).keep (fun b hb hf _ => hg.block b hb hf) fun k hk => .inl hk, fun q hq => (h6 q hq).keep (fun b hb hf _ => hg.block b hb hf) fun k hk => .inl hk⟩
theorem Two.tTold (h : Two W w tb tk m n rb rk l rows ks) {f : FuncId} {args : Array Value} {R : List Int → Prop}
    (hc : ∀ F, TM w tb tk m n F → Calls Try.prog f args w fun e w' => ∃ (L : List Int) (a : Option Addr) (c : Nat), e = .returned (.slice a L.length c) ∧ WRow w' w.heap.size a L.length c L ∧ R L ∧ TM w' tb tk m' n' F ∧ Chg F F w w') : Calls Try.prog f args w fun e w' => ∃ (L : List Int) (v : Value), e = .returned v ∧ R L ∧ Two W w' tb tk m' n' rb rk l ((v, L) :: rows) ks := by
  obtain ⟨F, Fr, h1, h2, h3, h4, h5, h6⟩ := h.of
  refine (hc F h1).mono ?_
  rintro e w' ⟨L, a, c, rfl, hrow, hR, ht, hg⟩
  refine ⟨L, _, rfl, hR, F, Fr, ht, h2.chg hg fun k hk hf => (h3 k hf).2 hk, h3, h4.trans (hg.below h4.size fun k hk => (h3 k hk).1), fun q hq => ?_, fun q hq => (h6 q hq).keep (fun b hb hf _ => hg.block b hb hf) fun k hk => .inl hk⟩
  rcases List.mem_cons.1 hq with rfl | hq
  · refine ⟨a, L.length, c, rfl, rfl, ownsRow_base hrow h4.size, fun b hb => ⟨fun hf => ?_, fun hf => ?_⟩⟩
    · have h6 := (hrow.lt b hb).1; have h7 := h1.lt b hf; omega
    · have h6 := (hrow.lt b hb).1; have h7 := (h2.lt b hf).2; omega
  · exact (h5 q hq).keep (fun b hb hf _ => hg.block b hb hf) fun k hk => .inl hk
/-- a call on the reference's -/
theorem Two.rStep (h : Two W w tb tk m n rb rk l rows ks) {f : FuncId} {args : Array Value} {Q : Ending → World → Prop}
    (hc : ∀ Fr, RRep w W.heap.size rb rk l Fr → Calls Try.prog f args w fun e w' => Q e w' ∧ ∃ Fr', RRep w' W.heap.size rb rk l' Fr' ∧ Chg Fr Fr' w w') : Calls Try.prog f args w fun e w' => Q e w' ∧ Two W w' tb tk m n rb rk l' rows ks := by
  obtain ⟨F, Fr, h1, h2, h3, h4, h5, h6⟩ := h.of
  refine (hc Fr h2).mono ?_
  rintro e w' ⟨hq, Fr', hr, hg⟩
  refine ⟨hq, F, Fr', h1.same hg fun k hk => (h3 k hk).2, hr, fun k hk => ⟨(h3 k hk).1, fun hf => ?_⟩, h4.trans (hg.below h4.size fun k hk => (h2.lt k hk).1), fun q hq => (h5 q hq).keep (fun b hb _ hf => hg.block b hb hf) hg.fresh, fun q hq => (h6 q hq).keep (fun b hb _ hf => hg.block b hb hf) hg.fresh⟩
  rcases hg.fresh k hf with h6 | h6
  · exact (h3 k hk).2 h6
  · have := h1.lt k hk; omega
theorem Two.rTold (h : Two W w tb tk m n rb rk l rows ks) {f : FuncId} {args : Array Value} {L : List Int}
    (hc : ∀ Fr, RRep w W.heap.size rb rk l Fr → Calls Try.prog f args w fun e w' => ∃ (a : Option Addr) (c : Nat), e = .returned (.slice a L.length c) ∧ WRow w' w.heap.size a L.length c L ∧ RRep w' W.heap.size rb rk l' Fr ∧ Chg Fr Fr w w') : Calls Try.prog f args w fun e w' => ∃ v : Value, e = .returned v ∧ Two W w' tb tk m n rb rk l' ((v, L) :: rows) ks := by
  obtain ⟨F, Fr, h1, h2, h3, h4, h5, h6⟩ := h.of
  refine (hc Fr h2).mono ?_
  rintro e w' ⟨a, c, rfl, hrow, hr, hg⟩
  refine ⟨_, rfl, F, Fr, h1.same hg fun k hk => (h3 k hk).2, hr, h3, h4.trans (hg.below h4.size fun k hk => (h2.lt k hk).1), fun q hq => ?_, fun q hq => (h6 q hq).keep (fun b hb _ hf => hg.block b hb hf) fun k hk => .inl hk⟩
  rcases List.mem_cons.1 hq with rfl | hq
  · refine ⟨a, L.length, c, rfl, rfl, ownsRow_base hrow h4.size, fun b hb => ⟨fun hf => ?_, fun hf => ?_⟩⟩
    · have h6 := (hrow.lt b hb).1; have h7 := h1.lt b hf; omega
    · have h6 := (hrow.lt b hb).1; have h7 := (h2.lt b hf).2; omega
  · exact (h5 q hq).keep (fun b hb _ hf => hg.block b hb hf) fun k hk => .inl hk
end

/-! a call -/
def startM (tk : Nat) (m : Runs) (k : Int) (now : Nat) : Runs := if (m k).isNone then setR m k (some (0, (now + tk) % Md)) else m
def stepT (tk : Nat) (m : Runs) (kd : Nat) (k : Int) (now : Nat) : Runs :=
  if kd % 6 = 2 then setR m k (some (0, (now + tk) % Md)) else if kd % 6 = 3 then setR m k none else if kd % 6 = 4 ∨ kd % 6 = 5 then dueM tk now m else startM tk m k now
def startL (tk : Nat) (l : Tl) (k : Int) (now : Nat) : Tl := if (mget k l).isNone then insR k ((now + tk) % Md) (mdel k l) else l
def stepR (tk : Nat) (l : Tl) (kd : Nat) (k : Int) (now : Nat) : Tl :=
  if kd % 6 = 2 then insR k ((now + tk) % Md) (mdel k l) else if kd % 6 = 3 then mdel k l else if kd % 6 = 4 ∨ kd % 6 = 5 then l.map (bumpIf tk now) else startL tk l k now
theorem TAgree.step {m : Runs} {l : Tl} (h : TAgree m l) (tk kd : Nat) (k : Int) (now : Nat) : TAgree (stepT tk m kd k now) (stepR tk l kd k now) := by
  unfold stepT stepR
  split
  · exact h.again k _
  · split
    · exact h.stop k
    · split
      · exact h.due tk now
      · unfold startM startL
        rw [h.eq k]
        split
        · exact h.again k _
        · exact h
/-- how often they were due -/
def TBound (m : Runs) (l : Tl) (T : Nat) : Prop := (∀ k r, m k = some r → r.1 ≤ T) ∧ (∀ p ∈ l, p.2.1 ≤ T) ∧ l.length ≤ T
theorem ins_mem {k : Int} {a : Nat} {l : Tl} {p : Int × Run} (h : p ∈ insR k a l) : p = (k, (0, a)) ∨ p ∈ l := by
  unfold insR at h
  rcases List.mem_append.1 h with h | h
  · exact .inr ((List.takeWhile_sublist _).mem h)
  · rcases List.mem_cons.1 h with h | h
    · exact .inl h
    · exact .inr ((List.dropWhile_sublist _).mem h)
theorem tw_len (q : Int × Run → Bool) (x : Int × Run) (l : Tl) : (l.takeWhile q ++ x :: l.dropWhile q).length = l.length + 1 := by
  have h := congrArg List.length (List.takeWhile_append_dropWhile (p := q) (l := l))
  rw [List.length_append] at h
  rw [List.length_append, List.length_cons]
  omega
theorem ins_len (k : Int) (a : Nat) (l : Tl) : (insR k a l).length = l.length + 1 := tw_len _ _ _
theorem mdel_len_le (k : Int) (l : Tl) : (mdel k l).length ≤ l.length := List.length_filter_le _ _
theorem TBound.step {m : Runs} {l : Tl} {T : Nat} (h : TBound m l T) (tk tk' kd : Nat) (k : Int) (now : Nat) : TBound (stepT tk m kd k now) (stepR tk' l kd k now) (T + 1) := by
  obtain ⟨h1, h2, h3⟩ := h
  have hset : ∀ (o : Option Run), (∀ r, o = some r → r.1 ≤ T + 1) → ∀ k' r, setR m k o k' = some r → r.1 ≤ T + 1 := fun o ho k' r hr => by
    unfold setR at hr
    by_cases hk : k' = k
    · rw [if_pos hk] at hr; exact ho r hr
    · rw [if_neg hk] at hr; have := h1 k' r hr; omega
  have hin : ∀ a, ∀ p ∈ insR k a (mdel k l), p.2.1 ≤ T + 1 := fun a p hp => by
    rcases ins_mem hp with rfl | hp
    · exact Nat.zero_le _
    · have := h2 p ((mdel_mem k p l).1 hp).1; omega
  have hil : ∀ a, (insR k a (mdel k l)).length ≤ T + 1 := fun a => by rw [ins_len]; have := mdel_len_le k l; omega
  have hm1 : ∀ k r, m k = some r → r.1 ≤ T + 1 := fun k r hr => by have := h1 k r hr; omega
  have hl1 : ∀ p ∈ l, p.2.1 ≤ T + 1 := fun p hp => by have := h2 p hp; omega
  unfold stepT stepR
  split
  · exact ⟨hset _ (fun r hr => by cases hr; exact Nat.zero_le _), hin _, hil _⟩
  · split
    · exact ⟨hset _ (fun r hr => by cases hr), fun p hp => hl1 p ((mdel_mem k p l).1 hp).1, by have := mdel_len_le k l; omega⟩
    · split
      · refine ⟨fun k' r hr => ?_, fun p hp => ?_, by rw [List.length_map]; omega⟩
        · unfold dueM at hr
          simp only [Option.map_eq_some_iff] at hr
          obtain ⟨r', h4, h5⟩ := hr
          have := h1 k' r' h4
          split at h5
          · subst h5; show r'.1 + 1 ≤ T + 1; omega
          · subst h5; omega
        · obtain ⟨q, hq, rfl⟩ := List.mem_map.1 hp
          have := h2 q hq
          unfold bumpIf
          split
          · show q.2.1 + 1 ≤ T + 1; omega
          · omega
      · unfold startM startL
        refine ⟨?_, ?_, ?_⟩
        · split
          · exact hset _ (fun r hr => by cases hr; exact Nat.zero_le _)
          · exact hm1
        · split
          · exact hin _
          · exact hl1
        · split
          · exact hil _
          · omega
end Go.Proofs.Ytjehoingphndnaa

/-
  Notes behind one another; a row of notes that grows.
-/
import Derived.Test.YtglgjakjhkdoaaaDoorTaI
import Derived.Deep.DeepCutAuto
namespace Go.Proofs.YtglgjakjhkdoaaaDoor
open Go.RowKit Go.Maps
set_option linter.unusedVariables false
set_option linter.unusedSimpArgs false

theorem nul_wrap (x r : Bs) : nul (wrapW x ++ r) = bodyW x := by
  unfold wrapW
  rw [List.append_assoc]
  exact nul_app (bodyW_noZ x) r
theorem opened_wrap (x r : Bs) : opened (wrapW x ++ r) = some x := by
  unfold opened
  rw [nul_wrap, if_neg ?_, open_body]
  rintro (h | h)
  · exact body_ne x h
  · have := congrArg List.length h
    unfold wrapW at this
    simp at this
theorem opened_nil : opened [] = none := by simp [opened, nul]
theorem opened_zero (r : Bs) : opened (0 :: r) = none := by simp [opened, nul]
theorem tpRead_wrap (x r : Bs) (hx : x.length ≤ 600) : tpRead (wrapW x ++ r) = (x :: (tpRead r).1, (wrapW x).length + (tpRead r).2) := by
  rw [tpRead_some (opened_wrap x r) hx, nul_wrap]
  have e : (wrapW x ++ r).drop ((bodyW x).length + 1) = r := by
    have : (wrapW x).length = (bodyW x).length + 1 := by unfold wrapW; simp
    rw [← this, List.drop_left]
  have e2 : (wrapW x).length = (bodyW x).length + 1 := by unfold wrapW; simp
  rw [e, e2]
theorem tpRead_wraps : ∀ (l : List Bs) (r : Bs), (∀ x ∈ l, x.length ≤ 600) → tpRead (l.flatMap wrapW ++ r) = (l ++ (tpRead r).1, (l.flatMap wrapW).length + (tpRead r).2)
  | [], r, _ => by simp
  | x :: l, r, h => by
    rw [List.flatMap_cons, List.append_assoc, tpRead_wrap x _ (h x (by simp)), tpRead_wraps l r fun y hy => h y (List.mem_cons_of_mem _ hy)]
    simp [Nat.add_assoc]
/-- one call that has notes alone -/
def optL (l : List Bs) (la : Option Addr) (ln lc : Nat) : Opt := ⟨0, [], none, 0, 0, l, la, ln, lc, 0, none, 0, 0, [], 0⟩
theorem optL_ok {W : World} {l : List Bs} {la : Option Addr} {ln lc : Nat} (h : RdNs W (.slice la ln lc) l) (hn : ln = l.length) (hm : ln ≤ maxLen) : (optL l la ln lc).Ok W :=
  ⟨by show 0 < 256; decide, RdB.nil W, rfl, Nat.le_refl _, by show 0 ≤ 9223372036854775807; decide, h, hn, hm, by show 0 < 256; decide, ⟨rfl, .inl ⟨rfl, rfl⟩⟩, rfl, by show (-9223372036854775808 : Int) ≤ 0; decide, by show (0 : Int) ≤ 9223372036854775807; decide⟩
theorem rdOpts_made (w : World) (L : List Opt) (n : Nat) (cs : Array Value) (hn : n = L.length) (h0 : 0 < n) (hcs : cs = (L.flatMap Opt.cells).toArray) (hok : ∀ o ∈ L, o.Ok w) (hm : n ≤ maxLen) : RdOpts (w.alloc (.cells cs 29)) (.slice (some ⟨w.heap.size, 0, none⟩) n n) L := by
  have hl : (L.flatMap Opt.cells).length = n * 6 := by
    rw [hn]
    clear hn h0 hcs hok hm
    induction L with
    | nil => simp
    | cons o L ih => rw [List.flatMap_cons, List.length_append, ih, List.length_cons, Nat.add_mul]; show 6 + _ = _; omega
  subst hcs
  refine ⟨?_, fun o ho => (hok o ho).low (below_alloc _ _), by rw [← hn]; exact hm⟩
  have h := rd_new w (L.flatMap Opt.cells).toArray 29 n 6 h0 (by simpa using hl)
  rw [← hn]
  simpa using h

/-- notes handed on, so far -/
def WantAt (W : World) (l : List Bs) (B : Nat) (v : Value) (i : Nat) (w : World) : Prop := ∃ xs : List Value, w.ownsRow B 23 1 v i xs ∧ xs.length = i ∧ ∀ (j : Nat) (u : Value) (x : Bs), xs[j]? = some u → l[j]? = some x → RdB W u x ∧ ∃ a c, u = .slice a x.length c ∧ x.length ≤ c ∧ c ≤ 9223372036854775807
theorem WantAt.low {W w w' : World} {l : List Bs} {B i : Nat} {v : Value} (h : WantAt W l B v i w) (hb : Below w.heap.size w w') : WantAt W l B v i w' := by
  obtain ⟨xs, h1, h2, h3⟩ := h
  exact ⟨xs, ownsRow_below h1 hb (Nat.le_refl _), h2, h3⟩
theorem WantAt.other {W w w' : World} {l : List Bs} {B i n e : Nat} {v v' : Value} {ys : List Value} (h : WantAt W l B v i w) (hr : w.ownsRow B e 1 v' n ys) (he : e ≠ 23) (hg : w.grownBy w' v'.ownBlock) : WantAt W l B v i w' := by
  obtain ⟨xs, h1, h2, h3⟩ := h
  exact ⟨xs, ownsRow_same h1 fun k hk => hg.block k (h1.lt k hk).2 fun e' => row_two hr h1 (Ne.symm he) e'.symm hk, h2, h3⟩
theorem WantAt.rd {W w : World} {l : List Bs} {B i : Nat} {v : Value} (h : WantAt W l B v i w) (hi : i ≤ l.length) (hb : Below W.heap.size W w) : RdNs w v (l.take i) := by
  obtain ⟨xs, h1, h2, h3⟩ := h
  have hl : (l.take i).length = i := by rw [List.length_take]; omega
  obtain ⟨a, c, rfl⟩ := (ownsRow_rd h1).head
  have hcap := ownsRow_cap h1
  refine ⟨xs, by rw [hl]; exact ownsRow_rd h1, by rw [hl]; exact h2, (fun j u x hu hx => ?_), a, c, by rw [hl], by rw [hl]; exact hcap.1, hcap.2⟩
  have hj : j < i := by have := (List.getElem?_eq_some_iff.1 hu).1; omega
  rw [List.getElem?_take_of_lt hj] at hx
  obtain ⟨g1, g2⟩ := h3 j u x hu hx
  exact ⟨g1.low hb, g2⟩

/-- bytes laid behind a row, and what grew -/
theorem wpList_copy_gb {P : Program} {w : World} {a : Act} {o : Oper} {Q : Exit → Act → World → Prop} {ops : Array Oper} {rest : List Oper} (hgd : o.guard = none) (s x : Operand) (t : TypeId)
    (ho : o.op = .call { callee := .builtin .append, args := #[s, x], argTypes := #[t, t] })
    (W : World) (base : Nat) (e : TypeId) (ht : P.underlying t = some (.slice e)) (hinfo : (P.info? e).map (fun i => (i.zero, i.size, i.bytes)) = some (some (.int .u8 0), 1, 1))
    (v : Value) (l0 : List UInt8) (hs : a.eval s = v) (hown : RowIn W base e v l0 w)
    (xv : Value) (l : List UInt8) (hx : a.eval x = xv) (hrd : RdB w xv l) (hl : l0.length + l.length ≤ 70368744177664)
    (h : ∀ ao co w', RowIn W base e (.slice ao (l0 ++ l).length co) (l0 ++ l) w' → w.grownBy w' v.ownBlock → wpList P ops Q rest (a.put o.dst (.slice ao (l0 ++ l).length co)) w') : wpList P ops Q (o :: rest) a w := by
  refine wpList_copy_rd hgd s x t ho base e ht hinfo v l0 hs hown.1 xv l hx hrd hl hown.2.2 fun ao co w' h1 h2 h3 => ?_
  have e0 : l0.length + l.length = (l0 ++ l).length := by simp
  rw [e0] at h1 ⊢
  have hb : Below base w w' := (Below.refl base w).grown h2 hown.2.2 fun k hk => (hown.1.lt k hk).1
  exact h ao co w' ⟨h1, hown.2.1.trans hb, Nat.le_trans hown.2.2 hb.size⟩ h2
theorem wraps_len : ∀ (l : List Bs), (∀ x ∈ l, x.length ≤ 600) → (l.flatMap wrapW).length ≤ l.length * 700
  | [], _ => by simp
  | x :: l, h => by
    rw [List.flatMap_cons, List.length_append, List.length_cons]
    have h1 := wraps_len l fun y hy => h y (List.mem_cons_of_mem _ hy)
    have h2 := wrap_length x
    have h3 := h x (by simp)
    omega

theorem row_keep {w w' : World} {C e n : Nat} {v : Value} {xs : List Value} {b : Option Nat} (h : w.ownsRow C e 1 v n xs) (hg : w.grownBy w' b) (hb : ∀ k, b = some k → k < C) : w'.ownsRow C e 1 v n xs :=
  ownsRow_same h fun k hk => hg.block k (h.lt k hk).2 fun e' => by have := hb k e'.symm; have := (h.lt k hk).1; omega
theorem RowIn.other {W w w' : World} {B e n : Nat} {v v' : Value} {l : Bs} {ys : List Value} (h : RowIs W B v l w) (hr : w.ownsRow B e 1 v' n ys) (he : e ≠ 5) (hg : w.grownBy w' v'.ownBlock) : RowIs W B v l w' := by
  have hb : Below B w w' := (Below.refl B w).grown hg h.2.2 fun k hk => (hr.lt k hk).1
  exact ⟨ownsRow_same h.1 fun k hk => hg.block k (h.1.lt k hk).2 fun e' => row_two hr h.1 (Ne.symm he) e'.symm hk, h.2.1.trans hb, Nat.le_trans h.2.2 hb.size⟩
theorem tmod12 (y : Nat) : ((y : Int)).tmod 12 = ((y % 12 : Nat) : Int) := by rw [Int.tmod_eq_emod_of_nonneg (by omega)]; omega
end Go.Proofs.YtglgjakjhkdoaaaDoor

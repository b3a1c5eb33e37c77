/-
  A region that draws its order, walked once, where what holds depends on which of its operations are done: a call that changes what another operation looks at.
-/
import Derived.Test.YtglgjakjhkdoaaaGreatDoorReg
namespace Go.Proofs.YtglgjakjhkdoaaaGreatDoor
open Go.RowKit
set_option linter.unusedVariables false
set_option linter.unusedSimpArgs false

section
variable (P : Program) (ops : Array Oper) (S : (Nat → Bool) → World → Prop)

def mark (D : Nat → Bool) (i : Nat) : Nat → Bool := fun j => if i = j then true else D j

/-- one operation that yields e, where D are done -/
def DetIn (D : Nat → Bool) (i : Nat) (a : Act) (o : Oper) (e : Value) (w : World) : Prop :=
  (Region.wanted o (yielded ops a.tmps) = true ∧ (execOp a.eval o).run P w = .ok (.value e) w ∧ S (mark D i) w) ∨ (Region.wanted o (yielded ops a.tmps) = false ∧ e = undef ∧ S (mark D i) w) ∨ RelAt P ops (fun _ w' => S (mark D i) w') a o (fun u _ => u = e) w

/-- a set of done operations, ahead of number i -/
structure Open (D : Nat → Bool) (i : Nat) (o : Oper) : Prop where
  self : D i = false
  pre : ∀ j, isAfter o j = true → D j = true
  post : ∀ j oj, ops[j]? = some oj → isAfter oj i = true → D j = false

def Hav2 (Fin : Act → World → Prop) : Act → Nat → List Oper → Prop
  | fr, k, [] => ∀ w, S (fun j => decide (j < k)) w → Fin fr w
  | fr, k, o :: rest => ∃ e, (∀ D w, Open ops D k o → S D w → DetIn P ops S D k fr o e w) ∧ Hav2 Fin (fr.put o.dst e) (k + 1) rest

def StepIn (a0 : Act) (sp : Nat → Spec) (i : Nat) : Prop :=
  ∀ o, ops[i]? = some o → ∀ D w, Open ops D i o → S D w → ∃ e, sp i = .det e ∧ DetIn P ops S D i (frameOf ops a0 sp i fun _ => undef) o e w

theorem Hav2.extract {Fin : Act → World → Prop} {a0 : Act} (n0 : Nat) : ∀ (rest : List Oper) (k : Nat) (fr : Act) (sp : Nat → Spec),
    (∀ j, rest[j]? = if k + j < n0 then ops[k + j]? else none) → k + rest.length = n0 → fr = frameOf ops a0 sp k (fun _ => undef) → Hav2 P ops S Fin fr k rest →
    ∃ sp' : Nat → Spec, (∀ j, j < k → sp' j = sp j) ∧ (∀ i, k ≤ i → i < n0 → StepIn P ops S a0 sp' i) ∧ (∀ i, k ≤ i → i < n0 → ∃ e, sp' i = .det e) ∧
      (∀ w, S (fun j => decide (j < n0)) w → Fin (frameOf ops a0 sp' n0 fun _ => undef) w)
  | [], k, fr, sp, hr, hk, hf, h => by
    simp only [List.length_nil, Nat.add_zero] at hk
    subst hk
    exact ⟨sp, fun _ _ => rfl, fun i h1 h2 => by omega, fun i h1 h2 => by omega, fun w hS => hf ▸ h w hS⟩
  | o :: rest, k, fr, sp, hr, hk, hf, h => by
    simp only [List.length_cons] at hk
    have ho : ops[k]? = some o := by
      have := hr 0
      simp only [Nat.add_zero, List.getElem?_cons_zero] at this
      rw [if_pos (by omega)] at this
      exact this.symm
    have hr' : ∀ j, rest[j]? = if k + 1 + j < n0 then ops[k + 1 + j]? else none := fun j => by
      have := hr (j + 1)
      simp only [List.getElem?_cons_succ] at this
      rw [this, show k + (j + 1) = k + 1 + j from by omega]
    obtain ⟨e, h1, h2⟩ := h
    obtain ⟨sp', g1, g2, g4, g3⟩ := Hav2.extract n0 rest (k + 1) _ (fun j => if j = k then .det e else sp j) hr' (by omega)
      (by
        rw [frameOf, hf, ho]
        simp only [if_true, Spec.val, Option.bind_some]
        rw [frameOf_congr ops k (fun _ => undef) (sp' := fun j => if j = k then .det e else sp j) fun j hj => by rw [if_neg (by omega)]]) h2
    have hspk : sp' k = .det e := by rw [g1 k (by omega), if_pos rfl]
    refine ⟨sp', fun j hj => by rw [g1 j (by omega), if_neg (by omega)], fun i hi1 hi2 => ?_, fun i hi1 hi2 => ?_, g3⟩
    · by_cases hik : i = k
      · subst hik
        intro o' ho' D w hD hS
        obtain rfl : o = o' := by rw [ho] at ho'; exact Option.some.inj ho'
        refine ⟨e, hspk, ?_⟩
        have := h1 D w hD hS
        rw [hf, frameOf_congr ops i (fun _ => undef) (sp' := sp') fun j hj => by rw [g1 j (by omega), if_neg (by omega)]] at this
        exact this
      · exact g2 i (by omega) hi2
    · by_cases hik : i = k
      · subst hik; exact ⟨e, hspk⟩
      · exact g4 i (by omega) hi2

variable {P ops S}

/-- the operations ahead of the tail, in whatever order -/
structure PreInv2 (S : (Nat → Bool) → World → Prop) (a0 : Act) (sp : Nat → Spec) (n0 : Nat) (listed : Array Bool) (a : Act) (w : World) : Prop where
  size : listed.size = ops.size
  down : ∀ m o, ops[m]? = some o → listed.getD m true = true → ∀ j, isAfter o j = true → listed.getD j false = true
  tails : ∀ k, n0 ≤ k → k < ops.size → listed.getD k true = false
  agree : Agree (ops := ops) a0 sp n0 (fun j => listed.getD j false = true) (fun _ => undef) a
  S : S (fun j => listed.getD j false) w

theorem pre_any2 {n0 : Nat} {Q : Exit → Act → World → Prop} {a0 : Act} {sp : Nat → Spec} (hc : RegChk ops n0) (hd : ∀ j d, j < n0 → (ops[j]?).bind (·.dst) = some d → d < a0.tmps.size)
    (hst : ∀ i, i < n0 → StepIn P ops S a0 sp i) (hsp : ∀ i, i < n0 → ∃ e, sp i = .det e)
    (hfin : ∀ w, S (fun j => decide (j < n0)) w → wpOps P ops Q (List.range' n0 (ops.size - n0)) (frameOf ops a0 sp n0 fun _ => undef) w) :
    ∀ (c fuel : Nat) (listed : Array Bool) (a : Act) (w : World), (∃ l : List Nat, l.Nodup ∧ (∀ j, j ∈ l ↔ j < n0 ∧ listed.getD j true = false) ∧ l.length = c) → fuel = c + (ops.size - n0) →
      PreInv2 (ops := ops) S a0 sp n0 listed a w → wpAny P .any ops Q fuel listed a w := by
  intro c
  induction c with
  | zero =>
    rintro fuel listed a w ⟨l, _, hl, hlen⟩ hfu hI
    have hnil := List.eq_nil_of_length_eq_zero hlen
    subst hnil
    have hall : ∀ j, j < n0 → listed.getD j false = true := fun j hj => by
      have := hl j
      simp only [List.not_mem_nil, false_iff, not_and] at this
      have h1 := this hj
      rw [getD_tf (by have := hI.size; have := hc.le; omega)] at h1
      simpa using h1
    have hle := hc.le
    have hfr := Agree.frame (sp := sp) hc hd (fun _ => undef) n0 (Nat.le_refl _)
    have ha : a = frameOf ops a0 sp n0 (fun _ => undef) := by
      refine Agree.eq (D := fun j => j < n0) ⟨hI.agree.defers, hI.agree.size, fun j d hj _ h => hI.agree.done j d hj (hall j hj) h, fun t ht => hI.agree.rest t fun j hj _ => ht j hj hj⟩ hfr
    subst ha
    refine tail_any hc fuel n0 listed _ w (Nat.le_refl _) (by omega) hI.size (fun j hj => ?_) (by
      rw [show fuel = ops.size - n0 from by omega]
      refine hfin w ?_
      have e : (fun j => listed.getD j false) = fun j => decide (j < n0) := by
        funext j
        by_cases h : j < n0
        · rw [decide_eq_true h]; exact hall j h
        · rw [decide_eq_false h]
          by_cases h2 : j < ops.size
          · rw [← getD_tf (by have := hI.size; omega)]; exact hI.tails j (by omega) h2
          · have := hI.size
            simp [Array.getD, show ¬ j < listed.size by omega]
      have := hI.S
      rw [e] at this
      exact this)
    by_cases h : j < n0
    · rw [decide_eq_true h, getD_tf (by have := hI.size; omega)]; exact hall j h
    · rw [decide_eq_false h]; exact hI.tails j (by omega) hj
  | succ c ih =>
    rintro fuel listed a w ⟨l, hln, hl, hlen⟩ hfu hI
    obtain ⟨f, rfl⟩ : ∃ f, fuel = f + 1 := ⟨fuel - 1, by omega⟩
    have hle := hc.le
    have hsz := hI.size
    -- one of those ahead of the tail may come up
    have hex : ∃ i, i ∈ Region.ready .any ops listed := by
      have hne : ∃ j, j < n0 ∧ listed.getD j true = false := by
        match l, hlen with
        | j :: l, _ => exact ⟨j, (hl j).1 (by simp)⟩
      have hmin : ∀ j, j < n0 → listed.getD j true = false → ∃ i, i < n0 ∧ listed.getD i true = false ∧ ∀ k, k < i → listed.getD k true = true := by
        intro j
        induction j using Nat.strongRecOn with
        | ind j ihj =>
          intro hj hf
          by_cases h : ∃ k, k < j ∧ listed.getD k true = false
          · obtain ⟨k, hk, hkf⟩ := h
            exact ihj k hk (by omega) hkf
          · exact ⟨j, hj, hf, fun k hk => by
              cases e : listed.getD k true with
              | true => rfl
              | false => exact absurd ⟨k, hk, e⟩ h⟩
      obtain ⟨j, hj, hjf⟩ := hne
      obtain ⟨i, hi, hif, hall⟩ := hmin j hj hjf
      refine ⟨i, mem_ready.2 ⟨hif, ops[i], by simp [show i < ops.size by omega], fun e he hb => ?_⟩⟩
      have hlt := hc.ahead i ops[i] e.on (by simp [show i < ops.size by omega]) (by
        unfold isAfter
        rw [Array.any_eq_true']
        exact ⟨e, he, by simp [hb]⟩)
      rw [← getD_tf (by omega)]
      exact hall e.on hlt
    refine ⟨fun h0 => (by obtain ⟨i, hi⟩ := hex; rw [h0] at hi; cases hi), fun i hi => ?_⟩
    obtain ⟨hif, o, ho, hpre0⟩ := mem_ready.1 hi
    have hilt := (Array.getElem?_eq_some_iff.1 ho).1
    have hpre : ∀ j, isAfter o j = true → listed.getD j false = true := fun j hj => by
      unfold isAfter at hj
      rw [Array.any_eq_true'] at hj
      obtain ⟨e, he, hb⟩ := hj
      simp only [Bool.and_eq_true, beq_iff_eq] at hb
      rw [← hb.2]
      exact hpre0 e he hb.1
    -- it is not of the tail
    have hin0 : i < n0 := by
      refine Nat.lt_of_not_le fun hge => ?_
      obtain ⟨j, hj, hjf⟩ : ∃ j, j < n0 ∧ listed.getD j true = false := by
        match l, hlen with
        | j :: l, _ => exact ⟨j, (hl j).1 (by simp)⟩
      rw [getD_tf (by omega)] at hjf
      have all : ∀ q, Reach ops i q → listed.getD q false = true := fun q hq => by
        generalize hii : i = ii at hq
        induction hq with
        | base ho' h =>
          subst hii
          rw [ho] at ho'
          obtain rfl := Option.some.inj ho'
          exact hpre _ h
        | step hr hoq h ih =>
          have hml := (Array.getElem?_eq_some_iff.1 hoq).1
          exact hI.down _ _ hoq (by rw [getD_tf (by omega)]; exact ih) _ h
      rw [all j (hc.tail i o hge ho j (by omega))] at hjf
      cases hjf
    have hpost : ∀ j oj, ops[j]? = some oj → isAfter oj i = true → ¬ listed.getD j false = true := fun j oj hoj hja hjl => by
      have hjlt := (Array.getElem?_eq_some_iff.1 hoj).1
      have := hI.down j oj hoj (by rw [getD_tf (by omega)]; exact hjl) i hja
      rw [getD_tf (by omega), this] at hif
      cases hif
    have hsees := Agree.sees hc hd hI.agree hin0 ho hpre hpost
    have hev := eval_of_sees hsees
    have hwt := wanted_of_sees hsees
    have hsel : ∀ cs b, o.op ≠ .select cs b := fun cs b => Region.noSelect_spec hc.nosel i o cs b ho
    have hfr := Agree.frame (sp := sp) hc hd (fun _ => undef) i (by omega)
    -- what holds behind it
    have next : ∀ u w', (∀ e, sp i = .det e → u = e) → S (mark (fun j => listed.getD j false) i) w' → wpAny P .any ops Q f (listed.setIfInBounds i true) (a.put o.dst u) w' := by
      intro u w' hdet hww
      refine ih f (listed.setIfInBounds i true) _ w' ⟨l.erase i, hln.erase i, fun j => ?_, ?_⟩ (by omega) ⟨by simpa using hsz, fun m om hom hml j hj => ?_, fun k hk1 hk2 => ?_, ⟨?_, ?_, ?_, ?_⟩, ?_⟩
      · rw [hln.mem_erase_iff, hl, getD_set_eq _ (by omega)]
        constructor
        · rintro ⟨h1, h2, h3⟩; exact ⟨h2, by rw [if_neg (Ne.symm h1)]; exact h3⟩
        · rintro ⟨h1, h2⟩
          by_cases e : i = j
          · rw [if_pos e] at h2; cases h2
          · rw [if_neg e] at h2; exact ⟨Ne.symm e, h1, h2⟩
      · rw [List.length_erase_of_mem ((hl i).2 ⟨hin0, hif⟩), hlen]; omega
      · rw [getD_set_eq _ (by omega)] at hml ⊢
        by_cases e : i = j
        · rw [if_pos e]
        · rw [if_neg e]
          by_cases e2 : i = m
          · subst e2
            rw [ho] at hom
            obtain rfl := Option.some.inj hom
            exact hpre j hj
          · rw [if_neg e2] at hml
            exact hI.down m om hom hml j hj
      · rw [getD_set_eq _ (by omega), if_neg (by omega)]
        exact hI.tails k hk1 hk2
      · rw [put_defers_eq]; exact hI.agree.defers
      · rw [put_size]; exact hI.agree.size
      · intro j d hj hD hdj
        simp only [getD_set_eq _ (show i < listed.size by omega)] at hD
        by_cases e : j = i
        · subst e
          have hdo : o.dst = some d := by rw [ho] at hdj; exact hdj
          rw [hdo, put_getD_same _ _ _ (by rw [hI.agree.size]; exact hd j d hj hdj)]
          cases hs : sp j with
          | det e => exact hdet e hs
          | rel R => obtain ⟨e, he⟩ := hsp j hin0; rw [hs] at he; cases he
        · rw [if_neg (Ne.symm e)] at hD
          have hdo : o.dst ≠ some d := fun e2 => e (hc.uniq j i d hj hin0 hdj (by rw [ho]; exact e2))
          rw [put_getD_ne _ _ _ _ hdo]
          exact hI.agree.done j d hj hD hdj
      · intro t ht
        have hti : o.dst ≠ some t := fun e => ht i hin0 (by simp only [getD_set_eq _ (show i < listed.size by omega), if_true]) (by rw [ho]; exact e)
        rw [put_getD_ne _ _ _ _ hti]
        exact hI.agree.rest t fun j hj hD => ht j hj (by
          simp only [getD_set_eq _ (show i < listed.size by omega)]
          by_cases e : i = j
          · rw [if_pos e]
          · rw [if_neg e]; exact hD)
      · have e : (fun j => (listed.setIfInBounds i true).getD j false) = mark (fun j => listed.getD j false) i := by
          funext j
          rw [getD_set_eq _ (by omega)]
          rfl
        rw [e]
        exact hww
    obtain ⟨e, hs, hstep⟩ := hst i hin0 o ho (fun j => listed.getD j false) w ⟨by rw [← getD_tf (by omega)]; exact hif, hpre, fun j oj h1 h2 => by simpa using hpost j oj h1 h2⟩ hI.S
    unfold wpOp
    simp only [ho]
    have hee : ∀ e', sp i = .det e' → e = e' := fun e' h => by rw [hs] at h; injection h
    rcases hstep with ⟨h1, h2, h3⟩ | ⟨h1, h2, h3⟩ | h3
    · rw [← hwt] at h1
      rw [if_pos h1]
      refine .inl ?_
      unfold Oper.wp
      rw [execOp_congr o hsel hev, h2]
      exact next e w hee h3
    · rw [← hwt] at h1
      rw [if_neg (by rw [h1]; simp)]
      subst h2
      exact next undef w hee h3
    · obtain ⟨h1, h2⟩ := h3.carry (a := a) (Q := Q) hsel hev hwt (fun d hdo => by rw [hfr.size]; exact hd i d hin0 (by rw [ho]; exact hdo)) (fun u w' hR hE => next u w' (fun e' h => hR.trans (hee e' h)) hE)
      rw [if_pos h1]
      exact .inl h2

/-- THE LAW -/
theorem wp_region_two {id : Nat} {Q : Exit → Act → World → Prop} {a0 : Act} {w : World} (n0 N : Nat) (hm : P.follows .mixedOrders = true) (hc : regChkB ops n0 = true) (hN : a0.tmps.size = N) (hd : dstChkB ops n0 N = true)
    (S : (Nat → Bool) → World → Prop) (hS : S (fun _ => false) w.drew)
    (h : Hav2 P ops S (fun a w => wpList P ops Q (ops.toList.drop n0) a w) a0 0 (ops.toList.take n0)) : (Code.region id ops true).wp P Q a0 w := by
  have hc := regChk_of hc
  have hd := dstChk_of (hN ▸ hd)
  have hle := hc.le
  obtain ⟨sp, _, g2, g4, g3⟩ := Hav2.extract (a0 := a0) P ops S n0 _ 0 _ (fun _ => .det undef) (fun j => by
      rw [List.getElem?_take]
      simp) (by simp; omega) rfl h
  refine wp_region_any hm ?_
  have e0 : (fun j => (Array.replicate ops.size false).getD j false) = fun _ => false := by
    funext j
    by_cases h : j < ops.size <;> simp [h]
  refine pre_any2 hc hd (fun i hi => g2 i (Nat.zero_le _) hi) (fun i hi => g4 i (Nat.zero_le _) hi) (fun w hSw => ?_) n0 ops.size _ a0 w.drew ⟨List.range n0, List.nodup_range, fun j => ?_, by simp⟩ (by omega) ⟨by simp, fun m o ho hml => ?_, fun k _ hk => ?_, ⟨rfl, rfl, fun j d hj hD => ?_, fun t _ => rfl⟩, by rw [e0]; exact hS⟩
  · have := g3 w hSw
    rw [← wpOps_eq_wpList (ops.toList.drop n0) n0 (fun j => by simp)] at this
    simpa using this
  · simp only [List.mem_range]
    constructor
    · intro hj; exact ⟨hj, by simp [show j < ops.size by omega]⟩
    · exact fun h => h.1
  · have hlt := (Array.getElem?_eq_some_iff.1 ho).1
    simp [hlt] at hml
  · simp [hk]
  · have : j < ops.size := by omega
    simp [this] at hD

/-- a read, whatever is done -/
theorem Hav2.read {Fin : Act → World → Prop} {fr : Act} {k : Nat} {o : Oper} {rest : List Oper} (e : Value) (hw : Region.wanted o (yielded ops fr.tmps) = true) (hk : ∀ D w, S D w → S (mark D k) w)
    (h1 : ∀ D w, S D w → (execOp fr.eval o).run P w = .ok (.value e) w) (h2 : Hav2 P ops S Fin (fr.put o.dst e) (k + 1) rest) : Hav2 P ops S Fin fr k (o :: rest) :=
  ⟨e, fun D w _ hS => .inl ⟨hw, h1 D w hS, hk D w hS⟩, h2⟩
/-- a call that hands back e -/
theorem Hav2.call {Fin : Act → World → Prop} {fr : Act} {k : Nat} {o : Oper} {rest : List Oper} (e : Value) (hw : Region.wanted o (yielded ops fr.tmps) = true)
    (h1 : ∀ D w, Open ops D k o → S D w → o.wp P fr w (fun a' w' => ∃ u, a' = fr.put o.dst u ∧ u = e ∧ S (mark D k) w') (fun _ _ _ => False))
    (h2 : Hav2 P ops S Fin (fr.put o.dst e) (k + 1) rest) : Hav2 P ops S Fin fr k (o :: rest) :=
  ⟨e, fun D w hD hS => .inr (.inr ⟨hw, h1 D w hD hS⟩), h2⟩
end
end Go.Proofs.YtglgjakjhkdoaaaGreatDoor

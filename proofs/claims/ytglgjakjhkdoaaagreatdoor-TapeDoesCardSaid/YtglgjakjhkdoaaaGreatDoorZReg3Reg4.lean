/-
A region that draws its order, walked once, where what holds depends on which of its operations are done, and on what these have made: calls that change what others look at, and hand back new memory.
In a region that draws its order: a call that hands back several things, and what takes them apart.
-/
import Derived.Test.YtglgjakjhkdoaaaGreatDoorReg2
namespace Go.Proofs.YtglgjakjhkdoaaaGreatDoor
open Go.RowKit
set_option linter.unusedVariables false
set_option linter.unusedSimpArgs false

section
variable (P : Program) (ops : Array Oper) (S : (Nat → Bool) → (Nat → Value) → World → Prop)

def setv (v : Nat → Value) (i : Nat) (u : Value) : Nat → Value := fun j => if i = j then u else v j

def DetIn3 (D : Nat → Bool) (v : Nat → Value) (i : Nat) (a : Act) (o : Oper) (e : Value) (w : World) : Prop :=
  (Region.wanted o (yielded ops a.tmps) = true ∧ (execOp a.eval o).run P w = .ok (.value e) w ∧ S (mark D i) v w) ∨ (Region.wanted o (yielded ops a.tmps) = false ∧ e = undef ∧ S (mark D i) v w) ∨ RelAt P ops (fun _ w' => S (mark D i) v w') a o (fun u _ => u = e) w
def RelIn3 (D : Nat → Bool) (v : Nat → Value) (i : Nat) (a : Act) (o : Oper) (w : World) : Prop :=
  RelAt P ops (fun _ _ => True) a o (fun u w' => S (mark D i) (setv v i u) w') w

def Hav3 (Fin : Act → World → Prop) : ((Nat → Value) → Act) → Nat → List Oper → Prop
  | fr, k, [] => ∀ v w, S (fun j => decide (j < k)) v w → Fin (fr v) w
  | fr, k, o :: rest =>
    (∃ e, (∀ D v w, Open ops D k o → S D v w → DetIn3 P ops S D v k (fr v) o e w) ∧ Hav3 Fin (fun v => (fr v).put o.dst e) (k + 1) rest) ∨
    ((∀ D v w, Open ops D k o → S D v w → RelIn3 P ops S D v k (fr v) o w) ∧ Hav3 Fin (fun v => (fr v).put o.dst (v k)) (k + 1) rest)

def isDet : Spec → Prop
  | .det _ => True
  | .rel _ => False
def StepIn3 (a0 : Act) (sp : Nat → Spec) (i : Nat) : Prop :=
  ∀ o, ops[i]? = some o → ∀ D v w, Open ops D i o → S D v w →
    (match sp i with
     | .det e => DetIn3 P ops S D v i (frameOf ops a0 sp i v) o e w
     | .rel _ => RelIn3 P ops S D v i (frameOf ops a0 sp i v) o w)

theorem Hav3.extract {Fin : Act → World → Prop} {a0 : Act} (n0 : Nat) : ∀ (rest : List Oper) (k : Nat) (fr : (Nat → Value) → Act) (sp : Nat → Spec),
    (∀ j, rest[j]? = if k + j < n0 then ops[k + j]? else none) → k + rest.length = n0 → (∀ v, fr v = frameOf ops a0 sp k v) → Hav3 P ops S Fin fr k rest →
    ∃ sp' : Nat → Spec, (∀ j, j < k → sp' j = sp j) ∧ (∀ i, k ≤ i → i < n0 → StepIn3 P ops S a0 sp' i) ∧
      (∀ v w, S (fun j => decide (j < n0)) v w → Fin (frameOf ops a0 sp' n0 v) w)
  | [], k, fr, sp, hr, hk, hf, h => by
    simp only [List.length_nil, Nat.add_zero] at hk
    subst hk
    exact ⟨sp, fun _ _ => rfl, fun i h1 h2 => by omega, fun v w hS => hf v ▸ h v w hS⟩
  | o :: rest, k, fr, sp, hr, hk, hf, h => by
    simp only [List.length_cons] at hk
    have ho : ops[k]? = some o := by
      have := hr 0
      simp only [Nat.add_zero, List.getElem?_cons_zero] at this
      rw [if_pos (by omega)] at this
      exact this.symm
    have hr' : ∀ j, rest[j]? = if k + 1 + j < n0 then ops[k + 1 + j]? else none := fun j => by
      have := hr (j + 1)
      simp only [List.getElem?_cons_succ] at this
      rw [this, show k + (j + 1) = k + 1 + j from by omega]
    rcases h with ⟨e, h1, h2⟩ | ⟨h1, h2⟩
    · obtain ⟨sp', g1, g2, g3⟩ := Hav3.extract n0 rest (k + 1) _ (fun j => if j = k then .det e else sp j) hr' (by omega)
        (fun v => by
          rw [frameOf, hf, ho]
          simp only [if_true, Spec.val, Option.bind_some]
          rw [frameOf_congr ops k v (sp' := fun j => if j = k then .det e else sp j) fun j hj => by rw [if_neg (by omega)]]) h2
      have hspk : sp' k = .det e := by rw [g1 k (by omega), if_pos rfl]
      refine ⟨sp', fun j hj => by rw [g1 j (by omega), if_neg (by omega)], fun i hi1 hi2 => ?_, g3⟩
      by_cases hik : i = k
      · subst hik
        intro o' ho' D v w hD hS
        obtain rfl : o = o' := by rw [ho] at ho'; exact Option.some.inj ho'
        rw [hspk]
        have := h1 D v w hD hS
        rw [hf, frameOf_congr ops i v (sp' := sp') fun j hj => by rw [g1 j (by omega), if_neg (by omega)]] at this
        exact this
      · exact g2 i (by omega) hi2
    · obtain ⟨sp', g1, g2, g3⟩ := Hav3.extract n0 rest (k + 1) _ (fun j => if j = k then .rel (fun _ _ => True) else sp j) hr' (by omega)
        (fun v => by
          rw [frameOf, hf, ho]
          simp only [if_true, Spec.val, Option.bind_some]
          rw [frameOf_congr ops k v (sp' := fun j => if j = k then .rel (fun _ _ => True) else sp j) fun j hj => by rw [if_neg (by omega)]]) h2
      have hspk : sp' k = .rel (fun _ _ => True) := by rw [g1 k (by omega), if_pos rfl]
      refine ⟨sp', fun j hj => by rw [g1 j (by omega), if_neg (by omega)], fun i hi1 hi2 => ?_, g3⟩
      by_cases hik : i = k
      · subst hik
        intro o' ho' D v w hD hS
        obtain rfl : o = o' := by rw [ho] at ho'; exact Option.some.inj ho'
        rw [hspk]
        have := h1 D v w hD hS
        rw [hf, frameOf_congr ops i v (sp' := sp') fun j hj => by rw [g1 j (by omega), if_neg (by omega)]] at this
        exact this
      · exact g2 i (by omega) hi2

variable {P ops S}

structure PreInv3 (S : (Nat → Bool) → (Nat → Value) → World → Prop) (a0 : Act) (sp : Nat → Spec) (n0 : Nat) (listed : Array Bool) (v : Nat → Value) (a : Act) (w : World) : Prop where
  size : listed.size = ops.size
  down : ∀ m o, ops[m]? = some o → listed.getD m true = true → ∀ j, isAfter o j = true → listed.getD j false = true
  tails : ∀ k, n0 ≤ k → k < ops.size → listed.getD k true = false
  agree : Agree (ops := ops) a0 sp n0 (fun j => listed.getD j false = true) v a
  S : S (fun j => listed.getD j false) v w

theorem pre_any3 {n0 : Nat} {Q : Exit → Act → World → Prop} {a0 : Act} {sp : Nat → Spec} (hc : RegChk ops n0) (hd : ∀ j d, j < n0 → (ops[j]?).bind (·.dst) = some d → d < a0.tmps.size)
    (hst : ∀ i, i < n0 → StepIn3 P ops S a0 sp i)
    (hfin : ∀ v w, S (fun j => decide (j < n0)) v w → wpOps P ops Q (List.range' n0 (ops.size - n0)) (frameOf ops a0 sp n0 v) w) :
    ∀ (c fuel : Nat) (listed : Array Bool) (v : Nat → Value) (a : Act) (w : World), (∃ l : List Nat, l.Nodup ∧ (∀ j, j ∈ l ↔ j < n0 ∧ listed.getD j true = false) ∧ l.length = c) → fuel = c + (ops.size - n0) →
      PreInv3 (ops := ops) S a0 sp n0 listed v a w → wpAny P .any ops Q fuel listed a w := by
  intro c
  induction c with
  | zero =>
    rintro fuel listed v a w ⟨l, _, hl, hlen⟩ hfu hI
    have hnil := List.eq_nil_of_length_eq_zero hlen
    subst hnil
    have hall : ∀ j, j < n0 → listed.getD j false = true := fun j hj => by
      have := hl j
      simp only [List.not_mem_nil, false_iff, not_and] at this
      have h1 := this hj
      rw [getD_tf (by have := hI.size; have := hc.le; omega)] at h1
      simpa using h1
    have hle := hc.le
    have hfr := Agree.frame (sp := sp) hc hd v n0 (Nat.le_refl _)
    have ha : a = frameOf ops a0 sp n0 v := by
      refine Agree.eq (D := fun j => j < n0) ⟨hI.agree.defers, hI.agree.size, fun j d hj _ h => hI.agree.done j d hj (hall j hj) h, fun t ht => hI.agree.rest t fun j hj _ => ht j hj hj⟩ hfr
    subst ha
    refine tail_any hc fuel n0 listed _ w (Nat.le_refl _) (by omega) hI.size (fun j hj => ?_) (by
      rw [show fuel = ops.size - n0 from by omega]
      refine hfin v w ?_
      have e : (fun j => listed.getD j false) = fun j => decide (j < n0) := by
        funext j
        by_cases h : j < n0
        · rw [decide_eq_true h]; exact hall j h
        · rw [decide_eq_false h]
          by_cases h2 : j < ops.size
          · rw [← getD_tf (by have := hI.size; omega)]; exact hI.tails j (by omega) h2
          · have := hI.size
            simp [Array.getD, show ¬ j < listed.size by omega]
      have := hI.S
      rw [e] at this
      exact this)
    by_cases h : j < n0
    · rw [decide_eq_true h, getD_tf (by have := hI.size; omega)]; exact hall j h
    · rw [decide_eq_false h]; exact hI.tails j (by omega) hj
  | succ c ih =>
    rintro fuel listed v a w ⟨l, hln, hl, hlen⟩ hfu hI
    obtain ⟨f, rfl⟩ : ∃ f, fuel = f + 1 := ⟨fuel - 1, by omega⟩
    have hle := hc.le
    have hsz := hI.size
    -- one of those ahead of the tail may come up
    have hex : ∃ i, i ∈ Region.ready .any ops listed := by
      have hne : ∃ j, j < n0 ∧ listed.getD j true = false := by
        match l, hlen with
        | j :: l, _ => exact ⟨j, (hl j).1 (by simp)⟩
      have hmin : ∀ j, j < n0 → listed.getD j true = false → ∃ i, i < n0 ∧ listed.getD i true = false ∧ ∀ k, k < i → listed.getD k true = true := by
        intro j
        induction j using Nat.strongRecOn with
        | ind j ihj =>
          intro hj hf
          by_cases h : ∃ k, k < j ∧ listed.getD k true = false
          · obtain ⟨k, hk, hkf⟩ := h
            exact ihj k hk (by omega) hkf
          · exact ⟨j, hj, hf, fun k hk => by
              cases e : listed.getD k true with
              | true => rfl
              | false => exact absurd ⟨k, hk, e⟩ h⟩
      obtain ⟨j, hj, hjf⟩ := hne
      obtain ⟨i, hi, hif, hall⟩ := hmin j hj hjf
      refine ⟨i, mem_ready.2 ⟨hif, ops[i], by simp [show i < ops.size by omega], fun e he hb => ?_⟩⟩
      have hlt := hc.ahead i ops[i] e.on (by simp [show i < ops.size by omega]) (by
        unfold isAfter
        rw [Array.any_eq_true']
        exact ⟨e, he, by simp [hb]⟩)
      rw [← getD_tf (by omega)]
      exact hall e.on hlt
    refine ⟨fun h0 => (by obtain ⟨i, hi⟩ := hex; rw [h0] at hi; cases hi), fun i hi => ?_⟩
    obtain ⟨hif, o, ho, hpre0⟩ := mem_ready.1 hi
    have hilt := (Array.getElem?_eq_some_iff.1 ho).1
    have hpre : ∀ j, isAfter o j = true → listed.getD j false = true := fun j hj => by
      unfold isAfter at hj
      rw [Array.any_eq_true'] at hj
      obtain ⟨e, he, hb⟩ := hj
      simp only [Bool.and_eq_true, beq_iff_eq] at hb
      rw [← hb.2]
      exact hpre0 e he hb.1
    -- it is not of the tail
    have hin0 : i < n0 := by
      refine Nat.lt_of_not_le fun hge => ?_
      obtain ⟨j, hj, hjf⟩ : ∃ j, j < n0 ∧ listed.getD j true = false := by
        match l, hlen with
        | j :: l, _ => exact ⟨j, (hl j).1 (by simp)⟩
      rw [getD_tf (by omega)] at hjf
      have all : ∀ q, Reach ops i q → listed.getD q false = true := fun q hq => by
        generalize hii : i = ii at hq
        induction hq with
        | base ho' h =>
          subst hii
          rw [ho] at ho'
          obtain rfl := Option.some.inj ho'
          exact hpre _ h
        | step hr hoq h ih =>
          have hml := (Array.getElem?_eq_some_iff.1 hoq).1
          exact hI.down _ _ hoq (by rw [getD_tf (by omega)]; exact ih) _ h
      rw [all j (hc.tail i o hge ho j (by omega))] at hjf
      cases hjf
    have hpost : ∀ j oj, ops[j]? = some oj → isAfter oj i = true → ¬ listed.getD j false = true := fun j oj hoj hja hjl => by
      have hjlt := (Array.getElem?_eq_some_iff.1 hoj).1
      have := hI.down j oj hoj (by rw [getD_tf (by omega)]; exact hjl) i hja
      rw [getD_tf (by omega), this] at hif
      cases hif
    have hsees := Agree.sees hc hd hI.agree hin0 ho hpre hpost
    have hev := eval_of_sees hsees
    have hwt := wanted_of_sees hsees
    have hsel : ∀ cs b, o.op ≠ .select cs b := fun cs b => Region.noSelect_spec hc.nosel i o cs b ho
    have hfr := Agree.frame (sp := sp) hc hd v i (by omega)
    -- what holds behind it
    have next : ∀ u v' w', (∀ j, i ≠ j → v' j = v j) → (sp i).val (v' i) = u → S (mark (fun j => listed.getD j false) i) v' w' → wpAny P .any ops Q f (listed.setIfInBounds i true) (a.put o.dst u) w' := by
      intro u v' w' hvv hval hww
      refine ih f (listed.setIfInBounds i true) v' _ w' ⟨l.erase i, hln.erase i, fun j => ?_, ?_⟩ (by omega) ⟨by simpa using hsz, fun m om hom hml j hj => ?_, fun k hk1 hk2 => ?_, ⟨?_, ?_, ?_, ?_⟩, ?_⟩
      · rw [hln.mem_erase_iff, hl, getD_set_eq _ (by omega)]
        constructor
        · rintro ⟨h1, h2, h3⟩; exact ⟨h2, by rw [if_neg (Ne.symm h1)]; exact h3⟩
        · rintro ⟨h1, h2⟩
          by_cases e : i = j
          · rw [if_pos e] at h2; cases h2
          · rw [if_neg e] at h2; exact ⟨Ne.symm e, h1, h2⟩
      · rw [List.length_erase_of_mem ((hl i).2 ⟨hin0, hif⟩), hlen]; omega
      · rw [getD_set_eq _ (by omega)] at hml ⊢
        by_cases e : i = j
        · rw [if_pos e]
        · rw [if_neg e]
          by_cases e2 : i = m
          · subst e2
            rw [ho] at hom
            obtain rfl := Option.some.inj hom
            exact hpre j hj
          · rw [if_neg e2] at hml
            exact hI.down m om hom hml j hj
      · rw [getD_set_eq _ (by omega), if_neg (by omega)]
        exact hI.tails k hk1 hk2
      · rw [put_defers_eq]; exact hI.agree.defers
      · rw [put_size]; exact hI.agree.size
      · intro j d hj hD hdj
        simp only [getD_set_eq _ (show i < listed.size by omega)] at hD
        by_cases e : j = i
        · subst e
          have hdo : o.dst = some d := by rw [ho] at hdj; exact hdj
          rw [hdo, put_getD_same _ _ _ (by rw [hI.agree.size]; exact hd j d hj hdj)]
          exact hval.symm
        · rw [if_neg (Ne.symm e)] at hD
          have hdo : o.dst ≠ some d := fun e2 => e (hc.uniq j i d hj hin0 hdj (by rw [ho]; exact e2))
          rw [put_getD_ne _ _ _ _ hdo]
          rw [hI.agree.done j d hj hD hdj, hvv j (Ne.symm e)]
      · intro t ht
        have hti : o.dst ≠ some t := fun e => ht i hin0 (by simp only [getD_set_eq _ (show i < listed.size by omega), if_true]) (by rw [ho]; exact e)
        rw [put_getD_ne _ _ _ _ hti]
        exact hI.agree.rest t fun j hj hD => ht j hj (by
          simp only [getD_set_eq _ (show i < listed.size by omega)]
          by_cases e : i = j
          · rw [if_pos e]
          · rw [if_neg e]; exact hD)
      · have e : (fun j => (listed.setIfInBounds i true).getD j false) = mark (fun j => listed.getD j false) i := by
          funext j
          rw [getD_set_eq _ (by omega)]
          rfl
        rw [e]
        exact hww
    have hstep := hst i hin0 o ho (fun j => listed.getD j false) v w ⟨by rw [← getD_tf (by omega)]; exact hif, hpre, fun j oj h1 h2 => by simpa using hpost j oj h1 h2⟩ hI.S
    unfold wpOp
    simp only [ho]
    cases hs : sp i with
    | det e =>
      rw [hs] at hstep
      simp only at hstep
      have hee : (sp i).val (v i) = e := by rw [hs]; rfl
      rcases hstep with ⟨h1, h2, h3⟩ | ⟨h1, h2, h3⟩ | h3
      · rw [← hwt] at h1
        rw [if_pos h1]
        refine .inl ?_
        unfold Oper.wp
        rw [execOp_congr o hsel hev, h2]
        exact next e v w (fun _ _ => rfl) hee h3
      · rw [← hwt] at h1
        rw [if_neg (by rw [h1]; simp)]
        subst h2
        exact next undef v w (fun _ _ => rfl) hee h3
      · obtain ⟨h1, h2⟩ := h3.carry (a := a) (Q := Q) hsel hev hwt (fun d hdo => by rw [hfr.size]; exact hd i d hin0 (by rw [ho]; exact hdo)) (fun u w' hR hE => next u v w' (fun _ _ => rfl) (hee.trans hR.symm) hE)
        rw [if_pos h1]
        exact .inl h2
    | rel R =>
      rw [hs] at hstep
      simp only at hstep
      obtain ⟨h1, h2⟩ := RelAt.carry (a := a) (Q := Q) hsel hev hwt (fun d hdo => by rw [hfr.size]; exact hd i d hin0 (by rw [ho]; exact hdo)) hstep
        (fun u w' hR hE => next u (setv v i u) w' (fun j hj => by unfold setv; rw [if_neg hj]) (by rw [hs]; simp [Spec.val, setv]) hR)
      rw [if_pos h1]
      exact .inl h2

theorem wp_region_three {id : Nat} {Q : Exit → Act → World → Prop} {a0 : Act} {w : World} (n0 N : Nat) (hm : P.follows .mixedOrders = true) (hc : regChkB ops n0 = true) (hN : a0.tmps.size = N) (hd : dstChkB ops n0 N = true)
    (S : (Nat → Bool) → (Nat → Value) → World → Prop) (v0 : Nat → Value) (hS : S (fun _ => false) v0 w.drew)
    (h : Hav3 P ops S (fun a w => wpList P ops Q (ops.toList.drop n0) a w) (fun _ => a0) 0 (ops.toList.take n0)) : (Code.region id ops true).wp P Q a0 w := by
  have hc := regChk_of hc
  have hd := dstChk_of (hN ▸ hd)
  have hle := hc.le
  obtain ⟨sp, _, g2, g3⟩ := Hav3.extract (a0 := a0) P ops S n0 _ 0 _ (fun _ => .det undef) (fun j => by
      rw [List.getElem?_take]
      simp) (by simp; omega) (fun _ => rfl) h
  refine wp_region_any hm ?_
  have e0 : (fun j => (Array.replicate ops.size false).getD j false) = fun _ => false := by
    funext j
    by_cases h : j < ops.size <;> simp [h]
  refine pre_any3 hc hd (fun i hi => g2 i (Nat.zero_le _) hi) (fun v w hSw => ?_) n0 ops.size _ v0 a0 w.drew ⟨List.range n0, List.nodup_range, fun j => ?_, by simp⟩ (by omega) ⟨by simp, fun m o ho hml => ?_, fun k _ hk => ?_, ⟨rfl, rfl, fun j d hj hD => ?_, fun t _ => rfl⟩, by rw [e0]; exact hS⟩
  · have := g3 v w hSw
    rw [← wpOps_eq_wpList (ops.toList.drop n0) n0 (fun j => by simp)] at this
    simpa using this
  · simp only [List.mem_range]
    constructor
    · intro hj; exact ⟨hj, by simp [show j < ops.size by omega]⟩
    · exact fun h => h.1
  · have hlt := (Array.getElem?_eq_some_iff.1 ho).1
    simp [hlt] at hml
  · simp [hk]
  · have : j < ops.size := by omega
    simp [this] at hD

variable {Fin : Act → World → Prop} {fr : (Nat → Value) → Act} {k : Nat} {o : Oper} {rest : List Oper}
theorem Hav3.read (e : Value) (hw : ∀ v, Region.wanted o (yielded ops (fr v).tmps) = true) (hk : ∀ D v w, S D v w → S (mark D k) v w)
    (h1 : ∀ D v w, Open ops D k o → S D v w → (execOp (fr v).eval o).run P w = .ok (.value e) w) (h2 : Hav3 P ops S Fin (fun v => (fr v).put o.dst e) (k + 1) rest) : Hav3 P ops S Fin fr k (o :: rest) :=
  .inl ⟨e, fun D v w hD hS => .inl ⟨hw v, h1 D v w hD hS, hk D v w hS⟩, h2⟩
theorem Hav3.skip (hw : ∀ v, Region.wanted o (yielded ops (fr v).tmps) = false) (hk : ∀ D v w, S D v w → S (mark D k) v w)
    (h2 : Hav3 P ops S Fin (fun v => (fr v).put o.dst undef) (k + 1) rest) : Hav3 P ops S Fin fr k (o :: rest) :=
  .inl ⟨undef, fun D v w _ hS => .inr (.inl ⟨hw v, rfl, hk D v w hS⟩), h2⟩
theorem Hav3.call (e : Value) (hw : ∀ v, Region.wanted o (yielded ops (fr v).tmps) = true)
    (h1 : ∀ D v w, Open ops D k o → S D v w → o.wp P (fr v) w (fun a' w' => ∃ u, a' = (fr v).put o.dst u ∧ u = e ∧ S (mark D k) v w') (fun _ _ _ => False))
    (h2 : Hav3 P ops S Fin (fun v => (fr v).put o.dst e) (k + 1) rest) : Hav3 P ops S Fin fr k (o :: rest) :=
  .inl ⟨e, fun D v w hD hS => .inr (.inr ⟨hw v, h1 D v w hD hS⟩), h2⟩
theorem Hav3.rel (hw : ∀ v, Region.wanted o (yielded ops (fr v).tmps) = true)
    (h1 : ∀ D v w, Open ops D k o → S D v w → o.wp P (fr v) w (fun a' w' => ∃ u, a' = (fr v).put o.dst u ∧ S (mark D k) (setv v k u) w' ∧ True) (fun _ _ _ => False))
    (h2 : Hav3 P ops S Fin (fun v => (fr v).put o.dst (v k)) (k + 1) rest) : Hav3 P ops S Fin fr k (o :: rest) :=
  .inr ⟨fun D v w hD hS => ⟨hw v, h1 D v w hD hS⟩, h2⟩
theorem Hav3.fin (h : ∀ v w, S (fun j => decide (j < k)) v w → Fin (fr v) w) : Hav3 P ops S Fin fr k [] := h
end
end Go.Proofs.YtglgjakjhkdoaaaGreatDoor

namespace Go.Proofs.YtglgjakjhkdoaaaGreatDoor
open Go.RowKit
set_option linter.unusedVariables false
set_option linter.unusedSimpArgs false

theorem mark_self (D : Nat → Bool) (k : Nat) : mark D k k = true := by simp [mark]
theorem mark_ne {D : Nat → Bool} {k j : Nat} (h : k ≠ j) : mark D k j = D j := by simp [mark, h]
theorem setv_self (v : Nat → Value) (k : Nat) (u : Value) : setv v k u k = u := by simp [setv]
theorem setv_ne {v : Nat → Value} {k j : Nat} {u : Value} (h : k ≠ j) : setv v k u j = v j := by simp [setv, h]
def compV (j : Nat) (u : Value) : Value := match u with
  | .tuple xs => xs.getD j undef
  | _ => undef
structure TupS (n m : Nat) (T : Bool → Value → World → Prop) (D : Nat → Bool) (v : Nat → Value) (w : World) : Prop where
  t : T (D n) (v n) w
  mv : D (n + 1) = true → D n = true ∧ v (n + 1) = v n
  ex : ∀ j, j < m → D (n + 2 + j) = true → D (n + 1) = true ∧ v (n + 2 + j) = compV j (v n)
  ag : ∀ j, j < m → D (n + 2 + m + j) = true → D (n + 2 + j) = true ∧ v (n + 2 + m + j) = compV j (v n)
section
variable {n m : Nat} {T : Bool → Value → World → Prop} {D : Nat → Bool} {v : Nat → Value} {w w' : World}
theorem TupS.start (h : T false (v n) w) : TupS n m T (fun _ => false) v w := ⟨h, fun h => by simp at h, fun j _ h => by simp at h, fun j _ h => by simp at h⟩
theorem TupS.read (h : TupS n m T D v w) (k : Nat) (hk : k < n) : TupS n m T (mark D k) v w := by
  have hm : ∀ j, n ≤ j → mark D k j = D j := fun j hj => mark_ne (by omega)
  refine ⟨by rw [hm n (Nat.le_refl _)]; exact h.t, fun h1 => ?_, fun j hj h1 => ?_, fun j hj h1 => ?_⟩
  · rw [hm _ (by omega)] at h1; rw [hm _ (by omega)]; exact h.mv h1
  · rw [hm _ (by omega)] at h1; rw [hm _ (by omega)]; exact h.ex j hj h1
  · rw [hm _ (by omega)] at h1; rw [hm _ (by omega)]; exact h.ag j hj h1
theorem TupS.called {u : Value} (h : TupS n m T D v w) (hd : D n = false) (hT : T true u w') : TupS n m T (mark D n) (setv v n u) w' := by
  have d1 : D (n + 1) = false := by
    cases e : D (n + 1) with
    | false => rfl
    | true => have := (h.mv e).1; rw [hd] at this; cases this
  have d2 : ∀ j, j < m → D (n + 2 + j) = false := fun j hj => by
    cases e : D (n + 2 + j) with
    | false => rfl
    | true => have := (h.ex j hj e).1; rw [d1] at this; cases this
  have d3 : ∀ j, j < m → D (n + 2 + m + j) = false := fun j hj => by
    cases e : D (n + 2 + m + j) with
    | false => rfl
    | true => have := (h.ag j hj e).1; rw [d2 j hj] at this; cases this
  refine ⟨by rw [mark_self, setv_self]; exact hT, fun h1 => ?_, fun j hj h1 => ?_, fun j hj h1 => ?_⟩
  · rw [mark_ne (by omega), d1] at h1; cases h1
  · rw [mark_ne (by omega), d2 j hj] at h1; cases h1
  · rw [mark_ne (by omega), d3 j hj] at h1; cases h1
theorem TupS.moved (h : TupS n m T D v w) (hd : D n = true) : TupS n m T (mark D (n + 1)) (setv v (n + 1) (v n)) w := by
  have sn : setv v (n + 1) (v n) n = v n := setv_ne (by omega)
  refine ⟨by rw [mark_ne (by omega), sn]; exact h.t, fun _ => ⟨by rw [mark_ne (by omega)]; exact hd, by rw [setv_self, sn]⟩, fun j hj h1 => ?_, fun j hj h1 => ?_⟩
  · rw [mark_ne (by omega)] at h1
    exact ⟨mark_self _ _, by rw [setv_ne (by omega), sn]; exact (h.ex j hj h1).2⟩
  · rw [mark_ne (by omega)] at h1
    exact ⟨by rw [mark_ne (by omega)]; exact (h.ag j hj h1).1, by rw [setv_ne (by omega), sn]; exact (h.ag j hj h1).2⟩
theorem TupS.ext (h : TupS n m T D v w) (i : Nat) (hi : i < m) (hd : D (n + 1) = true) {u : Value} (hu : compV i (v n) = u) : TupS n m T (mark D (n + 2 + i)) (setv v (n + 2 + i) u) w := by
  have sn : setv v (n + 2 + i) u n = v n := setv_ne (by omega)
  refine ⟨by rw [mark_ne (by omega), sn]; exact h.t, fun h1 => ?_, fun j hj h1 => ?_, fun j hj h1 => ?_⟩
  · rw [mark_ne (by omega)] at h1
    rw [mark_ne (by omega), setv_ne (by omega), sn]
    exact h.mv h1
  · refine ⟨by rw [mark_ne (by omega)]; exact hd, ?_⟩
    by_cases e : i = j
    · subst e; rw [setv_self, sn, hu]
    · rw [mark_ne (by omega)] at h1
      rw [setv_ne (by omega), sn]
      exact (h.ex j hj h1).2
  · rw [mark_ne (by omega)] at h1
    have h2 := h.ag j hj h1
    refine ⟨?_, by rw [setv_ne (by omega), sn]; exact h2.2⟩
    by_cases e : i = j
    · subst e; exact mark_self _ _
    · rw [mark_ne (by omega)]; exact h2.1
theorem TupS.asg (h : TupS n m T D v w) (i : Nat) (hi : i < m) (hd : D (n + 2 + i) = true) : TupS n m T (mark D (n + 2 + m + i)) (setv v (n + 2 + m + i) (v (n + 2 + i))) w := by
  have sn : setv v (n + 2 + m + i) (v (n + 2 + i)) n = v n := setv_ne (by omega)
  refine ⟨by rw [mark_ne (by omega), sn]; exact h.t, fun h1 => ?_, fun j hj h1 => ?_, fun j hj h1 => ?_⟩
  · rw [mark_ne (by omega)] at h1
    rw [mark_ne (by omega), setv_ne (by omega), sn]
    exact h.mv h1
  · rw [mark_ne (by omega)] at h1
    rw [mark_ne (by omega), setv_ne (by omega), sn]
    exact h.ex j hj h1
  · by_cases e : i = j
    · subst e
      exact ⟨by rw [mark_ne (by omega)]; exact hd, by rw [setv_self, sn]; exact (h.ex i hi hd).2⟩
    · rw [mark_ne (by omega)] at h1
      have h2 := h.ag j hj h1
      exact ⟨by rw [mark_ne (by omega)]; exact h2.1, by rw [setv_ne (by omega), sn]; exact h2.2⟩
theorem TupS.fin {N : Nat} (hN : N = n + 2 + 2 * m) (h : TupS n m T (fun j => decide (j < N)) v w) : T true (v n) w ∧ v (n + 1) = v n ∧ (∀ j, j < m → v (n + 2 + j) = compV j (v n)) ∧ ∀ j, j < m → v (n + 2 + m + j) = compV j (v n) := by
  subst hN
  refine ⟨?_, (h.mv (by simp; omega)).2, fun j hj => (h.ex j hj (by simp; omega)).2, fun j hj => (h.ag j hj (by simp; omega)).2⟩
  have := h.t
  rw [decide_eq_true (by omega)] at this
  exact this
theorem TupS.parts3 {N : Nat} {a b c : Value} (hN : N = n + 8) (h : TupS n 3 T (fun j => decide (j < N)) v w) (hu : v n = .tuple #[a, b, c]) :
    v (n + 1) = .tuple #[a, b, c] ∧ v (n + 2) = a ∧ v (n + 3) = b ∧ v (n + 4) = c ∧ v (n + 5) = a ∧ v (n + 6) = b ∧ v (n + 7) = c := by
  obtain ⟨-, g1, g2, g3⟩ := TupS.fin (by omega) h
  rw [hu] at g1 g2 g3
  exact ⟨g1, g2 0 (by omega), g2 1 (by omega), g2 2 (by omega), g3 0 (by omega), g3 1 (by omega), g3 2 (by omega)⟩
theorem TupS.parts2 {N : Nat} {a b : Value} (hN : N = n + 6) (h : TupS n 2 T (fun j => decide (j < N)) v w) (hu : v n = .tuple #[a, b]) :
    v (n + 1) = .tuple #[a, b] ∧ v (n + 2) = a ∧ v (n + 3) = b ∧ v (n + 4) = a ∧ v (n + 5) = b := by
  obtain ⟨-, g1, g2, g3⟩ := TupS.fin (by omega) h
  rw [hu] at g1 g2 g3
  exact ⟨g1, g2 0 (by omega), g2 1 (by omega), g3 0 (by omega), g3 1 (by omega)⟩
end
end Go.Proofs.YtglgjakjhkdoaaaGreatDoor

/-
What bytes begin with: notes, one behind the other. Plain.
The walk of tape.Read.
-/
import Derived.Test.YtglgjakjhkdoaaaGreatDoorZStE
import Derived.Test.YtglgjakjhkdoaaaGreatDoorZStBTaA
import Derived.Test.YtglgjakjhkdoaaaGreatDoorZReg3Reg4
namespace Go.Proofs.YtglgjakjhkdoaaaGreatDoor
open Go.RowKit
set_option linter.unusedVariables false
set_option linter.unusedSimpArgs false

theorem opened_lt {b x : List UInt8} (h : opened b = some x) : (nul b).length < b.length := by
  unfold opened at h
  split at h
  · cases h
  · rename_i hn
    rcases (nul_is b).2 with ⟨h1, _⟩ | ⟨r, h1, _⟩
    · exact absurd (.inr h1) hn
    · have := congrArg List.length h1
      simp at this
      omega
def tpRead (b : List UInt8) : List (List UInt8) × Nat :=
  match h : opened b with
  | none => ([], 0)
  | some x => if 600 < x.length then ([], 0) else (x :: (tpRead (b.drop ((nul b).length + 1))).1, (nul b).length + 1 + (tpRead (b.drop ((nul b).length + 1))).2)
termination_by b.length
decreasing_by all_goals (have := opened_lt h; rw [List.length_drop]; omega)
theorem tpRead_none {b : List UInt8} (h : opened b = none) : tpRead b = ([], 0) := by
  rw [tpRead]
  split
  · rfl
  · rename_i x hx; rw [h] at hx; cases hx
theorem tpRead_long {b x : List UInt8} (h : opened b = some x) (hl : 600 < x.length) : tpRead b = ([], 0) := by
  rw [tpRead]
  split
  · rfl
  · rename_i y hy
    rw [h] at hy
    simp only [Option.some.injEq] at hy
    subst hy
    rw [if_pos hl]
theorem tpRead_some {b x : List UInt8} (h : opened b = some x) (hl : x.length ≤ 600) : tpRead b = (x :: (tpRead (b.drop ((nul b).length + 1))).1, (nul b).length + 1 + (tpRead (b.drop ((nul b).length + 1))).2) := by
  rw [tpRead]
  split
  · rename_i hn
    rw [h] at hn; cases hn
  · rename_i y hy
    rw [h] at hy
    simp only [Option.some.injEq] at hy
    subst hy
    rw [if_neg (by omega)]
theorem tpRead_le : ∀ (n : Nat) (b : List UInt8), b.length ≤ n → (tpRead b).2 ≤ b.length ∧ (tpRead b).1.length ≤ b.length ∧ ∀ x ∈ (tpRead b).1, x.length ≤ 600
  | 0, b, hn => by
    have : b = [] := List.eq_nil_of_length_eq_zero (by omega)
    subst this
    rw [tpRead_none (by simp [opened, nul])]
    simp
  | n + 1, b, hn => by
    cases h : opened b with
    | none => rw [tpRead_none h]; simp
    | some x =>
      by_cases hl : x.length ≤ 600
      · have h1 := opened_lt h
        obtain ⟨g1, g2, g3⟩ := tpRead_le n (b.drop ((nul b).length + 1)) (by rw [List.length_drop]; omega)
        rw [List.length_drop] at g1 g2
        rw [tpRead_some h hl]
        refine ⟨by simp only; omega, by simp only [List.length_cons]; omega, fun y hy => ?_⟩
        rcases List.mem_cons.1 hy with rfl | hy
        · exact hl
        · exact g3 y hy
      · rw [tpRead_long h (by omega)]; simp
end Go.Proofs.YtglgjakjhkdoaaaGreatDoor

namespace Go.Proofs.YtglgjakjhkdoaaaGreatDoor
open Go.RowKit Go.Shelf
set_option linter.unusedVariables false
set_option linter.unusedSimpArgs false
set_option linter.unnecessarySimpa false

attribute [local go_sem] Oper.semAt_some

def TnOk (b : List UInt8) (B : Nat) (pre : List (Value × List UInt8)) (x : Value × List UInt8) (W : World) : Prop :=
  W.ownsRow B 5 1 x.1 x.2.length (bcells x.2) ∧ x.2.length ≤ 600 ∧ (∃ r, pre.map Prod.snd ++ x.2 :: r = (tpRead b).1)
def TnKp (B h : Nat) (W W' : World) : Prop := W.heap.size ≤ W'.heap.size ∧ ∀ k, k < B → k ≠ h → W'.heap[k]? = W.heap[k]?
def TnSt (rB : Nat) (X X' : World) : Prop := Chg [rB] [] X X'
def rAt (rB : Nat) (w : World) : Nat := match w.cell? ⟨rB, 1, none⟩ with | some (.int _ n) => n.toNat | _ => 0
theorem RdB.rest' {w : World} {ad : Addr} {c n : Nat} {l : List UInt8} (h : RdB w (.slice (some ad) n c) l) (hn : n = l.length) (hc : n ≤ c) (k : Nat) (hk : k ≤ n) (c' m : Nat) (hm : m = (l.drop k).length) :
    RdB w (.slice (if c = k then some ad else some (ad.add k)) m c') (l.drop k) := by
  by_cases e : c = k
  · rw [if_pos e]
    have e2 : l.drop k = [] := List.drop_of_length_le (by omega)
    rw [e2] at hm ⊢
    subst hm
    exact ⟨rfl, .inr ⟨ad, c', rfl, fun j u hu => by simp [bcells] at hu⟩⟩
  · rw [if_neg e]
    exact h.from hn k c' m hm (by omega)
theorem two_cells {w : World} {rB : Nat} {u v : Value} {t : TypeId} (h : w.heap[rB]? = some (.cells #[u, v] t (0, 0))) : w.cell? ⟨rB, 0, none⟩ = some u ∧ w.cell? ⟨rB, 1, none⟩ = some v ∧ (∀ j, w.frozen? ⟨rB, j, none⟩ = false) ∧ rB < w.heap.size := by
  refine ⟨?_, ?_, ?_, (Array.getElem?_eq_some_iff.1 h).1⟩ <;> simp [World.cell?, World.frozen?, h]

structure TeS (wr : World) (s : List UInt8) (D : Nat → Bool) (v : Nat → Value) (w' : World) (a : Option Addr) (n' c' : Nat) : Prop where
  low : Below wr.heap.size wr w'
  d9 : D 9 = true → v 9 = .tuple #[.slice a n' c', .int .i64 (oN s), .int .u16 (oE s)] ∧ w'.ownsRow wr.heap.size 5 1 (.slice a n' c') n' (bcells (oB s)) ∧ n' = (oB s).length
  d10 : D 10 = true → D 9 = true ∧ v 10 = .tuple #[.slice a n' c', .int .i64 (oN s), .int .u16 (oE s)]
  d11 : D 11 = true → D 10 = true ∧ v 11 = .slice a n' c'
  d14 : D 14 = true → D 11 = true ∧ v 14 = .slice a n' c'
def TeI (wr : World) (s : List UInt8) (D : Nat → Bool) (v : Nat → Value) (w' : World) : Prop := ∃ a n' c', TeS wr s D v w' a n' c'

set_option maxRecDepth 100000 in
set_option maxHeartbeats 3200000 in
theorem tp_iter (n : Nat) (hn1 : 1 ≤ n) (b : List UInt8) (ao : Option Addr) (c B h rB : Nat) (w : World)
    (hr : w.heap[rB]? = some (.cells #[.slice ao b.length c, .int .i64 0] 107 (0, 0)))
    (hx : RdB w (.slice ao b.length c) b) (hle : b.length ≤ c) (hc : c ≤ 9223372036854775807) (hlen : b.length ≤ 1048576) (hob : ∀ k, (Value.slice ao b.length c).ownBlock = some k → k < B ∧ k ≠ h ∧ k ≠ rB)
    (lB : rB < B) (hB : B ≤ w.heap.size) (nO : rB ≠ h) :
    SeqSb Fence.wide n Tryz.prog 66 #[.pointer (some ⟨rB, 0, none⟩)] #[] (fun x : Value × List UInt8 => #[x.1]) (TnOk b B) (TnKp B h) (TnSt rB) (fun xs => xs.map Prod.snd = (tpRead b).1) (fun W => W.cell? ⟨rB, 1, none⟩ = some (.int .i64 (tpRead b).2)) w := by
  intro l J W hW hl hJ hY h0
  refine callsIn_of_wp Tryz.func66 rfl trivial ?_ rfl
  simp only [Tryz.ntmps66, List.size_toArray, List.length_cons, List.length_nil, Nat.reduceAdd, Nat.reduceSub, Array.replicate_succ, Array.replicate_zero, List.push_toArray, List.append_toArray, List.nil_append, List.cons_append]
  have hr1 := (hW.block rB (by omega) (by simp)).trans hr
  gi_wp2
  gi_loopw [4] (fun i wr => ∃ (pre : List (Value × List UInt8)) (at_ : Nat), at_ ≤ b.length ∧ Hid (pre.map Prod.snd ++ (tpRead (b.drop at_)).1 = (tpRead b).1 ∧ at_ + (tpRead (b.drop at_)).2 = (tpRead b).2) ∧ wr.heap[rB]? = some (.cells #[.slice ao b.length c, .int .i64 at_] 107 (0, 0)) ∧
      Hid (RdB wr (.slice ao b.length c) b) ∧ Hid (B ≤ wr.heap.size) ∧ J pre wr) (fun i wr => b.length - rAt rB wr)
  case atStart =>
    have hb := fun k (hk : k < B) => hW.block k (by omega) (by simp)
    exact ⟨[], 0, Nat.zero_le _, hide ⟨by simp, by simp⟩, hr1, hide (hx.chg hW (by simp)), hide (Nat.le_trans hB hW.size), h0⟩
  case round =>
    obtain ⟨pre, at_, hat, hpre, ur, hrd, hBr, hJr⟩ := hrel
    obtain ⟨u0, u1, uf, ul⟩ := two_cells ur
    obtain ⟨s, hs⟩ : ∃ s, s = b.drop at_ := ⟨_, rfl⟩
    obtain ⟨ns, hns⟩ : ∃ ns, ns = b.length - at_ := ⟨_, rfl⟩
    have hns2 : ns = s.length := by rw [hs, List.length_drop, hns]
    obtain ⟨nb, hnb⟩ : ∃ nb, nb = b.length := ⟨_, rfl⟩
    rw [← hnb] at hat hlen hle hns ur u0 hrd
    have hsl : ∃ sa, RdB wr (.slice sa ns (c - at_)) s ∧ ((ao = none ∧ nb = 0 ∧ c = 0 ∧ sa = none ∧ at_ = 0) ∨ ∃ ad, ao = some ad ∧ sa = if c = at_ then some ad else some (ad.add at_)) := by
      have hr0 := hrd.out
      rw [hnb] at hr0
      rcases hr0.2 with ⟨he, hz⟩ | ⟨ad2, c2, he, _⟩
      · simp only [Value.slice.injEq] at he
        obtain ⟨rfl, h1, rfl⟩ := he
        refine ⟨none, ?_, .inl ⟨rfl, by omega, rfl, rfl, by omega⟩⟩
        have : s = [] := List.eq_nil_of_length_eq_zero (by omega)
        subst this
        obtain rfl : ns = 0 := hns2
        exact ⟨rfl, .inl ⟨by simp, rfl⟩⟩
      · simp only [Value.slice.injEq] at he
        obtain ⟨rfl, -, -⟩ := he
        refine ⟨_, ?_, .inr ⟨ad2, rfl, rfl⟩⟩
        have := hr0.rest' rfl (by omega) at_ (by omega) (c - at_) ns (by rw [← hs]; exact hns2)
        rw [← hs] at this
        exact this
    obtain ⟨sa, hsr, hsa⟩ := hsl
    have HSR := hide hsr; have HSA := hide hsa; have HS := hide hs; have HNS := hide hns2
    have hnsl : ns ≤ 1048576 := by omega
    have hcs : ns ≤ c - at_ := by omega
    have HNS0 := hide hns
    have HNB := hide hnb
    have hcell : Hid (∀ w', Below wr.heap.size wr w' → w'.cell? ⟨rB, 0, none⟩ = some (.slice ao nb c) ∧ w'.cell? ⟨rB, 1, none⟩ = some (.int .i64 at_)) := hide fun w' hw => ⟨(hw.cell (p := ⟨rB, 0, none⟩) ul).trans u0, (hw.cell (p := ⟨rB, 1, none⟩) ul).trans u1⟩
    have HUR := hide ur
    clear hsr hsa hs hns2 hns hnb hx hr hr1 u0 u1
    gi_wp2_with fail
    refine wpIn_wide.2 ?_
    refine wp_region_three 17 40 (by kernel_rfl) (by kernel_rfl) rfl (by kernel_rfl) (fun D v w' => TeI wr s D v w') (fun _ => undef) ⟨none, 0, 0, (Below.refl _ _).drew, (fun h => by cases h), (fun h => by cases h), (fun h => by cases h), (fun h => by cases h)⟩ ?_
    simp only [List.take_succ_cons, List.take_zero, List.drop_succ_cons, List.drop_zero]
    iterate 8 (refine Hav3.read (e := ?_) (fun v => by rfl) (fun D v w h => by obtain ⟨a, n', c', z⟩ := h; exact ⟨a, n', c', z.low, z.d9, z.d10, z.d11, z.d14⟩) (fun D v w' hD hS => ?_) ?_; rotate_left; (obtain ⟨a, n', c', z⟩ := hS; obtain ⟨x0, x1⟩ := hcell.out w' z.low; have hS := trivial; clear hS hD; first | (go_simp; done) | (go_simp; with_reducible rfl)); go_simp)
    refine Hav3.read (e := .slice sa ns (c - at_)) (fun v => by rfl) (fun D v w h => by obtain ⟨a, n', c', z⟩ := h; exact ⟨a, n', c', z.low, z.d9, z.d10, z.d11, z.d14⟩) (fun D v w' hD hS => ?_) ?_
    · clear hS hD
      have HN0 := HNS0.out
      rcases HSA.out with ⟨rfl, rfl, rfl, rfl, rfl⟩ | ⟨ad, rfl, rfl⟩
      · subst HN0
        go_simp
      · have t1 : at_ ≤ nb := hat
        have t2 : nb ≤ c := hle
        subst HN0
        go_simp
    go_simp
    refine Hav3.rel (fun v => by rfl) (fun D v w' hD hS => ?_) ?_
    · have d10 : D 10 = false := hD.post 10 _ rfl (by kernel_rfl)
      obtain ⟨a, n', c', z⟩ := hS
      have d11 : D 11 = false := by
        cases e : D 11 with
        | false => rfl
        | true => rw [(z.d11 e).1] at d10; cases d10
      have d14 : D 14 = false := by
        cases e : D 14 with
        | false => rfl
        | true => rw [(z.d14 e).1] at d11; cases d11
      have HLOW := hide z.low
      have D10 := hide d10; have D11 := hide d11; have D14 := hide d14
      clear hD d10 d11 d14 z
      go_simp
      go_at_call 77
      have H := st_Open s sa (c - at_) w' (by rw [← HNS.out]; exact HSR.out.low HLOW.out) (by rw [← HNS.out]; exact hcs) (by omega) (by rw [← HNS.out]; omega)
      rw [← HNS.out] at H
      refine H.mono ?_
      clear H
      rintro e w'' ⟨a2, n2, c2, rfl, hown, hn2, hb⟩
      refine ⟨a2, n2, c2, HLOW.out.trans (hb.mono HLOW.out.size), fun _ => ⟨rfl, ownsRow_base hown HLOW.out.size, hn2⟩, fun e => ?_, fun e => ?_, fun e => ?_⟩
      · have : D 10 = true := e
        rw [D10.out] at this; cases this
      · have : D 11 = true := e
        rw [D11.out] at this; cases this
      · have : D 14 = true := e
        rw [D14.out] at this; cases this
    go_simp
    refine Hav3.rel (fun v => by rfl) (fun D v w' hD hS => ?_) ?_
    · have d9 : D 9 = true := hD.pre 9 (by kernel_rfl)
      have d11 : D 11 = false := hD.post 11 _ rfl (by kernel_rfl)
      obtain ⟨a, n', c', z⟩ := hS
      have d14 : D 14 = false := by
        cases e : D 14 with
        | false => rfl
        | true => rw [(z.d14 e).1] at d11; cases d11
      have Z := hide z
      have D9 := hide d9; have D11 := hide d11; have D14 := hide d14
      clear hD d9 d11 d14 z
      go_simp
      refine ⟨a, n', c', Z.out.low, Z.out.d9, fun _ => ⟨D9.out, (Z.out.d9 D9.out).1⟩, fun e => ?_, fun e => ?_⟩
      · have : D 11 = true := e
        rw [D11.out] at this; cases this
      · have : D 14 = true := e
        rw [D14.out] at this; cases this
    go_simp
    refine Hav3.rel (fun v => by rfl) (fun D v w' hD hS => ?_) ?_
    · have d10 : D 10 = true := hD.pre 10 (by kernel_rfl)
      have d14 : D 14 = false := hD.post 14 _ rfl (by kernel_rfl)
      obtain ⟨a, n', c', z⟩ := hS
      have hv10 := (z.d10 d10).2
      have Z := hide z
      have D10 := hide d10; have D14 := hide d14
      clear hD d10 d14 z
      rw [hv10]
      clear hv10
      go_simp
      refine ⟨a, n', c', Z.out.low, Z.out.d9, Z.out.d10, fun _ => ⟨D10.out, rfl⟩, fun e => ?_⟩
      have : D 14 = true := e
      rw [D14.out] at this; cases this
    go_simp
    refine Hav3.read (e := .int .i64 (oN s)) (fun v => by rfl) (fun D v w h => by obtain ⟨a, n', c', z⟩ := h; exact ⟨a, n', c', z.low, z.d9, z.d10, z.d11, z.d14⟩) (fun D v w' hD hS => ?_) ?_
    · have d10 : D 10 = true := hD.pre 10 (by kernel_rfl)
      obtain ⟨a, n', c', z⟩ := hS
      have hv10 := (z.d10 d10).2
      clear hD d10 z
      rw [hv10]
      go_simp
    go_simp
    refine Hav3.read (e := .int .u16 (oE s)) (fun v => by rfl) (fun D v w h => by obtain ⟨a, n', c', z⟩ := h; exact ⟨a, n', c', z.low, z.d9, z.d10, z.d11, z.d14⟩) (fun D v w' hD hS => ?_) ?_
    · have d10 : D 10 = true := hD.pre 10 (by kernel_rfl)
      obtain ⟨a, n', c', z⟩ := hS
      have hv10 := (z.d10 d10).2
      clear hD d10 z
      rw [hv10]
      go_simp
    go_simp
    refine Hav3.rel (fun v => by rfl) (fun D v w' hD hS => ?_) ?_
    · have d11 : D 11 = true := hD.pre 11 (by kernel_rfl)
      obtain ⟨a, n', c', z⟩ := hS
      have hv11 := (z.d11 d11).2
      have Z := hide z
      have D11 := hide d11
      clear hD d11 z
      rw [hv11]
      clear hv11
      go_simp
      exact ⟨a, n', c', Z.out.low, Z.out.d9, Z.out.d10, Z.out.d11, fun _ => ⟨D11.out, rfl⟩⟩
    go_simp
    iterate 2 (refine Hav3.read (e := ?_) (fun v => by rfl) (fun D v w h => by obtain ⟨a, n', c', z⟩ := h; exact ⟨a, n', c', z.low, z.d9, z.d10, z.d11, z.d14⟩) (fun D v w' hD hS => ?_) ?_; rotate_left; (skip; clear hS hD; first | (go_simp; done) | (go_simp; with_reducible rfl)); go_simp)
    refine Hav3.fin (fun v w7 hS => ?_)
    obtain ⟨a, n', c', z⟩ := hS
    have hv14 := (z.d14 rfl).2
    obtain ⟨_, hown, hn'⟩ := z.d9 rfl
    have HLOW := hide z.low
    rw [hv14]
    have HOWN := hide hown
    have HN' := hide hn'
    clear z hv14 hown hn'
    have hw7 : TnSt rB wr w7 := ⟨HLOW.out.os, HLOW.out.tape, HLOW.out.output, HLOW.out.size, fun k hk _ => HLOW.out.block k hk, fun k hk => by cases hk⟩
    have hJ7 := hide (hJ pre wr w7 hJr hw7)
    obtain ⟨x0, x1⟩ := hcell.out w7 HLOW.out
    have HX1 := hide x1
    have HJ := hide hJ
    have HY := hide hY
    clear hw7 hJr hW hJ h0 hY
    cases ho : opened s with
    | none =>
      obtain ⟨o1, o2, o3⟩ := opened_none ho
      have hend := hide (tpRead_none ho)
      rw [o2, o3]
      clear ho o1 o2 o3
      go_wp2
      gi_wp2
      have h9 := hpre.out
      rw [← HS.out, hend.out] at h9
      refine bodyPost_ret (results_none rfl _ _ _) rfl ⟨⟨_, rfl⟩, ⟨pre, by simpa using h9.1, hJ7.out⟩, ?_⟩
      rw [HX1.out, ← h9.2]
      simp
    | some x =>
      obtain ⟨o1, o2, o3⟩ := opened_some ho
      rw [o2, o3]
      rw [o1] at HOWN HN'
      by_cases hbig : 600 < x.length
      · have hend := hide (tpRead_long ho hbig)
        have d1 : decide ((600 : Int) < n') = true := decide_eq_true (by have := HN'.out; omega)
        clear ho o1 o2 o3
        go_wp2
        gi_wp2
        have h9 := hpre.out
        rw [← HS.out, hend.out] at h9
        refine bodyPost_ret (results_none rfl _ _ _) rfl ⟨⟨_, rfl⟩, ⟨pre, by simpa using h9.1, hJ7.out⟩, ?_⟩
        rw [HX1.out, ← h9.2]
        simp
      · have hst := hide (tpRead_some ho (by omega))
        have d1 : decide ((600 : Int) < n') = false := decide_eq_false (by have := HN'.out; omega)
        have hlt := opened_lt ho
        obtain ⟨q, hq⟩ : ∃ q, q = (nul s).length + 1 := ⟨_, rfl⟩
        rw [← hq] at hst ⊢
        have hqn : q ≤ ns := by rw [hq, HNS.out]; omega
        have hq1 : 1 ≤ q := by omega
        have hwq : IntKind.i64.wrap ((at_ : Int) + (q : Int)) = (at_ : Int) + (q : Int) := by have := HNS0.out; rw [IntKind.wrap_i64]; omega
        have hx600 := hide (show x.length ≤ 600 by omega)
        clear ho o1 o2 o3 hlt hq hbig
        have hu7 : w7.heap[rB]? = some (.cells #[.slice ao nb c, .int .i64 at_] 107 (0, 0)) := (HLOW.out.block rB ul).trans HUR.out
        obtain ⟨z0, z1, zf, zl⟩ := two_cells hu7
        have zf1 := zf 1
        obtain ⟨w8, hw8⟩ : ∃ w8, w8 = w7.setCell ⟨rB, 1, none⟩ (.int .i64 ((at_ : Int) + (q : Int))) := ⟨_, rfl⟩
        have hb8 : ∀ k, k ≠ rB → w8.heap[k]? = w7.heap[k]? := fun k hk => by rw [hw8]; exact heap_set_ne hk
        have hu8 : w8.heap[rB]? = some (.cells #[.slice ao nb c, .int .i64 ((at_ : Int) + (q : Int))] 107 (0, 0)) := by
          rw [hw8]
          have := setCell_heap hu7 1 (.int .i64 ((at_ : Int) + (q : Int)))
          simpa using this
        have hsz8 : w8.heap.size = w7.heap.size := by rw [hw8]; simp [World.setCell]
        have hJ8 : J pre w8 := HJ.out pre w7 w8 hJ7.out ⟨by rw [hw8]; rfl, by rw [hw8]; rfl, by rw [hw8]; rfl, by rw [hsz8]; exact Nat.le_refl _, fun k _ hk => hb8 k (by simpa using hk), fun k hk => by cases hk⟩
        have hn600 := HN'.out
        subst hn600
        have hok : TnOk b B pre (.slice a x.length c', x) w8 := by
          refine ⟨ownsRow_base (ownsRow_same HOWN.out fun k hk => hb8 k fun e => ?_) hBr.out, hx600.out, (tpRead (s.drop q)).1, ?_⟩
          · have := (HOWN.out.lt k hk).1
            omega
          · have h9 := hpre.out.1
            rw [← HS.out, hst.out] at h9
            exact h9
        obtain ⟨fn, tmps, assign, body, hy, hR⟩ := HY.out pre _ w8 hJ8 hok
        dsimp only at hy
        have HU8 := hide hu8
        have hrd8 : Hid (RdB w8 (.slice ao nb c) b) := hide (((hrd.out.low HLOW.out)).keep fun k hk => hb8 k fun e => (hob k (by rw [← hk]; cases ao <;> rfl)).2.2 e)
        have hpre2 : Hid ((pre ++ [(Value.slice a x.length c', x)]).map Prod.snd ++ (tpRead (b.drop (at_ + q))).1 = (tpRead b).1 ∧ at_ + q + (tpRead (b.drop (at_ + q))).2 = (tpRead b).2) := hide (by
          have h9 := hpre.out
          rw [← HS.out, hst.out] at h9
          have e9 : s.drop q = b.drop (at_ + q) := by rw [HS.out, List.drop_drop]
          rw [← e9]
          refine ⟨?_, ?_⟩
          · rw [List.map_append, List.append_assoc]
            exact h9.1
          · have := h9.2
            simp only at this
            omega)
        have hB8 : Hid (B ≤ w8.heap.size) := hide (by have := hBr.out; have := HLOW.out.size; omega)
        clear hJ8 hok hb8 hu8 hsz8 hu7 hpre hst x0 x1 z0 zl
        go_wp2
        subst hw8
        gi_wp2
        refine hR.mono ?_
        rintro e W3 ⟨rfl, hJ3, hk3⟩
        have hr3 := (hk3.2 rB lB nO).trans HU8.out
        obtain ⟨y0, y1, yf, yl⟩ := two_cells hr3
        have HR3 := hide hr3
        have hrd3 : Hid (RdB W3 (.slice ao nb c) b) := hide (hrd8.out.keep fun k hk => by
          have hk' := hob k (by rw [← hk]; cases ao <;> rfl)
          exact hk3.2 k hk'.1 hk'.2.1)
        have hB3 : Hid (B ≤ W3.heap.size) := hide (Nat.le_trans hB8.out hk3.1)
        have Y1 := hide y1
        clear hk3 hr3 y0 y1 yf
        gi_wp2
        go_roundw
        case rel => exact ⟨_, at_ + q, by have := HNS0.out; have := HNB.out; omega, hpre2, by rw [HR3.out]; simp [HNB.out], by rw [← HNB.out]; exact hrd3, hB3, hJ3⟩
        case measure =>
          have e1 : rAt rB W3 = at_ + q := by
            unfold rAt
            rw [Y1.out]
            simp
            omega
          have e2 : rAt rB wr = at_ := by
            unfold rAt
            rw [(two_cells HUR.out).2.1]
            simp
          rw [e1, e2]
          have := HNS0.out
          have := HNB.out
          omega
end Go.Proofs.YtglgjakjhkdoaaaGreatDoor

/-
  The walk of stuff.Wrap.
-/
import Derived.Test.YtglgjakjhkdoaaaGreatDoorZStC
namespace Go.Proofs.YtglgjakjhkdoaaaGreatDoor
open Go.RowKit Go.Shelf
set_option linter.unusedVariables false
set_option linter.unusedSimpArgs false

attribute [local go_sem] Oper.semAt_some

def stL (pre : List (Value × List UInt8)) : List UInt8 := (pre.map Prod.snd).flatMap part
theorem stL_snoc (pre : List (Value × List UInt8)) (x : Value × List UInt8) : stL (pre ++ [x]) = stL pre ++ part x.2 := by simp [stL]
def WrI (B h sB : Nat) (W5 : World) (L : List UInt8) (W : World) : Prop :=
  ∃ v, W.heap[h]? = some (.cells #[v] 22) ∧ W.ownsRow B 5 1 v L.length (bcells L) ∧ Chg [h, sB] [h, sB] W5 W

theorem WrI.turn {B h sB : Nat} {W5 W W' : World} {L : List UInt8} {row : Option Nat} (hI : WrI B h sB W5 L W) (hg : W.grownBy W' row) (hB : W5.heap.size ≤ B) (hr : ∀ r, row = some r → B ≤ r ∧ ∃ o : Obj, W.heap[r]? = some o ∧ o.isCells = false) : WrI B h sB W5 L W' := by
  obtain ⟨v, h1, h2, h3⟩ := hI
  have hr' := fun r e => (hr r e).2
  refine ⟨v, (grownBy_keeps_cells hg hr' h1 rfl).trans h1, ownsRow_same h2 fun k hk => ?_, ?_⟩
  · rcases h2.2 with ⟨rfl, _⟩ | ⟨g, cap, cur, rfl, _, hgb, _⟩
    · cases hk
    · obtain rfl : g = k := by simpa [Value.ownBlock] using hk
      exact grownBy_keeps_cells hg hr' hgb rfl
  · exact ⟨hg.os.trans h3.os, hg.tape.trans h3.tape, hg.output.trans h3.output, Nat.le_trans h3.size hg.size, fun k hk hn => (hg.block k (Nat.lt_of_lt_of_le hk h3.size) (fun e => by have := (hr k e.symm).1; omega)).trans (h3.block k hk hn), h3.fresh⟩
theorem WrI.set {B h sB : Nat} {W5 W : World} {L : List UInt8} (hI : WrI B h sB W5 L W) (hB : sB < B) (hn : h ≠ sB) (v : Value) : WrI B h sB W5 L (W.setCell ⟨sB, 0, none⟩ v) := by
  obtain ⟨u, h1, h2, h3⟩ := hI
  refine ⟨u, (heap_set_ne hn).trans h1, ownsRow_same h2 fun k hk => heap_set_ne ?_, ?_⟩
  · have := (h2.lt k hk).1; omega
  · have h4 := Chg.setCells (b := sB) [v] 0 W
    refine ⟨h4.os.trans h3.os, h4.tape.trans h3.tape, h4.output.trans h3.output, Nat.le_trans h3.size h4.size, fun k hk hn => (heap_set_ne (fun e => hn (by rw [e]; simp))).trans (h3.block k hk hn), h3.fresh⟩

structure StV (B h sB : Nat) (W5 W : World) (vm : Value) (M : List UInt8) (wr : World) : Prop where
  box : wr.heap[h]? = some (.cells #[vm] 22)
  own : wr.ownsRow B 5 1 vm M.length (bcells M)
  chg : Chg [h, sB] [h, sB] W5 wr
  kf : KeepsFrom B W wr
  kp : SpKp B h W wr
  le : B ≤ wr.heap.size

theorem StV.alloc {B h sB : Nat} {W5 W wr : World} {vm : Value} {M : List UInt8} (H : StV B h sB W5 W vm M wr) (cs : Array Value) (t : TypeId) : StV B h sB W5 W vm M (wr.alloc (.cells cs t)) := by
  have hb : ∀ k, k < wr.heap.size → (wr.alloc (.cells cs t)).heap[k]? = wr.heap[k]? := fun k hk => Below.heap_alloc wr _ _ hk
  have hl := H.le
  have hbl := (heapCell H.box).2.2
  refine ⟨(hb _ hbl).trans H.box, ownsRow_same H.own fun k hk => hb k (H.own.lt k hk).2, ?_, H.kf.trans ((KeepsOthers.alloc wr _).from _), ⟨Nat.le_trans H.kp.1 (by simp), fun k hk hn => (hb k (by omega)).trans (H.kp.2 k hk hn)⟩, by simp; omega⟩
  refine ⟨H.chg.os, H.chg.tape, H.chg.output, Nat.le_trans H.chg.size (by simp), fun k hk hn => (hb k (Nat.lt_of_lt_of_le hk H.chg.size)).trans (H.chg.block k hk hn), H.chg.fresh⟩
theorem StV.drew {B h sB : Nat} {W5 W wr : World} {vm : Value} {M : List UInt8} (H : StV B h sB W5 W vm M wr) : StV B h sB W5 W vm M wr.drew :=
  ⟨H.box, ownsRow_same H.own fun k hk => rfl, ⟨H.chg.os, H.chg.tape, H.chg.output, H.chg.size, H.chg.block, H.chg.fresh⟩, H.kf.trans ((KeepsOthers.drew wr).from _), H.kp, H.le⟩
theorem StV.far {B h sB : Nat} {W5 W wr : World} {vm : Value} {M : List UInt8} (H : StV B h sB W5 W vm M wr) : ∀ k, vm.ownBlock = some k → B ≤ k := fun k hk => (H.own.lt k hk).1
theorem StV.push {B h sB : Nat} {W5 W w0 w1 : World} {vm v' : Value} {M M' : List UInt8} (H : StV B h sB W5 W vm M w0) (hg : w0.grownBy w1 vm.ownBlock) (hown : w1.ownsRow B 5 1 v' M'.length (bcells M')) (hh : h < B) (hB5 : W5.heap.size ≤ B) :
    w1.heap[h]? = some (.cells #[vm] 22) ∧ StV B h sB W5 W v' M' (w1.setCell ⟨h, 0, none⟩ v') ∧ ∀ k, k < B → k ≠ h → (w1.setCell ⟨h, 0, none⟩ v').heap[k]? = w0.heap[k]? := by
  have hle := H.le
  have hb : ∀ k, k < B → w1.heap[k]? = w0.heap[k]? := fun k hk => hg.block k (by omega) fun e => by have := H.far k e.symm; omega
  have hb2 : ∀ k, k < B → k ≠ h → (w1.setCell ⟨h, 0, none⟩ v').heap[k]? = w0.heap[k]? := fun k hk hn => (heap_set_ne hn).trans (hb k hk)
  have e1 := (hb h hh).trans H.box
  have hsz : (w1.setCell ⟨h, 0, none⟩ v').heap.size = w1.heap.size := by simp [World.setCell]
  refine ⟨e1, ⟨?_, ownsRow_same hown fun k hk => heap_set_ne (by have := (hown.lt k hk).1; omega), ?_, ?_, ⟨Nat.le_trans H.kp.1 (by rw [hsz]; exact hg.size), fun k hk hn => (hb2 k hk hn).trans (H.kp.2 k hk hn)⟩, by rw [hsz]; exact Nat.le_trans hle hg.size⟩, hb2⟩
  · have := setCell_heap e1 0 v'
    simpa using this
  · refine ⟨hg.os.trans H.chg.os, hg.tape.trans H.chg.tape, hg.output.trans H.chg.output, by rw [hsz]; exact Nat.le_trans H.chg.size hg.size, fun k hk hn => (hb2 k (by omega) (by intro e; exact hn (by rw [e]; simp))).trans (H.chg.block k hk hn), H.chg.fresh⟩
  · refine H.kf.trans ((KeepsFrom.trans ((KeepsOthers.of_grownBy hg fun j o ej hj => ?_).from B)) ((KeepsOthers.setCell w1 _ _).from B))
    rcases H.own.2 with ⟨rfl, _⟩ | ⟨g, cap, cur, rfl, _, hgb, _⟩
    · cases ej
    · obtain rfl : g = j := by simpa [Value.ownBlock] using ej
      rw [hgb] at hj; cases hj; rfl

set_option maxRecDepth 100000 in
set_option maxHeartbeats 6400000 in
theorem st_Wrap0 (b : List UInt8) (ao : Option Addr) (c : Nat) (w : World) (hx : RdB w (.slice ao b.length c) b) (hle : b.length ≤ c) (hc : c ≤ 9223372036854775807) (hlen : b.length ≤ 1000000) (hlt : 0 < b.length → ∀ k, (Value.slice ao b.length c).ownBlock = some k → k < w.heap.size) :
    Calls Tryz.prog 48 #[.slice ao b.length c] w fun e w' => ∃ a c', e = .returned (.slice a (wrapW b).length c') ∧ w'.ownsRow w.heap.size 5 1 (.slice a (wrapW b).length c') (wrapW b).length (bcells (wrapW b)) ∧ Below w.heap.size w w' := by
  refine (callsIn_wide (n := 3)).1 ?_
  refine callsIn_of_wp_marks Tryz.func48 rfl trivial ?_ rfl
  simp only [Tryz.ntmps48, List.size_toArray, List.length_cons, List.length_nil, Nat.reduceAdd, Nat.reduceSub, Array.replicate_succ, Array.replicate_zero, List.push_toArray, List.append_toArray, List.nil_append, List.cons_append]
  gi_wp2_with (refine ⟨trivial, ?_⟩; refine (callsIn_wide.2 (bt_SplitSeq _ _ _ _ _)).mono ?_; rintro e w' ⟨rfl, rfl⟩)
  obtain ⟨h, hh⟩ : ∃ h, h = w.heap.size := ⟨_, rfl⟩
  obtain ⟨W5, hW5⟩ : ∃ W5, W5 = ((((w.alloc (.cells #[.slice none 0 0] 22)).alloc (.cells #[.int .u8 0] 5)).alloc (.cells #[.slice ao b.length c] 22)).alloc (.cells #[.slice (some ⟨w.heap.size + 1, 0, none⟩) 1 1] 22)).alloc (.cells #[.int .i64 0] 3) := ⟨_, rfl⟩
  have hsz : W5.heap.size = h + 5 := by rw [hW5, hh]; simp
  have ka : ∀ (X : World) (o : Obj), (X.alloc o).heap[X.heap.size]? = some o := fun X o => World.alloc_heap_new X o
  have kb : ∀ (X : World) (o : Obj) (k : Nat) (y : Obj), X.heap[k]? = some y → (X.alloc o).heap[k]? = some y := fun X o k y hk => (Below.heap_alloc X o k (Array.getElem?_eq_some_iff.1 hk).1).trans hk
  have k0 : W5.heap[h]? = some (.cells #[.slice none 0 0] 22) := by
    rw [hW5, hh]
    exact kb _ _ _ _ (kb _ _ _ _ (kb _ _ _ _ (kb _ _ _ _ (ka w _))))
  have k1 : W5.heap[h + 1]? = some (.cells #[.int .u8 0] 5) := by
    rw [hW5, hh]
    have := ka (w.alloc (.cells #[.slice none 0 0] 22)) (.cells #[.int .u8 0] 5)
    rw [World.size_alloc] at this
    exact kb _ _ _ _ (kb _ _ _ _ (kb _ _ _ _ this))
  have k2 : W5.heap[h + 2]? = some (.cells #[.slice ao b.length c] 22) := by
    rw [hW5, hh]
    have := ka ((w.alloc (.cells #[.slice none 0 0] 22)).alloc (.cells #[.int .u8 0] 5)) (.cells #[.slice ao b.length c] 22)
    rw [World.size_alloc, World.size_alloc] at this
    exact kb _ _ _ _ (kb _ _ _ _ this)
  have k3 : W5.heap[h + 3]? = some (.cells #[.slice (some ⟨h + 1, 0, none⟩) 1 1] 22) := by
    rw [hW5, hh]
    have := ka (((w.alloc (.cells #[.slice none 0 0] 22)).alloc (.cells #[.int .u8 0] 5)).alloc (.cells #[.slice ao b.length c] 22)) (.cells #[.slice (some ⟨w.heap.size + 1, 0, none⟩) 1 1] 22)
    rw [World.size_alloc, World.size_alloc, World.size_alloc] at this
    exact kb _ _ _ _ this
  have k4 : W5.heap[h + 4]? = some (.cells #[.int .i64 0] 3) := by
    rw [hW5, hh]
    have := ka ((((w.alloc (.cells #[.slice none 0 0] 22)).alloc (.cells #[.int .u8 0] 5)).alloc (.cells #[.slice ao b.length c] 22)).alloc (.cells #[.slice (some ⟨w.heap.size + 1, 0, none⟩) 1 1] 22)) (.cells #[.int .i64 0] 3)
    rw [World.size_alloc, World.size_alloc, World.size_alloc, World.size_alloc] at this
    exact this
  have hB5 : Below h w W5 := by
    rw [hW5, hh]
    exact (((((Below.refl _ w).alloc (Nat.le_refl _) _).alloc (by simp) _).alloc (by simp; omega) _).alloc (by simp; omega) _).alloc (by simp; omega) _
  rw [← hW5]
  simp only [← hh]
  have hlt' : 0 < b.length → ∀ k, (Value.slice ao b.length c).ownBlock = some k → k < h + 5 ∧ k ≠ h ∧ k ≠ h + 2 := fun h0 k hk => by
    have := hlt h0 k hk
    omega
  have hx5 : RdB W5 (.slice ao b.length c) b := hx.low (by rw [← hh]; exact hB5)
  have HH := hide hh
  have HSZ := hide hsz
  have HW5 := hide hW5
  clear hW5
  refine wpIn_rangeFunc_st (encs := fun x : Value × List UInt8 => #[x.1]) rfl (by omega) (gf := 86) (lb := #[.pointer (some ⟨h + 1 + 1 + 1, 0, none⟩), .pointer (some ⟨h + 1 + 1, 0, none⟩), .pointer (some ⟨h + 1 + 1 + 2, 0, none⟩)]) rfl trivial (enters_of Tryz.func86 (by kernel_rfl) rfl) (fun _ => rfl)
    (SpOk b (h + 5) h (h + 2)) (SpKp (h + 5) h) (SpSt (h + 2)) (fun xs => xs.map Prod.snd = splitZ b)
    (sp_iter (3 - 1) (by omega) b ao c (h + 5) h (h + 2) (h + 3) (h + 4) (h + 1) W5 k2 k3 k4 (heapCell k1).1 hx5 hle hc hlt' (by omega) (by omega) (by omega) (by omega))
    (fun h1 h2 => ⟨Nat.le_trans h1.1 h2.1, fun k hk hn => (h2.2 k hk hn).trans (h1.2 k hk hn)⟩)
    (fun W l o o' hl hl2 ho => ⟨by simp, fun k hk hn => World.putObj_heap_other (by omega)⟩)
    (fun pre W => WrI (h + 5) h (h + 2) W5 (stL pre) W)
    (fun s X X' hs ⟨v, hv⟩ => hv ▸ hs.set (by omega) (by omega) v)
    (fun X X' ⟨v, hv⟩ => hv ▸ (KeepsOthers.setCell X _ v).from _)
    (fun s X X' row hs hg hr => hs.turn hg (by omega) (fun r e => by have := hr r e; rw [hsz] at this; exact this))
    (fun s x X l o o' ⟨q1, q2, q3, q4⟩ hl hl2 ho => ⟨q1.keep0 fun h0 j hj => World.putObj_heap_other (by have := (q3 h0 j hj).1; omega), q2, q3, q4⟩)
    ⟨_, k0, World.ownsRow_nil _ _ _ _, Chg.refl _ _⟩
    (fun x => { tmps := #[.slice ao b.length c, undef, .slice none 0 0, .pointer (some ⟨h, 0, none⟩), x.1, .slice ao b.length c, .slice (some ⟨h + 1, 0, none⟩) 1 1, .func (.func 86) #[] #[.pointer (some ⟨h + 1 + 1 + 1, 0, none⟩), .pointer (some ⟨h + 1 + 1, 0, none⟩), .pointer (some ⟨h + 1 + 1 + 2, 0, none⟩)], x.1, undef, undef, undef, undef, undef, undef, undef, undef, undef, undef, undef, undef, undef, undef, undef, undef, undef, undef, undef, undef, undef, undef, undef, undef, undef], defers := [] }) ?assign ?body ?done
  case assign =>
    clear hh hsz
    intro l x W K hK
    gi_wp2
    exact hK
  case body =>
    rintro l pre x W ⟨v, c1, hrow, hchg⟩ ⟨q1, ⟨ax, q2⟩, q3, rr, q4⟩
    obtain ⟨xv, p⟩ := x
    dsimp only at q1 q2 q3 q4 ⊢
    subst q2
    obtain ⟨L, hL⟩ : ∃ L, L = stL pre := ⟨_, rfl⟩
    rw [← hL] at hrow
    obtain ⟨f1, f2, f3⟩ := heapCell c1
    have hLp : (L ++ part p).length ≤ 1100000 := by
      have h1 := wrap_length b
      have h2 : wrapW b = (L ++ part p) ++ (rr.flatMap part ++ [0]) := by
        unfold wrapW bodyW
        rw [← q4, hL]
        simp [stL]
      rw [h2, List.length_append] at h1
      omega
    have hpl : p.length ≤ 1100000 := by
      have := part_length p.length p (Nat.le_refl _)
      rw [List.length_append] at hLp
      omega
    have HL := hide hL
    have HLP := hide hLp
    have Q1 := hide q1; have Q3 := hide q3
    clear hh hsz hL hLp q4 q1 q3 hlt hlt' hle hc hx hx5
    have hmx : Tryz.prog.follows .mixedOrders = true := by kernel_rfl
    gi_wp2
    gi_loopw [4] (fun pv wr => ∃ (q : List UInt8) (M : List UInt8) (aq : Option Addr) (nq cq : Nat) (vm : Value), pv = .slice aq nq cq ∧ nq ≤ cq ∧ cq ≤ 1100000 ∧ Hid (nq = q.length) ∧ Hid (M ++ part q = L ++ part p) ∧
       Hid (StV (h + 5) h (h + 2) W5 W vm M wr) ∧ Hid (RdB wr (.slice aq nq cq) q) ∧ Hid (0 < nq → ∀ k, (Value.slice aq nq cq).ownBlock = some k → k < h + 5 ∧ k ≠ h ∧ k ≠ h + 2)) (fun pv _ => match pv with | .slice _ n _ => n | _ => 0)
    case atStart =>
      refine ⟨p, L, ax, p.length, p.length, v, rfl, Nat.le_refl _, by omega, hide rfl, hide rfl, hide ⟨c1, hrow, hchg, KeepsFrom.refl _ _, ⟨Nat.le_refl _, fun _ _ _ => rfl⟩, ?_⟩, Q1, Q3⟩
      have := hchg.size; have := HSZ.out; omega
    case round =>
      obtain ⟨q, M, aq, nq, cq, vm, rfl, hnc, hcm, hnq, hM, hst, hq, hqb⟩ := hrel
      obtain ⟨g1, g2, g3⟩ := heapCell hst.out.box
      obtain ⟨av, cv, rfl⟩ := (ownsRow_rd hst.out.own).head
      have hMl : M.length ≤ 1100000 := by
        have h1 := congrArg List.length hM.out
        have h2 := HLP.out
        rw [List.length_append] at h1
        omega
      have HML := hide hMl
      by_cases hbig : 254 ≤ nq
      · have b1 : (254 : Int) ≤ (nq : Int) := by omega
        have b2 : (254 : Int) ≤ (cq : Int) := by omega
        have hrd1 := hide (rd_new wr #[.int .u8 255] 5 1 1 (by decide) rfl)
        have hst1 := hide (hst.out.alloc #[.int .u8 255] 5)
        clear hMl
        gi_wp2_with (gi_at_builtin; refine wpListIn_append_rd rfl _ _ 22 rfl (h + 5) 5 Tryz.underlying22 (by kernel_rfl) _ M rfl (by exact hst1.out.own) _ [255] rfl (by exact hrd1.out) (by have := HML.out; simp; omega) (by exact hst1.out.le) ?_; intro a1 co1 w1 hown1 hg1; obtain ⟨e1, e2, e3⟩ := hst1.out.push hg1 hown1 (by omega) (by have := HSZ.out; omega); obtain ⟨n1, hn1⟩ : ∃ n1, n1 = (M ++ [255]).length := ⟨_, rfl⟩; rw [← hn1] at e2 e3 ⊢; have N1 := hide hn1; have E2 := hide e2; have E3 := hide e3; obtain ⟨d1, d2, d3⟩ := heapCell e1; clear hn1 e2 e3 hown1 hg1 e1)
        refine wpIn_region_any hmx ?_
        change wpAnyIn _ _ _ _ _ _ _ _ _ (World.drew _)
        have E2' := hide E2.out.drew
        obtain ⟨ad, rfl⟩ : ∃ ad, aq = some ad := by
          rcases hq.out.2 with ⟨he, hz⟩ | ⟨ad2, c2, he, _⟩
          · simp only [Value.slice.injEq] at he; omega
          · simp only [Value.slice.injEq] at he
            exact ⟨ad2, he.1⟩
        have hl254 : (q.take 254).length = 254 := by have := hnq.out; simp; omega
        have hlen2 : (M ++ [255]).length + (q.take 254).length ≤ 70368744177664 := by rw [hl254]; have := HML.out; simp; omega
        have hq2 : Hid (RdB (w1.setCell ⟨h, 0, none⟩ (.slice a1 n1 co1)).drew (.slice (some ad) 254 cq) (q.take 254)) := hide (by
          refine (hq.out.upto hnq.out 254 cq 254 hl254.symm).keep fun j hj => ?_
          have hj' := hqb.out (by omega) j hj
          have hsz5 := hst.out.le
          exact (E3.out j hj'.1 hj'.2.1).trans (Below.heap_alloc wr _ _ (by omega)))
        have hM2 : Hid (M ++ [255] ++ q.take 254 ++ part (q.drop 254) = L ++ part p) := hide (by
          rw [← hM.out, part_long (show 254 ≤ q.length by have := hnq.out; omega)]
          simp)
        have hq3 := hide (hq.out.rest hnq.out hnc 254 (cq - 254) (nq - 254) (by have := hnq.out; simp; omega))
        have hqb2 : Hid (0 < nq - 254 → ∀ k, (Value.slice (if cq = 254 then some ad else some ⟨ad.block, ad.off + 254, none⟩) (nq - 254) (cq - 254)).ownBlock = some k → k < h + 5 ∧ k ≠ h ∧ k ≠ h + 2) := hide fun _ k hk => by
          rw [ownBlock_rest] at hk
          exact hqb.out (by omega) k hk
        have hkeep : Hid (∀ k, k < h + 5 → k ≠ h → (w1.setCell ⟨h, 0, none⟩ (.slice a1 n1 co1)).drew.heap[k]? = wr.heap[k]?) := hide fun k h1 h2 => by
          have hsz5 := hst.out.le
          exact (E3.out k h1 h2).trans (Below.heap_alloc wr _ _ (by omega))
        clear hl254
        refine wpAnyIn_ready (rs := [0, 1]) (by kernel_rfl) (by simp) ?_; refine AllReadyIn.cons rfl (fun K hK => ?ga) (AllReadyIn.cons rfl (fun K hK => ?gb) AllReadyIn.nil)
        case' ga => (go_simp; refine hK _ _ ?_; clear hK K; refine wpAnyIn_ready (rs := [1]) (by kernel_rfl) (by simp) ?_; refine AllReadyIn.cons rfl (fun K hK => ?_) AllReadyIn.nil; go_simp; refine hK _ _ ?_; clear hK K; refine wpAnyIn_ready (rs := [2]) (by kernel_rfl) (by simp) ?_; refine AllReadyIn.cons rfl (fun K hK => ?_) AllReadyIn.nil; go_simp; refine hK _ _ ?_; clear hK K)
        case' gb => (go_simp; refine hK _ _ ?_; clear hK K; refine wpAnyIn_ready (rs := [0, 2]) (by kernel_rfl) (by simp) ?_; refine AllReadyIn.cons rfl (fun K hK => ?ge) (AllReadyIn.cons rfl (fun K hK => ?gf) AllReadyIn.nil); (case' ge => (go_simp; refine hK _ _ ?_; clear hK K; refine wpAnyIn_ready (rs := [2]) (by kernel_rfl) (by simp) ?_; refine AllReadyIn.cons rfl (fun K hK => ?_) AllReadyIn.nil; go_simp; refine hK _ _ ?_; clear hK K)); (case' gf => (go_simp; refine hK _ _ ?_; clear hK K; refine wpAnyIn_ready (rs := [0]) (by kernel_rfl) (by simp) ?_; refine AllReadyIn.cons rfl (fun K hK => ?_) AllReadyIn.nil; go_simp; refine hK _ _ ?_; clear hK K)))
        all_goals (
          refine wpAnyIn_ready (rs := [3]) (by kernel_rfl) (by simp) ?_
          refine AllReadyIn.cons rfl (fun K hK => stepIn_append_rd rfl _ _ 22 rfl (h + 5) 5 Tryz.underlying22 (by kernel_rfl) _ (M ++ [255]) rfl (by exact E2'.out.own) _ (q.take 254) rfl (by exact hq2.out) hlen2 (by exact E2'.out.le) ?_) AllReadyIn.nil
          intro a2 co2 w2 hown2 hg2
          obtain ⟨e1', e2', e3'⟩ := E2'.out.push hg2 hown2 (by omega) (by have := HSZ.out; omega)
          obtain ⟨n2, hn2⟩ : ∃ n2, n2 = (M ++ [255] ++ q.take 254).length := ⟨_, rfl⟩
          rw [← hn2] at e2' e3' ⊢
          obtain ⟨i1, i2, i3⟩ := heapCell e1'
          have N2 := hide hn2; have E4 := hide e2'; have E5 := hide e3'
          clear hn2 e2' e3' hown2 hg2 e1'
          refine hK _ _ ?_
          clear hK K
          refine wpAnyIn_ready (rs := [4]) (by kernel_rfl) (by simp) ?_
          refine AllReadyIn.cons rfl (fun K hK => ?_) AllReadyIn.nil
          go_simp
          refine hK _ _ ?_
          clear hK K
          refine wpAnyIn_done (by kernel_rfl) ?_ _
          gi_wp2
          go_roundw
          case rel =>
            exact ⟨q.drop 254, M ++ [255] ++ q.take 254, (if cq = 254 then some ad else some ⟨ad.block, ad.off + 254, none⟩), nq - 254, cq - 254, _, rfl, by omega, by omega, hide (by have := hnq.out; simp; omega), hM2, E4, hide (hq3.out.keep fun j hj => by
              have hj2 := hj
              rw [ownBlock_rest] at hj2
              have hj' := hqb.out (by omega) j hj2
              exact (E5.out j hj'.1 hj'.2.1).trans (hkeep.out j hj'.1 hj'.2.1)), hqb2⟩
          case measure => simp <;> omega)
      · have b1 : ¬ ((254 : Int) ≤ (nq : Int)) := by omega
        have hnq1 : nq + 1 < 256 := by omega
        clear hmx
        have hrd1 : Hid (RdB (wr.alloc (.cells #[.int .u8 ((nq : Int) + 1)] 5)) (.slice (some ⟨wr.heap.size, 0, none⟩) 1 1) [UInt8.ofNat (nq + 1)]) := hide (by
          have h1 := rd_new wr #[.int .u8 ((nq : Int) + 1)] 5 1 1 (by decide) rfl
          have h2 : bcells [UInt8.ofNat (nq + 1)] = [.int .u8 ((nq : Int) + 1)] := by
            simp only [bcells, List.map_cons, List.map_nil]
            rw [toNat_ofNat_lt hnq1]
            rfl
          show Rd _ _ 1 1 (bcells [UInt8.ofNat (nq + 1)])
          rw [h2]
          exact h1)
        have hst1 := hide (hst.out.alloc #[.int .u8 ((nq : Int) + 1)] 5)
        have hqw : Hid (RdB (wr.alloc (.cells #[.int .u8 ((nq : Int) + 1)] 5)) (.slice aq nq cq) q) := hide (hq.out.alloc _)
        clear hMl
        gi_wp2_with (first
          | (gi_at_builtin; (refine wpListIn_append_rd rfl _ _ 22 rfl (h + 5) 5 Tryz.underlying22 (by kernel_rfl) _ M rfl (by exact hst1.out.own) _ [UInt8.ofNat (nq + 1)] rfl (by exact hrd1.out) (by have := HML.out; simp; omega) (by exact hst1.out.le) ?_; intro a1 co1 w1 hown1 hg1; obtain ⟨e1, e2, e3⟩ := hst1.out.push hg1 hown1 (by omega) (by have := HSZ.out; omega); have hqx := hide (hqw.out.keep0 fun h0 j hj => e3 j (hqb.out (by have := hnq.out; omega) j hj).1 (hqb.out (by have := hnq.out; omega) j hj).2.1); obtain ⟨n1, hn1⟩ : ∃ n1, n1 = (M ++ [UInt8.ofNat (nq + 1)]).length := ⟨_, rfl⟩; rw [← hn1] at e2 e3 hqx ⊢; have N1 := hide hn1; have E2 := hide e2; have E3 := hide e3; obtain ⟨d1, d2, d3⟩ := heapCell e1; clear hn1 e2 e3 hown1 hg1 e1 hst1 hrd1))
          | (gi_at_builtin; refine wpListIn_append_rd rfl _ _ 22 rfl (h + 5) 5 Tryz.underlying22 (by kernel_rfl) _ (M ++ [UInt8.ofNat (nq + 1)]) rfl (by exact E2.out.own) _ q rfl (by exact hqx.out) (by have := HML.out; have := hnq.out; simp; omega) (by exact E2.out.le) ?_; intro a2 co2 w2 hown2 hg2; obtain ⟨e1', e2', e3'⟩ := E2.out.push hg2 hown2 (by omega) (by have := HSZ.out; omega); obtain ⟨n2, hn2⟩ : ∃ n2, n2 = (M ++ [UInt8.ofNat (nq + 1)] ++ q).length := ⟨_, rfl⟩; rw [← hn2] at e2' e3' ⊢; have N2 := hide hn2; have E4 := hide e2'; have E5 := hide e3'; obtain ⟨i1, i2, i3⟩ := heapCell e1'; clear hn2 e2' e3' hown2 hg2 e1'))
        have E := E4.out
        refine ⟨by rw [HSZ.out]; exact E.kf, E.kp, ⟨_, E.box, ?_, E.chg⟩⟩
        have hfin : M ++ [UInt8.ofNat (nq + 1)] ++ q = stL (pre ++ [(.slice ax p.length p.length, p)]) := by
          rw [stL_snoc, ← HL.out]
          show _ = L ++ part p
          rw [← hM.out, part_short (show q.length < 254 by have := hnq.out; omega), hnq.out]
          simp
        rw [← hfin]
        exact E.own
  case done =>
    rintro D xs W hD hS ⟨v, c1, hrow, hchg⟩ hK
    have hLb : stL xs = bodyW b := by unfold stL bodyW; rw [hS]
    rw [hLb] at hrow
    obtain ⟨L, hL⟩ : ∃ L, L = bodyW b := ⟨_, rfl⟩
    rw [← hL] at hrow
    have hLl : L.length ≤ 1100000 := by
      have h1 := wrap_length b
      unfold wrapW at h1
      rw [List.length_append, ← hL] at h1
      omega
    obtain ⟨f1, f2, f3⟩ := heapCell c1
    obtain ⟨av, cv, rfl⟩ := (ownsRow_rd hrow).head
    have hle5 : h + 5 ≤ W.heap.size := by have := hchg.size; omega
    have hst : Hid (StV (h + 5) h (h + 2) W5 W (.slice av L.length cv) L W) := hide ⟨c1, hrow, hchg, KeepsFrom.refl _ _, ⟨Nat.le_refl _, fun _ _ _ => rfl⟩, hle5⟩
    have hrd1 := hide (rd_new W #[.int .u8 0] 5 1 1 (by decide) rfl)
    have hst1 := hide (hst.out.alloc #[.int .u8 0] 5)
    have HL := hide hL
    have HLL := hide hLl
    have HK := hide hK
    have hDl := (Array.getElem?_eq_some_iff.1 hK).1
    clear hh hsz hL hLl hlt hlt' hle hc hx hx5 hS hLb hrow hK
    gi_wp2_with (gi_at_builtin; (refine wpListIn_append_rd rfl _ _ 22 rfl (h + 5) 5 Tryz.underlying22 (by kernel_rfl) _ L rfl (by exact hst1.out.own) _ [0] rfl (by exact hrd1.out) (by have := HLL.out; simp; omega) (by exact hst1.out.le) ?_; intro a1 co1 w1 hown1 hg1; obtain ⟨n1, hn1⟩ : ∃ n1, n1 = (L ++ [0]).length := ⟨_, rfl⟩; rw [← hn1]; have N1 := hide hn1; have HO := hide hown1; have HG : Hid ((W.alloc (.cells #[.int .u8 0] 5)).grownBy w1 (Value.slice av L.length cv).ownBlock) := hide hg1; clear hn1 hown1 hg1))
    have hblk : ∀ k, k < W.heap.size → k < h + 5 ∨ k = D → w1.heap[k]? = W.heap[k]? := fun k hk hkD => by
      refine (HG.out.block k (by simp; omega) fun e => ?_).trans (Below.heap_alloc W _ k hk)
      rcases hkD with h1 | h1
      · have := hst1.out.far k e.symm; omega
      · subst h1
        rcases hst1.out.own.2 with ⟨e2, _⟩ | ⟨g, cap, cur, e2, _, hgb, _⟩
        · rw [e2] at e; cases e
        · have e3 := (Below.heap_alloc W (.cells #[.int .u8 0] 5) k hk).trans HK.out
          rw [e2] at e
          obtain rfl : k = g := by simpa [Value.ownBlock] using e
          rw [hgb] at e3
          cases e3
    have hK1 := (hblk D hDl (.inr rfl)).trans HK.out
    refine ⟨by simp, .inl ⟨_, _, rfl, run_takeDeferred hK1, ?_⟩⟩
    have hfin : L ++ [0] = wrapW b := by rw [HL.out]; rfl
    refine ⟨_, results_tmp rfl _ _ _, a1, co1, ?_, ?_, ?_⟩
    · rw [← hfin, ← N1.out]
      rfl
    · rw [← hfin, ← HH.out]
      exact ownsRow_base (ownsRow_putObj HO.out _ hK1 rfl) (by omega)
    · rw [← HH.out]
      have hg := HG.out
      have hs5 := HSZ.out
      refine ⟨hg.os.trans (hchg.os.trans hB5.os), hg.tape.trans (hchg.tape.trans hB5.tape), hg.output.trans (hchg.output.trans hB5.output), ?_, fun k hk => ?_⟩
      · have h1 := hg.size
        have h2 := hchg.size
        have h3 := hB5.size
        simp at h1 ⊢
        omega
      · have hd : k ≠ D := by omega
        refine (World.putObj_heap_other hd).trans ((hblk k (by omega) (.inl (by omega))).trans ((hchg.block k (by omega) ?_).trans (hB5.block k hk)))
        simp
        omega
theorem st_Wrap (b : List UInt8) (ao : Option Addr) (c : Nat) (w : World) (hx : RdB w (.slice ao b.length c) b) (hle : b.length ≤ c) (hc : c ≤ 9223372036854775807) (hlen : b.length ≤ 1000000) (hlt : ∀ k, (Value.slice ao b.length c).ownBlock = some k → k < w.heap.size) :
    Calls Tryz.prog 48 #[.slice ao b.length c] w fun e w' => ∃ a c', e = .returned (.slice a (wrapW b).length c') ∧ w'.ownsRow w.heap.size 5 1 (.slice a (wrapW b).length c') (wrapW b).length (bcells (wrapW b)) ∧ Below w.heap.size w w' := st_Wrap0 b ao c w hx hle hc hlen fun _ => hlt
end Go.Proofs.YtglgjakjhkdoaaaGreatDoor

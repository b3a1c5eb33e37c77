/-
  The walk of Due.
-/
import Derived.Test.YtjehoingphndnaaTiB
namespace Go.Proofs.Ytjehoingphndnaa
open Go.RowKit Go.Maps
set_option linter.unusedVariables false
set_option linter.unusedSimpArgs false

theorem rd_new2 (w : World) (cs : Array Value) (e : TypeId) (n m size : Nat) (hn : n = w.heap.size) (hs : 0 < m) (h : cs.size = m * size) : Rd (w.alloc (.cells cs e)) (.slice (some ⟨n, 0, none⟩) m m) size m cs.toList := by
  subst hn
  exact rd_new w cs e m size hs h
/-- those of ks start anew -/
def bumped (tk now : Nat) (m : Runs) (ks : List Int) : Runs := fun k => if k ∈ ks then (m k).map (bump tk now) else m k
theorem bumped_snoc (tk now : Nat) (m : Runs) (ks : List Int) (k : Int) (r : Run) (hr : m k = some r) (hn : k ∉ ks) : setR (bumped tk now m ks) k (some (bump tk now r)) = bumped tk now m (ks ++ [k]) := by
  funext k'
  unfold setR bumped
  by_cases h : k' = k
  · subst h; simp [hr]
  · by_cases h2 : k' ∈ ks <;> simp [h, h2]
/-- behind i of the series -/
structure Due2 (w0 : World) (tb tk now : Nat) (m : Runs) (n : Nat) (F : List Nat) (L : List Int) (oa : Option Addr) (oc i : Nat) (w : World) : Prop where
  tm : TM w tb tk (bumped tk now m (L.take i)) n F
  chg : Chg F F w0 w
  row : w.ownsRow w0.heap.size 23 1 (.slice oa L.length oc) L.length (L.map encU)

set_option maxRecDepth 100000 in
set_option maxHeartbeats 3200000 in
theorem ti_Due (tb tk n : Nat) (m : Runs) (F : List Nat) (now : Nat) (hnow : now < Md) (htk : tk ≤ 1000) (hn : n ≤ 255) (hm : ∀ k r, m k = some r → r.1 ≤ 1000000) (w : World) (h : TM w tb tk m n F) :
    Calls Try.prog 11 #[.pointer (some ⟨tb, 0, none⟩), .int .u64 now] w fun e w' => ∃ (L : List Int) (a : Option Addr) (c : Nat), e = .returned (.slice a L.length c) ∧ w'.ownsRow w.heap.size 23 1 (.slice a L.length c) L.length (L.map encU) ∧
      L.Pairwise (fun x y => x < y) ∧ (∀ k, k ∈ L ↔ ∃ r, m k = some r ∧ r.2 ≤ now) ∧ L.length ≤ n ∧ TM w' tb tk (bumped tk now m L) n F ∧ Chg F F w w' := by
  have H := hide h
  obtain ⟨E, ⟨mb, h1, h2, h3, hF⟩, hmE, hlE⟩ := h.of
  have H1 := hide h1
  have H2 := hide h2
  have hok := hide (OwnM.okE h2)
  have HM := hide hm
  have HME := hide hmE
  have f1 := h1.facts.2.1
  have hmb := hide h2.lt
  obtain ⟨iU, hiU, hyU0, hyU1, hyU2⟩ := info_parts u32_info
  clear h1 h2 h hm hmE
  go_enter Try.func11, Try.ntmps11
  go_wp2_with (at_range; refine wpList_mrange keysTi rfl _ 46 rfl 50 Try.underlying46 rfl H2.out ?_; intro w0 hr0 hg0 hs0; have R0 := hide hr0; have G0 := hide ((Below.refl w.heap.size w).grown hg0 (Nat.le_refl _) (fun j hj => by cases hj)); have S0 := hide hs0; clear hr0 hg0 hs0; go_frame)
  go_loopw [5, 6, 7] (fun ov _ _ wr => ∃ (R : List (Int × Run)) (ks : List Int) (oa : Option Addr) (oc on : Nat), ov = .slice oa on oc ∧ Hid (on = ks.length) ∧ on ≤ n ∧ Hid (DueInv E now R ks) ∧ Hid (wr.ownsRow w.heap.size 23 1 (.slice oa on oc) on (ks.map encU) ∧ (Value.slice oa on oc).ownBlock ≠ some w.heap.size) ∧ Hid (RangeM wr Try.prog 23 keyL (fun n => (Lit.int .u32 n).wf = true) isRun runV mb w.heap.size E R) ∧ Hid (Below w.heap.size w wr)) (fun _ _ _ wr => wr.rangeLeft mb w.heap.size)
  case atStart => exact ⟨E, [], none, 0, 0, rfl, hide rfl, Nat.zero_le _, hide (DueInv.start E now), hide ⟨World.ownsRow_nil _ _ _ _, by simp [Value.ownBlock]⟩, R0, G0⟩
  case round =>
    obtain ⟨R, ks, oa, oc, on, rfl, hon, honn, hD, hrow, hr, hb⟩ := hrel
    clear R0 G0 S0
    have hsub := hide (by obtain ⟨_, _, _, _, h3, _⟩ := hr.out; exact h3 : ∀ p ∈ R, p ∈ E)
    go_wp2_with (at_next; refine wpList_mnext keysTi rfl _ rfl (fun c : Int × Int => Value.agg #[.int .i64 c.1, .int .u64 c.2]) isRun_inv rfl hr.out ?_ ?_)
    · intro hR
      subst hR
      obtain rfl : on = ks.length := hon.out
      have HS1 := hide (sort_own w.heap.size oa oc ks wr hrow.out.1 (by omega))
      clear hr hsub
      obtain ⟨L, hL⟩ : ∃ L, L = sortL ks := ⟨_, rfl⟩
      have hLp : L.Perm ks := by rw [hL]; exact List.mergeSort_perm ks _
      have hLl : L.length = ks.length := hLp.length_eq
      have hLs : Hid (L.Pairwise fun x y => x < y) := hide (by
        have h1 : L.Pairwise fun x y => (decide (x ≤ y)) = true := by rw [hL]; exact List.pairwise_mergeSort (fun a b c => by simp; omega) (fun a b => by simp; omega) ks
        have h2 : L.Nodup := hLp.nodup_iff.2 hD.out.nodup
        exact (h1.and h2).imp fun {a b} h => by have h3 := h.1; have h4 := h.2; simp at h3; omega)
      have hLm : Hid (∀ k, k ∈ L ↔ ∃ r, m k = some r ∧ r.2 ≤ now) := hide fun k => by
        rw [hLp.mem_iff, hD.out.iff]
        constructor
        · rintro ⟨r, h1, h2, _⟩
          exact ⟨r, by rw [← HME.out]; exact mget_of_mem hok.out h1, h2⟩
        · rintro ⟨r, h1, h2⟩
          exact ⟨r, mget_mem ((HME.out k).trans h1), h2, by simp⟩
      rw [← hL] at HS1
      rw [← hLl] at HS1 honn ⊢
      clear hL hLp hLl hD hon
      have hrl : Hid (∀ k, (Value.slice oa L.length oc).ownBlock = some k → w.heap.size ≤ k ∧ k < wr.heap.size) := hide fun k hk => by
        have h := hrow.out.1.lt k
        cases oa with
        | none => exact h hk
        | some a => exact h hk
      clear hrow
      go_wp2_with (go_at_call 17; refine HS1.out.mono ?_; rintro e w2 ⟨rfl, hS2, hG2⟩; have HS2 := hide hS2; have HB2 := hide (hb.out.grown hG2 hb.out.size fun j hj => (hrl.out j hj).1); clear hS2 hG2)
      go_loopw [9, 10, 33] (fun _ _ iv wx => ∃ i : Nat, iv = .int .i64 i ∧ i ≤ L.length ∧ Hid (Due2 w tb tk now m n F L oa oc i wx)) (fun _ _ iv _ => match iv with | .int _ j => L.length - j.toNat | _ => 0)
      case atStart => exact ⟨0, rfl, Nat.zero_le _, hide ⟨H.out.low HB2.out, Chg.of_below HB2.out, HS2.out⟩⟩
      case round =>
        obtain ⟨i, rfl, hi, hD⟩ := hrel
        clear HS2 HB2 hb HS1 hrl
        by_cases hil : i < L.length
        · obtain ⟨k, hk⟩ : ∃ k, L[i]? = some k := ⟨_, List.getElem?_eq_getElem hil⟩
          have hkm : k ∈ L := List.mem_of_getElem? hk
          obtain ⟨r, hr1, hr2⟩ := (hLm.out k).1 hkm
          have HR1 := hide hr1
          have hrow := hD.out.row
          obtain ⟨g, rfl⟩ : ∃ g, oa = some ⟨g, 0, none⟩ := by
            rcases hrow.2 with ⟨h1, h2⟩ | ⟨g, cap, cur, h1, _⟩
            · omega
            · simp only [Value.slice.injEq] at h1
              exact ⟨g, h1.1⟩
          have hc : wr.cell? ⟨g, i, none⟩ = some (.int .u32 k) := by
            rw [hrow.cellAt i (by omega)]
            simp [hk]
          have hki : k ∉ L.take i := fun h => by
            obtain ⟨j, hj1, hj2⟩ := List.getElem_of_mem h
            have hjl : j < i := by simp at hj1; omega
            have hp := List.pairwise_iff_getElem.1 hLs.out j i (by omega) hil hjl
            rw [List.getElem_take] at hj2
            have : L[i] = k := by rw [List.getElem?_eq_getElem hil] at hk; exact Option.some.inj hk
            omega
          obtain ⟨Ei, ⟨mbi, g1, g2, g3, gF⟩, gm, gl⟩ := hD.out.tm.of
          have hge : Hid (mget k Ei = some r) := hide (by rw [gm]; unfold bumped; rw [if_neg hki]; exact hr1)
          have hkok := (OwnM.okE g2).2 _ (mget_mem hge.out)
          have G1 := hide g1; have G2 := hide g2; have GM := hide gm
          have x1 := g1.facts.2.1
          have htb := hide g1.facts.2.2
          have hmbi := hide g2.lt
          obtain ⟨r1, r2⟩ := r
          have hr1b : r1 ≤ 1000000 := HM.out _ _ hr1
          have KI := hide hki
          have HK := hide hk
          clear hrow hk hkm hr1 hki g1 g2 gm
          go_upto_region 13 with (at_lookup; refine wpList_mlook keysTi rfl _ _ 46 rfl 50 Try.underlying46 (zero_run _) rfl rfl G2.out k rfl hkok _ hge.out (.agg #[.int .i64 r1, .int .u64 r2]) rfl ?_)
          obtain ⟨w3, hw3⟩ : ∃ w3, w3 = wr.alloc (.cells #[.int .i64 ((r1 : Int) + 1), .int .u64 r2] 50) := ⟨_, rfl⟩
          have HB3 : Hid (Below wr.heap.size wr w3) := hide (by rw [hw3]; exact below_alloc _ _)
          have HA3 : Hid (w3.heap[wr.heap.size]? = some (.cells #[.int .i64 ((r1 : Int) + 1), .int .u64 r2] 50 (0, 0))) := hide (by rw [hw3]; exact heap_alloc_at _ _)
          have HZ3 : Hid (wr.heap.size < w3.heap.size) := hide (by rw [hw3]; simp)
          have hcl : Hid (∀ w', Below w3.heap.size w3 w' → w'.cell? ⟨tb, 0, none⟩ = some (.int .u64 tk) ∧ w'.cell? ⟨wr.heap.size, 0, none⟩ = some (.int .i64 ((r1 : Int) + 1)) ∧ w'.cell? ⟨wr.heap.size, 1, none⟩ = some (.int .u64 r2) ∧ w'.frozen? ⟨wr.heap.size, 1, none⟩ = false) := hide fun w' hb => by
            have e1 := (hb.block wr.heap.size HZ3.out).trans HA3.out
            refine ⟨?_, by simp [World.cell?, e1], by simp [World.cell?, e1], by simp [World.frozen?, e1]⟩
            exact (hb.cell (p := ⟨tb, 0, none⟩) (Nat.lt_trans htb.out HZ3.out)).trans ((HB3.out.cell (p := ⟨tb, 0, none⟩) htb.out).trans G1.out.facts.1)
          rw [← hw3]
          clear hw3
          obtain ⟨sb, hsb⟩ : ∃ sb, sb = wr.heap.size := ⟨_, rfl⟩
          rw [← hsb] at hcl HZ3 HA3 ⊢
          have HSB := hide hsb
          clear hsb
          obtain ⟨S, hS⟩ : ∃ S, S = tk * 2 ^ longer r1 := ⟨_, rfl⟩
          obtain ⟨at', hat⟩ : ∃ a, a = (now + S) % Md := ⟨_, rfl⟩
          have hsl : IntKind.u64.wrap ((tk : Int) * 2 ^ (min ((r1 : Int) + 1) 4).toNat) = (S : Int) := by
            have e1 : (min ((r1 : Int) + 1) 4).toNat = longer r1 := by unfold longer; omega
            have e2 : (2 : Nat) ^ longer r1 ≤ 16 := Nat.pow_le_pow_right (n := 2) (by decide) (show longer r1 ≤ 4 by unfold longer; omega)
            rw [e1, show ((tk : Int) * 2 ^ longer r1) = ((tk * 2 ^ longer r1 : Nat) : Int) by push_cast; rfl, wrapUm, ← hS]
            have : S ≤ 1000 * 16 := by rw [hS]; exact Nat.mul_le_mul htk e2
            unfold Md; omega
          have hwn : IntKind.u64.wrap ((now : Int) + S) = (at' : Int) := by rw [hat, ← wrapUm]; rw [show ((now + S : Nat) : Int) = (now : Int) + S by omega]
          have HAT : Hid (bump tk now (r1, r2) = (r1 + 1, at')) := hide (by unfold bump; rw [hat, hS])
          clear hat hS
          refine wp_region_three 11 66 (by kernel_rfl) (by kernel_rfl) rfl (by kernel_rfl) (fun D v w' => Below w3.heap.size w3 w') (fun _ => undef) (Below.refl _ _).drew ?_
          simp only [List.take_succ_cons, List.take_zero, List.drop_succ_cons, List.drop_zero]
          iterate 8 (refine Hav3.read (e := ?_) (fun v => by rfl) (fun D v w h => h) (fun D v w' hD hS => ?_) ?_; rotate_left; (obtain ⟨f1, f2, f3, f4⟩ := hcl.out w' hS; clear hS hD; first | (go_simp; done) | (go_simp; with_reducible rfl)); go_simp)
          iterate 3 (refine Hav3.read (e := ?_) (fun v => by rfl) (fun D v w h => h) (fun D v w' hD hS => ?_) ?_; rotate_left; (obtain ⟨f1, f2, f3, f4⟩ := hcl.out w' hS; clear hS hD; first | (go_simp; done) | (go_simp; with_reducible rfl)); go_simp)
          refine Hav3.fin (fun v w4 hS => ?_)
          have HS4 := hide hS
          obtain ⟨f1', f2', f3', f4'⟩ := hcl.out w4 hS
          clear hS f2'
          go_upto_region 14 with fail
          have hz4 := HS4.out.size
          obtain ⟨w5, hw5⟩ : ∃ w5, w5 = w4.setCell ⟨sb, 1, none⟩ (.int .u64 at') := ⟨_, rfl⟩
          have e4 := (HS4.out.block sb HZ3.out).trans HA3.out
          have HA5 : Hid (w5.heap[sb]? = some (.cells #[.int .i64 ((r1 : Int) + 1), .int .u64 at'] 50 (0, 0))) := hide (by rw [hw5]; simp [World.setCell, Array.getElem?_modify, e4])
          have hz5 : w5.heap.size = w4.heap.size := by rw [hw5]; simp
          have HB5 : Hid (Below wr.heap.size wr w5) := hide (by
            have h1 := HB3.out.trans (HS4.out.mono (Nat.le_trans (Nat.le_of_lt (by rw [← HSB.out]; exact HZ3.out)) (Nat.le_refl _)))
            refine ⟨by rw [hw5]; exact h1.os, by rw [hw5]; exact h1.tape, by rw [hw5]; exact h1.output, by rw [hz5]; exact h1.size, fun b hb => ?_⟩
            rw [← h1.block b hb, hw5]
            have hne : sb ≠ b := by rw [HSB.out]; omega
            simp [World.setCell, Array.getElem?_modify, hne])
          have HZ5 : Hid (sb < w5.heap.size) := hide (by have := HZ3.out; omega)
          have hcl5 : Hid (∀ w', Below w5.heap.size w5 w' → w'.cell? ⟨tb, 1, none⟩ = some (.map (some mbi)) ∧ w'.cell? ⟨sb, 0, none⟩ = some (.int .i64 ((r1 : Int) + 1)) ∧ w'.cell? ⟨sb, 1, none⟩ = some (.int .u64 at')) := hide fun w' hb => by
            have e1 := (hb.block sb HZ5.out).trans HA5.out
            refine ⟨?_, by simp [World.cell?, e1], by simp [World.cell?, e1]⟩
            exact (hb.cell (p := ⟨tb, 1, none⟩) (Nat.lt_trans (by have := htb.out; rw [HSB.out]; exact this) HZ5.out)).trans ((HB5.out.cell (p := ⟨tb, 1, none⟩) htb.out).trans x1)
          rw [← hw5]
          clear hcl hw5 e4 f1' f3' f4' hz4 hz5
          refine wp_region_three 6 66 (by kernel_rfl) (by kernel_rfl) rfl (by kernel_rfl) (fun D v w' => Below w5.heap.size w5 w') (fun _ => undef) (Below.refl _ _).drew ?_
          simp only [List.take_succ_cons, List.take_zero, List.drop_succ_cons, List.drop_zero]
          iterate 6 (refine Hav3.read (e := ?_) (fun v => by rfl) (fun D v w h => h) (fun D v w' hD hS => ?_) ?_; rotate_left; (obtain ⟨f1, f2, f3⟩ := hcl5.out w' hS; clear hS hD; first | (go_simp; done) | (go_simp; with_reducible rfl)); go_simp)
          refine Hav3.fin (fun v w6 hS => ?_)
          have HB6 := hide (HB5.out.trans (hS.mono (Nat.le_trans HB5.out.size (Nat.le_refl _))))
          have hm6 := hide (G2.out.low HB6.out)
          have hel : Ei.length < maxLen := by unfold maxLen; omega
          clear hS hcl5
          go_wp2_with (at_mapUpdate; refine wpList_mput keysTi rfl _ _ _ 46 rfl 50 Try.underlying46 rfl hm6.out hel k rfl hkok ((r1 + 1, at') : Run) rfl rfl ?_; intro w7 hm7 hg7 hs7; have HM7 := hide hm7; have HG7 := hide hg7; clear hm7 hg7 hs7)
          refine ⟨⟨i + 1, by simp, hil, hide ?_⟩, ?_⟩
          · have hg := HG7.out
            have hd := hD.out
            have htake : L.take (i + 1) = L.take i ++ [k] := by
              rw [List.take_add_one, HK.out]
              rfl
            have hmF : mbi ∈ F := by rw [gF]; simp
            have hmw : mbi < w.heap.size := H.out.lt mbi hmF
            have hchg : Chg F F wr w7 := (Chg.of_below HB6.out).trans ⟨hg.os, hg.tape, hg.output, hg.size, fun j hj hn => hg.block j hj fun e => hn (by simp only [Option.some.injEq] at e; rw [e]; exact hmF), fun j hj => .inl hj⟩
            have hrw := hd.row
            refine ⟨⟨_, ⟨mbi, ?_, HM7.out, g3, gF⟩, fun k' => ?_, ?_⟩, hd.chg.trans hchg, ?_⟩
            · exact (hg.block tb (Nat.lt_of_lt_of_le htb.out HB6.out.size) fun e => g3 (by simpa using e.symm)).trans ((HB6.out.block tb htb.out).trans G1.out)
            · rw [mget_set (OwnM.okE G2.out) (OwnM.okE HM7.out) (fun p => mput_mem (kl := keyL) k _ p Ei) k', htake, ← bumped_snoc tk now m (L.take i) k (r1, r2) HR1.out KI.out, HAT.out]
              unfold setR
              simp only [GM.out]
            · have h1 := mdel_len (mget_mem hge.out)
              unfold mput
              rw [mins_length]
              simp only at h1
              omega
            · refine (ownsRow_below hrw HB6.out (Nat.le_refl _)).kept hg (.inr fun e => ?_)
              · have h1 := (hrw.lt _ e).1
                omega
          · show L.length - ((i : Int) + 1).toNat < L.length - ((i : Nat) : Int).toNat
            omega
        · obtain rfl : i = L.length := by omega
          go_wp2
          go_ret
          have hd := hD.out
          have ht := hd.tm
          rw [List.take_length] at ht
          exact ⟨L, oa, oc, rfl, hd.row, hLs.out, hLm.out, honn, ht, hd.chg⟩
    · intro pk p1 p2 c1 c2 w1 hp hc hr1 hg1 hs1 hlt hen
      have hpE := hide (hsub.out _ hp)
      obtain ⟨rfl, rfl⟩ : (p1 : Int) = c1 ∧ (p2 : Int) = c2 := by simpa [runV] using hc
      have hb1 : Hid (Below w.heap.size w w1) := hide (hb.out.grown hg1 hb.out.size fun j hj => by cases hj; exact Nat.le_refl _)
      have HR1 := hide hr1; have HLT := hide hlt
      have hrow1 : Hid (w1.ownsRow w.heap.size 23 1 (.slice oa on oc) on (ks.map encU)) := hide (hrow.out.1.kept hg1 (.inr hrow.out.2))
      have hsz : w.heap.size < w1.heap.size := by
        obtain ⟨_, _, h9, _⟩ := hr1
        exact h9.lt
      have HSZ := hide hsz
      have HP := hide hp
      clear hp hc hr1 hg1 hs1 hlt hr hb hsz
      by_cases hdue : p2 ≤ now
      · have i0 : (p2 : Int) ≤ (now : Int) := by omega
        have hlen := hD.out.len
        have hD2 : Hid (DueInv E now (mdel pk R) (ks ++ [pk])) := hide (hD.out.take hok.out HP.out hpE.out hdue)
        have hn2 : on + 1 ≤ n := by have h1 := hD2.out.len; have h2 := hon.out; simp at h1; omega
        have hrow4 : Hid (∀ o o', ((w1.alloc o).alloc o').ownsRow w.heap.size 23 1 (.slice oa on oc) on (ks.map encU)) := hide fun o o' => (hrow1.out.alloc o).alloc o'
        have hwi : (Nat.add on 1) = on + 1 := rfl
        clear hlen
        go_wp2_with (at_builtin; refine wpList_append_rd rfl (.tmp 25) (.tmp 27) 31 rfl w.heap.size 23 iU (.int .u32 0) 1 4 Try.underlying31 hiU hyU0 hyU1 hyU2 rfl (by decide) (.slice oa on oc) on (ks.map encU) rfl (hrow4.out _ _) _ 1 [.int .u32 pk] rfl (rd_new2 _ _ _ _ 1 1 (by simp) (by simp) (by simp)) (by simp [Value.oneCell']) (by unfold maxLen; omega) (by omega) (by have := HSZ.out; simp; omega) ?_; intro v1 w3 hown hgr hnil hv; obtain ⟨oa1, oc1, rfl⟩ := row1_slice hown; have HOWN := hide hown; have HGR := hide hgr; have HV := hide hv; clear hown hgr hnil hv)
        have hk3 := (HR1.out.kept (World.grownBy_alloc w1 (.cells #[.int .i64 p1, .int .u64 p2] 50) none) (by simp) (by simp))
        have hl3 := HR1.out.left_alloc (.cells #[.int .i64 p1, .int .u64 p2] 50)
        have hk4 := (hk3.kept (World.grownBy_alloc _ (.cells #[.int .u32 pk] 23) none) (by simp) (by simp))
        have hl4 := hk3.left_alloc (.cells #[.int .u32 pk] 23)
        have hrb := hrow1.out.lt
        have hn1 : some mb ≠ (Value.slice oa on oc).ownBlock := fun e => by have := (hrb mb e.symm).1; have := hmb.out; omega
        have hn2' : some w.heap.size ≠ (Value.slice oa on oc).ownBlock := fun e => hrow.out.2 e.symm
        refine ⟨⟨mdel pk R, ks ++ [pk], oa1, oc1, on + 1, by simp, hide (by simp [hon.out]), hn2, hD2, hide ⟨by have := HOWN.out; simpa using this, ?_⟩, hide (hk4.kept HGR.out hn1 hn2'), hide ?_⟩, ?_⟩
        · intro e
          rcases HV.out with h1 | h1
          · rw [h1] at e
            exact hrow.out.2 e
          · rw [h1] at e
            have := HSZ.out
            simp at e
            omega
        · have hx1 := hb1.out.trans ((below_alloc w1 (.cells #[.int .i64 p1, .int .u64 p2] 50)).mono hb1.out.size)
          have hx2 := hx1.trans ((below_alloc _ (.cells #[.int .u32 pk] 23)).mono hx1.size)
          exact hx2.grown HGR.out hx2.size fun j hj => (hrb j hj).1
        · rw [hk4.left_kept HGR.out hn1 hn2', hl4, hl3]
          exact HLT.out
      · have i0 : ¬ ((p2 : Int) ≤ (now : Int)) := by omega
        have hD2 : Hid (DueInv E now (mdel pk R) ks) := hide (hD.out.pass hok.out HP.out hpE.out hdue)
        have hab := hide (below_alloc w1 (.cells #[.int .i64 p1, .int .u64 p2] 50))
        go_wp2
        refine ⟨⟨mdel pk R, ks, oa, oc, on, rfl, hon, honn, hD2, hide ⟨hrow1.out.alloc _, hrow.out.2⟩, hide (HR1.out.kept (World.grownBy_alloc w1 _ none) (by simp) (by simp)), hide (hb1.out.trans (hab.out.mono hb1.out.size))⟩, ?_⟩
        rw [HR1.out.left_alloc]
        exact HLT.out
end Go.Proofs.Ytjehoingphndnaa

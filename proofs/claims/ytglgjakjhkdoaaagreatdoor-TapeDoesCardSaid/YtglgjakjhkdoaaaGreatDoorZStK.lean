/-
  Walks over the reference of what is wrapped: part.
-/
import Derived.Test.YtglgjakjhkdoaaaGreatDoorZStD
import Derived.Test.YtglgjakjhkdoaaaGreatDoorZStE
import Derived.Test.YtglgjakjhkdoaaaGreatDoorZReg3Reg4
namespace Go.Proofs.YtglgjakjhkdoaaaGreatDoor
open Go.RowKit
set_option linter.unusedVariables false
set_option linter.unusedSimpArgs false

def PtRel (W : World) (B : Nat) (G : List UInt8) (ov pv : Value) (wr : World) : Prop :=
  ∃ (O t : List UInt8) (aO ar : Option Addr) (nO cO nt ct : Nat), ov = .slice aO nO cO ∧ pv = .slice ar nt ct ∧ nt ≤ ct ∧ ct ≤ 9223372036854775807 ∧ Hid (nt = t.length) ∧ Hid (nO = O.length) ∧
    Hid (RowIs W B (.slice aO nO cO) O wr) ∧ Hid (RdB wr (.slice ar nt ct) t) ∧ Hid (0 < nt → ∀ k, (Value.slice ar nt ct).ownBlock = some k → k < B) ∧ Hid (O ++ part t = G) ∧ Hid (G.length ≤ 1100000)

set_option maxRecDepth 100000 in
set_option maxHeartbeats 3200000 in
theorem ref_part (W w : World) (B : Nat) (O p : List UInt8) (aO ap : Option Addr) (nO cO np cp : Nat) (hO : RowIs W B (.slice aO nO cO) O w) (hnO : nO = O.length)
    (hp : RdB w (.slice ap np cp) p) (hnp : np = p.length) (hle : np ≤ cp) (hcp : cp ≤ 9223372036854775807) (hlow : 0 < np → ∀ k, (Value.slice ap np cp).ownBlock = some k → k < B) (hlen : (O ++ part p).length ≤ 1100000) :
    Calls Tryz.prog 74 #[.slice aO nO cO, .slice ap np cp] w fun e w' => ∃ a n c, e = .returned (.slice a n c) ∧ n = (O ++ part p).length ∧ RowIs W B (.slice a n c) (O ++ part p) w' ∧ Below B w w' := by
  have hsum : nO + np ≤ 1100000 := by
    have := part_length p.length p (Nat.le_refl _)
    rw [List.length_append] at hlen
    omega
  have HO := hide hO; have HP := hide hp; have HNO := hide hnO; have HNP := hide hnp; have HL := hide hlow; have HG := hide hlen
  obtain ⟨G, hG⟩ : ∃ G, G = O ++ part p := ⟨_, rfl⟩
  rw [← hG] at HG ⊢
  have HGE := hide hG
  clear hO hp hnO hnp hlow hlen hG
  go_enter Tryz.func74, Tryz.ntmps74
  go_wp2
  go_loopw [0, 1] (fun ov pv wr => PtRel W B G ov pv wr ∧ Hid (Below B w wr)) (fun _ pv _ => match pv with | .slice _ n _ => n | _ => 0)
  case atStart => exact ⟨⟨O, p, aO, ap, nO, cO, np, cp, rfl, rfl, hle, hcp, HNP, HNO, HO, HP, HL, hide HGE.out.symm, HG⟩, hide (Below.refl _ _)⟩
  case round =>
    obtain ⟨⟨O, t, aO, ar, nO, cO, nt, ct, rfl, rfl, hntc, hct, hnt, hnO, hO, ht, hbt, hG, hGl⟩, hbw⟩ := hrel
    clear hsum
    have hsum : nO + nt ≤ 1100000 := by
      have h1 := part_length t.length t (Nat.le_refl _)
      have h2 := congrArg List.length hG.out
      have h3 := hGl.out; have h4 := hnt.out; have h5 := hnO.out
      rw [List.length_append] at h2
      omega
    clear HO HP HNO HNP HL HG HGE
    have hBw := hO.out.2.2
    by_cases hbig : 253 < nt
    · have i0 : (253 : Int) < nt := by omega
      have i1 : (254 : Int) ≤ ct := by omega
      have i2 : (254 : Int) ≤ nt := by omega
      have hrd1 := hide (rd_new wr #[.int .u8 255] 5 1 1 (by decide) rfl)
      have HO1 := hide (hO.out.to (below_alloc wr (.cells #[.int .u8 255] 5)))
      have hl0 : Hid (O.length ≤ 1100000) := hide (by have := hnO.out; omega)
      obtain ⟨ad, rfl⟩ : ∃ ad, ar = some ad := by
        rcases ht.out.2 with ⟨he, hz⟩ | ⟨ad2, c2, he, _⟩
        · simp only [Value.slice.injEq] at he; omega
        · simp only [Value.slice.injEq] at he
          exact ⟨ad2, he.1⟩
      have ht1 := hide (ht.out.upto hnt.out 254 ct 254 (by have := hnt.out; simp; omega))
      have ht2 := hide (ht.out.rest hnt.out hntc 254 (ct - 254) (nt - 254) (by have := hnt.out; simp; omega))
      have hnt0 : 0 < nt := by omega
      have HB9 : Hid (∀ j, (Value.slice (if ct = 254 then some ad else some ⟨ad.block, ad.off + 254, none⟩) (nt - 254) (ct - 254)).ownBlock = some j → j < B) := hide fun j hj => by
        rw [ownBlock_rest] at hj
        exact hbt.out hnt0 j hj
      have ha : ∀ j, j < B → (wr.alloc (.cells #[.int .u8 255] 5)).heap[j]? = wr.heap[j]? := fun j hj => Below.heap_alloc wr _ j (by omega)
      have HA := hide ha
      clear ha
      go_wp2_with (first | (at_builtin; refine wpList_copy_own rfl _ _ 22 rfl W B 5 Tryz.underlying22 (by kernel_rfl) _ O rfl (by exact HO1.out) _ [255] rfl (by exact hrd1.out) (by have := hl0.out; simp; omega) ?_; intro a1 co1 w1 hown1 hb1; obtain ⟨n1, hn1⟩ : ∃ n, n = (O ++ [255]).length := ⟨_, rfl⟩; rw [← hn1] at hown1 ⊢; have N1 := hide hn1; have HO1 := hide hown1; have HB1 := hide hb1; have HT1 := hide (RdB.keep ht1.out (w' := w1) fun j hj => (hb1.block j (hbt.out hnt0 j hj)).trans (HA.out j (hbt.out hnt0 j hj))); have HT2 := hide (RdB.keep ht2.out (w' := w1) fun j hj => (hb1.block j (HB9.out j hj)).trans (HA.out j (HB9.out j hj))); clear hn1 hown1 hb1) | (at_builtin; refine wpList_copy_own rfl _ _ 22 rfl W B 5 Tryz.underlying22 (by kernel_rfl) _ (O ++ [255]) rfl (by exact HO1.out) _ (t.take 254) rfl (by exact HT1.out) (by have := hl0.out; simp; omega) ?_; intro a2 co2 w2 hown2 hb2; obtain ⟨n2, hn2⟩ : ∃ n, n = ((O ++ [255]) ++ (t.take 254)).length := ⟨_, rfl⟩; rw [← hn2] at hown2 ⊢; have N2 := hide hn2; have HO2 := hide hown2; have HB2 := hide hb2; have HT3 := hide (RdB.keep HT2.out (w' := w2) fun j hj => hb2.block j (HB9.out j hj)); clear hn2 hown2 hb2))
      have hG2 : Hid (O ++ [255] ++ t.take 254 ++ part (t.drop 254) = G) := hide (by
        rw [← hG.out, part_long (show 254 ≤ t.length by have := hnt.out; omega)]
        simp)
      refine ⟨⟨⟨_, _, _, _, _, _, _, _, rfl, rfl, by omega, by omega, hide (by have := hnt.out; simp; omega), N2, HO2, HT3, hide (fun _ => HB9.out), hG2, hGl⟩, hide ?_⟩, by show nt - 254 < nt; omega⟩
      exact (hbw.out.trans ((below_alloc wr _).mono hBw)).trans (HB1.out.trans HB2.out)
    · have i0 : ¬ ((253 : Int) < nt) := by omega
      have hpt : part t = UInt8.ofNat (nt + 1) :: t := by rw [part_short (by have := hnt.out; omega), ← hnt.out]
      have hl0 : Hid (O.length ≤ 1100000) := hide (by have := hnO.out; omega)
      have e1 : IntKind.u8.wrap ((nt : Int) + 1) = ((nt + 1 : Nat) : Int) := by
        unfold IntKind.wrap
        simp [IntKind.bits, IntKind.signed]
        omega
      have hrd1 := hide (rd_new wr #[.int .u8 ((nt + 1 : Nat) : Int)] 5 1 1 (by decide) rfl)
      have HO1 := hide (hO.out.to (below_alloc wr (.cells #[.int .u8 ((nt + 1 : Nat) : Int)] 5)))
      have ht1 := hide (ht.out.low (below_alloc wr (.cells #[.int .u8 ((nt + 1 : Nat) : Int)] 5)))
      have hrd2 : Hid (RdB (wr.alloc (.cells #[.int .u8 ((nt + 1 : Nat) : Int)] 5)) (.slice (some ⟨wr.heap.size, 0, none⟩) 1 1) [UInt8.ofNat (nt + 1)]) := hide (by
        have := hrd1.out
        unfold RdB
        have e : bcells [UInt8.ofNat (nt + 1)] = [.int .u8 ((nt + 1 : Nat) : Int)] := by simp only [bcells, List.map_cons, List.map_nil]; rw [toNat_ofNat_lt (by omega)]
        rw [e]
        exact this)
      have HPT := hide hpt
      clear hpt hrd1
      go_wp2_with (first | (at_builtin; refine wpList_copy_own rfl _ _ 22 rfl W B 5 Tryz.underlying22 (by kernel_rfl) _ O rfl (by exact HO1.out) _ [UInt8.ofNat (nt + 1)] rfl (by exact hrd2.out) (by have := hl0.out; simp; omega) ?_; intro a1 co1 w1 hown1 hb1; obtain ⟨n1, hn1⟩ : ∃ n, n = (O ++ [UInt8.ofNat (nt + 1)]).length := ⟨_, rfl⟩; rw [← hn1] at hown1 ⊢; have N1 := hide hn1; have HO1 := hide hown1; have HB1 := hide hb1; have HT1 := hide (RdB.keep0 ht1.out (w' := w1) fun h0 j hj => hb1.block j (hbt.out (by have := hnt.out; omega) j hj)); clear hn1 hown1 hb1) | (at_builtin; refine wpList_copy_own rfl _ _ 22 rfl W B 5 Tryz.underlying22 (by kernel_rfl) _ (O ++ [UInt8.ofNat (nt + 1)]) rfl (by exact HO1.out) _ t rfl (by exact HT1.out) (by have := hl0.out; have := hnt.out; simp; omega) ?_; intro a2 co2 w2 hown2 hb2; obtain ⟨n2, hn2⟩ : ∃ n, n = ((O ++ [UInt8.ofNat (nt + 1)]) ++ t).length := ⟨_, rfl⟩; rw [← hn2] at hown2 ⊢; have N2 := hide hn2; have HO2 := hide hown2; have HB2 := hide hb2; skip; clear hn2 hown2 hb2))
      go_ret
      have hGe : O ++ [UInt8.ofNat (nt + 1)] ++ t = G := by rw [← hG.out, HPT.out]; simp
      refine ⟨a2, n2, co2, rfl, by rw [N2.out, hGe], by have := HO2.out; rw [hGe] at this; exact this, ?_⟩
      exact (hbw.out.trans ((below_alloc wr _).mono hBw)).trans (HB1.out.trans HB2.out)

theorem bodyW_cut {o : List UInt8} (ho : NoZ o) (r : List UInt8) : bodyW (o ++ 0 :: r) = part o ++ bodyW r := by
  unfold bodyW
  rw [splitZ_app ho (0 :: r) [] (splitZ r) (splitZ_zero r)]
  simp
theorem bodyW_last {o : List UInt8} (ho : NoZ o) : bodyW o = part o := by
  unfold bodyW
  rw [splitZ_noZ ho]
  simp

def WpRel (b : List UInt8) (w : World) (ov fv iv : Value) (wr : World) : Prop :=
  ∃ (O : List UInt8) (k j : Nat) (aO : Option Addr) (nO cO : Nat), ov = .slice aO nO cO ∧ fv = .int .i64 k ∧ iv = .int .i64 j ∧ k ≤ j ∧ j ≤ b.length ∧ Hid (nO = O.length) ∧
    Hid (RowIs w w.heap.size (.slice aO nO cO) O wr) ∧ Hid (NoZ ((b.drop k).take (j - k))) ∧ Hid (O ++ bodyW (b.drop k) = bodyW b)

set_option maxRecDepth 100000 in
set_option maxHeartbeats 400000 in
theorem ref_Wrap0 (b : List UInt8) (ao : Option Addr) (n c : Nat) (w : World) (hn : n = b.length) (hx : RdB w (.slice ao n c) b) (hle : n ≤ c) (hc : c ≤ 9223372036854775807) (hlen : n ≤ 1048576) (hlt : 0 < n → ∀ k, (Value.slice ao n c).ownBlock = some k → k < w.heap.size) :
    Calls Tryz.prog 62 #[.slice ao n c] w fun e w' => ∃ a n' c', e = .returned (.slice a n' c') ∧ n' = (wrapW b).length ∧ RowIs w w.heap.size (.slice a n' c') (wrapW b) w' := by
  have HX := hide hx; have HN := hide hn; have HL := hide hlt
  have hbl : Hid ((bodyW b).length ≤ 1100000) := hide (by
    have h1 := wrap_length b
    unfold wrapW at h1
    rw [List.length_append] at h1
    omega)
  have hnb : n ≤ b.length ∧ b.length ≤ n := by omega
  clear hx hlt hn
  go_enter Tryz.func62, Tryz.ntmps62
  go_wp2
  go_loopw [3, 4, 5] (fun ov fv iv wr => WpRel b w ov fv iv wr) (fun _ _ iv _ => match iv with | .int _ j => n - j.toNat | _ => 0)
  case atStart => exact ⟨[], 0, 0, none, 0, 0, rfl, rfl, rfl, Nat.le_refl _, by omega, hide rfl, hide ⟨World.ownsRow_nil _ _ _ _, Below.refl _ _, Nat.le_refl _⟩, hide (by intro x hx; simp at hx), hide (by simp)⟩
  case round =>
    obtain ⟨O, k, j, aO, nO, cO, rfl, rfl, rfl, hkj, hjn, hnO, hO, hz, hb⟩ := hrel
    by_cases hj : j < n
    · have i0 : (j : Int) < n := by omega
      obtain ⟨bb, off, c9, he, hcell, hbw⟩ := RdB.at (k := j) (l := b) (by have := HX.out.low hO.out.2.1; rw [HN.out] at this; exact this) (by omega)
      simp only [Value.slice.injEq] at he
      obtain ⟨rfl, -⟩ := he
      have hbd : k ≤ n := by omega
      have hw1 : IntKind.i64.wrap ((j : Int) + 1) = (j : Int) + 1 := by
        unfold IntKind.wrap
        simp [IntKind.bits, IntKind.signed]
        omega
      have hmid : b.drop k = (b.drop k).take (j - k) ++ b[j] :: b.drop (j + 1) := by
        have h2 : (b.drop k).drop (j - k) = b[j] :: b.drop (j + 1) := by rw [List.drop_drop, show k + (j - k) = j by omega, List.drop_eq_getElem_cons (by omega)]
        exact (List.take_append_drop (j - k) _).symm.trans (by rw [h2])
      by_cases h0 : b[j] = 0
      · rw [h0] at hcell hmid
        have j0 : (j : Int) ≤ c := by omega
        have j1 : (k : Int) ≤ j := by omega
        have j2 : (k : Int) ≤ c := by omega
        have hp1 := (HX.out.low hO.out.2.1).upto HN.out j c j (by simp; omega)
        have hp2 := hide (hp1.rest (by simp; omega) (by omega) k (c - k) (j - k) (by simp; omega))
        rw [List.drop_take] at hp2
        rw [if_neg (show c ≠ k by omega)] at hp2
        have HZ := hide hz.out
        have hb2 : Hid (O ++ part ((b.drop k).take (j - k)) ++ bodyW (b.drop (j + 1)) = bodyW b) := hide (by
          have h1 := congrArg bodyW hmid
          rw [bodyW_cut HZ.out] at h1
          rw [← hb.out, h1, List.append_assoc])
        have hl2 : Hid ((O ++ part ((b.drop k).take (j - k))).length ≤ 1100000) := hide (by
          have h1 := congrArg List.length hb2.out
          rw [List.length_append] at h1
          have := hbl.out
          omega)
        have hl3 : Hid (j - k = ((b.drop k).take (j - k)).length) := hide (by simp; omega)
        obtain ⟨P, hP⟩ : ∃ P, P = (b.drop k).take (j - k) := ⟨_, rfl⟩
        rw [← hP] at hp2 HZ hb2 hl2 hl3
        clear hmid h0 hp1 hP hz hb
        go_wp2_with fail
        refine (ref_part w wr w.heap.size O P aO _ nO cO _ _ hO.out hnO.out hp2.out hl3.out (by omega) (by omega) (fun _ k' hk' => HL.out (by omega) k' hk') hl2.out).mono ?_
        rintro e w1 ⟨a1, n1, c1, rfl, hn1, ho1, hb1⟩
        have HO1 := hide ho1; have HN1 := hide hn1
        clear ho1 hn1 hb1
        go_wp2
        exact ⟨⟨O ++ part P, j + 1, j + 1, a1, n1, c1, rfl, rfl, rfl, Nat.le_refl _, by omega, HN1, HO1, hide (by intro x hx; simp at hx), hb2⟩, by show n - (j + 1 : Int).toNat < n - ((j : Nat) : Int).toNat; omega⟩
      · have hne : ¬ (((b[j]).toNat : Int) = 0) := fun e => h0 (UInt8.toNat.inj (by show b[j].toNat = 0; omega))
        have hne2 : (((b[j]).toNat : Int) == 0) = false := by simpa using hne
        have hz2 : Hid (NoZ ((b.drop k).take (j + 1 - k))) := hide (by
          have h1 : (b.drop k).take (j + 1 - k) = (b.drop k).take (j - k) ++ [b[j]] := by
            rw [show j + 1 - k = (j - k) + 1 by omega, List.take_add_one, List.getElem?_drop, show k + (j - k) = j by omega, List.getElem?_eq_getElem (by omega)]
            rfl
          rw [h1]
          intro x hx
          rcases List.mem_append.1 hx with h2 | h2
          · exact hz.out x h2
          · simp only [List.mem_singleton] at h2
            subst h2
            exact h0)
        generalize (b[j]).toNat = y at hcell hne hne2
        clear hmid h0
        go_wp2
        exact ⟨⟨O, k, j + 1, aO, nO, cO, rfl, rfl, rfl, by omega, by omega, hnO, hO, hz2, hb⟩, by show n - (j + 1 : Int).toNat < n - ((j : Nat) : Int).toNat; omega⟩
    · have i0 : ¬ ((j : Int) < n) := by omega
      have hjb : j = b.length := by omega
      have HZ : Hid (NoZ (b.drop k)) := hide (by
        have h1 := hz.out
        rw [List.take_of_length_le (by simp; omega)] at h1
        exact h1)
      have hw2 : Hid (O ++ part (b.drop k) = bodyW b) := hide (by rw [← hb.out, bodyW_last HZ.out])
      have hp : ∃ a2 n2 c2, Hid (RdB wr (.slice a2 n2 c2) (b.drop k)) ∧ Hid (n2 = (b.drop k).length) ∧ n2 ≤ c2 ∧ c2 ≤ 9223372036854775807 ∧ Hid (0 < n2 → ∀ k, (Value.slice a2 n2 c2).ownBlock = some k → k < w.heap.size) ∧
          ((ao = none ∧ k = 0 ∧ n = 0 ∧ c = 0 ∧ a2 = none ∧ n2 = 0 ∧ c2 = 0) ∨ ∃ ad, ao = some ad ∧ k ≤ n ∧ ((c = k ∧ n = k ∧ a2 = some ad ∧ n2 = 0 ∧ c2 = 0) ∨ (c ≠ k ∧ a2 = some (ad.add k) ∧ n2 = n - k ∧ c2 = c - k))) := by
        have hr := HX.out.low hO.out.2.1
        cases ao with
        | none =>
          rcases hr.2 with ⟨he, hz⟩ | ⟨ad2, c2, he, _⟩
          · simp only [Value.slice.injEq, true_and] at he
            have : b.length = 0 := hz
            have hb0 : b = [] := List.eq_nil_of_length_eq_zero this
            subst hb0
            refine ⟨none, 0, 0, hide (by have := RdB.nil wr; simpa using this), hide (by simp), Nat.le_refl _, by omega, hide (fun _ k hk => by cases hk), .inl ⟨rfl, by omega, by omega, by omega, rfl, rfl, rfl⟩⟩
          · simp at he
        | some ad =>
          by_cases hck : c = k
          · have hr2 := hr.rest HN.out hle k 0 0 (by simp; have := HN.out; omega)
            rw [if_pos hck] at hr2
            exact ⟨_, 0, 0, hide hr2, hide (by simp; have := HN.out; omega), by omega, by omega, hide (fun h0 => by omega), .inr ⟨ad, rfl, by omega, .inl ⟨hck, by omega, rfl, rfl, rfl⟩⟩⟩
          · have hr2 := hr.from HN.out k (c - k) (n - k) (by simp; have := HN.out; omega) (by have := HN.out; omega)
            refine ⟨_, n - k, c - k, hide hr2, hide (by simp; have := HN.out; omega), by omega, by omega, hide (fun h0 k' hk' => HL.out (by omega) k' ?_), .inr ⟨ad, rfl, by omega, .inr ⟨hck, rfl, rfl, rfl⟩⟩⟩
            have e : (ad.add k).block = ad.block := by unfold Addr.add; split <;> rfl
            simpa [Value.ownBlock, e] using hk'
      obtain ⟨a2, n2, c2, hp1, hp2, hp3, hp4, hp5, hp6⟩ := hp
      obtain ⟨P, hP⟩ : ∃ P, P = b.drop k := ⟨_, rfl⟩
      rw [← hP] at hp1 hp2 HZ hw2
      have hl2 : Hid ((O ++ part P).length ≤ 1100000) := hide (by rw [hw2.out]; exact hbl.out)
      have hwb : Hid (O ++ part P ++ [0] = wrapW b) := hide (by rw [hw2.out]; rfl)
      have hcall := hide (ref_part w wr w.heap.size O P aO a2 nO cO n2 c2 hO.out hnO.out hp1.out hp2.out hp3 hp4 hp5.out hl2.out)
      clear hz hb hP hjb hnb
      rcases hp6 with ⟨rfl, rfl, rfl, rfl, rfl, rfl, rfl⟩ | ⟨ad, rfl, hkn, ⟨rfl, rfl, rfl, rfl, rfl⟩ | ⟨hck, rfl, rfl, rfl⟩⟩
      · go_wp2_with fail
        refine hcall.out.mono ?_
        rintro e w1 ⟨a1, n1, c1, rfl, hn1, ho1, hb1⟩
        have HN1 := hide hn1
        have hrd1 := hide (rd_new w1 #[.int .u8 0] 5 1 1 (by decide) rfl)
        have HO1 := hide (ho1.to (below_alloc w1 (.cells #[.int .u8 0] 5)))
        clear ho1 hn1 hb1
        go_wp2_with (at_builtin; refine wpList_copy_own rfl _ _ 22 rfl w w.heap.size 5 Tryz.underlying22 (by kernel_rfl) _ (O ++ part P) rfl (by exact HO1.out) _ [0] rfl (by exact hrd1.out) (by have := hl2.out; simp at *; omega) ?_; intro a2 co2 w2 hown2 hb2; obtain ⟨n2, hn2⟩ : ∃ n, n = ((O ++ part P) ++ [0]).length := ⟨_, rfl⟩; rw [← hn2] at hown2 ⊢; have N2 := hide hn2; have HO2 := hide hown2; have HB2 := hide hb2; skip; clear hn2 hown2 hb2)
        go_ret
        exact ⟨_, _, _, rfl, by rw [N2.out, hwb.out], by have := HO2.out; rw [hwb.out] at this; exact this⟩
      · go_wp2_with fail
        refine hcall.out.mono ?_
        rintro e w1 ⟨a1, n1, c1, rfl, hn1, ho1, hb1⟩
        have HN1 := hide hn1
        have hrd1 := hide (rd_new w1 #[.int .u8 0] 5 1 1 (by decide) rfl)
        have HO1 := hide (ho1.to (below_alloc w1 (.cells #[.int .u8 0] 5)))
        clear ho1 hn1 hb1
        go_wp2_with (at_builtin; refine wpList_copy_own rfl _ _ 22 rfl w w.heap.size 5 Tryz.underlying22 (by kernel_rfl) _ (O ++ part P) rfl (by exact HO1.out) _ [0] rfl (by exact hrd1.out) (by have := hl2.out; simp at *; omega) ?_; intro a2 co2 w2 hown2 hb2; obtain ⟨n2, hn2⟩ : ∃ n, n = ((O ++ part P) ++ [0]).length := ⟨_, rfl⟩; rw [← hn2] at hown2 ⊢; have N2 := hide hn2; have HO2 := hide hown2; have HB2 := hide hb2; skip; clear hn2 hown2 hb2)
        go_ret
        exact ⟨_, _, _, rfl, by rw [N2.out, hwb.out], by have := HO2.out; rw [hwb.out] at this; exact this⟩
      · have j1 : (k : Int) ≤ n := by omega
        have j2 : (k : Int) ≤ c := by omega
        go_wp2_with fail
        refine hcall.out.mono ?_
        rintro e w1 ⟨a1, n1, c1, rfl, hn1, ho1, hb1⟩
        have HN1 := hide hn1
        have hrd1 := hide (rd_new w1 #[.int .u8 0] 5 1 1 (by decide) rfl)
        have HO1 := hide (ho1.to (below_alloc w1 (.cells #[.int .u8 0] 5)))
        clear ho1 hn1 hb1
        go_wp2_with (at_builtin; refine wpList_copy_own rfl _ _ 22 rfl w w.heap.size 5 Tryz.underlying22 (by kernel_rfl) _ (O ++ part P) rfl (by exact HO1.out) _ [0] rfl (by exact hrd1.out) (by have := hl2.out; simp at *; omega) ?_; intro a2 co2 w2 hown2 hb2; obtain ⟨n2, hn2⟩ : ∃ n, n = ((O ++ part P) ++ [0]).length := ⟨_, rfl⟩; rw [← hn2] at hown2 ⊢; have N2 := hide hn2; have HO2 := hide hown2; have HB2 := hide hb2; skip; clear hn2 hown2 hb2)
        go_ret
        exact ⟨_, _, _, rfl, by rw [N2.out, hwb.out], by have := HO2.out; rw [hwb.out] at this; exact this⟩
theorem ref_Wrap (b : List UInt8) (ao : Option Addr) (n c : Nat) (w : World) (hn : n = b.length) (hx : RdB w (.slice ao n c) b) (hle : n ≤ c) (hc : c ≤ 9223372036854775807) (hlen : n ≤ 1048576) (hlt : ∀ k, (Value.slice ao n c).ownBlock = some k → k < w.heap.size) :
    Calls Tryz.prog 62 #[.slice ao n c] w fun e w' => ∃ a n' c', e = .returned (.slice a n' c') ∧ n' = (wrapW b).length ∧ RowIs w w.heap.size (.slice a n' c') (wrapW b) w' := ref_Wrap0 b ao n c w hn hx hle hc hlen fun _ => hlt
end Go.Proofs.YtglgjakjhkdoaaaGreatDoor

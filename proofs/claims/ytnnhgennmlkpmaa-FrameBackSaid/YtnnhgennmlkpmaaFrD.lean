/-
  Walks over package frame: write, Encode.
-/
import Derived.Test.YtnnhgennmlkpmaaFrC
namespace Go.Proofs.Ytnnhgennmlkpmaa
open Go.RowKit
set_option linter.unusedVariables false
set_option linter.unusedSimpArgs false

def vals1 (f : Fr) : List Nat := [f.epoch, f.series, f.chunk, f.bits, f.cnt, f.count]
def vals2 (f : Fr) : List Nat := [f.sum / 4294967296, f.sum % 4294967296, (f.n % 4294967296).toNat]
theorem headB_vals (f : Fr) : headB f = ([0x44, 0x59, UInt8.ofNat f.kind] ++ (vals1 f).flatMap be4) ++ [flagB f.closed] ++ (vals2 f).flatMap be4 := by
  simp [headB, vals1, vals2]
theorem vals1_lt {f : Fr} (h : f.Ok) : ∀ n ∈ vals1 f, n < 4294967296 := by
  obtain ⟨o1, o2, o3, o4, o5, o6, o7, o8, o9, o10⟩ := h
  intro n hn
  simp only [vals1, List.mem_cons, List.not_mem_nil, or_false] at hn
  rcases hn with rfl | rfl | rfl | rfl | rfl | rfl <;> assumption
theorem vals2_lt {f : Fr} (h : f.Ok) : ∀ n ∈ vals2 f, n < 4294967296 := by
  obtain ⟨o1, o2, o3, o4, o5, o6, o7, o8, o9, o10⟩ := h
  intro n hn
  simp only [vals2, List.mem_cons, List.not_mem_nil, or_false] at hn
  rcases hn with rfl | rfl | rfl <;> omega
theorem flat_take (l : List Nat) {k : Nat} (hk : k < l.length) : (l.take (k + 1)).flatMap be4 = (l.take k).flatMap be4 ++ be4 l[k] := by
  rw [List.take_succ_eq_append_getElem hk, List.flatMap_append]; simp
theorem flat_len : ∀ l : List Nat, (l.flatMap be4).length = 4 * l.length
  | [] => rfl
  | n :: l => by rw [List.flatMap_cons, List.length_append, flat_len l, be4_length, List.length_cons]; omega

/-- a row of the call's own under way -/
def RowIn (W : World) (B : Nat) (e : TypeId) (v : Value) (l : List UInt8) (w : World) : Prop := w.ownsRow B e 1 v l.length (bcells l) ∧ Below B W w ∧ B ≤ w.heap.size
abbrev RowIs (W : World) (B : Nat) (v : Value) (l : List UInt8) (w : World) : Prop := RowIn W B 5 v l w

theorem rowIs_made (W : World) (B : Nat) (l : List UInt8) (cs : Array Value) (hB : B = W.heap.size) (hcs : cs = (bcells l).toArray) (hl : l.length ≤ 1000000) : RowIs W B (.slice (some ⟨B, 0, none⟩) l.length l.length) l (W.alloc (.cells cs 5)) := by
  subst hB; subst hcs
  refine ⟨⟨by simp [bcells], .inr ⟨W.heap.size, l.length, (bcells l).toArray, rfl, Nat.le_refl _, heap_alloc_at _ _, Nat.le_refl _, by unfold maxLen; omega, by simp [bcells], by rw [Nat.mul_one, List.take_of_length_le (by simp [bcells])]⟩⟩, below_alloc _ _, by simp⟩
theorem RowIn.lt {W w : World} {B : Nat} {v : Value} {l : List UInt8} (h : RowIs W B v l w) : B ≤ w.heap.size := h.2.2
theorem RowIn.to {W w w' : World} {B : Nat} {v : Value} {l : List UInt8} (h : RowIs W B v l w) (hb : Below w.heap.size w w') : RowIs W B v l w' :=
  ⟨ownsRow_below h.1 hb (Nat.le_refl _), h.2.1.trans (hb.mono h.2.2), Nat.le_trans h.2.2 hb.size⟩
theorem RowIn.head {W w : World} {B : Nat} {v : Value} {l : List UInt8} (h : RowIs W B v l w) : ∃ a c, v = .slice a l.length c := (ownsRow_rd h.1).head

theorem FrAt.same {w WF wr : World} {f : Fr} {x : Value} (h : FrAt WF w.heap.size f x) (hb : Below (w.heap.size + 1) WF wr) : FrAt wr w.heap.size f x := (hb.block _ (by omega)).trans h
theorem index6 (v0 v1 v2 v3 v4 v5 : Nat) (k : Nat) (hk : k < 6) (w : World) : (Instr.index 59 (.agg #[.int .u32 v0, .int .u32 v1, .int .u32 v2, .int .u32 v3, .int .u32 v4, .int .u32 v5]) (.int .i64 (k : Int))).run Try.prog w = .ok (.int .u32 (([v0, v1, v2, v3, v4, v5].getD k 0 : Nat) : Int)) w := by
  obtain rfl | rfl | rfl | rfl | rfl | rfl : k = 0 ∨ k = 1 ∨ k = 2 ∨ k = 3 ∨ k = 4 ∨ k = 5 := by omega
  all_goals kernel_rfl
theorem index3 (v0 v1 v2 : Int) (k : Nat) (hk : k < 3) (w : World) : (Instr.index 62 (.agg #[.int .u32 v0, .int .u32 v1, .int .u32 v2]) (.int .i64 (k : Int))).run Try.prog w = .ok (.int .u32 ([v0, v1, v2].getD k 0)) w := by
  obtain rfl | rfl | rfl : k = 0 ∨ k = 1 ∨ k = 2 := by omega
  all_goals kernel_rfl

/-- bytes laid behind a row -/
theorem wpList_copy_own {P : Program} {w : World} {a : Act} {o : Oper} {Q : Exit → Act → World → Prop} {ops : Array Oper} {rest : List Oper} (hgd : o.guard = none) (s x : Operand) (t : TypeId)
    (ho : o.op = .call { callee := .builtin .append, args := #[s, x], argTypes := #[t, t] })
    (W : World) (base : Nat) (e : TypeId) (ht : P.underlying t = some (.slice e)) (hinfo : (P.info? e).map (fun i => (i.zero, i.size, i.bytes)) = some (some (.int .u8 0), 1, 1))
    (v : Value) (l0 : List UInt8) (hs : a.eval s = v) (hown : RowIn W base e v l0 w)
    (xv : Value) (l : List UInt8) (hx : a.eval x = xv) (hrd : RdB w xv l) (hl : l0.length + l.length ≤ 70368744177664)
    (h : ∀ ao co w', RowIn W base e (.slice ao (l0 ++ l).length co) (l0 ++ l) w' → Below base w w' → wpList P ops Q rest (a.put o.dst (.slice ao (l0 ++ l).length co)) w') : wpList P ops Q (o :: rest) a w := by
  refine wpList_copy_rd hgd s x t ho base e ht hinfo v l0 hs hown.1 xv l hx hrd hl hown.2.2 fun ao co w' h1 h2 h3 => ?_
  have e0 : l0.length + l.length = (l0 ++ l).length := by simp
  rw [e0] at h1 ⊢
  have hb : Below base w w' := (Below.refl base w).grown h2 hown.2.2 fun k hk => (hown.1.lt k hk).1
  exact h ao co w' ⟨h1, hown.2.1.trans hb, Nat.le_trans hown.2.2 hb.size⟩ hb

theorem RowIn.chg {W w w' : World} {B tb : Nat} {v : Value} {l : List UInt8} (h : RowIs W B v l w) (hc : Chg [tb] [tb] w w') (hB : B ≤ tb) (hn : ∀ k, v.ownBlock = some k → k ≠ tb) : RowIs W B v l w' :=
  ⟨ownsRow_same h.1 fun k hk => hc.block k (h.1.lt k hk).2 (by simpa using hn k hk), h.2.1.trans (hc.below h.2.2 (by simpa using hB)), Nat.le_trans h.2.2 hc.size⟩
theorem put_row {W w : World} {B n : Nat} {v : Value} {l : List UInt8} (h : RowIs W B v l w) (hn : n < 4294967296) (hl : l.length ≤ 2000000) :
    Calls Try.prog 31 #[v, .int .u32 n] w fun e w' => ∃ a c, e = .returned (.slice a (l ++ be4 n).length c) ∧ RowIs W B (.slice a (l ++ be4 n).length c) (l ++ be4 n) w' := by
  refine (fr_put v l n B w hn h.1 hl h.2.2).mono ?_
  rintro e w' ⟨g, cap, rfl, hg, ho, hb⟩
  exact ⟨_, _, rfl, ho, h.2.1.trans hb, Nat.le_trans h.2.2 hb.size⟩

set_option maxRecDepth 100000 in
set_option maxHeartbeats 3200000 in
theorem fr_write (f : Fr) (a : Option Addr) (c : Nat) (w : World) (hf : f.Ok) (hl : f.b.length ≤ 1000000) (hx : RdB w (.slice a f.b.length c) f.b) :
    Calls Try.prog 17 #[frV f (.slice a f.b.length c)] w fun e w' => ∃ a c, e = .returned (.slice a (writeB f).length c) ∧ w'.ownsRow (w.heap.size + 1) 5 1 (.slice a (writeB f).length c) (writeB f).length (bcells (writeB f)) ∧ Below w.heap.size w w' := by
  have hA := FrAt.made w f (.slice a f.b.length c)
  have hX := hide (hx.low (below_alloc w (.cells (frCells f (.slice a f.b.length c)) 30)))
  have hW0 := hide (below_alloc w (.cells (frCells f (.slice a f.b.length c)) 30))
  have hs0 : (w.alloc (.cells (frCells f (.slice a f.b.length c)) 30)).heap.size = w.heap.size + 1 := by simp
  have v1 := hide (vals1_lt hf); have v2 := hide (vals2_lt hf); have hhead := hide (headB_vals f)
  obtain ⟨o1, o2, o3, o4, o5, o6, o7, o8, o9, o10⟩ := hf
  clear hx
  have hfV : frV f (.slice a f.b.length c) = .agg #[.int .u8 f.kind, .int .u32 f.epoch, .int .u32 f.series, .int .u32 f.chunk, .int .u32 f.bits, .int .u32 f.cnt, .int .u32 f.count, .bool f.closed, .int .u64 f.sum, .slice a f.b.length c, .int .i64 f.n] := rfl
  rw [hfV]
  clear hfV
  go_enter Try.func17, Try.ntmps17
  go_wp2
  have hr0 := hide (rowIs_made (w.alloc (.cells (frCells f (.slice a f.b.length c)) 30)) (w.heap.size + 1) [0x44, 0x59, UInt8.ofNat f.kind] #[.int .u8 68, .int .u8 89, .int .u8 f.kind] hs0.symm (by
    simp only [bcells, List.map_cons, List.map_nil, UInt8.toNat_ofNat', List.toArray]
    rw [Nat.mod_eq_of_lt o1]; rfl) (by simp))
  have hWF : ∃ WF, WF = w.alloc (.cells (frCells f (.slice a f.b.length c)) 30) := ⟨_, rfl⟩
  obtain ⟨WF, hWF⟩ := hWF
  rw [← hWF] at hr0 hX hW0 hs0
  have hA' : FrAt WF w.heap.size f (.slice a f.b.length c) := by rw [hWF]; exact hA
  have HWF := hide hWF; have HA := hide hA'
  clear hWF hA hA'
  go_loopw [3, 27] (fun v i wr => ∃ (k n c' : Nat) (ao : Option Addr), k ≤ 6 ∧ i = .int .i64 k ∧ v = .slice ao n c' ∧ n ≤ 27 ∧ Hid (n = 3 + 4 * k) ∧ Hid (RowIs WF (w.heap.size + 1) v ([0x44, 0x59, UInt8.ofNat f.kind] ++ ((vals1 f).take k).flatMap be4) wr)) (fun _ i _ => 6 - (intOf i).toNat)
  case atStart => exact ⟨0, 3, 3, _, by omega, rfl, rfl, by omega, rfl, by rw [HWF.out]; have h := hr0; rw [HWF.out] at h; exact h⟩
  case round =>
    obtain ⟨k, n, c', ao, hk, rfl, rfl, hn27, hn, hR⟩ := hrel
    have hAr : FrAt wr w.heap.size f (.slice a f.b.length c) := HA.out.same hR.out.2.1
    by_cases hlt : k < 6
    · have hix := index6 f.epoch f.series f.chunk f.bits f.cnt f.count k hlt
      have hvk : (vals1 f)[k]'hlt < 4294967296 := v1.out _ (List.getElem_mem _)
      have hvg : [f.epoch, f.series, f.chunk, f.bits, f.cnt, f.count].getD k 0 = (vals1 f)[k]'hlt := by
        simp only [List.getD, vals1]
        rw [List.getElem?_eq_getElem hlt]; rfl
      rw [hvg] at hix
      have hft := hide (flat_take (vals1 f) (k := k) hlt)
      have hlen : ([0x44, 0x59, UInt8.ofNat f.kind] ++ ((vals1 f).take k).flatMap be4).length = n := by
        rw [List.length_append, flat_len, List.length_take, hn.out]; simp [vals1]; omega
      obtain ⟨L, hL⟩ : ∃ L, L = [0x44, 0x59, UInt8.ofNat f.kind] ++ ((vals1 f).take k).flatMap be4 := ⟨_, rfl⟩
      rw [← hL] at hR hlen
      generalize (vals1 f)[k]'hlt = m at hix hvk hft
      have hL2 : Hid (L ++ be4 m = [0x44, 0x59, UInt8.ofNat f.kind] ++ ((vals1 f).take (k + 1)).flatMap be4) := hide (by rw [hft.out, ← List.append_assoc, hL])
      have i0 : (0 : Int) ≤ k := by omega
      have i1 : (k : Int) < 6 := by omega
      have HLn := hide hlen
      clear hvg hL hlen hAr
      go_wp2_with fail
      with_reducible refine (put_row hR.out hvk (by rw [HLn.out]; omega)).mono ?_
      rintro e w2 ⟨a2, c2, rfl, hR2⟩
      have hlen2 : (L ++ be4 m).length = n + 4 := by rw [List.length_append, HLn.out, be4_length]
      obtain ⟨n2, hn2⟩ : ∃ n2, n2 = (L ++ be4 m).length := ⟨_, rfl⟩
      rw [← hn2] at hR2 ⊢
      have hn3 : n2 ≤ 27 := by have := hn.out; omega
      have hn4 : Hid (n2 = 3 + 4 * (k + 1)) := hide (by have := hn.out; omega)
      rw [hL2.out] at hR2
      have HR2 := hide hR2
      clear hR2 hlen2 hn2
      go_wp2
      go_roundw
      case rel => exact ⟨k + 1, n2, c2, a2, by omega, by go_num, rfl, hn3, hn4, HR2⟩
      case measure => simp [intOf]; omega
    · obtain rfl : k = 6 := by omega
      have hlen : ([0x44, 0x59, UInt8.ofNat f.kind] ++ ((vals1 f).take 6).flatMap be4).length = n := by
        rw [List.length_append, flat_len, List.length_take, hn.out]; simp [vals1]
      rw [show (vals1 f).take 6 = vals1 f from rfl] at hR hlen
      obtain ⟨L, hL⟩ : ∃ L, L = [0x44, 0x59, UInt8.ofNat f.kind] ++ (vals1 f).flatMap be4 := ⟨_, rfl⟩
      rw [← hL] at hR hlen
      obtain ⟨c0, c1, c2, c3, c4, c5, c6, c7, c8, c9, c10⟩ := hAr.cells
      have HL := hide hL; have HLn := hide hlen
      clear hL hlen hAr
      go_wp2_with fail
      with_reducible refine (fr_flag f.closed _).mono ?_
      rintro e w' ⟨rfl, rfl⟩
      obtain ⟨fl, hfl⟩ : ∃ fl, fl = flagB f.closed := ⟨_, rfl⟩
      rw [← hfl]
      have HFL := hide hfl
      have hrf : RdB (wr.alloc (.cells #[.int .u8 (fl.toNat : Nat)] 5)) (.slice (some ⟨wr.heap.size, 0, none⟩) 1 1) [fl] :=
        rdb_row (l := [fl]) (e := 5) (fr := (0, 0)) (by rw [heap_alloc_at]; rfl) (by simp) 1
      have HRF := hide hrf
      have HR2 := hide (hR.out.to (below_alloc wr (.cells #[.int .u8 (fl.toNat : Nat)] 5)))
      have hrow := HR2.out.1
      rw [HLn.out] at hrow
      have HROW := hide hrow
      clear hrf hfl hrow
      have hbs : w.heap.size + 1 ≤ (wr.alloc (.cells #[.int .u8 (fl.toNat : Nat)] 5)).heap.size := HR2.out.lt
      go_wp2_with (at_builtin; refine wpList_copy_own rfl (.tmp 34) (.tmp 38) 26 rfl WF (w.heap.size + 1) 5 Try.underlying26 info_u8' (.slice ao n c') L rfl HR2.out _ [fl] rfl HRF.out (by simp [HLn.out]; omega) ?_)
      intro ao2 co2 w2 hR3 hb3
      have hA2 : FrAt w2 w.heap.size f (.slice a f.b.length c) := HA.out.same hR3.2.1
      obtain ⟨c0, c1, c2, c3, c4, c5, c6, c7, c8, c9, c10⟩ := hA2.cells
      have HR3 := hide hR3
      have hn28 : L.length + 1 ≤ 40 := by rw [HLn.out]; omega
      have h28 : Hid (L.length + 1 = 28 + 4 * 0) := hide (by rw [HLn.out, hn.out])
      clear hR3 hb3 hA2 HROW HR2 HRF hR hbs
      go_wp2
      obtain ⟨L2, hL2⟩ : ∃ L2, L2 = L ++ [fl] := ⟨_, rfl⟩
      have hL2n : L2.length = L.length + 1 := by rw [hL2]; simp
      rw [← hL2] at HR3
      have HL2 := hide hL2; have HL2n := hide hL2n
      clear hL2 hL2n c0 c1 c2 c3 c4 c5 c6 c7 c8 c9 c10
      obtain ⟨wo, rfl⟩ : ∃ wo : World, wo = wr := ⟨_, rfl⟩
      go_loopw [3, 52] (fun v i wr => ∃ (k n c' : Nat) (ao : Option Addr), k ≤ 3 ∧ i = .int .i64 k ∧ v = .slice ao n c' ∧ n ≤ 40 ∧ Hid (n = 28 + 4 * k) ∧ Hid (RowIs WF (w.heap.size + 1) v (L2 ++ ((vals2 f).take k).flatMap be4) wr)) (fun _ i _ => 3 - (intOf i).toNat)
      case atStart => exact ⟨0, L.length + 1, co2, ao2, by omega, rfl, rfl, hn28, h28, hide (by simpa using HR3.out)⟩
      case round =>
        obtain ⟨k, n2, c', ao3, hk, rfl, rfl, hn40, hn', hR⟩ := hrel
        by_cases hlt : k < 3
        · have hix := index3 ((f.sum : Int) / 4294967296) ((f.sum : Int) % 4294967296) (f.n % 4294967296) k hlt
          have hvk : (vals2 f)[k]'hlt < 4294967296 := v2.out _ (List.getElem_mem _)
          have hvg : [(f.sum : Int) / 4294967296, (f.sum : Int) % 4294967296, f.n % 4294967296].getD k 0 = (((vals2 f)[k]'hlt : Nat) : Int) := by
            obtain rfl | rfl | rfl : k = 0 ∨ k = 1 ∨ k = 2 := by omega
            all_goals simp [vals2]
            omega
          rw [hvg] at hix
          have hft := hide (flat_take (vals2 f) (k := k) hlt)
          have hlen : (L2 ++ ((vals2 f).take k).flatMap be4).length = n2 := by
            rw [List.length_append, flat_len, List.length_take, hn'.out, HL2n.out, h28.out]; simp [vals2]; omega
          obtain ⟨M, hM⟩ : ∃ M, M = L2 ++ ((vals2 f).take k).flatMap be4 := ⟨_, rfl⟩
          rw [← hM] at hR hlen
          generalize (vals2 f)[k]'hlt = m at hix hvk hft
          have hM2 : Hid (M ++ be4 m = L2 ++ ((vals2 f).take (k + 1)).flatMap be4) := hide (by rw [hft.out, ← List.append_assoc, hM])
          have i0 : (0 : Int) ≤ k := by omega
          have i1 : (k : Int) < 3 := by omega
          have HMn := hide hlen
          clear hvg hM hlen
          go_wp2_with fail
          with_reducible refine (put_row hR.out hvk (by rw [HMn.out]; omega)).mono ?_
          rintro e w3 ⟨a4, c4, rfl, hR4⟩
          have hlen2 : (M ++ be4 m).length = n2 + 4 := by rw [List.length_append, HMn.out, be4_length]
          obtain ⟨n5, hn5⟩ : ∃ n5, n5 = (M ++ be4 m).length := ⟨_, rfl⟩
          rw [← hn5] at hR4 ⊢
          have hn3 : n5 ≤ 40 := by have := hn'.out; omega
          have hn4 : Hid (n5 = 28 + 4 * (k + 1)) := hide (by have := hn'.out; omega)
          rw [hM2.out] at hR4
          have HR4 := hide hR4
          clear hR4 hlen2 hn5
          go_wp2
          go_roundw
          case rel => exact ⟨k + 1, n5, c4, a4, by omega, by go_num, rfl, hn3, hn4, HR4⟩
          case measure => simp [intOf]; omega
        · obtain rfl : k = 3 := by omega
          have hH : L2 ++ ((vals2 f).take 3).flatMap be4 = headB f := by
            rw [HL2.out, HL.out, HFL.out, hhead.out, show (vals2 f).take 3 = vals2 f from rfl]
          rw [hH] at hR
          have hA3 : FrAt wr w.heap.size f (.slice a f.b.length c) := HA.out.same hR.out.2.1
          obtain ⟨c0, c1, c2, c3, c4, c5, c6, c7, c8, c9, c10⟩ := hA3.cells
          have hXr : RdB wr (.slice a f.b.length c) f.b := hX.out.low (by rw [hs0]; exact hR.out.2.1)
          have HXr := hide hXr
          clear hH hA3 hXr
          go_wp2_with (at_builtin; refine wpList_copy_own rfl (.tmp 59) (.tmp 62) 26 rfl WF (w.heap.size + 1) 5 Try.underlying26 info_u8' (.slice ao3 n2 c') (headB f) rfl hR.out _ f.b rfl HXr.out (by rw [headB_length]; omega) ?_)
          intro ao5 co5 w5 hR5 _
          rw [show headB f ++ f.b = bodyB f from rfl] at hR5
          have hbl : (bodyB f).length = 40 + f.b.length := by simp [bodyB, headB_length]
          have hvl : Hid ((headB f).length + f.b.length = (bodyB f).length) := hide (by simp [bodyB])
          rw [hvl.out] at hR5 ⊢
          have hbl2 : (bodyB f).length ≤ 1000040 := by omega
          obtain ⟨M, hM⟩ : ∃ M, M = bodyB f := ⟨_, rfl⟩
          rw [← hM] at hR5 hbl2 ⊢
          have HM := hide hM
          have HR5 := hide hR5
          clear hR5 hM hvl hR HXr c0 c1 c2 c3 c4 c5 c6 c7 c8 c9 c10 hbl
          go_wp2_with fail
          refine (crc_new_at w5).mono ?_
          rintro e w6 ⟨rfl, hT, hb6, hlt6⟩
          have hR6 := HR5.out.to hb6
          have hBt := HR5.out.lt
          have hne : ∀ k, (Value.slice ao5 M.length co5).ownBlock = some k → k ≠ w5.heap.size := fun k hk => by have := (HR5.out.1.lt k hk).2; omega
          generalize w5.heap.size = tb at hT hlt6 hBt hne
          have HT := hide hT; have HR6 := hide hR6; have HNE := hide hne
          clear hT hb6 hR6 HR5 hne
          go_wp2_with fail
          refine (crc_sum_one tb false _ M _ _ (HT.out.alloc _) (heap_alloc_eq _ (by simp)) (by omega) (fun w' hc => ownsRow_rd ((HR6.out.to (below_alloc _ _)).chg hc hBt HNE.out).1) (by omega)).mono ?_
          rintro e w7 ⟨rfl, hT7, hc7⟩
          have HR7 := hide ((HR6.out.to (below_alloc _ _)).chg hc7 hBt HNE.out)
          have hcl := crcSum_lt M
          clear hT7 hc7 HR6 HT
          go_wp2_with fail
          with_reducible refine (put_row HR7.out hcl (by omega)).mono ?_
          rintro e w8 ⟨a8, c8, rfl, hR8⟩
          have hW : writeB f = M ++ be4 (crcSum M) := by rw [HM.out]; rfl
          rw [← hW] at hR8 ⊢
          have HR8 := hide hR8
          clear hR8 hW
          go_wp2
          go_ret
          exact ⟨a8, c8, rfl, HR8.out.1, hW0.out.trans (HR8.out.2.1.mono (by omega))⟩

set_option maxRecDepth 100000 in
set_option maxHeartbeats 800000 in
theorem fr_encode (f : Fr) (a : Option Addr) (c : Nat) (w : World) (hf : f.Ok) (hl : f.b.length ≤ 1000000) (hx : RdB w (.slice a f.b.length c) f.b) (hm : mayB f = true) :
    Calls Try.prog 9 #[frV f (.slice a f.b.length c)] w fun e w' => ∃ a c, e = .returned (.tuple #[.slice a (writeB f).length c, .int .u16 0]) ∧ w'.ownsRow w.heap.size 5 1 (.slice a (writeB f).length c) (writeB f).length (bcells (writeB f)) ∧ Below w.heap.size w w' := by
  have hA := FrAt.made w f (.slice a f.b.length c)
  have hX := hide (hx.low (below_alloc w (.cells (frCells f (.slice a f.b.length c)) 30)))
  have hW0 := hide (below_alloc w (.cells (frCells f (.slice a f.b.length c)) 30))
  have hs0 : (w.alloc (.cells (frCells f (.slice a f.b.length c)) 30)).heap.size = w.heap.size + 1 := by simp
  have HM := hide hm; have HF := hide hf; have HA := hide hA
  clear hx hm hf hA
  have hfV : frV f (.slice a f.b.length c) = .agg #[.int .u8 f.kind, .int .u32 f.epoch, .int .u32 f.series, .int .u32 f.chunk, .int .u32 f.bits, .int .u32 f.cnt, .int .u32 f.count, .bool f.closed, .int .u64 f.sum, .slice a f.b.length c, .int .i64 f.n] := rfl
  have HV := hide hfV
  rw [hfV]
  clear hfV
  go_enter Try.func9, Try.ntmps9
  go_wp2_with fail
  rw [← HV.out]
  refine (fr_may f a c _ HF.out hl hX.out).mono ?_
  rintro e w2 ⟨rfl, hb⟩
  rw [HM.out]
  have hA2 := HA.out.low hb
  obtain ⟨c0, c1, c2, c3, c4, c5, c6, c7, c8, c9, c10⟩ := hA2.cells
  have hX2 := hide (hX.out.low hb)
  have hW2 : Hid (Below w.heap.size w w2) := hide (hW0.out.trans (hb.mono (by omega)))
  clear hb hA2
  go_wp2_with fail
  rw [← HV.out]
  refine (fr_write f a c _ HF.out hl hX2.out).mono ?_
  rintro e w3 ⟨a3, c3, rfl, ho, hb⟩
  have HO := hide (ownsRow_base ho (show w.heap.size ≤ w2.heap.size + 1 by have := hW2.out.size; omega))
  have HW3 := hide (hW2.out.trans (hb.mono hW2.out.size))
  clear ho hb
  go_wp2
  go_ret2
  exact ⟨a3, c3, rfl, HO.out, HW3.out⟩

set_option maxRecDepth 100000 in
set_option maxHeartbeats 800000 in
theorem fr_encode_no (f : Fr) (a : Option Addr) (c : Nat) (w : World) (hf : f.Ok) (hl : f.b.length ≤ 1000000) (hx : RdB w (.slice a f.b.length c) f.b) (hm : mayB f = false) :
    Calls Try.prog 9 #[frV f (.slice a f.b.length c)] w fun e w' => e = .returned (.tuple #[.slice none 0 0, .int .u16 70]) ∧ Below w.heap.size w w' := by
  have hX := hide (hx.low (below_alloc w (.cells (frCells f (.slice a f.b.length c)) 30)))
  have hW0 := hide (below_alloc w (.cells (frCells f (.slice a f.b.length c)) 30))
  have hs0 : (w.alloc (.cells (frCells f (.slice a f.b.length c)) 30)).heap.size = w.heap.size + 1 := by simp
  have HM := hide hm; have HF := hide hf
  clear hx hm hf
  have hfV : frV f (.slice a f.b.length c) = .agg #[.int .u8 f.kind, .int .u32 f.epoch, .int .u32 f.series, .int .u32 f.chunk, .int .u32 f.bits, .int .u32 f.cnt, .int .u32 f.count, .bool f.closed, .int .u64 f.sum, .slice a f.b.length c, .int .i64 f.n] := rfl
  have HV := hide hfV
  rw [hfV]
  clear hfV
  go_enter Try.func9, Try.ntmps9
  go_wp2_with fail
  rw [← HV.out]
  refine (fr_may f a c _ HF.out hl hX.out).mono ?_
  rintro e w2 ⟨rfl, hb⟩
  rw [HM.out]
  have hW2 : Hid (Below w.heap.size w w2) := hide (hW0.out.trans (hb.mono (by omega)))
  clear hb
  go_wp2
  go_ret2
  exact ⟨rfl, hW2.out⟩
end Go.Proofs.Ytnnhgennmlkpmaa

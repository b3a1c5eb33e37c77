/-
  bytes.SplitSeq at one nought: what it hands to whatever rounds.
-/
import Derived.Test.YtglgjakjhkdoaaaGreatDoorZRdStMStA
import Derived.Test.YtglgjakjhkdoaaaGreatDoorZStBTaA
import Derived.Test.YtglgjakjhkdoaaaGreatDoorZOwnZer
namespace Go.Proofs.YtglgjakjhkdoaaaGreatDoor
open Go.RowKit Go.Shelf
set_option linter.unusedVariables false
set_option linter.unusedSimpArgs false
set_option linter.unnecessarySimpa false

attribute [local go_sem] Oper.semAt_some

set_option maxRecDepth 100000 in
set_option maxHeartbeats 1600000 in
theorem bt_splitSeq (ao : Option Addr) (n c zB : Nat) (w : World) :
    Calls Tryz.prog 80 #[.slice ao n c, .slice (some ⟨zB, 0, none⟩) 1 1, .int .i64 0] w fun e w' => e = .returned (.func (.func 86) #[] #[.pointer (some ⟨w.heap.size + 1, 0, none⟩), .pointer (some ⟨w.heap.size, 0, none⟩), .pointer (some ⟨w.heap.size + 2, 0, none⟩)]) ∧
      w' = ((w.alloc (.cells #[.slice ao n c] 22)).alloc (.cells #[.slice (some ⟨zB, 0, none⟩) 1 1] 22)).alloc (.cells #[.int .i64 0] 3) := by
  go_enter Tryz.func80, Tryz.ntmps80
  go_wp2
  go_ret
  exact ⟨by simp, rfl⟩

set_option maxRecDepth 100000 in
set_option maxHeartbeats 1600000 in
theorem bt_SplitSeq (ao : Option Addr) (n c zB : Nat) (w : World) :
    Calls Tryz.prog 68 #[.slice ao n c, .slice (some ⟨zB, 0, none⟩) 1 1] w fun e w' => e = .returned (.func (.func 86) #[] #[.pointer (some ⟨w.heap.size + 1, 0, none⟩), .pointer (some ⟨w.heap.size, 0, none⟩), .pointer (some ⟨w.heap.size + 2, 0, none⟩)]) ∧
      w' = ((w.alloc (.cells #[.slice ao n c] 22)).alloc (.cells #[.slice (some ⟨zB, 0, none⟩) 1 1] 22)).alloc (.cells #[.int .i64 0] 3) := by
  go_enter Tryz.func68, Tryz.ntmps68
  go_wp2_with (refine (bt_splitSeq ao n c zB w).mono ?_; rintro e w' ⟨rfl, rfl⟩)
  go_ret
  exact ⟨rfl, rfl⟩

theorem RdB.keep0 {w w' : World} {x : Value} {l : List UInt8} (h : RdB w x l) (hk : 0 < l.length → ∀ b, x.ownBlock = some b → w'.heap[b]? = w.heap[b]?) : RdB w' x l := by
  by_cases h0 : 0 < l.length
  · exact h.keep (hk h0)
  · have : l = [] := List.eq_nil_of_length_eq_zero (by omega)
    subst this
    obtain ⟨h1, h2⟩ := h
    exact ⟨h1, h2.imp id fun ⟨ad, c, e, _⟩ => ⟨ad, c, e, fun j u hu => by simp [bcells] at hu⟩⟩
def SpOk (b : List UInt8) (B oB sB : Nat) (pre : List (Value × List UInt8)) (x : Value × List UInt8) (W : World) : Prop :=
  RdB W x.1 x.2 ∧ (∃ ao, x.1 = .slice ao x.2.length x.2.length) ∧ (0 < x.2.length → ∀ k, x.1.ownBlock = some k → k < B ∧ k ≠ oB ∧ k ≠ sB) ∧ ∃ r, pre.map Prod.snd ++ x.2 :: r = splitZ b
def SpKp (B oB : Nat) (W W' : World) : Prop := W.heap.size ≤ W'.heap.size ∧ ∀ k, k < B → k ≠ oB → W'.heap[k]? = W.heap[k]?
def SpSt (sB : Nat) (X X' : World) : Prop := ∃ v, X' = X.setCell ⟨sB, 0, none⟩ v


def sLeft (sB : Nat) (w : World) : Nat := match w.cell? ⟨sB, 0, none⟩ with | some (.slice _ n _) => n | _ => 0

set_option maxRecDepth 100000 in
set_option maxHeartbeats 3200000 in
theorem sp_iter (n : Nat) (hn1 : 1 ≤ n) (b : List UInt8) (ao : Option Addr) (c B oB sB pB qB zB : Nat) (w : World)
    (hs : w.heap[sB]? = some (.cells #[.slice ao b.length c] 22)) (hp : w.heap[pB]? = some (.cells #[.slice (some ⟨zB, 0, none⟩) 1 1] 22)) (hq : w.heap[qB]? = some (.cells #[.int .i64 0] 3)) (hz : w.cell? ⟨zB, 0, none⟩ = some (.int .u8 0))
    (hx : RdB w (.slice ao b.length c) b) (hle : b.length ≤ c) (hc : c ≤ 9223372036854775807) (hob : 0 < b.length → ∀ k, (Value.slice ao b.length c).ownBlock = some k → k < B ∧ k ≠ oB ∧ k ≠ sB)
    (lB : sB < B ∧ pB < B ∧ qB < B ∧ zB < B) (hB : B ≤ w.heap.size) (nO : sB ≠ oB ∧ pB ≠ oB ∧ qB ≠ oB ∧ zB ≠ oB) (nS : pB ≠ sB ∧ qB ≠ sB ∧ zB ≠ sB) :
    SeqSt Fence.wide n Tryz.prog 86 #[.pointer (some ⟨pB, 0, none⟩), .pointer (some ⟨sB, 0, none⟩), .pointer (some ⟨qB, 0, none⟩)] (fun x : Value × List UInt8 => #[x.1]) (SpOk b B oB sB) (SpKp B oB) (SpSt sB) (fun xs => xs.map Prod.snd = splitZ b) w := by
  intro l J W hW hl hJ hY h0
  refine callsIn_of_wp Tryz.func86 rfl trivial ?_ rfl
  simp only [Tryz.ntmps86, List.size_toArray, List.length_cons, List.length_nil, Nat.reduceAdd, Nat.reduceSub, Array.replicate_succ, Array.replicate_zero, List.push_toArray, List.append_toArray, List.nil_append, List.cons_append]
  have hp1 := (hW.block pB (by omega) (by simp)).trans hp
  obtain ⟨p1, _, _⟩ := heapCell hp1
  gi_wp2
  gi_loopw [7] (fun i wr => ∃ (pre : List (Value × List UInt8)) (rest : List UInt8) (a' : Option Addr) (n' c' : Nat), Hid (n' = rest.length) ∧ Hid (pre.map Prod.snd ++ splitZ rest = splitZ b) ∧ wr.heap[sB]? = some (.cells #[.slice a' n' c'] 22) ∧ 
      wr.heap[pB]? = some (.cells #[.slice (some ⟨zB, 0, none⟩) 1 1] 22) ∧ wr.heap[qB]? = some (.cells #[.int .i64 0] 3) ∧ wr.cell? ⟨zB, 0, none⟩ = some (.int .u8 0) ∧ Hid (RdB wr (.slice a' n' c') rest) ∧ n' ≤ c' ∧ c' ≤ 9223372036854775807 ∧ Hid (0 < n' → ∀ k, (Value.slice a' n' c').ownBlock = some k → k < B ∧ k ≠ oB ∧ k ≠ sB) ∧ Hid (B ≤ wr.heap.size) ∧ J pre wr) (fun i wr => sLeft sB wr)
  case atStart =>
    have hb := fun k (hk : k < B) => hW.block k (by omega) (by simp)
    refine ⟨[], b, ao, b.length, c, rfl, by rw [List.map_nil, List.nil_append]; rfl, (hb _ lB.1).trans hs, (hb _ lB.2.1).trans hp, (hb _ lB.2.2.1).trans hq, (World.cell?_of_block (w := w) (a := ⟨zB, 0, none⟩) (hb _ lB.2.2.2)).trans hz, hx.chg hW (by simp), hle, hc, hob, Nat.le_trans hB hW.size, h0⟩
  case round =>
    obtain ⟨pre, rest, a', n', c', hn, hsp, us, up, uq, uz, hr, hle', hc', hob', hBr, hJr⟩ := hrel
    obtain ⟨s1, s2, s3⟩ := heapCell us
    obtain ⟨q1, _, _⟩ := heapCell uq
    obtain ⟨r1, _, _⟩ := heapCell up
    have H := hide (bt_Index _ rest zB 1 wr (by have := hr.out; rw [hn.out] at this; exact this) uz)
    rw [← hn.out] at H
    rcases split_cases rest with ⟨hzz, hi⟩ | ⟨o, r, hrest, hzo, hi⟩
    · rw [hi] at H
      have hspo : splitZ rest = [rest] := splitZ_noZ hzz
      have hok : SpOk b B oB sB pre (.slice a' n' n', rest) wr := by
        refine ⟨?_, ⟨a', by rw [hn.out]⟩, fun h0 j hj => hob'.out (by rw [hn.out]; exact h0) j (by cases a' <;> exact hj), [], ?_⟩
        · obtain ⟨h1, ⟨he, hz⟩ | ⟨ad2, c2, he, hcc⟩⟩ := hr.out
          · simp only [Value.slice.injEq] at he
            obtain ⟨rfl, rfl, rfl⟩ := he
            exact ⟨h1, .inl ⟨rfl, hz⟩⟩
          · simp only [Value.slice.injEq] at he
            obtain ⟨rfl, h5, rfl⟩ := he
            exact ⟨h1, .inr ⟨ad2, n', by rw [h5], hcc⟩⟩
        · rw [← hspo]; exact hsp.out
      have hfin : (pre ++ [(Value.slice a' n' n', rest)]).map Prod.snd = splitZ b := by
        rw [List.map_append, ← hsp.out, hspo]
        rfl
      obtain ⟨fn, tmps, assign, body, hy, hR⟩ := hY pre _ wr hJr hok
      dsimp only at hy
      clear hob hs hp hq hz hx hi hW hJ hY h0
      gi_wp2_with (refine ⟨trivial, ?_⟩; refine (callsIn_wide.2 H.out).mono ?_; clear H; rintro e wr ⟨rfl, rfl⟩)
      refine hR.mono ?_
      rintro e W3 ⟨rfl, hJ3, hk3⟩
      gi_wp2
      go_end0
      exact ⟨⟨_, rfl⟩, _, hfin, hJ3⟩
    · have hlen : rest.length = o.length + 1 + r.length := by rw [hrest]; simp; omega
      rw [hi] at H
      have hn3 : n' = o.length + 1 + r.length := by rw [hn.out, hlen]
      obtain ⟨k, hk⟩ : ∃ k, k = o.length := ⟨_, rfl⟩
      rw [← hk] at H hn3
      have hr1 := hr.out
      obtain ⟨ad, rfl⟩ : ∃ ad, a' = some ad := by
        rcases hr1.2 with ⟨he, hz⟩ | ⟨ad2, c2, he, _⟩
        · omega
        · simp only [Value.slice.injEq] at he
          exact ⟨ad2, he.1⟩
      have hspo : splitZ rest = o :: splitZ r := by
        have := splitZ_app hzo (0 :: r) [] (splitZ r) (splitZ_zero r)
        rw [List.append_nil] at this
        rw [hrest, this]
      have hok : SpOk b B oB sB pre (.slice (some ad) k k, o) wr := by
        refine ⟨?_, ⟨some ad, by rw [hk]⟩, fun _ j hj => hob'.out (by omega) j hj, splitZ r, ?_⟩
        · have := hr1.upto hn.out o.length k k (by rw [hrest, List.take_left' rfl]; exact hk)
          rwa [hrest, List.take_left' rfl] at this
        · rw [← hspo]; exact hsp.out
      have hdr : rest.drop (k + 1) = r := by
        rw [hrest, hk, show o ++ 0 :: r = (o ++ [0]) ++ r by simp, List.drop_left' (by simp)]
      have hr2 := hide (by have := hr1.rest hn.out hle' (k + 1) (c' - (k + 1)) (n' - (k + 1)) (by rw [hdr]; omega); rwa [hdr] at this)
      have hsp2 := hide (show (pre ++ [(Value.slice (some ad) k k, o)]).map Prod.snd ++ splitZ r = splitZ b by
        rw [List.map_append, List.append_assoc, ← hsp.out, hspo]; rfl)
      have hJJ := hide hJ
      obtain ⟨fn, tmps, assign, body, hy, hR⟩ := hY pre _ wr hJr hok
      dsimp only at hy
      have t1 : ¬ ((k : Int) < 0) := by omega
      have t2 : decide ((k : Int) < 0) = false := by simpa using t1
      have hkn : k < n' := by omega
      have hkc : k ≤ c' := by omega
      have N3 := hide hn3
      have K := hide hk
      have HR := hide hrest
      have t3 : True := trivial
      have hlt1 : k + 1 ≤ n' := by omega
      have hlt2 : k + 1 ≤ c' := by omega
      clear hob hs hp hq hz hx hi hW hJ hY h0 hle hn hsp hok hr hr1 hlen hn3 hk hrest hspo hdr
      gi_wp2_with (refine ⟨trivial, ?_⟩; refine (callsIn_wide.2 H.out).mono ?_; clear H; rintro e wr ⟨rfl, rfl⟩)
      refine hR.mono ?_
      rintro e W3 ⟨rfl, hJ3, hk3⟩
      have hs3 := (hk3.2 sB lB.1 nO.1).trans us
      have hp3 := (hk3.2 pB lB.2.1 nO.2.1).trans up
      have hq3 := (hk3.2 qB lB.2.2.1 nO.2.2.1).trans uq
      have hz3 := (World.cell?_of_block (w := wr) (w' := W3) (a := ⟨zB, 0, none⟩) (hk3.2 zB lB.2.2.2 nO.2.2.2)).trans uz
      obtain ⟨s4, s5, s6⟩ := heapCell hs3
      obtain ⟨q4, _, _⟩ := heapCell hq3
      obtain ⟨r4, _, _⟩ := heapCell hp3
      have s1' := s1
      clear s1 s2 s3 q1 r1 us up uq uz
      have hn0 : 0 < n' := by have := N3.out; omega
      have hb3 : ∀ j, ad.block = j → W3.heap[j]? = wr.heap[j]? := fun j hj => hk3.2 j (hob'.out hn0 j (by simp [Value.ownBlock, hj])).1 (hob'.out hn0 j (by simp [Value.ownBlock, hj])).2.1
      have hr4 := hide (hr2.out.keep (w' := W3) fun j hj => by rw [ownBlock_rest] at hj; exact hb3 j (by simpa using hj))
      have hns := hide ((hob'.out hn0 ad.block rfl).2.2)
      have hob2 : Hid (0 < n' - (k + 1) → ∀ j, (Value.slice (if c' = k + 1 then some ad else some ⟨ad.block, ad.off + (k + 1), none⟩) (n' - (k + 1)) (c' - (k + 1))).ownBlock = some j → j < B ∧ j ≠ oB ∧ j ≠ sB) := hide fun _ j hj => by
        rw [ownBlock_rest] at hj; exact hob'.out hn0 j hj
      have HS := hide hs3; have HP := hide hp3; have HQ := hide hq3; have HZ := hide hz3; have HK3 := hide hk3.1
      clear hr2 hb3 hob' hn0 hs3 hp3 hq3 hz3 hk3
      gi_wp2
      go_roundw
      case rel =>
        refine ⟨_, r, (if c' = k + 1 then some ad else some ⟨ad.block, ad.off + (k + 1), none⟩), n' - (k + 1), c' - (k + 1), hide (by have := N3.out; omega), hsp2, ?_, ?_, ?_, ?_, ?_, by omega, by omega, hob2, hide ?_, hJJ.out _ _ _ hJ3 ⟨_, rfl⟩⟩
        · have := setCell_heap HS.out 0 (.slice (if c' = k + 1 then some ad else some ⟨ad.block, ad.off + (k + 1), none⟩) (n' - (k + 1)) (c' - (k + 1)))
          simpa using this
        · exact (heap_set_ne nS.1).trans HP.out
        · exact (heap_set_ne nS.2.1).trans HQ.out
        · exact (World.cell?_of_block (w := W3) (a := ⟨zB, 0, none⟩) (heap_set_ne nS.2.2)).trans HZ.out
        · exact hide (hr4.out.keep fun j hj => heap_set_ne (by rw [ownBlock_rest] at hj; intro e; exact hns.out ((Option.some.inj hj).trans e)))
        · have := hBr.out; have := HK3.out; simp [World.setCell]; omega
      case measure =>
        have e1 : sLeft sB (W3.setCell ⟨sB, 0, none⟩ (.slice (if c' = k + 1 then some ad else some ⟨ad.block, ad.off + (k + 1), none⟩) (n' - (k + 1)) (c' - (k + 1)))) = n' - (k + 1) := by
          unfold sLeft
          rw [World.cell?_setCell_same' _ _ _ (by rw [s4]; rfl)]
        have e2 : sLeft sB wr = n' := by
          unfold sLeft
          rw [s1']
        rw [e1, e2]
        omega
end Go.Proofs.YtglgjakjhkdoaaaGreatDoor

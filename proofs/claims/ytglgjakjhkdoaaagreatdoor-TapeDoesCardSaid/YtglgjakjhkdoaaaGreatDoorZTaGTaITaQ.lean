/-
The chapter's example of a journal.
The journal's calls as data; what is too heavy.
The journal's calls that come in.
-/
import Derived.Test.YtglgjakjhkdoaaaGreatDoorZTaF
import Derived.Test.YtglgjakjhkdoaaaGreatDoorZTaD
import Derived.Test.YtglgjakjhkdoaaaGreatDoorZItemsLaw
import Derived.Deep.DeepCutAuto
import Derived.Test.YtglgjakjhkdoaaaGreatDoorZFsHFsIFsJFsRN
import Derived.ChangeMaps5
namespace Go.Proofs.YtglgjakjhkdoaaaGreatDoor
open Go.RowKit Go.Maps
set_option linter.unusedVariables false
set_option linter.unusedSimpArgs false

def kS0 : FsS := ⟨1000, [([106], [])], [], none, false⟩
def kS1 : FsS := ⟨1000, [([106], [])], [([106], [4, 1, 2, 3, 0])], none, false⟩
theorem tpRead_nil : tpRead [] = ([], 0) := tpRead_none (by simp [opened, nul])
theorem known_open : tpOpen (fsNew 1000) [106] = (0, kS0, []) := by
  have h1 : tpClear (fsNew 1000) [106] = fsNew 1000 := rfl
  have h2 : tpMade (fsNew 1000) [106] = (0, kS0) := rfl
  have h3 : tpGot kS0 [106] = [] := rfl
  have h4 : tpCut kS0 [106] = kS0 := by unfold tpCut; rw [h3, tpRead_nil]; rfl
  unfold tpOpen
  rw [if_neg (by decide), h1, h2, if_neg (by decide), h4, h3, tpRead_nil]
theorem known_append : tpAppend kS0 [106] [1, 2, 3] = (0, kS1) := by
  have h1 : wrapW [1, 2, 3] = [4, 1, 2, 3, 0] := by simp [wrapW, bodyW, splitZ, part_short]
  unfold tpAppend
  rw [h1, if_neg (by decide)]
  rfl
theorem known_got : kS1.has [106] = true ∧ kS1.get [106] = [4, 1, 2, 3, 0] := ⟨rfl, rfl⟩

set_option maxRecDepth 100000 in
set_option maxHeartbeats 1600000 in
theorem tp_known (W : World) : Calls Tryz.prog 5 #[] W fun e w' => e = .returned (.bool true) ∧ Below W.heap.size W w' := by
  have hk : ([106] : Bs).length ≤ maxLen := by decide
  go_enter Tryz.func5, Tryz.ntmps5
  go_wp2_with fail
  refine (fs_New' 1000 (by omega) (by omega) W W (Below.refl _ _)).mono ?_
  rintro e w1 ⟨sb, F0, rfl, hf0, _, _⟩
  have H0 := hide hf0
  clear hf0
  go_wp2_with fail
  refine (tp_Open sb _ F0 [106] hk w1 H0.out.rep H0.out.ok).mono ?_
  rintro e w2 ⟨F1, hr1, hc1, hcase⟩
  rw [known_open] at hr1 hcase
  rcases hcase with ⟨h1, _⟩ | ⟨_, tb, a, cc, xs, rfl, hblk, htb, htn, hat, hxs, hfar⟩
  · exact absurd rfl h1
  have hx0 : xs = [] := by simpa using hxs
  subst hx0
  obtain ⟨G1, hG1, hC1⟩ := H0.out.step (s' := kS0) ⟨F1, hr1, hc1⟩ (by have := tpOpen_ok H0.out.ok [106]; rw [known_open] at this; exact this)
  have hlow2 : Below W.heap.size W w2 := hG1.low
  have HR1 := hide hr1; have HBLK := hide hblk; have HTN := hide htn
  have HL2 := hide hlow2
  have hok0 : kS0.Ok := hG1.ok
  have HOK0 := hide hok0
  have htbW : W.heap.size ≤ tb := Nat.le_trans H0.out.low.size htb
  have HUP : Hid (∀ k ∈ F1, W.heap.size ≤ k) := hide fun k hk => by
    rcases hc1.fresh k hk with h | h
    · exact H0.out.up k h
    · exact Nat.le_trans H0.out.low.size h
  clear hr1 hc1 hblk htn hat hxs hfar hG1 hC1 hlow2 hok0 H0 htb
  have hb2 := hide (below_alloc w2 (.cells #[.int .u8 1, .int .u8 2, .int .u8 3] 5))
  have hr2 := hide (rdB_lit w2 [1, 2, 3] 3 #[.int .u8 1, .int .u8 2, .int .u8 3] rfl rfl (by decide))
  go_wp2_with fail
  refine (tp_Append tb sb kS0 F1 [106] (by decide) _ 3 3 [1, 2, 3] _ (HBLK.out.low hb2.out) (HR1.out.low hb2.out) HOK0.out hr2.out rfl (by decide) (by decide) (fun _ j hj => by simp [Value.ownBlock] at hj; subst hj; simp)).mono ?_
  rintro e w3 ⟨rfl, ht⟩
  rw [known_append] at ht ⊢
  obtain ⟨F2, hr3, hc3⟩ := ht
  have hlow3 : Hid (Below W.heap.size W w3) := hide ((HL2.out.trans (hb2.out.mono HL2.out.size)).trans (hc3.below (Nat.le_trans HL2.out.size hb2.out.size) HUP.out))
  have hok1 : Hid (kS1.Ok) := hide (by have := tpAppend_ok HOK0.out [106] [1, 2, 3]; rw [known_append] at this; exact this)
  have HR3 := hide hr3
  clear hr3 hc3 hr2 hb2
  go_wp2_with fail
  refine (fs_Read sb kS1 F2 [106] hk w3 HR3.out hok1.out).mono ?_
  rintro e w4 hr
  unfold ReadTold at hr
  rw [known_got.1, if_pos rfl, known_got.2] at hr
  obtain ⟨ra, rn, rc, rfl, hfr⟩ := hr
  obtain rfl : rn = 5 := hfr.2.1
  have v1 := convert_rd _ _ _ hfr.rd
  have v2 := convert_rd _ _ _ (rdB_lit w4 [4, 1, 2, 3, 0] 5 #[.int .u8 4, .int .u8 1, .int .u8 2, .int .u8 3, .int .u8 0] rfl rfl (by decide))
  have v3 := convert_rd _ _ _ (hfr.rd.low (below_alloc w4 (.cells #[.int .u8 4, .int .u8 1, .int .u8 2, .int .u8 3, .int .u8 0] 5)))
  have HB4 := hide ((hlow3.out.trans (hfr.2.2.mono hlow3.out.size)).trans ((below_alloc w4 (.cells #[.int .u8 4, .int .u8 1, .int .u8 2, .int .u8 3, .int .u8 0] 5)).mono (Nat.le_trans hlow3.out.size hfr.2.2.size)))
  clear hfr
  go_wp2
  go_ret
  exact ⟨rfl, HB4.out⟩
end Go.Proofs.YtglgjakjhkdoaaaGreatDoor

namespace Go.Proofs.YtglgjakjhkdoaaaGreatDoor
open Go.RowKit Go.ChangeShapes Go.WideShapes Go.ChangeAt Go.Deep
set_option linter.unusedVariables false
set_option linter.unusedSimpArgs false

theorem RdB.lt0 {w : World} {a : Option Addr} {n c : Nat} {l : Bs} (h : RdB w (.slice a n c) l) (hn : n = l.length) : 0 < n → ∀ k, (Value.slice a n c).ownBlock = some k → k < w.heap.size := by
  intro h0 k hk
  obtain ⟨b, off, c', e, _, hb⟩ := Rd.addr h (by omega) (by omega)
  simp only [Value.slice.injEq] at e
  obtain ⟨rfl, -, -⟩ := e
  simp only [Value.ownBlock, Option.map_some, Option.some.injEq] at hk
  omega
def RdNs (w : World) (x : Value) (ls : List Bs) : Prop := ∃ xs : List Value, Rd w x 1 ls.length xs ∧ xs.length = ls.length ∧ (∀ (i : Nat) (v : Value) (l : Bs), xs[i]? = some v → ls[i]? = some l → (RdB w v l ∧ ∃ a c, v = .slice a l.length c ∧ l.length ≤ c ∧ c ≤ 9223372036854775807)) ∧ ∃ a c, x = .slice a ls.length c ∧ ls.length ≤ c ∧ c ≤ 9223372036854775807
theorem RdNs.bs {w : World} {x : Value} {ls : List Bs} (h : RdNs w x ls) : RdBs w x ls := by
  obtain ⟨xs, h1, h2, h3, _⟩ := h
  exact ⟨xs, h1, h2, fun i v l hv hl => (h3 i v l hv hl).1⟩
theorem RdNs.low {w w' : World} {x : Value} {ls : List Bs} (h : RdNs w x ls) (hb : Below w.heap.size w w') : RdNs w' x ls := by
  obtain ⟨xs, h1, h2, h3, h4⟩ := h
  exact ⟨xs, h1.low hb, h2, fun i v l hv hl => ⟨(h3 i v l hv hl).1.low hb, (h3 i v l hv hl).2⟩, h4⟩
theorem RdNs.cap {w : World} {a : Option Addr} {n c : Nat} {ls : List Bs} (h : RdNs w (.slice a n c) ls) : n ≤ c ∧ c ≤ 9223372036854775807 := by
  obtain ⟨_, _, _, _, a', c', e, g1, g2⟩ := h
  simp only [Value.slice.injEq] at e
  obtain ⟨rfl, rfl, rfl⟩ := e
  exact ⟨g1, g2⟩
theorem RdNs.nil (w : World) : RdNs w (.slice none 0 0) [] := ⟨[], Rd.nil w 1, rfl, (fun i v l h => by simp at h), none, 0, rfl, Nat.le_refl _, by omega⟩
theorem RdNs.head {w : World} {x : Value} {ls : List Bs} (h : RdNs w x ls) : ∃ a c, x = .slice a ls.length c := h.bs.head
theorem RdNs.at {w : World} {x : Value} {ls : List Bs} (h : RdNs w x ls) {k : Nat} (hk : k < ls.length) : ∃ b off c a n c', x = .slice (some ⟨b, off, none⟩) ls.length c ∧ w.cell? ⟨b, off + k, none⟩ = some (.slice a n c') ∧ RdB w (.slice a n c') ls[k] ∧ n = ls[k].length ∧ n ≤ c' ∧ c' ≤ 9223372036854775807 ∧ b < w.heap.size := by
  obtain ⟨xs, h1, h2, h3, _⟩ := h
  obtain ⟨b, off, c, rfl, hc, hb⟩ := Rd.addr h1 (by omega) (by omega)
  have hx : xs[k]? = some (xs[k]'(by omega)) := List.getElem?_eq_getElem (by omega)
  obtain ⟨g1, a, c', e, g2, g3⟩ := h3 k _ _ hx (List.getElem?_eq_getElem hk)
  refine ⟨b, off, c, a, ls[k].length, c', rfl, ?_, ?_, rfl, g2, g3, hb⟩
  · have := hc k _ hx
    rw [e] at this
    exact this
  · rw [← e]; exact g1
theorem open_notes {H : Type} {enc : TypeId × Value → H} {W : World} {fuel : Nat} {cs : List Value} {x : DataW H × List MemPlace} (h : DataW.trod enc Tryz.prog W 0 (fun _ => true) true fuel 42 cs = some x) :
    ∃ (v : Value) (ls : List Bs), cs = [v] ∧ RdNs W v ls ∧ ls.length ≤ maxLen := by
  rcases open_slice Tryz.underlying42 h with ⟨rfl, _⟩ | ⟨a, len, cap, m, n, D, Pl, rfl, _, hl, hm, hmm, _, hi⟩
  · exact ⟨_, [], rfl, RdNs.nil W, by decide⟩
  simp only [if_true] at hmm
  have hC : Tryz.prog.cellsOf 22 = 1 := by kernel_rfl
  have key : ∀ i, i < len → ∃ y : Value × Bs, W.cell? (a.add i) = some y.1 ∧ RdB W y.1 y.2 ∧ ∃ a' c, y.1 = .slice a' y.2.length c ∧ y.2.length ≤ c ∧ c ≤ 9223372036854775807 := by
    intro i hi'
    obtain ⟨cs', hc, ht⟩ := hi i (by omega)
    rw [hC, Nat.mul_one] at hc
    obtain ⟨_, hcl, hat⟩ := World.cells?_some hc
    obtain ⟨a', c, b, rfl, hr, h1, h2⟩ := open_bytesC ht
    have h0 := hat 0 (by omega)
    exact ⟨(.slice a' b.length c, b), by simpa [Addr.add] using h0, hr, a', c, rfl, h1, h2⟩
  obtain ⟨L, hLl, hL⟩ := list_of_key len key
  subst hLl
  refine ⟨_, L.map (·.2), rfl, ⟨L.map (·.1), ⟨by simp, .inr ⟨a, cap, by simp, fun j u hu => ?_⟩⟩, by simp, (fun i v l hv hl => ?_), some a, cap, by rw [List.length_map], by rw [List.length_map]; omega, by unfold maxLen at *; omega⟩, by rw [List.length_map]; omega⟩
  · simp only [List.getElem?_map, Option.map_eq_some_iff] at hu
    obtain ⟨y, hy, rfl⟩ := hu
    obtain ⟨hj, rfl⟩ := List.getElem?_eq_some_iff.1 hy
    exact (hL j hj).1
  · simp only [List.getElem?_map, Option.map_eq_some_iff] at hv hl
    obtain ⟨y, hy, rfl⟩ := hv
    obtain ⟨z, hz, rfl⟩ := hl
    rw [hy] at hz
    simp only [Option.some.injEq] at hz
    subst hz
    obtain ⟨hj, rfl⟩ := List.getElem?_eq_some_iff.1 hy
    exact (hL i hj).2

structure Opt where
  kind : Nat
  b : Bs
  ba : Option Addr
  bn : Nat
  bc : Nat
  l : List Bs
  la : Option Addr
  ln : Nat
  lc : Nat
  num : Nat
  ka : Option Addr
  kn : Nat
  kc : Nat
  K : List Bool
  t : Int
def Opt.cells (o : Opt) : List Value := [.int .u8 o.kind, .slice o.ba o.bn o.bc, .slice o.la o.ln o.lc, .int .u8 o.num, .slice o.ka o.kn o.kc, .int .i64 o.t]
structure Opt.Ok (W : World) (o : Opt) : Prop where
  kind : o.kind < 256
  rb : RdB W (.slice o.ba o.bn o.bc) o.b
  bn : o.bn = o.b.length
  bc0 : o.bn ≤ o.bc
  bc1 : o.bc ≤ 9223372036854775807
  rl : RdNs W (.slice o.la o.ln o.lc) o.l
  ln : o.ln = o.l.length
  lmax : o.ln ≤ maxLen
  num : o.num < 256
  rk : RdK W (.slice o.ka o.kn o.kc) o.K
  kn : o.kn = o.K.length
  t0 : -9223372036854775808 ≤ o.t
  t1 : o.t ≤ 9223372036854775807
theorem Opt.Ok.low {W W' : World} {o : Opt} (h : o.Ok W) (hb : Below W.heap.size W W') : o.Ok W' := ⟨h.kind, h.rb.low hb, h.bn, h.bc0, h.bc1, h.rl.low hb, h.ln, h.lmax, h.num, h.rk.low hb, h.kn, h.t0, h.t1⟩
def RdOpts (W : World) (v : Value) (L : List Opt) : Prop := Rd W v 6 L.length (L.flatMap Opt.cells) ∧ (∀ o ∈ L, o.Ok W) ∧ L.length ≤ maxLen
theorem RdOpts.low {W W' : World} {v : Value} {L : List Opt} (h : RdOpts W v L) (hb : Below W.heap.size W W') : RdOpts W' v L := ⟨Rd.low h.1 hb, fun o ho => (h.2.1 o ho).low hb, h.2.2⟩
theorem flat_at' {α : Type} {f : α → List Value} {s : Nat} (hs : ∀ a, (f a).length = s) : ∀ (L : List α) (i : Nat) (hi : i < L.length) (j : Nat), j < s → (L.flatMap f)[i * s + j]? = (f L[i])[j]?
  | [], i, hi, j, hj => by simp at hi
  | a :: L, 0, hi, j, hj => by
    rw [List.flatMap_cons, List.getElem?_append_left (by rw [hs]; omega), Nat.zero_mul, Nat.zero_add]
    rfl
  | a :: L, i + 1, hi, j, hj => by
    rw [List.flatMap_cons, List.getElem?_append_right (by rw [hs, Nat.add_mul]; omega), hs, show (i + 1) * s + j - s = i * s + j by rw [Nat.add_mul]; omega, flat_at' hs L i (by simpa using hi) j hj]
    rfl
theorem RdOpts.at {W : World} {v : Value} {L : List Opt} (h : RdOpts W v L) {i : Nat} (hi : i < L.length) : ∃ bb off c o, v = .slice (some ⟨bb, off, none⟩) L.length c ∧ L[i] = o ∧ bb < W.heap.size ∧ o.Ok W ∧
    W.cell? ⟨bb, off + i * 6, none⟩ = some (.int .u8 o.kind) ∧ W.cell? ⟨bb, off + i * 6 + 1, none⟩ = some (.slice o.ba o.bn o.bc) ∧ W.cell? ⟨bb, off + i * 6 + 2, none⟩ = some (.slice o.la o.ln o.lc) ∧ W.cell? ⟨bb, off + i * 6 + 3, none⟩ = some (.int .u8 o.num) ∧ W.cell? ⟨bb, off + i * 6 + 4, none⟩ = some (.slice o.ka o.kn o.kc) ∧ W.cell? ⟨bb, off + i * 6 + 5, none⟩ = some (.int .i64 o.t) := by
  have hs : ∀ o : Opt, o.cells.length = 6 := fun _ => rfl
  obtain ⟨bb, off, c, rfl, hc, hb⟩ := Rd.addr h.1 (by omega) (by omega)
  have hg : ∀ j, j < 6 → ∀ u, (L[i].cells)[j]? = some u → W.cell? ⟨bb, off + i * 6 + j, none⟩ = some u := fun j hj u hu => by
    have h1 := hc (i * 6 + j) u (by rw [flat_at' hs L i hi j hj]; exact hu)
    rw [Nat.add_assoc]
    exact h1
  exact ⟨bb, off, c, L[i], rfl, rfl, hb, h.2.1 _ (List.getElem_mem hi), hg 0 (by omega) _ rfl, hg 1 (by omega) _ rfl, hg 2 (by omega) _ rfl, hg 3 (by omega) _ rfl, hg 4 (by omega) _ rfl, hg 5 (by omega) _ rfl⟩
theorem RdOpts.head {W : World} {v : Value} {L : List Opt} (h : RdOpts W v L) : ∃ a c, v = .slice a L.length c := Rd.head h.1
def Opt.Light (o : Opt) : Prop := o.bn ≤ 700 ∧ o.ln ≤ 10 ∧ o.kn ≤ 40 ∧ ∀ x ∈ o.l, x.length ≤ 700
theorem take_all' {α : Type} {L : List α} {P : α → Prop} {i : Nat} (hi : i < L.length) (h : ∀ o ∈ L.take i, P o) (hp : P L[i]) : ∀ o ∈ L.take (i + 1), P o := fun o ho => by
  rw [List.take_add_one, List.getElem?_eq_getElem hi] at ho
  rcases List.mem_append.1 ho with h1 | h1
  · exact h o h1
  · simp only [Option.toList_some, List.mem_singleton] at h1
    rw [h1]
    exact hp

set_option maxRecDepth 100000 in
set_option maxHeartbeats 1600000 in
theorem tp_heavy (v : Value) (L : List Opt) (w : World) (h : RdOpts w v L) : Calls Tryz.prog 4 #[v] w fun e w' => (e = .returned (.bool true) ∨ (e = .returned (.bool false) ∧ L.length ≤ 30 ∧ ∀ o ∈ L, o.Light)) ∧ w = w' := by
  obtain ⟨a, c, rfl⟩ := h.head
  have H := hide h
  obtain ⟨m, hm⟩ : ∃ m, m = L.length := ⟨_, rfl⟩
  rw [← hm]
  have HM := hide hm
  have hmx : m ≤ maxLen := by rw [hm]; exact h.2.2
  clear h hm
  by_cases big : 30 < m
  · have i9 : decide ((30 : Int) < m) = true := decide_eq_true (by omega)
    go_enter Tryz.func4, Tryz.ntmps4
    go_wp2
    go_ret
    exact ⟨.inl rfl, rfl⟩
  · have i9 : decide ((30 : Int) < m) = false := decide_eq_false (by omega)
    go_enter Tryz.func4, Tryz.ntmps4
    go_wp2
    go_loopw [3] (fun iv wr => ∃ i : Nat, iv = .int .i64 i ∧ i ≤ m ∧ Hid (∀ o ∈ L.take i, o.Light) ∧ w = wr) (fun iv _ => match iv with | .int _ j => m - j.toNat | _ => 0)
    case atStart => exact ⟨0, rfl, Nat.zero_le _, hide (by intro o ho; cases ho), rfl⟩
    case round =>
      obtain ⟨i, rfl, hi, hall, rfl⟩ := hrel
      by_cases hil : i < m
      · have i0 : decide ((i : Int) < m) = true := by simpa using hil
        obtain ⟨bb, off, cc, o, he, hLo, hbb, hok, c0, c1, c2, c3, c4, c5⟩ := H.out.at (i := i) (by have := HM.out; omega)
        simp only [Value.slice.injEq] at he
        obtain ⟨rfl, -, rfl⟩ := he
        have HOK := hide hok
        have hwi : IntKind.i64.wrap ((i : Int) + 1) = (i : Int) + 1 := by rw [IntKind.wrap_i64]; omega
        have hnx : Hid ((∀ x ∈ o.l, x.length ≤ 700) → o.bn ≤ 700 → o.ln ≤ 10 → o.kn ≤ 40 → ∀ o ∈ L.take (i + 1), o.Light) := hide fun g1 g2 g3 g4 => take_all' (by have := HM.out; omega) hall.out (by rw [hLo]; exact ⟨g2, g3, g4, g1⟩)
        clear hLo hok hall
        by_cases h1 : 700 < o.bn
        · have d1 : decide ((700 : Int) < o.bn) = true := decide_eq_true (by omega)
          go_wp2
          go_ret
          exact ⟨.inl rfl, rfl⟩
        · have d1 : decide ((700 : Int) < o.bn) = false := decide_eq_false (by omega)
          by_cases h2 : 10 < o.ln
          · have d2 : decide ((10 : Int) < o.ln) = true := decide_eq_true (by omega)
            go_wp2
            go_ret
            exact ⟨.inl rfl, rfl⟩
          · have d2 : decide ((10 : Int) < o.ln) = false := decide_eq_false (by omega)
            by_cases h3 : 40 < o.kn
            · have d3 : decide ((40 : Int) < o.kn) = true := decide_eq_true (by omega)
              go_wp2
              go_ret
              exact ⟨.inl rfl, rfl⟩
            · have d3 : decide ((40 : Int) < o.kn) = false := decide_eq_false (by omega)
              go_wp2
              go_loopw [4] (fun kv wr => ∃ k : Nat, kv = .int .i64 k ∧ k ≤ o.ln ∧ Hid (∀ x ∈ o.l.take k, x.length ≤ 700) ∧ w = wr) (fun kv _ => match kv with | .int _ j => o.ln - j.toNat | _ => 0)
              case atStart => exact ⟨0, rfl, Nat.zero_le _, hide (by intro o ho; cases ho), rfl⟩
              case round =>
                obtain ⟨k, rfl, hk, hx, rfl⟩ := hrel
                by_cases hkl : k < o.ln
                · have k0 : decide ((k : Int) < o.ln) = true := by simpa using hkl
                  obtain ⟨lb, lo, lcc, xa, xn, xc, he, e1, er, en, _, _, _⟩ := HOK.out.rl.at (k := k) (by have := HOK.out.ln; omega)
                  simp only [Value.slice.injEq] at he
                  obtain ⟨hla, -, hlc⟩ := he
                  rw [hla] at c2
                  have hwk : IntKind.i64.wrap ((k : Int) + 1) = (k : Int) + 1 := by rw [IntKind.wrap_i64]; omega
                  have hn2 : Hid (xn ≤ 700 → ∀ x ∈ o.l.take (k + 1), x.length ≤ 700) := hide fun g => take_all' (by have := HOK.out.ln; omega) hx.out (by rw [← en]; exact g)
                  clear er en hla hlc hx
                  by_cases h4 : 700 < xn
                  · have d4 : decide ((700 : Int) < xn) = true := decide_eq_true (by omega)
                    go_wp2
                    go_ret
                    exact ⟨.inl rfl, rfl⟩
                  · have d4 : decide ((700 : Int) < xn) = false := decide_eq_false (by omega)
                    have hn3 := hide (hn2.out (by omega))
                    clear hn2
                    go_wp2
                    exact ⟨⟨k + 1, by simp, hkl, hn3, by trivial⟩, by show o.ln - ((k : Int) + 1).toNat < o.ln - ((k : Nat) : Int).toNat; omega⟩
                · have k0 : decide ((k : Int) < o.ln) = false := decide_eq_false (by omega)
                  have hn4 := hide (hnx.out (by
                    have := hx.out
                    rw [List.take_of_length_le (by have := HOK.out.ln; omega)] at this
                    exact this) (by omega) (by omega) (by omega))
                  clear hnx hx
                  go_wp2
                  exact ⟨⟨i + 1, by simp, hil, hn4, by trivial⟩, by show m - ((i : Int) + 1).toNat < m - ((i : Nat) : Int).toNat; omega⟩
      · have i0 : decide ((i : Int) < m) = false := decide_eq_false (by omega)
        have hend : Hid (∀ o ∈ L, o.Light) := hide (by
          have := hall.out
          rw [List.take_of_length_le (by have := HM.out; omega)] at this
          exact this)
        clear hall
        go_wp2
        go_ret
        exact ⟨.inr ⟨rfl, by omega, hend.out⟩, rfl⟩
end Go.Proofs.YtglgjakjhkdoaaaGreatDoor

namespace Go.Proofs.YtglgjakjhkdoaaaGreatDoor
open Go.RowKit Go.ChangeShapes Go.WideShapes Go.ChangeAt Go.Deep
set_option linter.unusedVariables false
set_option linter.unusedSimpArgs false

theorem trodAll_five {H : Type} {enc : TypeId × Value → H} {P : Program} {w : World} {base : Nat} {spare : Nat → Bool} {held : Bool} {t t' t'' t3 t4 : TypeId} {args : Array Value} {ds : List (DataW H)} {ps : List MemPlace} (h : DataW.TrodAll enc P w base spare held [t, t', t'', t3, t4] args.toList ds ps) :
    ∃ v v' v'' v3 v4 d d' d'' d3 d4 p p' p'' p3 p4, args = #[v, v', v'', v3, v4] ∧ ds = [d, d', d'', d3, d4] ∧ ps = p ++ p' ++ p'' ++ p3 ++ p4 ∧ DataW.Trod enc P w base spare held t v d p ∧ DataW.Trod enc P w base spare held t' v' d' p' ∧ DataW.Trod enc P w base spare held t'' v'' d'' p'' ∧ DataW.Trod enc P w base spare held t3 v3 d3 p3 ∧ DataW.Trod enc P w base spare held t4 v4 d4 p4 := by
  obtain ⟨v, vs, d, ds', p, q, hargs, rfl, rfl, hd, hrest⟩ := trodAll_cons h
  obtain ⟨v', vs', d', ds'', p', q', rfl, rfl, rfl, hd', hrest'⟩ := trodAll_cons hrest
  obtain ⟨v'', vs'', d'', ds''', p'', q'', rfl, rfl, rfl, hd'', hrest''⟩ := trodAll_cons hrest'
  obtain ⟨v3, vs3, d3, ds3, p3, q3, rfl, rfl, rfl, hd3, hrest3⟩ := trodAll_cons hrest''
  obtain ⟨v4, vs4, d4, ds4, p4, q4, rfl, rfl, rfl, hd4, hrest4⟩ := trodAll_cons hrest3
  obtain ⟨rfl, rfl, rfl⟩ := trodAll_nil hrest4
  exact ⟨v, v', v'', v3, v4, d, d', d'', d3, d4, p, p', p'', p3, p4, by cases args; simp_all, rfl, by simp, hd, hd', hd'', hd3, hd4⟩
theorem open_strv {H : Type} {enc : TypeId × Value → H} {P : Program} {w : World} {base b0 : Nat} {sp : Nat → Bool} {held : Bool} {r : Go.Reach} {t : TypeId} {v : Value} {d : DataW H} {ps : List MemPlace} (ht : P.underlying t = some .string) (hval : Value.okWide P w r b0 t v) (hd : DataW.Trod enc P w base sp held t v d ps) :
    ∃ l : Bs, v = .string ⟨l.toArray⟩ ∧ l.length ≤ maxLen := by
  obtain ⟨s, rfl, _, _, hs⟩ := Go.ChangeMaps.open_string ht hval hd
  refine ⟨s.data.toList, by simp, ?_⟩
  rw [Array.length_toList]
  exact hs
theorem flat_len6 {α : Type} {f : α → List Value} {s : Nat} (hs : ∀ a, (f a).length = s) : ∀ L : List α, (L.flatMap f).length = L.length * s
  | [] => by simp
  | a :: L => by rw [List.flatMap_cons, List.length_append, hs, flat_len6 hs L, List.length_cons, Nat.add_mul]; omega
set_option maxRecDepth 100000 in
theorem open_opts {H : Type} {enc : TypeId × Value → H} {W : World} {fuel : Nat} {cs : List Value} {x : DataW H × List MemPlace} (h : DataW.trod enc Tryz.prog W 0 (fun _ => true) true fuel 23 cs = some x) :
    ∃ (v : Value) (L : List Opt), cs = [v] ∧ RdOpts W v L := by
  rcases open_slice Tryz.underlying23 h with ⟨rfl, _⟩ | ⟨a, len, cap, m, n, D, Pl, rfl, _, hl, hm, hmm, _, hi⟩
  · exact ⟨_, [], rfl, ⟨by simp, .inl ⟨rfl, rfl⟩⟩, (fun o ho => by cases ho), by decide⟩
  simp only [if_true] at hmm
  have hC : Tryz.prog.cellsOf 47 = 6 := by kernel_rfl
  have kU : Tryz.prog.cellsOf 5 = 1 := by kernel_rfl
  have kB : Tryz.prog.cellsOf 22 = 1 := by kernel_rfl
  have kN : Tryz.prog.cellsOf 42 = 1 := by kernel_rfl
  have kI : Tryz.prog.cellsOf 3 = 1 := by kernel_rfl
  have kL : Tryz.prog.cellsOf 45 = 2 := by kernel_rfl
  have kK : Tryz.prog.cellsOf 43 = 1 := by kernel_rfl
  have key : ∀ i, i < len → ∃ o : Opt, o.Ok W ∧ ∀ j, j < 6 → W.cell? (a.add (i * 6 + j)) = o.cells[j]? := by
    intro i hi'
    obtain ⟨cs', hc, ht⟩ := hi i (by omega)
    rw [hC] at hc
    obtain ⟨_, hcl, hat⟩ := World.cells?_some hc
    obtain ⟨ys, n', _, _, _, hyl, hf⟩ := DataW.trod_struct Tryz.underlying47 ht
    match cs', hcl with
    | [x0, x1, x2, x3, x4, x5], _ =>
      match ys, hyl with
      | [y0, y1, y2, y3, y4], _ =>
        obtain ⟨n0, e0, _, w0⟩ := DataW.trod_int Tryz.underlying5 (by simpa [kU] using hf 0 _ rfl : DataW.trod enc Tryz.prog W 0 (fun _ => true) true n' 5 [x0] = some y0)
        obtain ⟨a1, c1, b1, e1, hr1, hl1, hd1⟩ := open_bytesC (by simpa [kB] using hf 1 _ rfl : DataW.trod enc Tryz.prog W 0 (fun _ => true) true n' 22 [x1] = some y1)
        obtain ⟨v2, l2, e2, hr2, hm2⟩ := open_notes (by simpa [kN] using hf 2 _ rfl : DataW.trod enc Tryz.prog W 0 (fun _ => true) true n' 42 [x2] = some y2)
        obtain ⟨n3, e3, _, w3⟩ := DataW.trod_int Tryz.underlying5 (by simpa [kU] using hf 3 _ rfl : DataW.trod enc Tryz.prog W 0 (fun _ => true) true n' 5 [x3] = some y3)
        obtain ⟨zs, n5, _, _, _, hzl, hg⟩ := DataW.trod_struct Tryz.underlying45 (by simpa [kL] using hf 4 _ rfl : DataW.trod enc Tryz.prog W 0 (fun _ => true) true n' 45 [x4, x5] = some y4)
        match zs, hzl with
        | [z0, z1], _ =>
          obtain ⟨ka, kn, kc, K, e5, hr5, hm5⟩ := open_bools (by simpa [kK] using hg 0 _ rfl : DataW.trod enc Tryz.prog W 0 (fun _ => true) true n5 43 [x4] = some z0)
          obtain ⟨n6, e6, _, w6⟩ := DataW.trod_int Tryz.underlying3 (by simpa [kI] using hg 1 _ rfl : DataW.trod enc Tryz.prog W 0 (fun _ => true) true n5 3 [x5] = some z1)
          simp only [List.cons.injEq, and_true] at e0 e1 e2 e3 e5 e6
          obtain ⟨la, lc, rfl⟩ := hr2.head
          have hu8 := wf_u8 w0
          have hu83 := wf_u8 w3
          refine ⟨⟨n0.toNat, b1, a1, b1.length, c1, l2, la, l2.length, lc, n3.toNat, ka, kn, kc, K, n6⟩, ⟨by show n0.toNat < 256; omega, hr1, rfl, hl1, hd1, hr2, rfl, hm2, by show n3.toNat < 256; omega, hr5, hm5, (wf_i64 w6).1, (wf_i64 w6).2⟩, fun j hj => ?_⟩
          have h9 := hat j (by omega)
          rw [Go.Deep.add_add] at h9
          rw [h9]
          subst e0 e1 e2 e3 e5 e6
          have e9 : ((n0.toNat : Nat) : Int) = n0 := by omega
          have e93 : ((n3.toNat : Nat) : Int) = n3 := by omega
          simp only [Opt.cells, e9, e93]
  obtain ⟨L, hLl, hL⟩ := list_of_key len key
  subst hLl
  have hs : ∀ o : Opt, o.cells.length = 6 := fun _ => rfl
  refine ⟨_, L, rfl, ⟨by rw [flat_len6 hs], .inr ⟨a, cap, rfl, fun j u hu => ?_⟩⟩, fun o ho => ?_, by omega⟩
  · have hjl : j < L.length * 6 := by rw [← flat_len6 hs]; exact (List.getElem?_eq_some_iff.1 hu).1
    have h1 : j / 6 < L.length := by omega
    have h2 := (hL (j / 6) h1).2 (j % 6) (Nat.mod_lt _ (by omega))
    have h3 : j / 6 * 6 + j % 6 = j := by omega
    rw [h3] at h2
    rw [h2, ← flat_at' hs L (j / 6) h1 (j % 6) (Nat.mod_lt _ (by omega)), h3]
    exact hu
  · obtain ⟨i, hi, rfl⟩ := List.getElem_of_mem ho
    exact (hL i hi).1
end Go.Proofs.YtglgjakjhkdoaaaGreatDoor

/-
  The laws' calls on a file system, as data and as they came in; what is too heavy.
-/
import Derived.Test.YtcgkhocmlolknaaFsXA
namespace Go.Proofs.Ytcgkhocmlolknaa
open Go.RowKit Go.ChangeShapes Go.WideShapes Go.ChangeAt Go.Deep
set_option linter.unusedVariables false
set_option linter.unusedSimpArgs false

/-- a call -/
structure Opr where
  kind : Nat
  name : Bs
  other : Bs
  b : Bs
  ba : Option Addr
  bn : Nat
  bc : Nat
  num : Int
  ka : Option Addr
  kn : Nat
  kc : Nat
  K : List Bool
  t : Int
def Opr.cells (o : Opr) : List Value := [.int .u8 o.kind, .string ⟨o.name.toArray⟩, .string ⟨o.other.toArray⟩, .slice o.ba o.bn o.bc, .int .i64 o.num, .slice o.ka o.kn o.kc, .int .i64 o.t]
structure Opr.Ok (W : World) (o : Opr) : Prop where
  kind : o.kind < 256
  name : o.name.length ≤ maxLen
  other : o.other.length ≤ maxLen
  rb : RdB W (.slice o.ba o.bn o.bc) o.b
  bn : o.bn = o.b.length
  bmax : o.bn ≤ maxLen
  num0 : -9223372036854775808 ≤ o.num
  num1 : o.num ≤ 9223372036854775807
  rk : RdK W (.slice o.ka o.kn o.kc) o.K
  kn : o.kn = o.K.length
  t0 : -9223372036854775808 ≤ o.t
  t1 : o.t ≤ 9223372036854775807
theorem Opr.Ok.low {W W' : World} {o : Opr} (h : o.Ok W) (hb : Below W.heap.size W W') : o.Ok W' := ⟨h.kind, h.name, h.other, h.rb.low hb, h.bn, h.bmax, h.num0, h.num1, h.rk.low hb, h.kn, h.t0, h.t1⟩
def RdOps (W : World) (v : Value) (L : List Opr) : Prop := Rd W v 7 L.length (L.flatMap Opr.cells) ∧ (∀ o ∈ L, o.Ok W) ∧ L.length ≤ maxLen
theorem RdOps.low {W W' : World} {v : Value} {L : List Opr} (h : RdOps W v L) (hb : Below W.heap.size W W') : RdOps W' v L := ⟨Rd.low h.1 hb, fun o ho => (h.2.1 o ho).low hb, h.2.2⟩

theorem flat_at {α : Type} {f : α → List Value} {s : Nat} (hs : ∀ a, (f a).length = s) : ∀ (L : List α) (i : Nat) (hi : i < L.length) (j : Nat), j < s → (L.flatMap f)[i * s + j]? = (f L[i])[j]?
  | [], i, hi, j, hj => by simp at hi
  | a :: L, 0, hi, j, hj => by
    rw [List.flatMap_cons, List.getElem?_append_left (by rw [hs]; omega), Nat.zero_mul, Nat.zero_add]
    rfl
  | a :: L, i + 1, hi, j, hj => by
    rw [List.flatMap_cons, List.getElem?_append_right (by rw [hs, Nat.add_mul]; omega), hs, show (i + 1) * s + j - s = i * s + j by rw [Nat.add_mul]; omega, flat_at hs L i (by simpa using hi) j hj]
    rfl
theorem flat_len {α : Type} {f : α → List Value} {s : Nat} (hs : ∀ a, (f a).length = s) : ∀ (L : List α), (L.flatMap f).length = L.length * s
  | [] => by simp
  | a :: L => by rw [List.flatMap_cons, List.length_append, hs, flat_len hs L, List.length_cons, Nat.add_mul]; omega

theorem RdOps.at {W : World} {v : Value} {L : List Opr} (h : RdOps W v L) {i : Nat} (hi : i < L.length) : ∃ bb off c o, v = .slice (some ⟨bb, off, none⟩) L.length c ∧ L[i] = o ∧ bb < W.heap.size ∧ o.Ok W ∧
    W.cell? ⟨bb, off + i * 7, none⟩ = some (.int .u8 o.kind) ∧ W.cell? ⟨bb, off + i * 7 + 1, none⟩ = some (.string ⟨o.name.toArray⟩) ∧ W.cell? ⟨bb, off + i * 7 + 2, none⟩ = some (.string ⟨o.other.toArray⟩) ∧ W.cell? ⟨bb, off + i * 7 + 3, none⟩ = some (.slice o.ba o.bn o.bc) ∧ W.cell? ⟨bb, off + i * 7 + 4, none⟩ = some (.int .i64 o.num) ∧ W.cell? ⟨bb, off + i * 7 + 5, none⟩ = some (.slice o.ka o.kn o.kc) ∧ W.cell? ⟨bb, off + i * 7 + 6, none⟩ = some (.int .i64 o.t) := by
  have hs : ∀ o : Opr, o.cells.length = 7 := fun _ => rfl
  obtain ⟨bb, off, c, rfl, hc, hb⟩ := Rd.addr h.1 (by omega) (by omega)
  have hg : ∀ j, j < 7 → ∀ u, (L[i].cells)[j]? = some u → W.cell? ⟨bb, off + i * 7 + j, none⟩ = some u := fun j hj u hu => by
    have h1 := hc (i * 7 + j) u (by rw [flat_at hs L i hi j hj]; exact hu)
    rw [Nat.add_assoc]
    exact h1
  exact ⟨bb, off, c, L[i], rfl, rfl, hb, h.2.1 _ (List.getElem_mem hi), hg 0 (by omega) _ rfl, hg 1 (by omega) _ rfl, hg 2 (by omega) _ rfl, hg 3 (by omega) _ rfl, hg 4 (by omega) _ rfl, hg 5 (by omega) _ rfl, hg 6 (by omega) _ rfl⟩
theorem RdOps.head {W : World} {v : Value} {L : List Opr} (h : RdOps W v L) : ∃ a c, v = .slice a L.length c := Rd.head h.1

def Opr.Light (o : Opr) : Prop := o.bn ≤ 300 ∧ o.name.length ≤ 40 ∧ o.other.length ≤ 40 ∧ o.kn ≤ 60

theorem open_str {H : Type} {enc : TypeId × Value → H} {W : World} {fuel : Nat} {cs : List Value} {x : DataW H × List MemPlace} (h : DataW.trod enc Try.prog W 0 (fun _ => true) true fuel 9 cs = some x) : ∃ l : Bs, cs = [.string ⟨l.toArray⟩] ∧ l.length ≤ maxLen := by
  obtain ⟨s, rfl, _, hs⟩ := DataW.trod_string Try.underlying9 h
  refine ⟨s.data.toList, by simp, ?_⟩
  rw [Array.length_toList]
  exact hs

set_option maxRecDepth 100000 in
theorem open_ops {H : Type} {enc : TypeId × Value → H} {W : World} {fuel : Nat} {cs : List Value} {x : DataW H × List MemPlace} (h : DataW.trod enc Try.prog W 0 (fun _ => true) true fuel 22 cs = some x) :
    ∃ (v : Value) (L : List Opr), cs = [v] ∧ RdOps W v L := by
  rcases open_slice Try.underlying22 h with ⟨rfl, _⟩ | ⟨a, len, cap, m, n, D, Pl, rfl, _, hl, hm, hmm, _, hi⟩
  · exact ⟨_, [], rfl, ⟨by simp, .inl ⟨rfl, rfl⟩⟩, (fun o ho => by cases ho), by decide⟩
  simp only [if_true] at hmm
  have hC : Try.prog.cellsOf 32 = 7 := by kernel_rfl
  have kU : Try.prog.cellsOf 5 = 1 := by kernel_rfl
  have kS : Try.prog.cellsOf 9 = 1 := by kernel_rfl
  have kB : Try.prog.cellsOf 27 = 1 := by kernel_rfl
  have kI : Try.prog.cellsOf 3 = 1 := by kernel_rfl
  have kL : Try.prog.cellsOf 30 = 2 := by kernel_rfl
  have kK : Try.prog.cellsOf 28 = 1 := by kernel_rfl
  have key : ∀ i, i < len → ∃ o : Opr, o.Ok W ∧ ∀ j, j < 7 → W.cell? (a.add (i * 7 + j)) = o.cells[j]? := by
    intro i hi'
    obtain ⟨cs', hc, ht⟩ := hi i (by omega)
    rw [hC] at hc
    obtain ⟨_, hcl, hat⟩ := World.cells?_some hc
    obtain ⟨ys, n', _, _, _, hyl, hf⟩ := DataW.trod_struct Try.underlying32 ht
    match cs', hcl with
    | [x0, x1, x2, x3, x4, x5, x6], _ =>
      match ys, hyl with
      | [y0, y1, y2, y3, y4, y5], _ =>
        obtain ⟨n0, e0, _, w0⟩ := DataW.trod_int Try.underlying5 (by simpa [kU] using hf 0 _ rfl : DataW.trod enc Try.prog W 0 (fun _ => true) true n' 5 [x0] = some y0)
        obtain ⟨s1, e1, hs1⟩ := open_str (by simpa [kS] using hf 1 _ rfl : DataW.trod enc Try.prog W 0 (fun _ => true) true n' 9 [x1] = some y1)
        obtain ⟨s2, e2, hs2⟩ := open_str (by simpa [kS] using hf 2 _ rfl : DataW.trod enc Try.prog W 0 (fun _ => true) true n' 9 [x2] = some y2)
        obtain ⟨v3, b3, e3, hr3, hl3⟩ := open_bytes (by simpa [kB] using hf 3 _ rfl : DataW.trod enc Try.prog W 0 (fun _ => true) true n' 27 [x3] = some y3)
        obtain ⟨n4, e4, _, w4⟩ := DataW.trod_int Try.underlying3 (by simpa [kI] using hf 4 _ rfl : DataW.trod enc Try.prog W 0 (fun _ => true) true n' 3 [x4] = some y4)
        obtain ⟨zs, n5, _, _, _, hzl, hg⟩ := DataW.trod_struct Try.underlying30 (by simpa [kL] using hf 5 _ rfl : DataW.trod enc Try.prog W 0 (fun _ => true) true n' 30 [x5, x6] = some y5)
        match zs, hzl with
        | [z0, z1], _ =>
          obtain ⟨ka, kn, kc, K, e5, hr5, hm5⟩ := open_bools (by simpa [kK] using hg 0 _ rfl : DataW.trod enc Try.prog W 0 (fun _ => true) true n5 28 [x5] = some z0)
          obtain ⟨n6, e6, _, w6⟩ := DataW.trod_int Try.underlying3 (by simpa [kI] using hg 1 _ rfl : DataW.trod enc Try.prog W 0 (fun _ => true) true n5 3 [x6] = some z1)
          simp only [List.cons.injEq, and_true] at e0 e1 e2 e3 e4 e5 e6
          obtain ⟨ba, bc, rfl⟩ := hr3.head
          have hu8 := wf_u8 w0
          refine ⟨⟨n0.toNat, s1, s2, b3, ba, b3.length, bc, n4, ka, kn, kc, K, n6⟩, ⟨by show n0.toNat < 256; omega, hs1, hs2, hr3, rfl, hl3, (wf_i64 w4).1, (wf_i64 w4).2, hr5, hm5, (wf_i64 w6).1, (wf_i64 w6).2⟩, fun j hj => ?_⟩
          have h9 := hat j (by omega)
          rw [Go.Deep.add_add] at h9
          rw [h9]
          subst e0 e1 e2 e3 e4 e5 e6
          have e9 : ((n0.toNat : Nat) : Int) = n0 := by omega
          simp only [Opr.cells, e9]
  obtain ⟨L, hLl, hL⟩ := list_of_key len key
  subst hLl
  have hs : ∀ o : Opr, o.cells.length = 7 := fun _ => rfl
  refine ⟨_, L, rfl, ⟨by rw [flat_len hs], .inr ⟨a, cap, rfl, fun j u hu => ?_⟩⟩, fun o ho => ?_, by omega⟩
  · have hjl : j < L.length * 7 := by rw [← flat_len hs]; exact (List.getElem?_eq_some_iff.1 hu).1
    have h1 : j / 7 < L.length := by omega
    have h2 := (hL (j / 7) h1).2 (j % 7) (Nat.mod_lt _ (by omega))
    have h3 : j / 7 * 7 + j % 7 = j := by omega
    rw [h3] at h2
    rw [h2, ← flat_at hs L (j / 7) h1 (j % 7) (Nat.mod_lt _ (by omega)), h3]
    exact hu
  · obtain ⟨i, hi, rfl⟩ := List.getElem_of_mem ho
    exact (hL i hi).1

theorem take_all {L : List Opr} {P : Opr → Prop} {i : Nat} (hi : i < L.length) (h : ∀ o ∈ L.take i, P o) (hp : P L[i]) : ∀ o ∈ L.take (i + 1), P o := fun o ho => by
  rw [List.take_add_one, List.getElem?_eq_getElem hi] at ho
  rcases List.mem_append.1 ho with h1 | h1
  · exact h o h1
  · simp only [Option.toList_some, List.mem_singleton] at h1
    rw [h1]
    exact hp

set_option maxRecDepth 100000 in
set_option maxHeartbeats 1600000 in
theorem law_heavy (v : Value) (L : List Opr) (w : World) (h : RdOps w v L) : Calls Try.prog 5 #[v] w fun e w' => (e = .returned (.bool true) ∨ (e = .returned (.bool false) ∧ L.length ≤ 50 ∧ ∀ o ∈ L, o.Light)) ∧ Below w.heap.size w w' := by
  obtain ⟨a, c, rfl⟩ := h.head
  have H := hide h
  clear h
  by_cases big : 50 < L.length
  · have i9 : (50 : Int) < L.length := by omega
    go_enter Try.func5, Try.ntmps5
    go_wp2
    go_ret
    exact ⟨.inl rfl, Below.refl _ _⟩
  · have i9 : ¬ ((50 : Int) < L.length) := by omega
    go_enter Try.func5, Try.ntmps5
    go_wp2
    go_loopw [3, 4] (fun iv _ wr => ∃ i : Nat, iv = .int .i64 i ∧ i ≤ L.length ∧ Hid (∀ o ∈ L.take i, o.Light) ∧ Hid (Below w.heap.size w wr)) (fun iv _ _ => match iv with | .int _ j => L.length - j.toNat | _ => 0)
    case atStart => exact ⟨0, rfl, Nat.zero_le _, hide (by intro o ho; cases ho), hide (Below.refl _ _)⟩
    case round =>
      obtain ⟨i, rfl, hi, hall, hb⟩ := hrel
      by_cases hil : i < L.length
      · have i0 : (i : Int) < L.length := by omega
        obtain ⟨bb, off, cc, o, he, hLo, hbb, hok, c0, c1, c2, c3, c4, c5, c6⟩ := (H.out.low hb.out).at hil
        simp only [Value.slice.injEq] at he
        obtain ⟨rfl, -, rfl⟩ := he
        have HB := hide (hb.out.trans ((below_alloc wr (.cells o.cells.toArray 32)).mono hb.out.size))
        have HLO := hide hLo
        clear hLo
        have hwi : IntKind.i64.wrap ((i : Int) + 1) = (i : Int) + 1 := wrap64 (by omega) (by have := H.out.2.2; unfold maxLen at this; omega)
        go_upto_region 7 with fail
        obtain ⟨W1, hW1⟩ : ∃ W1, W1 = wr.alloc (.cells o.cells.toArray 32) := ⟨_, rfl⟩
        have hg := heap_alloc_at wr (.cells o.cells.toArray 32)
        rw [← hW1] at HB hg
        have hW2 : wr.alloc (.cells #[.int .u8 o.kind, .string ⟨o.name.toArray⟩, .string ⟨o.other.toArray⟩, .slice o.ba o.bn o.bc, .int .i64 o.num, .slice o.ka o.kn o.kc, .int .i64 o.t] 32) = W1 := hW1.symm
        rw [hW2]
        have f1 : W1.cell? ⟨wr.heap.size, 1, none⟩ = some (.string ⟨o.name.toArray⟩) := by simp [World.cell?, hg, Opr.cells]
        have f2 : W1.cell? ⟨wr.heap.size, 2, none⟩ = some (.string ⟨o.other.toArray⟩) := by simp [World.cell?, hg, Opr.cells]
        have f3 : W1.cell? ⟨wr.heap.size, 3, none⟩ = some (.slice o.ba o.bn o.bc) := by simp [World.cell?, hg, Opr.cells]
        have f5 : W1.cell? ⟨wr.heap.size, 5, none⟩ = some (.slice o.ka o.kn o.kc) := by simp [World.cell?, hg, Opr.cells]
        clear c0 c1 c2 c3 c4 c5 c6 hW1 hW2 hg hok
        obtain ⟨ln, hln⟩ : ∃ n, n = o.name.length := ⟨_, rfl⟩
        obtain ⟨lo, hlo⟩ : ∃ n, n = o.other.length := ⟨_, rfl⟩
        by_cases g1 : 300 < o.bn
        · have i1 : (300 : Int) < o.bn := by omega
          go_wp2
          go_ret
          exact ⟨.inl rfl, HB.out⟩
        have i1 : ¬ ((300 : Int) < o.bn) := by omega
        by_cases g2 : 40 < o.name.length
        · have i2 : (40 : Int) < o.name.length := by omega
          go_wp2
          go_ret
          exact ⟨.inl rfl, HB.out⟩
        have i2 : ¬ ((40 : Int) < o.name.length) := by omega
        by_cases g3 : 40 < o.other.length
        · have i3 : (40 : Int) < o.other.length := by omega
          go_wp2
          go_ret
          exact ⟨.inl rfl, HB.out⟩
        have i3 : ¬ ((40 : Int) < o.other.length) := by omega
        by_cases g4 : 60 < o.kn
        · have i4 : (60 : Int) < o.kn := by omega
          go_wp2
          go_ret
          exact ⟨.inl rfl, HB.out⟩
        have i4 : ¬ ((60 : Int) < o.kn) := by omega
        have hnx := hide (take_all hil hall.out (by rw [HLO.out]; exact ⟨by omega, by omega, by omega, by omega⟩))
        clear hall hln hlo g1 g2 g3 g4
        go_wp2
        exact ⟨⟨i + 1, by simp, hil, hnx, HB⟩, by show L.length - ((i : Int) + 1).toNat < L.length - ((i : Nat) : Int).toNat; omega⟩
      · obtain rfl : i = L.length := by omega
        have hend := hall.out
        rw [List.take_length] at hend
        have HE := hide hend
        clear hend hall
        go_wp2
        go_ret
        exact ⟨.inr ⟨rfl, by omega, HE.out⟩, hb.out⟩
end Go.Proofs.Ytcgkhocmlolknaa

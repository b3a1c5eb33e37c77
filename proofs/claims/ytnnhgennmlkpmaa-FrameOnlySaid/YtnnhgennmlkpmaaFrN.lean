/-
  Frames as plain data: what is written is read; what is read was written so; a byte that is changed is told.
-/
import Derived.Test.YtnnhgennmlkpmaaFrV
namespace Go.Proofs.Ytnnhgennmlkpmaa
set_option linter.unusedVariables false
set_option linter.unusedSimpArgs false

theorem body_split (f : Fr) : writeB f = bodyB f ++ be4 (crcSum (bodyB f)) := rfl
theorem body_length (f : Fr) : (bodyB f).length = 40 + f.b.length := by simp [bodyB, headB_length]
theorem write_take (f : Fr) : (writeB f).take ((writeB f).length - 4) = bodyB f := by
  rw [writeB_length, body_split, List.take_append_of_le_length (by rw [body_length]; omega), List.take_of_length_le (by rw [body_length]; omega)]
theorem write_drop (f : Fr) : (writeB f).drop ((writeB f).length - 4) = be4 (crcSum (bodyB f)) := by
  rw [writeB_length, body_split, List.drop_append_of_le_length (by rw [body_length]; omega), List.drop_of_length_le (by rw [body_length]; omega), List.nil_append]
theorem write_lenOk {f : Fr} (h : mayB f = true) : lenOk (writeB f) = true := by
  have := (mayB_n h).2.2
  unfold lenOk
  rw [writeB_length]
  simp
  omega
theorem write_sumOk (f : Fr) : sumOk (writeB f) = true := by
  unfold sumOk
  rw [write_take, write_drop, unB_be4 (crcSum_lt _)]
  simp
theorem head_part3 (f : Fr) (T : List UInt8) : ((headB f ++ T).drop 3).take 4 = be4 f.epoch := by simp [headB, be4]
theorem head_part7 (f : Fr) (T : List UInt8) : ((headB f ++ T).drop 7).take 4 = be4 f.series := by simp [headB, be4]
theorem head_part11 (f : Fr) (T : List UInt8) : ((headB f ++ T).drop 11).take 4 = be4 f.chunk := by simp [headB, be4]
theorem head_part15 (f : Fr) (T : List UInt8) : ((headB f ++ T).drop 15).take 4 = be4 f.bits := by simp [headB, be4]
theorem head_part19 (f : Fr) (T : List UInt8) : ((headB f ++ T).drop 19).take 4 = be4 f.cnt := by simp [headB, be4]
theorem head_part23 (f : Fr) (T : List UInt8) : ((headB f ++ T).drop 23).take 4 = be4 f.count := by simp [headB, be4]
theorem head_part28 (f : Fr) (T : List UInt8) : ((headB f ++ T).drop 28).take 4 = be4 (f.sum / 4294967296) := by simp [headB, be4]
theorem head_part32 (f : Fr) (T : List UInt8) : ((headB f ++ T).drop 32).take 4 = be4 (f.sum % 4294967296) := by simp [headB, be4]
theorem head_part36 (f : Fr) (T : List UInt8) : ((headB f ++ T).drop 36).take 4 = be4 (f.n % 4294967296).toNat := by simp [headB, be4]
theorem head_part2 (f : Fr) (T : List UInt8) : (headB f ++ T).getD 2 0 = UInt8.ofNat f.kind := by simp [headB, be4]
theorem head_part27 (f : Fr) (T : List UInt8) : (headB f ++ T).getD 27 0 = flagB f.closed := by simp [headB, be4]
theorem write_split (f : Fr) : writeB f = headB f ++ (f.b ++ be4 (crcSum (bodyB f))) := by rw [body_split, bodyB, List.append_assoc]
theorem write_mid (f : Fr) : ((writeB f).take ((writeB f).length - 4)).drop 40 = f.b := by
  rw [write_take, bodyB, List.drop_append_of_le_length (by rw [headB_length]; omega), List.drop_of_length_le (by rw [headB_length]; omega), List.nil_append]
theorem write_num3 {f : Fr} (h : f.epoch < 4294967296) : num (writeB f) 3 = f.epoch := by unfold num; rw [write_split, head_part3, unB_be4 h]
theorem write_num7 {f : Fr} (h : f.series < 4294967296) : num (writeB f) 7 = f.series := by unfold num; rw [write_split, head_part7, unB_be4 h]
theorem write_num11 {f : Fr} (h : f.chunk < 4294967296) : num (writeB f) 11 = f.chunk := by unfold num; rw [write_split, head_part11, unB_be4 h]
theorem write_num15 {f : Fr} (h : f.bits < 4294967296) : num (writeB f) 15 = f.bits := by unfold num; rw [write_split, head_part15, unB_be4 h]
theorem write_num19 {f : Fr} (h : f.cnt < 4294967296) : num (writeB f) 19 = f.cnt := by unfold num; rw [write_split, head_part19, unB_be4 h]
theorem write_num23 {f : Fr} (h : f.count < 4294967296) : num (writeB f) 23 = f.count := by unfold num; rw [write_split, head_part23, unB_be4 h]
theorem write_num28 {f : Fr} (h : f.sum < 18446744073709551616) : num (writeB f) 28 = f.sum / 4294967296 := by unfold num; rw [write_split, head_part28]; exact unB_be4 (by omega)
theorem write_num32 (f : Fr) : num (writeB f) 32 = f.sum % 4294967296 := by unfold num; rw [write_split, head_part32]; exact unB_be4 (by omega)
theorem write_num36 {f : Fr} (h0 : 0 ≤ f.n) (h1 : f.n < 4294967296) : num (writeB f) 36 = f.n.toNat := by
  unfold num
  rw [write_split, head_part36, show (f.n % 4294967296).toNat = f.n.toNat by omega]
  exact unB_be4 (by omega)
theorem fields_of {w : List UInt8} {f : Fr} (k2 : (w.getD 2 0).toNat = f.kind) (k27 : ((w.getD 27 0).toNat == 1) = f.closed) (n3 : num w 3 = f.epoch) (n7 : num w 7 = f.series) (n11 : num w 11 = f.chunk) (n15 : num w 15 = f.bits) (n19 : num w 19 = f.cnt) (n23 : num w 23 = f.count)
    (ns : num w 28 * 4294967296 + num w 32 = f.sum) (n36 : ((num w 36 : Nat) : Int) = f.n) (hb : (w.take (w.length - 4)).drop 40 = f.b) : fieldsB w = f := by
  unfold fieldsB
  rw [k2, k27, n3, n7, n11, n15, n19, n23, ns, n36, hb]
theorem write_fields {f : Fr} (hok : f.Ok) (h0 : 0 ≤ f.n) (h1 : f.n < 4294967296) : fieldsB (writeB f) = f := by
  obtain ⟨o1, o2, o3, o4, o5, o6, o7, o8, o9, o10⟩ := hok
  refine fields_of ?_ ?_ (write_num3 o2) (write_num7 o3) (write_num11 o4) (write_num15 o5) (write_num19 o6) (write_num23 o7) ?_ ?_ (write_mid f)
  · rw [write_split, head_part2, UInt8.toNat_ofNat']; omega
  · rw [write_split, head_part27]; cases f.closed <;> rfl
  · rw [write_num28 o8, write_num32]; omega
  · rw [write_num36 h0 h1]; omega
theorem write_isFr {f : Fr} (hok : f.Ok) (h : mayB f = true) : isFr (writeB f) = true := by
  unfold isFr
  rw [write_fields hok (mayB_n h).1 (mayB_n h).2.1, h]
  simp
theorem write_dec {f : Fr} (hok : f.Ok) (h : mayB f = true) : decE (writeB f) = 0 ∧ decF (writeB f) = f := by
  unfold decE decF goE goF
  rw [write_lenOk h, write_sumOk, write_isFr hok h, write_fields hok (mayB_n h).1 (mayB_n h).2.1]
  exact ⟨rfl, rfl⟩
theorem dec_ok {b : List UInt8} (h : decE b = 0) : mayB (decF b) = true ∧ writeB (decF b) = b ∧ lenOk b = true ∧ sumOk b = true := by
  unfold decE goE at h
  unfold decF goF
  cases hl : lenOk b with
  | false => rw [hl] at h; simp at h
  | true =>
    cases hs : sumOk b with
    | false => rw [hl, hs] at h; simp at h
    | true =>
      cases hi : isFr b with
      | false => rw [hl, hs, hi] at h; simp at h
      | true =>
        unfold isFr at hi
        simp at hi
        simp [hi]
theorem dec_no {b : List UInt8} (h : decE b ≠ 0) : decF b = zeroFr := by
  unfold decE goE at h
  unfold decF goF
  cases hl : lenOk b <;> cases hs : sumOk b <;> cases hi : isFr b <;> simp_all
theorem num_lt {b : List UInt8} {k : Nat} (h : k + 4 ≤ b.length) : num b k < 4294967296 := unB_lt (by simp; omega)
theorem dec_Ok (b : List UInt8) : (decF b).Ok := by
  have hz : zeroFr.Ok := by constructor <;> decide
  unfold decF
  split
  · rename_i hl
    have h44 : 44 ≤ b.length := by
      have := (Bool.and_eq_true_iff.1 hl).1
      unfold lenOk at this
      simp at this
      omega
    unfold goF
    split
    · have n28 := num_lt (b := b) (k := 28) (by omega); have n32 := num_lt (b := b) (k := 32) (by omega); have n36 := num_lt (b := b) (k := 36) (by omega)
      exact ⟨(b.getD 2 0).toNat_lt, num_lt (by omega), num_lt (by omega), num_lt (by omega), num_lt (by omega), num_lt (by omega), num_lt (by omega), by simp only [fieldsB]; omega, by simp only [fieldsB]; omega, by simp only [fieldsB]; omega⟩
    · exact hz
  · exact hz
theorem dec_len (b : List UInt8) : (decF b).b.length ≤ b.length := by
  unfold decF
  split
  · unfold goF
    split
    · simp only [fieldsB, List.length_drop, List.length_take]; omega
    · simp [zeroFr]
  · simp [zeroFr]

theorem crcFold_inj : ∀ (l : List UInt8) {c c' : Nat}, c < 2 ^ 32 → c' < 2 ^ 32 → crcFold c l = crcFold c' l → c = c'
  | [], _, _, _, _, h => h
  | x :: l, c, c', h1, h2, h => by
    rw [crcFold_cons, crcFold_cons] at h
    have h3 := crcFold_inj l (upd_lt x h1) (upd_lt x h2) h
    have h4 := upd_inj h1 h2 h3
    rw [Nat.xor_comm c, Nat.xor_comm c'] at h4
    exact xor_cancel h4
/-- a byte that is changed changes the sum -/
theorem crcSum_set {l : List UInt8} {k : Nat} {c : UInt8} (hk : k < l.length) (h : crcSum (l.set k c) = crcSum l) : l[k] = c := by
  have e1 : l = l.take k ++ l[k] :: l.drop (k + 1) := by rw [← List.drop_eq_getElem_cons hk, List.take_append_drop]
  have e2 : l.set k c = l.take k ++ c :: l.drop (k + 1) := by rw [List.set_eq_take_append_cons_drop, if_pos hk]
  unfold crcSum at h
  have h1 := xor_cancel h
  rw [e2] at h1
  have h2 : crcFold 4294967295 l = crcFold 4294967295 (l.take k ++ l[k] :: l.drop (k + 1)) := by rw [← e1]
  rw [h2, crcFold_append, crcFold_append, crcFold_cons, crcFold_cons] at h1
  have hs := crcFold_lt (l.take k) (c := 4294967295) (by omega)
  have h3 := crcFold_inj _ (upd_lt c hs) (upd_lt l[k] hs) h1
  have h4 := upd_inj hs hs h3
  exact (UInt8.toNat.inj (xor_cancel h4)).symm
theorem unB_inj4 {l m : List UInt8} (hl : l.length = 4) (hm : m.length = 4) (h : unB l = unB m) : l = m := by rw [← be4_unB' hl, ← be4_unB' hm, h]
set_option maxHeartbeats 400000 in
/-- a frame's bytes, one of them changed, are none -/
theorem write_set {f : Fr} (hok : f.Ok) (h : mayB f = true) {k : Nat} {c : UInt8} (hk : k < (writeB f).length) : decE ((writeB f).set k c) = 0 ↔ (writeB f)[k] = c := by
  constructor
  · intro h0
    obtain ⟨_, _, _, hs⟩ := dec_ok h0
    unfold sumOk at hs
    simp only [decide_eq_true_eq, List.length_set] at hs
    have hl := writeB_length f
    obtain ⟨w, hw⟩ : ∃ w, w = writeB f := ⟨_, rfl⟩
    have hdrop := write_drop f
    have htake := write_take f
    have hsplit := body_split f
    simp only [← hw] at hk hs hl hdrop htake hsplit h0 ⊢
    by_cases hb : k < w.length - 4
    · rw [List.drop_set_of_lt hb, hdrop, unB_be4 (crcSum_lt _), List.take_set, htake] at hs
      have hkb : k < (bodyB f).length := by rw [body_length]; omega
      have h1 := crcSum_set hkb hs.symm
      have h2 : w[k] = (bodyB f)[k] := by simp only [hsplit]; exact List.getElem_append_left hkb
      rw [h2, h1]
    · have e : (w.set k c).take (w.length - 4) = bodyB f := by rw [List.take_set_of_le (by omega), htake]
      rw [e] at hs
      have h4 : (w.drop (w.length - 4)).length = 4 := by rw [hdrop]; rfl
      have h5 : ((w.set k c).drop (w.length - 4)).length = 4 := by rw [List.length_drop, List.length_set]; omega
      have h6 : unB (w.drop (w.length - 4)) = crcSum (bodyB f) := by rw [hdrop, unB_be4 (crcSum_lt _)]
      have h7 := unB_inj4 h5 h4 (hs.trans h6.symm)
      have h8 : ((w.set k c).drop (w.length - 4))[k - (w.length - 4)]? = (w.drop (w.length - 4))[k - (w.length - 4)]? := by rw [h7]
      rw [List.getElem?_drop, List.getElem?_drop] at h8
      rw [show w.length - 4 + (k - (w.length - 4)) = k by omega, List.getElem?_set_self hk, List.getElem?_eq_getElem hk] at h8
      exact (Option.some.inj h8).symm
  · intro h1
    rw [← h1, List.set_getElem_self]
    exact (write_dec hok h).1
theorem write_apart {f g : Fr} (hf : f.Ok) (hg : g.Ok) (h : mayB f = true) (h' : mayB g = true) : writeB f = writeB g ↔ f = g := by
  constructor
  · intro e
    rw [← (write_dec hf h).2, ← (write_dec hg h').2, e]
  · intro e; rw [e]
end Go.Proofs.Ytnnhgennmlkpmaa

/-
  The document's file system: rows made anew: insert, drop.
-/
import Derived.Test.YtglgjakjhkdoaaaGreatDoorZRfC
namespace Go.Proofs.YtglgjakjhkdoaaaGreatDoor
open Go.RowKit Go.Maps
set_option linter.unusedVariables false
set_option linter.unusedSimpArgs false

def G0 (rb : Nat) (fa pa : Option Addr) : List Nat := rb :: ((Value.slice fa 0 0).ownBlock.toList ++ (Value.slice pa 0 0).ownBlock.toList)
theorem mem_G0 {rb k : Nat} {fa pa : Option Addr} : k ∈ G0 rb fa pa ↔ k = rb ∨ (Value.slice fa 0 0).ownBlock = some k ∨ (Value.slice pa 0 0).ownBlock = some k := by
  unfold G0
  simp only [List.mem_cons, List.mem_append, Option.mem_toList, Option.mem_def]
theorem rfBl_G0 (rb : Nat) (fa pa : Option Addr) (E L : List (Bs × Ent)) : rfBl rb fa pa E L = G0 rb fa pa ++ ebs (E ++ L) := rfl
theorem RfIn.to {w w' : World} {rb : Nat} {s' : FsS} {fa pa fa' pa' : Option Addr} {fc' pc' : Nat} {lv' : Int} {E L E' L' : List (Bs × Ent)} (h' : RfIn w' rb s' fa' fc' pa' pc' lv' E' L') (hc : Chg (G0 rb fa pa) (G0 rb fa' pa') w w')
    (hb : ∀ b ∈ ebs (E' ++ L'), b ∈ ebs (E ++ L) ∨ w.heap.size ≤ b) : RfTo w rb (rfBl rb fa pa E L) s' w' := by
  refine ⟨_, ⟨fa', fc', pa', pc', lv', E', L', h', rfl⟩, hc.os, hc.tape, hc.output, hc.size, fun k hk hn => hc.block k hk fun hm => hn (by rw [rfBl_G0]; exact List.mem_append_left _ hm), fun k hk => ?_⟩
  rw [rfBl_G0] at hk ⊢
  rcases List.mem_append.1 hk with hk | hk
  · exact (hc.fresh k hk).imp (List.mem_append_left _) id
  · exact (hb k hk).imp (List.mem_append_right _) id

def RfMid (w : World) (rb : Nat) (fa pa : Option Addr) (s' : FsS) (lv' : Int) (E' L' : List (Bs × Ent)) (w' : World) : Prop := ∃ fa' fc' pa' pc', RfIn w' rb s' fa' fc' pa' pc' lv' E' L' ∧ Chg (G0 rb fa pa) (G0 rb fa' pa') w w'
theorem RfMid.to {w w' : World} {rb : Nat} {s' : FsS} {fa pa : Option Addr} {lv' : Int} {E L E' L' : List (Bs × Ent)} (h : RfMid w rb fa pa s' lv' E' L' w') (hb : ∀ b ∈ ebs (E' ++ L'), b ∈ ebs (E ++ L) ∨ w.heap.size ≤ b) : RfTo w rb (rfBl rb fa pa E L) s' w' := by
  obtain ⟨fa', fc', pa', pc', h1, h2⟩ := h
  exact h1.to h2 hb
structure ENew (t : TypeId) (w0 : World) (w : World) (v : Value) (n : Nat) (l : List (Bs × Ent)) : Prop where
  row : w.ownsRow w0.heap.size t 2 v n (eflat l)
  len : n = l.length
  low : Below w0.heap.size w0 w
theorem ENew.nil (t : TypeId) (w0 w : World) (h : Below w0.heap.size w0 w) : ENew t w0 w (.slice none 0 0) 0 [] := ⟨World.ownsRow_nil _ _ _ _, rfl, h⟩
theorem ENew.app {t : TypeId} {w0 w w1 w2 : World} {v v' : Value} {n m : Nat} {l l' : List (Bs × Ent)} (h : ENew t w0 w v n l) (hb : Below w.heap.size w w1) (ho : w2.ownsRow w0.heap.size t 2 v' (n + m) (eflat l ++ eflat l')) (hm : m = l'.length) (hg : w1.grownBy w2 v.ownBlock) : ENew t w0 w2 v' (n + m) (l ++ l') := by
  refine ⟨by rw [eflat_append]; exact ho, by rw [h.len, hm, List.length_append], ?_⟩
  have h1 := h.low.trans (hb.mono h.low.size)
  exact h1.grown hg h1.size fun j hj => (h.row.lt j hj).1
theorem ENew.then {t : TypeId} {w0 w w1 : World} {v : Value} {n : Nat} {l : List (Bs × Ent)} (h : ENew t w0 w v n l) (hb : Below w.heap.size w w1) : ENew t w0 w1 v n l := ⟨ownsRow_below h.row hb (Nat.le_refl _), h.len, h.low.trans (hb.mono h.low.size)⟩
theorem RfIn.setF {w wr : World} {rb : Nat} {s s' : FsS} {fa pa oa : Option Addr} {fc pc oc on : Nat} {lv : Int} {E L E' : List (Bs × Ent)} (h : RfIn w rb s fa fc pa pc lv E L) (hN : ENew 72 w wr (.slice oa on oc) on E')
    (hr : s'.room = s.room) (hl : s'.left = s.left) (hh : s'.halted = s.halted) (hw : s'.waits = s.waits) (hf : s'.files = E'.map ct) (hx : ∀ p ∈ E', EX w p.2) (hnd : (ebs (E' ++ L)).Nodup) (hrise : Rises E') :
    RfIn (wr.setCell ⟨rb, 1, none⟩ (.slice oa on oc)) rb s' oa oc pa pc lv E' L ∧ Chg (G0 rb fa pa) (G0 rb oa pa) w (wr.setCell ⟨rb, 1, none⟩ (.slice oa on oc)) := by
  obtain ⟨hrow, hlen, hlow⟩ := hN
  subst hlen
  have hrb := (rf_cells h.blk).2.2.2.2.2.2.2
  obtain ⟨n1, n2, n3⟩ := h.ne
  have e1 := (hlow.block rb hrb).trans h.blk
  have hne : ∀ b, b ≠ rb → (wr.setCell ⟨rb, 1, none⟩ (.slice oa E'.length oc)).heap[b]? = wr.heap[b]? := fun b hb => heap_set_ne hb
  have hold : ∀ b, b < w.heap.size → b ≠ rb → (wr.setCell ⟨rb, 1, none⟩ (.slice oa E'.length oc)).heap[b]? = w.heap[b]? := fun b hb hn => (hne b hn).trans (hlow.block b hb)
  refine ⟨⟨?_, ?_, ?_, fun p hp => ?_, hnd, fun n hn => h.left n (hl ▸ hn), hf, hw.trans h.waits, hrise⟩, ⟨hlow.os, hlow.tape, hlow.output, by simpa using hlow.size, fun b hb hn => hold b hb fun e => hn (by rw [mem_G0]; exact .inl e), fun b hb => ?_⟩⟩
  · rw [hr, hl, hh]
    have := setCell_heap e1 1 (.slice oa E'.length oc)
    simpa using this
  · refine ownsRow_base (ownsRow_same hrow fun b hb => hne b fun e => ?_) (Nat.zero_le _)
    have := (hrow.lt b hb).1
    omega
  · exact ownsRow_same h.prow fun b hb => hold b (h.prow.lt b hb).2 fun e => n2 (e ▸ hb)
  · have hx' : EX w p.2 ∧ p.2.v.ownBlock ≠ some rb := by
      rcases List.mem_append.1 hp with hp | hp
      · exact ⟨hx p hp, ownsRow_off (hx p hp).own h.blk (by decide)⟩
      · exact ⟨h.ent p (List.mem_append_right _ hp), n3 p (List.mem_append_right _ hp)⟩
    exact hx'.1.same fun b hb => hold b (hx'.1.lt hb) fun e => hx'.2 (e ▸ hb)
  · rw [mem_G0] at hb ⊢
    rcases hb with hb | hb | hb
    · exact .inl (.inl hb)
    · exact .inr (hrow.lt b (by rw [ownBlock_sl oa _ _ 0 0]; exact hb)).1
    · exact .inl (.inr (.inr hb))
theorem RfIn.setP {w wr : World} {rb : Nat} {s s' : FsS} {fa pa oa : Option Addr} {fc pc oc on : Nat} {lv : Int} {E L L' : List (Bs × Ent)} (h : RfIn w rb s fa fc pa pc lv E L) (hN : ENew 73 w wr (.slice oa on oc) on L')
    (hr : s'.room = s.room) (hl : s'.left = s.left) (hh : s'.halted = s.halted) (hw : s'.waits = L'.map ct) (hf : s'.files = s.files) (hx : ∀ p ∈ L', EX w p.2) (hnd : (ebs (E ++ L')).Nodup) :
    RfIn (wr.setCell ⟨rb, 2, none⟩ (.slice oa on oc)) rb s' fa fc oa oc lv E L' ∧ Chg (G0 rb fa pa) (G0 rb fa oa) w (wr.setCell ⟨rb, 2, none⟩ (.slice oa on oc)) := by
  obtain ⟨hrow, hlen, hlow⟩ := hN
  subst hlen
  have hrb := (rf_cells h.blk).2.2.2.2.2.2.2
  obtain ⟨n1, n2, n3⟩ := h.ne
  have e1 := (hlow.block rb hrb).trans h.blk
  have hne : ∀ b, b ≠ rb → (wr.setCell ⟨rb, 2, none⟩ (.slice oa L'.length oc)).heap[b]? = wr.heap[b]? := fun b hb => heap_set_ne hb
  have hold : ∀ b, b < w.heap.size → b ≠ rb → (wr.setCell ⟨rb, 2, none⟩ (.slice oa L'.length oc)).heap[b]? = w.heap[b]? := fun b hb hn => (hne b hn).trans (hlow.block b hb)
  refine ⟨⟨?_, ?_, ?_, fun p hp => ?_, hnd, fun n hn => h.left n (hl ▸ hn), hf.trans h.files, hw, h.rise⟩, ⟨hlow.os, hlow.tape, hlow.output, by simpa using hlow.size, fun b hb hn => hold b hb fun e => hn (by rw [mem_G0]; exact .inl e), fun b hb => ?_⟩⟩
  · rw [hr, hl, hh]
    have := setCell_heap e1 2 (.slice oa L'.length oc)
    simpa using this
  · exact ownsRow_same h.frow fun b hb => hold b (h.frow.lt b hb).2 fun e => n1 (e ▸ hb)
  · refine ownsRow_base (ownsRow_same hrow fun b hb => hne b fun e => ?_) (Nat.zero_le _)
    have := (hrow.lt b hb).1
    omega
  · have hx' : EX w p.2 ∧ p.2.v.ownBlock ≠ some rb := by
      rcases List.mem_append.1 hp with hp | hp
      · exact ⟨h.ent p (List.mem_append_left _ hp), n3 p (List.mem_append_left _ hp)⟩
      · exact ⟨hx p hp, ownsRow_off (hx p hp).own h.blk (by decide)⟩
    exact hx'.1.same fun b hb => hold b (hx'.1.lt hb) fun e => hx'.2 (e ▸ hb)
  · rw [mem_G0] at hb ⊢
    rcases hb with hb | hb | hb
    · exact .inl (.inl hb)
    · exact .inl (.inr (.inl hb))
    · exact .inr (hrow.lt b (by rw [ownBlock_sl oa _ _ 0 0]; exact hb)).1

theorem eflat_tk (l : List (Bs × Ent)) (i : Nat) : eflat (l.take i) = (eflat l).take (i * 2) := by
  by_cases h : i ≤ l.length
  · have e : eflat l = eflat (l.take i) ++ eflat (l.drop i) := by rw [← eflat_append, List.take_append_drop]
    have hl : (eflat (l.take i)).length = i * 2 := by rw [eflat_length, List.length_take]; omega
    rw [e, ← hl, List.take_left]
  · rw [List.take_of_length_le (by omega), List.take_of_length_le (by rw [eflat_length]; omega)]
theorem eflat_drop (l : List (Bs × Ent)) (i : Nat) (h : i ≤ l.length) : eflat (l.drop i) = (eflat l).drop (i * 2) := by
  have e : eflat l = eflat (l.take i) ++ eflat (l.drop i) := by rw [← eflat_append, List.take_append_drop]
  have hl : (eflat (l.take i)).length = i * 2 := by rw [eflat_length, List.length_take]; omega
  rw [e, ← hl, List.drop_left]
theorem add_g2 (g o j : Nat) : (⟨g, o, none⟩ : Addr).add j = ⟨g, o + j, none⟩ := by
  unfold Addr.add
  split <;> simp_all
theorem erow_front {w : World} {B t g c : Nat} {l : List (Bs × Ent)} (h : w.ownsRow B t 2 (.slice (some ⟨g, 0, none⟩) l.length c) l.length (eflat l)) (i c' : Nat) (hi : i ≤ l.length) : Rd w (.slice (some ⟨g, 0, none⟩) i c') 2 i (eflat (l.take i)) := by
  refine ⟨by rw [eflat_length, List.length_take]; omega, .inr ⟨_, _, rfl, fun j u hu => ?_⟩⟩
  rw [eflat_tk] at hu
  have hj := (List.getElem?_eq_some_iff.1 hu).1
  rw [add_g2, Nat.zero_add, h.cellAt j (by rw [List.length_take, eflat_length] at hj; omega)]
  rw [List.getElem?_take_of_lt (by rw [List.length_take] at hj; omega)] at hu
  exact hu
theorem erow_back {w : World} {B t g c : Nat} {l : List (Bs × Ent)} (h : w.ownsRow B t 2 (.slice (some ⟨g, 0, none⟩) l.length c) l.length (eflat l)) (i : Nat) (ad : Option Addr) (c' m : Nat) (hm : m = l.length - i) (hi : i ≤ l.length) (had : m ≠ 0 → ad = some ⟨g, i * 2, none⟩) (had0 : ad ≠ none) : Rd w (.slice ad m c') 2 m (eflat (l.drop i)) := by
  subst hm
  cases ad with
  | none => exact absurd rfl had0
  | some ad =>
    refine ⟨by rw [eflat_length, List.length_drop], .inr ⟨_, _, rfl, fun j u hu => ?_⟩⟩
    have hj := (List.getElem?_eq_some_iff.1 hu).1
    rw [eflat_length, List.length_drop] at hj
    have := had (by omega)
    simp only [Option.some.injEq] at this
    subst this
    rw [eflat_drop l i hi, List.getElem?_drop] at hu
    rw [add_g2, h.cellAt _ (by omega)]
    exact hu
theorem rd_newE (w : World) (cs : Array Value) (e : TypeId) (n m size : Nat) (hn : n = w.heap.size) (hs : 0 < m) (h : cs.size = m * size) : Rd (w.alloc (.cells cs e)) (.slice (some ⟨n, 0, none⟩) m m) size m cs.toList := by
  subst hn
  exact rd_new w cs e m size hs h
theorem alloc_cell {w : World} {cs : Array Value} {e : TypeId} {o : Nat} : (w.alloc (.cells cs e)).cell? ⟨w.heap.size, o, none⟩ = cs[o]? := by
  unfold World.cell?
  rw [heap_alloc_at]
  simp
theorem ebs_perm {X Y : List (Bs × Ent)} (h : X.Perm Y) : (ebs X).Perm (ebs Y) := by
  unfold ebs
  exact h.flatMap_right _
theorem ebs_sub {X Y : List (Bs × Ent)} (h : X.Sublist Y) : (ebs X).Sublist (ebs Y) := by
  induction h with
  | slnil => exact List.Sublist.refl _
  | cons a _ ih => exact ih.trans (by unfold ebs; rw [List.flatMap_cons]; exact List.sublist_append_right _ _)
  | cons_cons a _ ih => unfold ebs at ih ⊢; rw [List.flatMap_cons, List.flatMap_cons]; exact (List.Sublist.refl _).append ih
theorem mput_perm {k : Bs} {e : Ent} {E : List (Bs × Ent)} (hno : mget k E = none) : (mput strL k e E).Perm ((k, e) :: E) := by
  unfold mput
  rw [mdel_none hno]
  exact mins_perm strL (k, e) E

set_option maxRecDepth 100000 in
set_option maxHeartbeats 3200000 in
theorem rf_insert (rb : Nat) (s : FsS) (fa pa : Option Addr) (fc pc : Nat) (lv : Int) (E L : List (Bs × Ent)) (k b : Bs) (ea : Option Addr) (en ec : Nat) (hk : k.length ≤ maxLen) (hE : E.length ≤ 8) (hnE : ∀ p ∈ E, p.1.length ≤ 16) (w : World) (h : RfIn w rb s fa fc pa pc lv E L)
    (hx : EX w ⟨b, ea, en, ec⟩) (hnd : (ebs ((k, ⟨b, ea, en, ec⟩) :: E ++ L)).Nodup) (hno : mget k E = none) :
    Calls Tryz.prog 26 #[.pointer (some ⟨rb, 0, none⟩), .agg #[.string ⟨k.toArray⟩, .slice ea en ec]] w fun e w' => e = .returned (.tuple #[]) ∧ RfMid w rb fa pa { s with files := mput strL k b s.files } lv (mput strL k ⟨b, ea, en, ec⟩ E) L w' := by
  have hb0 := below_alloc w (.cells #[.string ⟨k.toArray⟩, .slice ea en ec] 72)
  have HBOX := hide hb0
  have HF := hide (rf_find rb s fa pa fc pc lv E L k hk hE hnE _ (h.low hb0))
  have HIN := hide h
  have HX := hide hx
  obtain ⟨i, hi⟩ : ∃ i, i = posF k E := ⟨_, rfl⟩
  have HI := hide hi
  have hil : i ≤ E.length := by rw [hi]; exact posF_le k E
  obtain ⟨n, hn⟩ : ∃ n, n = E.length := ⟨_, rfl⟩
  have HN := hide hn
  have HNO : Hid ((mget k E).isSome = false) := hide (by rw [hno]; rfl)
  have hput : Hid (mput strL k ⟨b, ea, en, ec⟩ E = E.take i ++ [(k, (⟨b, ea, en, ec⟩ : Ent))] ++ E.drop i) := hide (by rw [hi]; exact mput_pos h.rise hno)
  have hfin : Hid (∀ wr oa oc on, ENew 72 w wr (.slice oa on oc) on (E.take i ++ [(k, (⟨b, ea, en, ec⟩ : Ent))] ++ E.drop i) → RfMid w rb fa pa { s with files := mput strL k b s.files } lv (mput strL k ⟨b, ea, en, ec⟩ E) L (wr.setCell ⟨rb, 1, none⟩ (.slice oa on oc))) := hide fun wr oa oc on hN => by
    rw [← hput.out] at hN
    refine ⟨oa, oc, pa, pc, h.setF hN rfl rfl rfl rfl ?_ (fun p hp => ?_) ?_ (h.rise.put k _)⟩
    · show mput strL k b s.files = (mput strL k (⟨b, ea, en, ec⟩ : Ent) E).map ct
      rw [h.files]
      exact (mput_ct strL Ent.b k (⟨b, ea, en, ec⟩ : Ent) E).symm
    · rcases List.mem_cons.1 ((mput_perm hno).mem_iff.1 hp) with rfl | hp
      · exact hx
      · exact h.ent p (List.mem_append_left _ hp)
    · refine (ebs_perm ?_).nodup_iff.2 hnd
      exact (mput_perm hno).append_right L
  obtain ⟨iF, hiF, hyF0, hyF1, hyF2⟩ := info_parts refFile_info
  rw [← hn] at hil hE
  clear h hx hi hn hno hnd hnE hb0
  go_enter Tryz.func26, Tryz.ntmps26
  go_upto_region 1 with fail
  obtain ⟨W0, hW0⟩ : ∃ W0, W0 = w.alloc (.cells #[.string ⟨k.toArray⟩, .slice ea en ec] 72) := ⟨_, rfl⟩
  have f0 : W0.cell? ⟨w.heap.size, 0, none⟩ = some (.string ⟨k.toArray⟩) ∧ W0.cell? ⟨w.heap.size, 1, none⟩ = some (.slice ea en ec) ∧ w.heap.size < W0.heap.size := by
    rw [hW0]
    exact ⟨alloc_cell.trans rfl, alloc_cell.trans rfl, by simp⟩
  obtain ⟨f0, f1, f2⟩ := f0
  rw [← hW0] at HBOX HF ⊢
  clear hW0
  go_wp2_with fail
  refine HF.out.mono ?_
  rintro e w1 ⟨rfl, hb1⟩
  rw [HNO.out, ← HI.out]
  have g0 := (hb1.cell (p := ⟨w.heap.size, 0, none⟩) f2).trans f0
  have g1 := (hb1.cell (p := ⟨w.heap.size, 1, none⟩) f2).trans f1
  have hz0 := hb1.size
  have HB1 := hide (HBOX.out.trans (hb1.mono HBOX.out.size))
  have hz1 := HB1.out.size
  have HIN1 := hide (HIN.out.low HB1.out)
  have c1 := (rf_cells HIN1.out.blk).2.1
  rw [← HN.out] at c1
  clear f0 f1 hb1 HF
  cases fa with
  | none =>
    obtain ⟨hl0, rfl⟩ : E.length = 0 ∧ fc = 0 := by
      rcases HIN.out.frow.2 with ⟨h5, h6⟩ | ⟨g, cap, cur, h5, _⟩
      · simp only [Value.slice.injEq] at h5
        exact ⟨h6, h5.2.2⟩
      · cases h5
    have hl00 : E = [] := List.eq_nil_of_length_eq_zero hl0
    subst hl00
    have hn0 : n = 0 := HN.out
    subst hn0
    have hi0 : i = 0 := by omega
    subst hi0
    have hT0 : Hid (ENew 72 w w1 (.slice none 0 0) 0 []) := hide (ENew.nil _ w w1 HB1.out)
    clear hl0 hil hE
    go_upto_region 4 with (at_builtin; refine wpList_append_rd rfl (.tmp 14) (.tmp 20) 60 rfl w.heap.size 72 iF (.agg #[.string ⟨#[]⟩, .slice none 0 0]) 2 40 Tryz.underlying60 hiF hyF0 hyF1 hyF2 rfl (by decide) (.slice none 0 0) 0 _ rfl hT0.out.row _ 0 [] rfl ⟨rfl, .inl ⟨rfl, rfl⟩⟩ (by simp) (by unfold maxLen; omega) (by omega) (by first | omega | (simp; omega)) ?_; intro v2 w2 hown hgr hnil hv; obtain rfl := hnil.2 ⟨rfl, rfl⟩; have HG2 := hide ((Below.refl w1.heap.size w1).grown hgr (Nat.le_refl _) (fun j hj => by cases hj)); have HT1 : Hid (ENew 72 w w2 (.slice none 0 0) 0 []) := hide (hT0.out.app (l' := []) (Below.refl _ _) hown rfl hgr); clear hown hgr hnil hv)
    have g0 := (HG2.out.cell (p := ⟨w.heap.size, 0, none⟩) (by show w.heap.size < _; omega)).trans g0
    have g1 := (HG2.out.cell (p := ⟨w.heap.size, 1, none⟩) (by show w.heap.size < _; omega)).trans g1
    have hz2 := HT1.out.low.size
    clear c1
    go_upto_region 5 with (at_builtin; refine wpList_append_rd rfl (.tmp 22) (.tmp 24) 60 rfl w.heap.size 72 iF (.agg #[.string ⟨#[]⟩, .slice none 0 0]) 2 40 Tryz.underlying60 hiF hyF0 hyF1 hyF2 rfl (by decide) (.slice none 0 0) 0 _ rfl (HT1.out.row.alloc _) _ 1 [.string ⟨k.toArray⟩, .slice ea en ec] rfl (rd_newE _ _ _ _ 1 2 (by simp) (by simp) (by simp)) (by simp [Value.oneCell']) (by unfold maxLen; omega) (by omega) (by simp; omega) ?_; intro v3 w3 hown hgr hnil hv; obtain ⟨oa3, oc3, rfl⟩ := slice_of_row hown; have HT2 : Hid (ENew 72 w w3 (.slice oa3 1 oc3) 1 [(k, (⟨b, ea, en, ec⟩ : Ent))]) := hide (HT1.out.app (l' := [(k, (⟨b, ea, en, ec⟩ : Ent))]) (below_alloc w2 _) hown rfl hgr); clear hown hgr hnil hv)
    have c1 := (rf_cells (HIN.out.low HT2.out.low).blk).2.1
    have hz3 := HT2.out.low.size
    have C1 := hide c1
    clear g0 g1
    go_upto_region 6 with (at_builtin; refine wpList_append_rd rfl (.tmp 26) (.tmp 32) 60 rfl w.heap.size 72 iF (.agg #[.string ⟨#[]⟩, .slice none 0 0]) 2 40 Tryz.underlying60 hiF hyF0 hyF1 hyF2 rfl (by decide) (.slice oa3 1 oc3) 1 _ rfl HT2.out.row _ 0 [] rfl ⟨rfl, .inl ⟨rfl, rfl⟩⟩ (by simp) (by unfold maxLen; omega) (by omega) hz3 ?_; intro v4 w4 hown hgr hnil hv; obtain ⟨oa4, oc4, rfl⟩ := slice_of_row hown; have HT3 : Hid (ENew 72 w w4 (.slice oa4 1 oc4) 1 [(k, (⟨b, ea, en, ec⟩ : Ent))]) := hide (HT2.out.app (l' := []) (Below.refl _ _) hown rfl hgr); clear hown hgr hnil hv)
    have c1 := (rf_cells (HIN.out.low HT3.out.low).blk).2.1
    have f2 := (rf_cells (HIN.out.low HT3.out.low).blk).2.2.2.2.2.2.1 1
    go_wp2
    all_goals
      go_end0
      exact ⟨rfl, hfin.out _ _ _ _ HT3.out⟩
  | some ad =>
    obtain ⟨g, rfl⟩ : ∃ g, ad = ⟨g, 0, none⟩ := by
      rcases HIN.out.frow.2 with ⟨h5, _⟩ | ⟨g, cap, cur, h5, _⟩
      · cases h5
      · simp only [Value.slice.injEq, Option.some.injEq] at h5
        exact ⟨g, h5.1⟩
    have hnc : n ≤ fc := by have := (ownsRow_cap HIN.out.frow).1; have := HN.out; omega
    have hcm := (ownsRow_cap HIN.out.frow).2
    have hlen : Hid (i ≤ E.length) := hide (by have := HN.out; omega)
    have HFR : Hid (Rd w1 (.slice (some ⟨g, 0, none⟩) i fc) 2 i (eflat (E.take i))) := hide (erow_front HIN1.out.frow i fc hlen.out)
    have hT0 : Hid (ENew 72 w w1 (.slice none 0 0) 0 []) := hide (ENew.nil _ w w1 HB1.out)
    go_upto_region 4 with (at_builtin; refine wpList_append_rd rfl (.tmp 14) (.tmp 20) 60 rfl w.heap.size 72 iF (.agg #[.string ⟨#[]⟩, .slice none 0 0]) 2 40 Tryz.underlying60 hiF hyF0 hyF1 hyF2 rfl (by decide) (.slice none 0 0) 0 _ rfl hT0.out.row _ i (eflat (E.take i)) rfl HFR.out (eflat_one _) (by unfold maxLen; omega) (by omega) hz1 ?_; intro v2 w2 hown hgr hnil hv; obtain ⟨oa2, oc2, rfl⟩ := slice_of_row hown; have HG2 := hide ((Below.refl w1.heap.size w1).grown hgr (Nat.le_refl _) (fun j hj => by cases hj)); have HT1 := hide (hT0.out.app (l' := E.take i) (Below.refl _ _) hown (by rw [List.length_take]; have := hlen.out; omega) hgr); clear hown hgr hnil hv)
    have ht1 := HT1.out
    rw [Nat.zero_add, List.nil_append] at ht1
    have HT1 := hide ht1
    have g0 := (HG2.out.cell (p := ⟨w.heap.size, 0, none⟩) (by show w.heap.size < _; omega)).trans g0
    have g1 := (HG2.out.cell (p := ⟨w.heap.size, 1, none⟩) (by show w.heap.size < _; omega)).trans g1
    have hz2 := ht1.low.size
    clear c1 ht1
    go_upto_region 5 with (at_builtin; refine wpList_append_rd rfl (.tmp 22) (.tmp 24) 60 rfl w.heap.size 72 iF (.agg #[.string ⟨#[]⟩, .slice none 0 0]) 2 40 Tryz.underlying60 hiF hyF0 hyF1 hyF2 rfl (by decide) (.slice oa2 i oc2) i _ rfl (HT1.out.row.alloc _) _ 1 [.string ⟨k.toArray⟩, .slice ea en ec] rfl (rd_newE _ _ _ _ 1 2 (by simp) (by simp) (by simp)) (by simp [Value.oneCell']) (by unfold maxLen; omega) (by omega) (by simp; omega) ?_; intro v3 w3 hown hgr hnil hv; obtain ⟨oa3, oc3, rfl⟩ := slice_of_row hown; have HT2 := hide (HT1.out.app (l' := [(k, (⟨b, ea, en, ec⟩ : Ent))]) (below_alloc w2 _) hown rfl hgr); clear hown hgr hnil hv)
    have c1 := (rf_cells (HIN.out.low HT2.out.low).blk).2.1
    rw [← HN.out] at c1
    have hz3 := HT2.out.low.size
    have HBK : Hid (∀ ad c' m, m = E.length - i → (m ≠ 0 → ad = some ⟨g, i * 2, none⟩) → ad ≠ none → (Value.slice ad m c').ownBlock = some g → Rd w3 (.slice ad m c') 2 m (eflat (E.drop i))) := hide fun ad c' m e1 e2 e3 e4 => erow_back (HIN.out.low HT2.out.low).frow i ad c' m e1 hlen.out e2 e3
    clear g0 g1
    go_upto_region 6 with (at_builtin; refine wpList_append_rd rfl (.tmp 26) (.tmp 32) 60 rfl w.heap.size 72 iF (.agg #[.string ⟨#[]⟩, .slice none 0 0]) 2 40 Tryz.underlying60 hiF hyF0 hyF1 hyF2 rfl (by decide) (.slice oa3 (i + 1) oc3) (i + 1) _ rfl HT2.out.row _ (n - i) (eflat (E.drop i)) rfl (HBK.out _ _ _ (by rw [HN.out]) (fun hm => by first | (rw [if_neg (by omega)]; simp; done) | (exfalso; omega) | (simp; intro hci; omega)) (by first | (split <;> simp; done) | simp) (by first | (split <;> rfl) | rfl)) (eflat_one _) (by unfold maxLen; omega) (by omega) hz3 ?_; intro v4 w4 hown hgr hnil hv; obtain ⟨oa4, oc4, rfl⟩ := slice_of_row hown; have HT3 := hide (HT2.out.app (l' := E.drop i) (Below.refl _ _) hown (by rw [List.length_drop, HN.out]) hgr); clear hown hgr hnil hv)
    have c1 := (rf_cells (HIN.out.low HT3.out.low).blk).2.1
    rw [← HN.out] at c1
    have f2 := (rf_cells (HIN.out.low HT3.out.low).blk).2.2.2.2.2.2.1 1
    go_wp2
    all_goals
      go_end0
      exact ⟨rfl, hfin.out _ _ _ _ HT3.out⟩
end Go.Proofs.YtglgjakjhkdoaaaGreatDoor

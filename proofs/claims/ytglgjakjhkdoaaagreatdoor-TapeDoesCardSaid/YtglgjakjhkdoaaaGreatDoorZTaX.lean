/-
  The law's does: one call, on a journal and on the document's.  (Printed by gen_tax.py.)
-/
import Derived.Test.YtglgjakjhkdoaaaGreatDoorZTaW
import Derived.Test.YtglgjakjhkdoaaaGreatDoorZFsHFsIFsJFsRN
import Derived.Deep.DeepCutAuto
namespace Go.Proofs.YtglgjakjhkdoaaaGreatDoor
open Go.RowKit Go.Maps
set_option linter.unusedVariables false
set_option linter.unusedSimpArgs false

def optO (o : Opt) : Obj := .cells #[.int .u8 o.kind, .slice o.ba o.bn o.bc, .slice o.la o.ln o.lc, .int .u8 o.num, .slice o.ka o.kn o.kc, .int .i64 o.t] 47 (0, 0)
def TwD (W : World) (xb sb rb tb ub xo : Nat) (k : Bs) (o : Opt) (S R : FsS) (w : World) : Prop := ∃ F G, Tw W w sb S F rb R G [(xo, optO o), (xb, twoO sb rb (.pointer (some ⟨tb, 0, none⟩)) (.pointer (some ⟨ub, 0, none⟩)) k), (tb, tpO sb k), (ub, rtO rb k)]
section
variable {W w w' : World} {xb sb rb tb ub xo : Nat} {k : Bs} {o : Opt} {S S' R R' : FsS}
theorem TwD.cells (h : TwD W xb sb rb tb ub xo k o S R w) : (w.cell? ⟨xo, 0, none⟩ = some (.int .u8 o.kind) ∧ w.cell? ⟨xo, 1, none⟩ = some (.slice o.ba o.bn o.bc) ∧ w.cell? ⟨xo, 2, none⟩ = some (.slice o.la o.ln o.lc) ∧ w.cell? ⟨xo, 3, none⟩ = some (.int .u8 o.num) ∧ w.cell? ⟨xo, 4, none⟩ = some (.slice o.ka o.kn o.kc) ∧ w.cell? ⟨xo, 5, none⟩ = some (.int .i64 o.t)) ∧
    w.cell? ⟨xb, 0, none⟩ = some (.pointer (some ⟨sb, 0, none⟩)) ∧ w.cell? ⟨xb, 1, none⟩ = some (.pointer (some ⟨rb, 0, none⟩)) ∧ w.cell? ⟨xb, 2, none⟩ = some (.pointer (some ⟨tb, 0, none⟩)) ∧ w.cell? ⟨xb, 3, none⟩ = some (.pointer (some ⟨ub, 0, none⟩)) := by
  obtain ⟨F, G, h⟩ := h
  unfold optO twoO at h
  exact ⟨⟨h.cell List.mem_cons_self rfl, h.cell List.mem_cons_self rfl, h.cell List.mem_cons_self rfl, h.cell List.mem_cons_self rfl, h.cell List.mem_cons_self rfl, h.cell List.mem_cons_self rfl⟩,
    h.cell (List.mem_cons_of_mem _ List.mem_cons_self) rfl, h.cell (List.mem_cons_of_mem _ List.mem_cons_self) rfl, h.cell (List.mem_cons_of_mem _ List.mem_cons_self) rfl, h.cell (List.mem_cons_of_mem _ List.mem_cons_self) rfl⟩
theorem TwD.then (h : TwD W xb sb rb tb ub xo k o S R w) (hb : Below w.heap.size w w') : TwD W xb sb rb tb ub xo k o S R w' := by
  obtain ⟨F, G, h⟩ := h
  exact ⟨F, G, h.then hb⟩
theorem TwD.drew (h : TwD W xb sb rb tb ub xo k o S R w) : TwD W xb sb rb tb ub xo k o S R w.drew := h.then (Below.refl _ _).drew
theorem TwD.a (h : TwD W xb sb rb tb ub xo k o S R w) : ∃ F, FsOwn W w sb S F ∧ TpBlk w tb sb k ∧ tb ∉ F ∧ ∀ w' S', FsTo w sb F S' w' → S'.Ok → TwD W xb sb rb tb ub xo k o S' R w' := by
  obtain ⟨F, G, h⟩ := h
  obtain ⟨g1, g2, -, -⟩ := h.kept (tb, tpO sb k) (by simp)
  exact ⟨F, h.pr.a, g1, g2, fun w' S' ht ok => by
    obtain ⟨F', h'⟩ := h.stepA ht ok
    exact ⟨F', G, h'⟩⟩
theorem TwD.b (h : TwD W xb sb rb tb ub xo k o S R w) : ∃ G, RfOwn W w rb R G ∧ RtBlk w ub rb k ∧ ub ∉ G ∧ ∀ w' R', RfTo w rb G R' w' → R'.Ok → TwD W xb sb rb tb ub xo k o S R' w' := by
  obtain ⟨F, G, h⟩ := h
  obtain ⟨g1, -, g2, -⟩ := h.kept (ub, rtO rb k) (by simp)
  exact ⟨G, h.pr.b, g1, g2, fun w' S' ht ok => by
    obtain ⟨F', h'⟩ := h.stepB ht ok
    exact ⟨F, F', h'⟩⟩
theorem TwD.fin (h : TwD W xb sb rb tb ub xo k o S S w) : ∃ tv', TwE W w xb sb rb k tv' := by
  obtain ⟨F, G, h⟩ := h
  exact ⟨_, S, F, G, .inr ⟨tb, ub, rfl, h.less fun p hp => by simp only [List.mem_cons] at hp ⊢; exact .inr hp⟩⟩
end
theorem acode_range (s : FsS) (k b : Bs) : 0 ≤ (fsAppend s k b).1 ∧ (fsAppend s k b).1 ≤ 100 := by unfold fsAppend; (repeat' split) <;> simp
theorem scode_range (s : FsS) (k : Bs) : 0 ≤ (fsSync s k).1 ∧ (fsSync s k).1 ≤ 100 := by unfold fsSync; (repeat' split) <;> simp
theorem ccode_range (s : FsS) (k : Bs) : 0 ≤ (fsCreate s k).1 ∧ (fsCreate s k).1 ≤ 100 := by unfold fsCreate; (repeat' split) <;> simp
theorem rcode_range (s : FsS) (a b : Bs) : 0 ≤ (fsRename s a b).1 ∧ (fsRename s a b).1 ≤ 100 := by unfold fsRename; (repeat' split) <;> simp
theorem tacode_range (s : FsS) (k b : Bs) : 0 ≤ (tpAppend s k b).1 ∧ (tpAppend s k b).1 ≤ 100 := by
  unfold tpAppend
  split
  · simp
  · exact acode_range _ _ _
theorem apps_range (k : Bs) : ∀ (l : List Bs) (s : FsS), 0 ≤ (tpApps s k l).1 ∧ (tpApps s k l).1 ≤ 100
  | [], s => by simp [tpApps]
  | x :: l, s => by
    unfold tpApps
    split
    · exact acode_range _ _ _
    · exact apps_range k l _
theorem swcode_range (s : FsS) (k : Bs) (l : List Bs) : 0 ≤ (tpSwap s k l).1 ∧ (tpSwap s k l).1 ≤ 100 := by
  unfold tpSwap
  split
  · simp
  · show 0 ≤ (tpLay (tpClear s k) k l).1 ∧ (tpLay (tpClear s k) k l).1 ≤ 100
    unfold tpLay
    split
    · exact ccode_range _ _
    · split
      · exact apps_range _ _ _
      · unfold tpTail
        split
        · exact scode_range _ _
        · exact rcode_range _ _ _

set_option maxRecDepth 100000 in
set_option maxHeartbeats 3200000 in
theorem tdoes_sync (xb sb rb tb ub : Nat) (s : FsS) (F G : List Nat) (k : Bs) (o : Opt) (W w : World) (h : Tw W w sb s F rb s G [(xb, twoO sb rb (.pointer (some ⟨tb, 0, none⟩)) (.pointer (some ⟨ub, 0, none⟩)) k), (tb, tpO sb k), (ub, rtO rb k)]) (hk : k.length ≤ 1000000) (hok : o.Ok W) (hl : o.Light) (hm : o.kind % 9 = 4) :
    Calls Tryz.prog 13 #[.pointer (some ⟨xb, 0, none⟩), .agg #[.int .u8 o.kind, .slice o.ba o.bn o.bc, .slice o.la o.ln o.lc, .int .u8 o.num, .slice o.ka o.kn o.kc, .int .i64 o.t]] w fun e w' => e = .returned (.bool true) ∧ ∃ tv', TwE W w' xb sb rb k tv' := by
  obtain ⟨W1, hW1⟩ : ∃ W1, W1 = w.alloc (.cells #[.int .u8 o.kind, .slice o.ba o.bn o.bc, .slice o.la o.ln o.lc, .int .u8 o.num, .slice o.ka o.kn o.kc, .int .i64 o.t] 47) := ⟨_, rfl⟩
  have hd : TwD W xb sb rb tb ub w.heap.size k o s s W1 := by
    refine ⟨F, G, ?_⟩
    rw [hW1]
    exact h.new _
  have HD := hide hd
  have HOK := hide hok
  have HL := hide hl
  have hw1 := hide hW1
  have hkm : k.length ≤ maxLen := by unfold maxLen; omega
  have hmod : (o.kind : Int).tmod 9 = ((o.kind % 9 : Nat) : Int) := Int.ofNat_tmod o.kind 9
  obtain ⟨m, hm9⟩ : ∃ m, m = o.kind % 9 := ⟨_, rfl⟩
  rw [← hm9] at hm hmod
  obtain ⟨⟨f0, f1, f2, f3, f4, f5⟩, x0, x1, x2, x3⟩ := hd.cells
  clear h hok hl hd hm9
  subst hm
  obtain ⟨er, her⟩ : ∃ er, er = (fsSync s k).1 := ⟨_, rfl⟩
  obtain ⟨S', hS'⟩ : ∃ S', S' = (fsSync s k).2 := ⟨_, rfl⟩
  have hr := scode_range s k
  rw [← her] at hr
  have hwe : IntKind.i64.wrap er = er := wrap64 (by omega) (by omega)
  have hee : (er == er) = true := by simp
  have HOKS : Hid (S'.Ok) := hide (by rw [hS']; exact fsSync_ok HD.out.a.choose_spec.1.ok k)
  have HER := hide her; have HSS := hide hS'
  clear her hS' hr
  go_enter Tryz.func13, Tryz.ntmps13
  go_upto_region 1 with fail
  rw [← hw1.out]
  obtain ⟨xo, hxo⟩ : ∃ xo, xo = w.heap.size := ⟨_, rfl⟩
  rw [← hxo] at f0 f1 f2 f3 f4 f5 HD ⊢
  have H1 := HD
  clear hW1 hw1 hxo
  go_wp2_with fail
  refine wp_region_three 13 118 (by kernel_rfl) (by kernel_rfl) rfl (by kernel_rfl) (fun D v w' => TwD W xb sb rb tb ub xo k o (cond (D 4) S' s) (cond (D 10) S' s) w') (fun _ => undef) H1.out.drew ?_
  simp only [List.take_succ_cons, List.take_zero, List.drop_succ_cons, List.drop_zero]
  iterate 4 (refine Hav3.read (e := ?_) (fun v => by rfl) (fun D v w h => h) (fun D v w' hD hS => ?_) ?_; rotate_left; (obtain ⟨⟨f0, f1, f2, f3, f4, f5⟩, x0, x1, x2, x3⟩ := hS.cells; clear hS hD; first | (go_simp; done) | (go_simp; with_reducible rfl)); go_simp)
  refine Hav3.call (.int .u16 er) (fun v => by rfl) (fun D v w' hD hS => ?_) ?_
  · have d1 : D 4 = false := hD.self
    rw [d1] at hS
    obtain ⟨F1, hO, hB, hF, hT⟩ := hS.a
    have HO := hide hO; have HB := hide hB; have HF := hide hF; have HT := hide hT
    clear hD d1 hS hO hB hF hT
    go_simp
    go_at_call 30
    refine (tp_Sync tb sb s F1 k hk w' HB.out HO.out.rep HO.out.ok).mono ?_
    rintro e w'' ⟨rfl, ht⟩
    rw [← HER.out]
    rw [← HSS.out] at ht
    exact ⟨rfl, HT.out _ _ ht HOKS.out⟩
  go_simp
  iterate 5 (refine Hav3.read (e := ?_) (fun v => by rfl) (fun D v w h => h) (fun D v w' hD hS => ?_) ?_; rotate_left; (obtain ⟨⟨f0, f1, f2, f3, f4, f5⟩, x0, x1, x2, x3⟩ := hS.cells; clear hS hD; first | (go_simp; done) | (go_simp; with_reducible rfl)); go_simp)
  refine Hav3.call (.int .i64 er) (fun v => by rfl) (fun D v w' hD hS => ?_) ?_
  · have d1 : D 10 = false := hD.self
    rw [d1] at hS
    obtain ⟨F1, hO, hB, hF, hT⟩ := hS.b
    have HO := hide hO; have HB := hide hB; have HF := hide hF; have HT := hide hT
    clear hD d1 hS hO hB hF hT
    go_simp
    go_at_call 31
    refine (rt_Sync ub rb s F1 k hkm w' HB.out HO.out.rep HO.out.ok).mono ?_
    rintro e w'' ⟨rfl, ht⟩
    rw [← HER.out]
    rw [← HSS.out] at ht
    exact ⟨rfl, HT.out _ _ ht HOKS.out⟩
  go_simp
  iterate 2 (refine Hav3.read (e := ?_) (fun v => by rfl) (fun D v w h => h) (fun D v w' hD hS => ?_) ?_; rotate_left; (skip; clear hS hD; first | (go_simp; done) | (go_simp; with_reducible rfl)); go_simp)
  refine Hav3.fin (fun v w' hS => ?_)
  have HS := hide hS.fin
  clear hS
  go_wp2
  go_ret
  exact ⟨rfl, HS.out⟩
set_option maxRecDepth 100000 in
set_option maxHeartbeats 3200000 in
theorem tdoes_swap (xb sb rb tb ub : Nat) (s : FsS) (F G : List Nat) (k : Bs) (o : Opt) (W w : World) (h : Tw W w sb s F rb s G [(xb, twoO sb rb (.pointer (some ⟨tb, 0, none⟩)) (.pointer (some ⟨ub, 0, none⟩)) k), (tb, tpO sb k), (ub, rtO rb k)]) (hk : k.length ≤ 1000000) (hok : o.Ok W) (hl : o.Light) (hm : o.kind % 9 = 5) :
    Calls Tryz.prog 13 #[.pointer (some ⟨xb, 0, none⟩), .agg #[.int .u8 o.kind, .slice o.ba o.bn o.bc, .slice o.la o.ln o.lc, .int .u8 o.num, .slice o.ka o.kn o.kc, .int .i64 o.t]] w fun e w' => e = .returned (.bool true) ∧ ∃ tv', TwE W w' xb sb rb k tv' := by
  obtain ⟨W1, hW1⟩ : ∃ W1, W1 = w.alloc (.cells #[.int .u8 o.kind, .slice o.ba o.bn o.bc, .slice o.la o.ln o.lc, .int .u8 o.num, .slice o.ka o.kn o.kc, .int .i64 o.t] 47) := ⟨_, rfl⟩
  have hd : TwD W xb sb rb tb ub w.heap.size k o s s W1 := by
    refine ⟨F, G, ?_⟩
    rw [hW1]
    exact h.new _
  have HD := hide hd
  have HOK := hide hok
  have HL := hide hl
  have hw1 := hide hW1
  have hkm : k.length ≤ maxLen := by unfold maxLen; omega
  have hmod : (o.kind : Int).tmod 9 = ((o.kind % 9 : Nat) : Int) := Int.ofNat_tmod o.kind 9
  obtain ⟨m, hm9⟩ : ∃ m, m = o.kind % 9 := ⟨_, rfl⟩
  rw [← hm9] at hm hmod
  obtain ⟨⟨f0, f1, f2, f3, f4, f5⟩, x0, x1, x2, x3⟩ := hd.cells
  clear h hok hl hd hm9
  subst hm
  obtain ⟨er, her⟩ : ∃ er, er = (tpSwap s k o.l).1 := ⟨_, rfl⟩
  obtain ⟨S', hS'⟩ : ∃ S', S' = (tpSwap s k o.l).2 := ⟨_, rfl⟩
  have hr := swcode_range s k o.l
  rw [← her] at hr
  have hwe : IntKind.i64.wrap er = er := wrap64 (by omega) (by omega)
  have hee : (er == er) = true := by simp
  have HOKS : Hid (S'.Ok) := hide (by rw [hS']; exact tpSwap_ok HD.out.a.choose_spec.1.ok k o.l)
  have HER := hide her; have HSS := hide hS'
  clear her hS' hr
  go_enter Tryz.func13, Tryz.ntmps13
  go_upto_region 1 with fail
  rw [← hw1.out]
  obtain ⟨xo, hxo⟩ : ∃ xo, xo = w.heap.size := ⟨_, rfl⟩
  rw [← hxo] at f0 f1 f2 f3 f4 f5 HD ⊢
  have H1 := HD
  clear hW1 hw1 hxo
  go_wp2_with fail
  refine wp_region_three 17 118 (by kernel_rfl) (by kernel_rfl) rfl (by kernel_rfl) (fun D v w' => TwD W xb sb rb tb ub xo k o (cond (D 6) S' s) (cond (D 14) S' s) w') (fun _ => undef) H1.out.drew ?_
  simp only [List.take_succ_cons, List.take_zero, List.drop_succ_cons, List.drop_zero]
  iterate 6 (refine Hav3.read (e := ?_) (fun v => by rfl) (fun D v w h => h) (fun D v w' hD hS => ?_) ?_; rotate_left; (obtain ⟨⟨f0, f1, f2, f3, f4, f5⟩, x0, x1, x2, x3⟩ := hS.cells; clear hS hD; first | (go_simp; done) | (go_simp; with_reducible rfl)); go_simp)
  refine Hav3.call (.int .u16 er) (fun v => by rfl) (fun D v w' hD hS => ?_) ?_
  · have d1 : D 6 = false := hD.self
    rw [d1] at hS
    obtain ⟨F1, hO, hB, hF, hT⟩ := hS.a
    have HO := hide hO; have HB := hide hB; have HF := hide hF; have HT := hide hT
    clear hD d1 hS hO hB hF hT
    go_simp
    go_at_call 32
    refine (tp_Swap tb sb s F1 k hk W w' HO.out HB.out HF.out o.la o.ln o.lc o.l HOK.out.rl HOK.out.ln HOK.out.lmax).mono ?_
    rintro e w'' ⟨rfl, ht⟩
    rw [← HER.out]
    rw [← HSS.out] at ht
    exact ⟨rfl, HT.out _ _ ht HOKS.out⟩
  go_simp
  iterate 7 (refine Hav3.read (e := ?_) (fun v => by rfl) (fun D v w h => h) (fun D v w' hD hS => ?_) ?_; rotate_left; (obtain ⟨⟨f0, f1, f2, f3, f4, f5⟩, x0, x1, x2, x3⟩ := hS.cells; clear hS hD; first | (go_simp; done) | (go_simp; with_reducible rfl)); go_simp)
  refine Hav3.call (.int .i64 er) (fun v => by rfl) (fun D v w' hD hS => ?_) ?_
  · have d1 : D 14 = false := hD.self
    rw [d1] at hS
    obtain ⟨F1, hO, hB, hF, hT⟩ := hS.b
    have HO := hide hO; have HB := hide hB; have HF := hide hF; have HT := hide hT
    clear hD d1 hS hO hB hF hT
    go_simp
    go_at_call 33
    refine (rt_Swap ub rb s F1 k hk W w' HO.out HB.out HF.out o.la o.ln o.lc o.l HOK.out.rl HOK.out.ln HOK.out.lmax).mono ?_
    rintro e w'' ⟨rfl, ht⟩
    rw [← HER.out]
    rw [← HSS.out] at ht
    exact ⟨rfl, HT.out _ _ ht HOKS.out⟩
  go_simp
  iterate 2 (refine Hav3.read (e := ?_) (fun v => by rfl) (fun D v w h => h) (fun D v w' hD hS => ?_) ?_; rotate_left; (skip; clear hS hD; first | (go_simp; done) | (go_simp; with_reducible rfl)); go_simp)
  refine Hav3.fin (fun v w' hS => ?_)
  have HS := hide hS.fin
  clear hS
  go_wp2
  go_ret
  exact ⟨rfl, HS.out⟩
set_option maxRecDepth 100000 in
set_option maxHeartbeats 3200000 in
theorem tdoes_append (xb sb rb tb ub : Nat) (s : FsS) (F G : List Nat) (k : Bs) (o : Opt) (W w : World) (h : Tw W w sb s F rb s G [(xb, twoO sb rb (.pointer (some ⟨tb, 0, none⟩)) (.pointer (some ⟨ub, 0, none⟩)) k), (tb, tpO sb k), (ub, rtO rb k)]) (hk : k.length ≤ 1000000) (hok : o.Ok W) (hl : o.Light) (hm : o.kind % 9 < 4) :
    Calls Tryz.prog 13 #[.pointer (some ⟨xb, 0, none⟩), .agg #[.int .u8 o.kind, .slice o.ba o.bn o.bc, .slice o.la o.ln o.lc, .int .u8 o.num, .slice o.ka o.kn o.kc, .int .i64 o.t]] w fun e w' => e = .returned (.bool true) ∧ ∃ tv', TwE W w' xb sb rb k tv' := by
  obtain ⟨W1, hW1⟩ : ∃ W1, W1 = w.alloc (.cells #[.int .u8 o.kind, .slice o.ba o.bn o.bc, .slice o.la o.ln o.lc, .int .u8 o.num, .slice o.ka o.kn o.kc, .int .i64 o.t] 47) := ⟨_, rfl⟩
  have hd : TwD W xb sb rb tb ub w.heap.size k o s s W1 := by
    refine ⟨F, G, ?_⟩
    rw [hW1]
    exact h.new _
  have HD := hide hd
  have HOK := hide hok
  have HL := hide hl
  have hw1 := hide hW1
  have hkm : k.length ≤ maxLen := by unfold maxLen; omega
  have hmod : (o.kind : Int).tmod 9 = ((o.kind % 9 : Nat) : Int) := Int.ofNat_tmod o.kind 9
  obtain ⟨m, hm9⟩ : ∃ m, m = o.kind % 9 := ⟨_, rfl⟩
  rw [← hm9] at hm hmod
  obtain ⟨⟨f0, f1, f2, f3, f4, f5⟩, x0, x1, x2, x3⟩ := hd.cells
  clear h hok hl hd hm9
  have hm4 : decide ((m : Int) = 4) = false := decide_eq_false (by omega)
  have c4 : ((m : Int) == 4) = false := by simpa using hm4
  have c5 : ((m : Int) == 5) = false := by have : (m : Int) ≠ 5 := by omega
                                           simpa using this
  have c6 : ((m : Int) == 6) = false := by have : (m : Int) ≠ 6 := by omega
                                           simpa using this
  have c7 : ((m : Int) == 7) = false := by have : (m : Int) ≠ 7 := by omega
                                           simpa using this
  have c8 : ((m : Int) == 8) = false := by have : (m : Int) ≠ 8 := by omega
                                           simpa using this
  obtain ⟨er, her⟩ : ∃ er, er = (tpAppend s k o.b).1 := ⟨_, rfl⟩
  obtain ⟨S', hS'⟩ : ∃ S', S' = (tpAppend s k o.b).2 := ⟨_, rfl⟩
  have hr := tacode_range s k o.b
  rw [← her] at hr
  have hwe : IntKind.i64.wrap er = er := wrap64 (by omega) (by omega)
  have hee : (er == er) = true := by simp
  have HOKS : Hid (S'.Ok) := hide (by rw [hS']; exact tpAppend_ok HD.out.a.choose_spec.1.ok k o.b)
  have HER := hide her; have HSS := hide hS'
  clear her hS' hr
  go_enter Tryz.func13, Tryz.ntmps13
  go_upto_region 1 with fail
  rw [← hw1.out]
  obtain ⟨xo, hxo⟩ : ∃ xo, xo = w.heap.size := ⟨_, rfl⟩
  rw [← hxo] at f0 f1 f2 f3 f4 f5 HD ⊢
  have H1 := HD
  clear hW1 hw1 hxo
  go_wp2_with fail
  refine wp_region_three 17 118 (by kernel_rfl) (by kernel_rfl) rfl (by kernel_rfl) (fun D v w' => TwD W xb sb rb tb ub xo k o (cond (D 6) S' s) (cond (D 14) S' s) w') (fun _ => undef) H1.out.drew ?_
  simp only [List.take_succ_cons, List.take_zero, List.drop_succ_cons, List.drop_zero]
  iterate 6 (refine Hav3.read (e := ?_) (fun v => by rfl) (fun D v w h => h) (fun D v w' hD hS => ?_) ?_; rotate_left; (obtain ⟨⟨f0, f1, f2, f3, f4, f5⟩, x0, x1, x2, x3⟩ := hS.cells; clear hS hD; first | (go_simp; done) | (go_simp; with_reducible rfl)); go_simp)
  refine Hav3.call (.int .u16 er) (fun v => by rfl) (fun D v w' hD hS => ?_) ?_
  · have d1 : D 6 = false := hD.self
    rw [d1] at hS
    obtain ⟨F1, hO, hB, hF, hT⟩ := hS.a
    have HO := hide hO; have HB := hide hB; have HF := hide hF; have HT := hide hT
    clear hD d1 hS hO hB hF hT
    go_simp
    go_at_call 16
    refine (tp_Append tb sb s F1 k hk o.ba o.bn o.bc o.b w' HB.out HO.out.rep HO.out.ok (HOK.out.rb.low HO.out.low) HOK.out.bn HOK.out.bc0 HOK.out.bc1 (fun h0 j hj => Nat.lt_of_lt_of_le (HOK.out.rb.lt0 HOK.out.bn h0 j hj) HO.out.low.size)).mono ?_
    rintro e w'' ⟨rfl, ht⟩
    rw [← HER.out]
    rw [← HSS.out] at ht
    exact ⟨rfl, HT.out _ _ ht HOKS.out⟩
  go_simp
  iterate 7 (refine Hav3.read (e := ?_) (fun v => by rfl) (fun D v w h => h) (fun D v w' hD hS => ?_) ?_; rotate_left; (obtain ⟨⟨f0, f1, f2, f3, f4, f5⟩, x0, x1, x2, x3⟩ := hS.cells; clear hS hD; first | (go_simp; done) | (go_simp; with_reducible rfl)); go_simp)
  refine Hav3.call (.int .i64 er) (fun v => by rfl) (fun D v w' hD hS => ?_) ?_
  · have d1 : D 14 = false := hD.self
    rw [d1] at hS
    obtain ⟨F1, hO, hB, hF, hT⟩ := hS.b
    have HO := hide hO; have HB := hide hB; have HF := hide hF; have HT := hide hT
    clear hD d1 hS hO hB hF hT
    go_simp
    go_at_call 38
    refine (rt_Append ub rb s F1 k hkm o.ba o.bn o.bc o.b w' HB.out HO.out.rep HO.out.ok (HOK.out.rb.low HO.out.low) HOK.out.bn HOK.out.bc0 HOK.out.bc1 (fun h0 j hj => Nat.lt_of_lt_of_le (HOK.out.rb.lt0 HOK.out.bn h0 j hj) HO.out.low.size)).mono ?_
    rintro e w'' ⟨rfl, ht⟩
    rw [← HER.out]
    rw [← HSS.out] at ht
    exact ⟨rfl, HT.out _ _ ht HOKS.out⟩
  go_simp
  iterate 2 (refine Hav3.read (e := ?_) (fun v => by rfl) (fun D v w h => h) (fun D v w' hD hS => ?_) ?_; rotate_left; (skip; clear hS hD; first | (go_simp; done) | (go_simp; with_reducible rfl)); go_simp)
  refine Hav3.fin (fun v w' hS => ?_)
  have HS := hide hS.fin
  clear hS
  go_wp2
  go_ret
  exact ⟨rfl, HS.out⟩
set_option maxRecDepth 100000 in
set_option maxHeartbeats 3200000 in
theorem tdoes_halt (xb sb rb tb ub : Nat) (s : FsS) (F G : List Nat) (k : Bs) (o : Opt) (W w : World) (h : Tw W w sb s F rb s G [(xb, twoO sb rb (.pointer (some ⟨tb, 0, none⟩)) (.pointer (some ⟨ub, 0, none⟩)) k), (tb, tpO sb k), (ub, rtO rb k)]) (hk : k.length ≤ 1000000) (hok : o.Ok W) (hl : o.Light) (hm : o.kind % 9 = 6) :
    Calls Tryz.prog 13 #[.pointer (some ⟨xb, 0, none⟩), .agg #[.int .u8 o.kind, .slice o.ba o.bn o.bc, .slice o.la o.ln o.lc, .int .u8 o.num, .slice o.ka o.kn o.kc, .int .i64 o.t]] w fun e w' => e = .returned (.bool true) ∧ ∃ tv', TwE W w' xb sb rb k tv' := by
  obtain ⟨W1, hW1⟩ : ∃ W1, W1 = w.alloc (.cells #[.int .u8 o.kind, .slice o.ba o.bn o.bc, .slice o.la o.ln o.lc, .int .u8 o.num, .slice o.ka o.kn o.kc, .int .i64 o.t] 47) := ⟨_, rfl⟩
  have hd : TwD W xb sb rb tb ub w.heap.size k o s s W1 := by
    refine ⟨F, G, ?_⟩
    rw [hW1]
    exact h.new _
  have HD := hide hd
  have HOK := hide hok
  have HL := hide hl
  have hw1 := hide hW1
  have hkm : k.length ≤ maxLen := by unfold maxLen; omega
  have hmod : (o.kind : Int).tmod 9 = ((o.kind % 9 : Nat) : Int) := Int.ofNat_tmod o.kind 9
  obtain ⟨m, hm9⟩ : ∃ m, m = o.kind % 9 := ⟨_, rfl⟩
  rw [← hm9] at hm hmod
  obtain ⟨⟨f0, f1, f2, f3, f4, f5⟩, x0, x1, x2, x3⟩ := hd.cells
  clear h hok hl hd hm9
  subst hm
  obtain ⟨y, hy⟩ : ∃ y, y = o.num % 20 := ⟨_, rfl⟩
  have hmod20 : (o.num : Int).tmod 20 = (y : Int) := by rw [hy]; exact Int.ofNat_tmod o.num 20
  have hy20 : y < 20 := by omega
  have hwy : IntKind.i64.wrap (y : Int) = y := wrap64 (by omega) (by omega)
  clear hy
  go_enter Tryz.func13, Tryz.ntmps13
  go_upto_region 1 with fail
  rw [← hw1.out]
  obtain ⟨xo, hxo⟩ : ∃ xo, xo = w.heap.size := ⟨_, rfl⟩
  rw [← hxo] at f0 f1 f2 f3 f4 f5 HD ⊢
  have H1 := HD
  clear hW1 hw1 hxo
  go_wp2_with fail
  refine wp_region_three 8 118 (by kernel_rfl) (by kernel_rfl) rfl (by kernel_rfl) (fun D v w' => Below W1.heap.size W1 w') (fun _ => undef) (Below.refl _ _).drew ?_
  simp only [List.take_succ_cons, List.take_zero, List.drop_succ_cons, List.drop_zero]
  iterate 8 (refine Hav3.read (e := ?_) (fun v => by rfl) (fun D v w h => h) (fun D v w' hD hS => ?_) ?_; rotate_left; (obtain ⟨⟨f0, f1, f2, f3, f4, f5⟩, x0, x1, x2, x3⟩ := (H1.out.then hS).cells; clear hS hD; first | (go_simp; done) | (go_simp; with_reducible rfl)); go_simp)
  refine Hav3.fin (fun v w2 hS => ?_)
  obtain ⟨F1, hO, hB, hF, hT⟩ := (H1.out.then hS).a
  have HO := hide hO; have HT := hide hT
  clear hS hO hB hF hT f0 f1 f2 f3 f4 f5 x0 x1 x2 x3
  go_wp2_with fail
  refine (fs_Halt sb s F1 (y : Int) w2 HO.out.rep).mono ?_
  rintro e w3 ⟨rfl, ht⟩
  have H3 := hide (HT.out _ _ ht (fsHalt_ok HO.out.ok _ (by omega)))
  clear ht
  go_wp2_with fail
  refine wp_region_three 8 118 (by kernel_rfl) (by kernel_rfl) rfl (by kernel_rfl) (fun D v w' => Below w3.heap.size w3 w') (fun _ => undef) (Below.refl _ _).drew ?_
  simp only [List.take_succ_cons, List.take_zero, List.drop_succ_cons, List.drop_zero]
  iterate 8 (refine Hav3.read (e := ?_) (fun v => by rfl) (fun D v w h => h) (fun D v w' hD hS => ?_) ?_; rotate_left; (obtain ⟨⟨f0, f1, f2, f3, f4, f5⟩, x0, x1, x2, x3⟩ := (H3.out.then hS).cells; clear hS hD; first | (go_simp; done) | (go_simp; with_reducible rfl)); go_simp)
  refine Hav3.fin (fun v w4 hS => ?_)
  obtain ⟨G1, hO, hB, hF, hT⟩ := (H3.out.then hS).b
  have HO4 := hide hO; have HT4 := hide hT
  clear hS hO hB hF hT
  go_wp2_with fail
  refine (rf_Halt rb s G1 (y : Int) w4 HO4.out.rep).mono ?_
  rintro e w5 ⟨rfl, ht⟩
  have H5 := hide (HT4.out _ _ ht (fsHalt_ok HO4.out.ok _ (by omega))).fin
  clear ht
  go_wp2
  go_ret
  exact ⟨rfl, H5.out⟩
set_option maxRecDepth 100000 in
set_option maxHeartbeats 3200000 in
theorem tdoes_crash (xb sb rb tb ub : Nat) (s : FsS) (F G : List Nat) (k : Bs) (o : Opt) (W w : World) (h : Tw W w sb s F rb s G [(xb, twoO sb rb (.pointer (some ⟨tb, 0, none⟩)) (.pointer (some ⟨ub, 0, none⟩)) k), (tb, tpO sb k), (ub, rtO rb k)]) (hk : k.length ≤ 1000000) (hok : o.Ok W) (hl : o.Light) (hm : o.kind % 9 = 7) :
    Calls Tryz.prog 13 #[.pointer (some ⟨xb, 0, none⟩), .agg #[.int .u8 o.kind, .slice o.ba o.bn o.bc, .slice o.la o.ln o.lc, .int .u8 o.num, .slice o.ka o.kn o.kc, .int .i64 o.t]] w fun e w' => e = .returned (.bool true) ∧ ∃ tv', TwE W w' xb sb rb k tv' := by
  obtain ⟨W1, hW1⟩ : ∃ W1, W1 = w.alloc (.cells #[.int .u8 o.kind, .slice o.ba o.bn o.bc, .slice o.la o.ln o.lc, .int .u8 o.num, .slice o.ka o.kn o.kc, .int .i64 o.t] 47) := ⟨_, rfl⟩
  have hd : TwD W xb sb rb tb ub w.heap.size k o s s W1 := by
    refine ⟨F, G, ?_⟩
    rw [hW1]
    exact h.new _
  have HD := hide hd
  have HOK := hide hok
  have HL := hide hl
  have hw1 := hide hW1
  have hkm : k.length ≤ maxLen := by unfold maxLen; omega
  have hmod : (o.kind : Int).tmod 9 = ((o.kind % 9 : Nat) : Int) := Int.ofNat_tmod o.kind 9
  obtain ⟨m, hm9⟩ : ∃ m, m = o.kind % 9 := ⟨_, rfl⟩
  rw [← hm9] at hm hmod
  obtain ⟨⟨f0, f1, f2, f3, f4, f5⟩, x0, x1, x2, x3⟩ := hd.cells
  clear h hok hl hd hm9
  subst hm
  go_enter Tryz.func13, Tryz.ntmps13
  go_upto_region 1 with fail
  rw [← hw1.out]
  obtain ⟨xo, hxo⟩ : ∃ xo, xo = w.heap.size := ⟨_, rfl⟩
  rw [← hxo] at f0 f1 f2 f3 f4 f5 HD ⊢
  have H1 := HD
  clear hW1 hw1 hxo
  go_wp2_with fail
  refine wp_region_three 6 118 (by kernel_rfl) (by kernel_rfl) rfl (by kernel_rfl) (fun D v w' => Below W1.heap.size W1 w') (fun _ => undef) (Below.refl _ _).drew ?_
  simp only [List.take_succ_cons, List.take_zero, List.drop_succ_cons, List.drop_zero]
  iterate 6 (refine Hav3.read (e := ?_) (fun v => by rfl) (fun D v w h => h) (fun D v w' hD hS => ?_) ?_; rotate_left; (obtain ⟨⟨f0, f1, f2, f3, f4, f5⟩, x0, x1, x2, x3⟩ := (H1.out.then hS).cells; clear hS hD; first | (go_simp; done) | (go_simp; with_reducible rfl)); go_simp)
  refine Hav3.fin (fun v w2 hS => ?_)
  obtain ⟨F1, hO, hB, hF, hT⟩ := (H1.out.then hS).a
  have HO := hide hO; have HT := hide hT
  clear hS hO hB hF hT f0 f1 f2 f3 f4 f5 x0 x1 x2 x3
  go_wp2_with fail
  refine (fs_Crash sb s F1 o.ka o.kn o.kc o.t o.K w2 HO.out.rep HO.out.ok (HOK.out.rk.low HO.out.low) HOK.out.kn (by have := HL.out.2.2.1; omega) (fun h0 k hk hm => by have := RdK.lowK HOK.out.rk HOK.out.kn h0 k hk; have := HO.out.up k hm; omega) HOK.out.t0 HOK.out.t1).mono ?_
  rintro e w3 ⟨rfl, ht⟩
  have H3 := hide (HT.out _ _ ht (fsCrash_ok HO.out.ok o.K o.t))
  clear ht
  go_wp2_with fail
  refine wp_region_three 6 118 (by kernel_rfl) (by kernel_rfl) rfl (by kernel_rfl) (fun D v w' => Below w3.heap.size w3 w') (fun _ => undef) (Below.refl _ _).drew ?_
  simp only [List.take_succ_cons, List.take_zero, List.drop_succ_cons, List.drop_zero]
  iterate 6 (refine Hav3.read (e := ?_) (fun v => by rfl) (fun D v w h => h) (fun D v w' hD hS => ?_) ?_; rotate_left; (obtain ⟨⟨f0, f1, f2, f3, f4, f5⟩, x0, x1, x2, x3⟩ := (H3.out.then hS).cells; clear hS hD; first | (go_simp; done) | (go_simp; with_reducible rfl)); go_simp)
  refine Hav3.fin (fun v w4 hS => ?_)
  obtain ⟨G1, hO, hB, hF, hT⟩ := (H3.out.then hS).b
  have HO4 := hide hO; have HT4 := hide hT
  clear hS hO hB hF hT
  go_wp2_with fail
  refine (rf_Crash rb s G1 o.ka o.kn o.kc o.t o.K w4 HO4.out.rep HO4.out.ok (HOK.out.rk.low HO4.out.low) HOK.out.kn (by have := HL.out.2.2.1; omega) (fun h0 k hk hm => by have := RdK.lowK HOK.out.rk HOK.out.kn h0 k hk; have := HO4.out.up k hm; omega) HOK.out.t0 HOK.out.t1).mono ?_
  rintro e w5 ⟨rfl, ht⟩
  have H5 := hide (HT4.out _ _ ht (fsCrash_ok HO4.out.ok o.K o.t))
  clear ht
  obtain ⟨F6, G6, h6⟩ := H5.out
  have H6 := hide (h6.less (Y := [(xb, twoO sb rb (.pointer (some ⟨tb, 0, none⟩)) (.pointer (some ⟨ub, 0, none⟩)) k)]) fun p hp => by simp only [List.mem_cons, List.not_mem_nil, or_false] at hp; subst hp; simp)
  clear h6
  go_wp2_with fail
  refine (law_topen xb sb rb _ F6 G6 k _ _ W w5 H6.out hk).mono ?_
  rintro e w7 ⟨rfl, h7⟩
  have H7 := hide h7
  clear h7
  go_wp2
  go_ret
  exact ⟨rfl, H7.out⟩
set_option maxRecDepth 100000 in
set_option maxHeartbeats 3200000 in
theorem tdoes_make (xb sb rb tb ub : Nat) (s : FsS) (F G : List Nat) (k : Bs) (o : Opt) (W w : World) (h : Tw W w sb s F rb s G [(xb, twoO sb rb (.pointer (some ⟨tb, 0, none⟩)) (.pointer (some ⟨ub, 0, none⟩)) k), (tb, tpO sb k), (ub, rtO rb k)]) (hk : k.length ≤ 1000000) (hok : o.Ok W) (hl : o.Light) (hm : o.kind % 9 = 8) :
    Calls Tryz.prog 13 #[.pointer (some ⟨xb, 0, none⟩), .agg #[.int .u8 o.kind, .slice o.ba o.bn o.bc, .slice o.la o.ln o.lc, .int .u8 o.num, .slice o.ka o.kn o.kc, .int .i64 o.t]] w fun e w' => e = .returned (.bool true) ∧ ∃ tv', TwE W w' xb sb rb k tv' := by
  obtain ⟨W1, hW1⟩ : ∃ W1, W1 = w.alloc (.cells #[.int .u8 o.kind, .slice o.ba o.bn o.bc, .slice o.la o.ln o.lc, .int .u8 o.num, .slice o.ka o.kn o.kc, .int .i64 o.t] 47) := ⟨_, rfl⟩
  have hd : TwD W xb sb rb tb ub w.heap.size k o s s W1 := by
    refine ⟨F, G, ?_⟩
    rw [hW1]
    exact h.new _
  have HD := hide hd
  have HOK := hide hok
  have HL := hide hl
  have hw1 := hide hW1
  have hkm : k.length ≤ maxLen := by unfold maxLen; omega
  have hmod : (o.kind : Int).tmod 9 = ((o.kind % 9 : Nat) : Int) := Int.ofNat_tmod o.kind 9
  obtain ⟨m, hm9⟩ : ∃ m, m = o.kind % 9 := ⟨_, rfl⟩
  rw [← hm9] at hm hmod
  obtain ⟨⟨f0, f1, f2, f3, f4, f5⟩, x0, x1, x2, x3⟩ := hd.cells
  clear h hok hl hd hm9
  subst hm
  obtain ⟨z, hz⟩ : ∃ z, z = o.num % 9 := ⟨_, rfl⟩
  have hz9 : z < 9 := by omega
  have hmn : (o.num : Int).tmod 9 = (z : Int) := by rw [hz]; exact Int.ofNat_tmod o.num 9
  obtain ⟨y, hy⟩ : ∃ y : UInt8, y = UInt8.ofNat (97 + z) := ⟨_, rfl⟩
  have hyn : (y.toNat : Int) = 97 + (z : Int) := by rw [hy, UInt8.toNat_ofNat']; omega
  have hwy : IntKind.u8.wrap (97 + (z : Int)) = 97 + (z : Int) := by rw [IntKind.wrap_u8]; omega
  have v1 := convert_rd [y] _ _ (rdB_lit W1 [y] 1 #[.int .u8 (y.toNat : Int)] rfl rfl (by omega))
  rw [hyn] at v1
  obtain ⟨nm, hnm⟩ : ∃ nm : Bs, nm = [102, y] := ⟨_, rfl⟩
  have HNM := hide (show (⟨#[102]⟩ : ByteArray) ++ ⟨#[y]⟩ = ⟨nm.toArray⟩ by rw [hnm]; apply ByteArray.ext; simp)
  have hnl : nm.length ≤ maxLen := by rw [hnm]; show 2 ≤ maxLen; decide
  clear hy hyn hz hnm
  obtain ⟨er, her⟩ : ∃ er, er = (fsCreate s nm).1 := ⟨_, rfl⟩
  obtain ⟨S', hS'⟩ : ∃ S', S' = (fsCreate s nm).2 := ⟨_, rfl⟩
  have hr := ccode_range s nm
  rw [← her] at hr
  have hwe : IntKind.i64.wrap er = er := wrap64 (by omega) (by omega)
  have hee : (er == er) = true := by simp
  have HOKS : Hid (S'.Ok) := hide (by rw [hS']; exact fsCreate_ok HD.out.a.choose_spec.1.ok nm)
  have HER := hide her; have HSS := hide hS'
  clear her hS' hr
  go_enter Tryz.func13, Tryz.ntmps13
  go_upto_region 1 with fail
  rw [← hw1.out]
  obtain ⟨xo, hxo⟩ : ∃ xo, xo = w.heap.size := ⟨_, rfl⟩
  rw [← hxo] at f0 f1 f2 f3 f4 f5 HD ⊢
  have H1 := HD
  clear hW1 hw1 hxo
  go_wp2_with fail
  rw [HNM.out]
  obtain ⟨W2, hW2⟩ : ∃ W2, W2 = W1.alloc (.cells #[.int .u8 (97 + (z : Int))] 5) := ⟨_, rfl⟩
  rw [← hW2]
  have H1 : Hid (TwD W xb sb rb tb ub xo k o s s W2) := hide (by rw [hW2]; exact HD.out.then (below_alloc _ _))
  clear hW2 v1 f0 f1 f2 f3 f4 f5 x0 x1 x2 x3
  refine wp_region_three 15 118 (by kernel_rfl) (by kernel_rfl) rfl (by kernel_rfl) (fun D v w' => TwD W xb sb rb tb ub xo k o (cond (D 5) S' s) (cond (D 12) S' s) w') (fun _ => undef) H1.out.drew ?_
  simp only [List.take_succ_cons, List.take_zero, List.drop_succ_cons, List.drop_zero]
  iterate 5 (refine Hav3.read (e := ?_) (fun v => by rfl) (fun D v w h => h) (fun D v w' hD hS => ?_) ?_; rotate_left; (obtain ⟨⟨f0, f1, f2, f3, f4, f5⟩, x0, x1, x2, x3⟩ := hS.cells; clear hS hD; first | (go_simp; done) | (go_simp; with_reducible rfl)); go_simp)
  refine Hav3.call (.int .u16 er) (fun v => by rfl) (fun D v w' hD hS => ?_) ?_
  · have d1 : D 5 = false := hD.self
    rw [d1] at hS
    obtain ⟨F1, hO, hB, hF, hT⟩ := hS.a
    have HO := hide hO; have HB := hide hB; have HF := hide hF; have HT := hide hT
    clear hD d1 hS hO hB hF hT
    go_simp
    go_at_call 8
    refine (fs_Create sb s F1 nm hnl w' HO.out.rep HO.out.ok).mono ?_
    rintro e w'' ⟨rfl, ht⟩
    rw [← HER.out]
    rw [← HSS.out] at ht
    exact ⟨rfl, HT.out _ _ ht HOKS.out⟩
  go_simp
  iterate 6 (refine Hav3.read (e := ?_) (fun v => by rfl) (fun D v w h => h) (fun D v w' hD hS => ?_) ?_; rotate_left; (obtain ⟨⟨f0, f1, f2, f3, f4, f5⟩, x0, x1, x2, x3⟩ := hS.cells; clear hS hD; first | (go_simp; done) | (go_simp; with_reducible rfl)); go_simp)
  refine Hav3.call (.int .i64 er) (fun v => by rfl) (fun D v w' hD hS => ?_) ?_
  · have d1 : D 12 = false := hD.self
    rw [d1] at hS
    obtain ⟨F1, hO, hB, hF, hT⟩ := hS.b
    have HO := hide hO; have HB := hide hB; have HF := hide hF; have HT := hide hT
    clear hD d1 hS hO hB hF hT
    go_simp
    go_at_call 10
    refine (rf_Create rb s F1 nm hnl w' HO.out.rep HO.out.ok).mono ?_
    rintro e w'' ⟨rfl, ht⟩
    rw [← HER.out]
    rw [← HSS.out] at ht
    exact ⟨rfl, HT.out _ _ ht HOKS.out⟩
  go_simp
  iterate 2 (refine Hav3.read (e := ?_) (fun v => by rfl) (fun D v w h => h) (fun D v w' hD hS => ?_) ?_; rotate_left; (skip; clear hS hD; first | (go_simp; done) | (go_simp; with_reducible rfl)); go_simp)
  refine Hav3.fin (fun v w' hS => ?_)
  have HS := hide hS.fin
  clear hS
  go_wp2
  go_ret
  exact ⟨rfl, HS.out⟩
theorem law_tdoes (xb sb rb tb ub : Nat) (s : FsS) (F G : List Nat) (k : Bs) (o : Opt) (W w : World) (h : Tw W w sb s F rb s G [(xb, twoO sb rb (.pointer (some ⟨tb, 0, none⟩)) (.pointer (some ⟨ub, 0, none⟩)) k), (tb, tpO sb k), (ub, rtO rb k)]) (hk : k.length ≤ 1000000) (hok : o.Ok W) (hl : o.Light) :
    Calls Tryz.prog 13 #[.pointer (some ⟨xb, 0, none⟩), .agg #[.int .u8 o.kind, .slice o.ba o.bn o.bc, .slice o.la o.ln o.lc, .int .u8 o.num, .slice o.ka o.kn o.kc, .int .i64 o.t]] w fun e w' => e = .returned (.bool true) ∧ ∃ tv', TwE W w' xb sb rb k tv' := by
  by_cases h4 : o.kind % 9 < 4
  · exact tdoes_append xb sb rb tb ub s F G k o W w h hk hok hl h4
  by_cases h5 : o.kind % 9 = 4
  · exact tdoes_sync xb sb rb tb ub s F G k o W w h hk hok hl h5
  by_cases h6 : o.kind % 9 = 5
  · exact tdoes_swap xb sb rb tb ub s F G k o W w h hk hok hl h6
  by_cases h7 : o.kind % 9 = 6
  · exact tdoes_halt xb sb rb tb ub s F G k o W w h hk hok hl h7
  by_cases h8 : o.kind % 9 = 7
  · exact tdoes_crash xb sb rb tb ub s F G k o W w h hk hok hl h8
  exact tdoes_make xb sb rb tb ub s F G k o W w h hk hok hl (by omega)
end Go.Proofs.YtglgjakjhkdoaaaGreatDoor

/-
  The laws' does: one call, on a file system and on the document's.  (Printed by gen_do.py.)
-/
import Derived.Test.YtcgkhocmlolknaaDoA
import Derived.Deep.DeepCutAuto
namespace Go.Proofs.Ytcgkhocmlolknaa
open Go.RowKit Go.Maps
set_option linter.unusedVariables false
set_option linter.unusedSimpArgs false

/-- under way from w1 -/
def PrTo (W w1 : World) (F0 G0 : List Nat) (sb : Nat) (S : FsS) (rb : Nat) (R : FsS) (w' : World) : Prop := ∃ F G, Pr W w' sb S F rb R G ∧ Chg (F0 ++ G0) (F ++ G) w1 w'
theorem Chg.left {F F' : List Nat} {w w' : World} (h : Chg F F' w w') (G : List Nat) : Chg (F ++ G) (F' ++ G) w w' := ⟨h.os, h.tape, h.output, h.size, fun k hk hn => h.block k hk fun hm => hn (List.mem_append_left _ hm), fun k hk => by
  rcases List.mem_append.1 hk with hk | hk
  · exact (h.fresh k hk).imp (List.mem_append_left _) id
  · exact .inl (List.mem_append_right _ hk)⟩
theorem Chg.right {F F' : List Nat} {w w' : World} (h : Chg F F' w w') (G : List Nat) : Chg (G ++ F) (G ++ F') w w' := ⟨h.os, h.tape, h.output, h.size, fun k hk hn => h.block k hk fun hm => hn (List.mem_append_right _ hm), fun k hk => by
  rcases List.mem_append.1 hk with hk | hk
  · exact .inl (List.mem_append_left _ hk)
  · exact (h.fresh k hk).imp (List.mem_append_right _) id⟩
theorem PrTo.drew {W w1 w' : World} {F0 G0 : List Nat} {sb rb : Nat} {S R : FsS} (h : PrTo W w1 F0 G0 sb S rb R w') : PrTo W w1 F0 G0 sb S rb R w'.drew := by
  obtain ⟨F, G, h1, h2⟩ := h
  have hb : Below w'.heap.size w' w'.drew := (Below.refl _ _).drew
  exact ⟨F, G, h1.then hb, h2.trans (Chg.of_below hb)⟩
theorem PrTo.then {W w1 w' w'' : World} {F0 G0 : List Nat} {sb rb : Nat} {S R : FsS} (h : PrTo W w1 F0 G0 sb S rb R w') (hb : Below w'.heap.size w' w'') : PrTo W w1 F0 G0 sb S rb R w'' := by
  obtain ⟨F, G, h1, h2⟩ := h
  exact ⟨F, G, h1.then hb, h2.trans (Chg.of_below hb)⟩
theorem PrTo.stepA {W w1 w' w'' : World} {F0 G0 F G : List Nat} {sb rb : Nat} {S S' R : FsS} (h : Pr W w' sb S F rb R G) (hc : Chg (F0 ++ G0) (F ++ G) w1 w') (ht : FsTo w' sb F S' w'') (ok : S'.Ok) : PrTo W w1 F0 G0 sb S' rb R w'' := by
  obtain ⟨F', h1, h2⟩ := h.stepA ht ok
  exact ⟨F', G, h1, hc.trans (h2.left G)⟩
theorem PrTo.stepB {W w1 w' w'' : World} {F0 G0 F G : List Nat} {sb rb : Nat} {S R R' : FsS} (h : Pr W w' sb S F rb R G) (hc : Chg (F0 ++ G0) (F ++ G) w1 w') (ht : RfTo w' rb G R' w'') (ok : R'.Ok) : PrTo W w1 F0 G0 sb S rb R' w'' := by
  obtain ⟨G', h1, h2⟩ := h.stepB ht ok
  exact ⟨F, G', h1, hc.trans (h2.right F)⟩
theorem Pr.poke {W w1 w : World} {sb rb g : Nat} {S R : FsS} {F G X : List Nat} (h : Pr W w sb S F rb R G) (hc : Chg X (F ++ G) w1 w) (hg : w1.heap.size ≤ g) (hF : g ∉ F) (hG : g ∉ G) (j : Nat) (u : Value) (hW : W.heap.size ≤ g := by omega) :
    Pr W (w.setCell ⟨g, j, none⟩ u) sb S F rb R G ∧ Chg X (F ++ G) w1 (w.setCell ⟨g, j, none⟩ u) := by
  have hb : ∀ k, k ≠ g → (w.setCell ⟨g, j, none⟩ u).heap[k]? = w.heap[k]? := fun k hk => heap_set_ne hk
  have hlow : Below W.heap.size W (w.setCell ⟨g, j, none⟩ u) := h.a.low.setCell (by show W.heap.size ≤ g; exact hW) _
  have hch : Chg [g] [g] w (w.setCell ⟨g, j, none⟩ u) := ⟨rfl, rfl, rfl, by simp [World.setCell], fun k _ hk => hb k (by simpa using hk), fun k hk => .inl hk⟩
  refine ⟨⟨⟨h.a.rep.chg hch fun k hk hm => ?_, h.a.up, hlow, h.a.ok⟩, ⟨h.b.rep.chg hch fun k hk hm => ?_, h.b.up, hlow, h.b.ok⟩, h.far⟩, ⟨hc.os, hc.tape, hc.output, by simpa [World.setCell] using hc.size, fun k hk hn => (hb k (by omega)).trans (hc.block k hk hn), hc.fresh⟩⟩
  · rw [List.mem_singleton] at hm; subst hm; exact hF hk
  · rw [List.mem_singleton] at hm; subst hm; exact hG hk
theorem code_range (s : FsS) (o : Opr) : (∀ k, 0 ≤ (fsCreate s k).1 ∧ (fsCreate s k).1 ≤ 100) ∧ (∀ k, 0 ≤ (fsSync s k).1 ∧ (fsSync s k).1 ≤ 100) ∧ (∀ k n, 0 ≤ (fsCut s k n).1 ∧ (fsCut s k n).1 ≤ 100) ∧ (∀ a b, 0 ≤ (fsRename s a b).1 ∧ (fsRename s a b).1 ≤ 100) ∧ (∀ k, 0 ≤ (fsRemove s k).1 ∧ (fsRemove s k).1 ≤ 100) ∧ (∀ k b, 0 ≤ (fsAppend s k b).1 ∧ (fsAppend s k b).1 ≤ 100) := by
  refine ⟨fun k => ?_, fun k => ?_, fun k n => ?_, fun a b => ?_, fun k => ?_, fun k b => ?_⟩
  · unfold fsCreate; repeat' split
    all_goals simp
  · unfold fsSync; repeat' split
    all_goals simp
  · unfold fsCut; repeat' split
    all_goals simp
  · unfold fsRename; repeat' split
    all_goals simp
  · unfold fsRemove; repeat' split
    all_goals simp
  · unfold fsAppend; repeat' split
    all_goals simp
/-- what comes of a call -/
def fsDo (s : FsS) (o : Opr) : FsS :=
  if o.kind % 14 = 11 then fsCrash s o.K o.t else if o.kind % 14 = 12 then fsHalt s (o.num.tmod 20) else if o.kind % 14 = 13 then s
  else if o.kind % 14 = 0 then (fsCreate s o.name).2 else if o.kind % 14 = 6 ∨ o.kind % 14 = 7 then (fsSync s o.name).2 else if o.kind % 14 = 8 then (fsCut s o.name o.num).2
  else if o.kind % 14 = 9 then (fsRename s o.name o.other).2 else if o.kind % 14 = 10 then (fsRemove s o.name).2 else (fsAppend s o.name o.b).2

set_option maxRecDepth 100000 in
set_option maxHeartbeats 6400000 in
theorem law_does (sb rb : Nat) (s : FsS) (F G : List Nat) (o : Opr) (W w : World) (h : Pr W w sb s F rb s G) (hok : o.Ok W) (hl : o.Light) :
    Calls Try.prog 12 #[.pointer (some ⟨sb, 0, none⟩), .pointer (some ⟨rb, 0, none⟩), .agg #[.int .u8 o.kind, .string ⟨o.name.toArray⟩, .string ⟨o.other.toArray⟩, .slice o.ba o.bn o.bc, .int .i64 o.num, .slice o.ka o.kn o.kc, .int .i64 o.t]] w fun e w' => e = .returned (.bool true) ∧ PrTo W w F G sb (fsDo s o) rb (fsDo s o) w' := by
  obtain ⟨W1, hW1⟩ : ∃ W1, W1 = w.alloc (.cells #[.int .u8 o.kind, .string ⟨o.name.toArray⟩, .string ⟨o.other.toArray⟩, .slice o.ba o.bn o.bc, .int .i64 o.num, .slice o.ka o.kn o.kc, .int .i64 o.t] 32) := ⟨_, rfl⟩
  have hb := below_alloc w (.cells #[.int .u8 o.kind, .string ⟨o.name.toArray⟩, .string ⟨o.other.toArray⟩, .slice o.ba o.bn o.bc, .int .i64 o.num, .slice o.ka o.kn o.kc, .int .i64 o.t] 32)
  have hg := heap_alloc_at w (.cells #[.int .u8 o.kind, .string ⟨o.name.toArray⟩, .string ⟨o.other.toArray⟩, .slice o.ba o.bn o.bc, .int .i64 o.num, .slice o.ka o.kn o.kc, .int .i64 o.t] 32)
  rw [← hW1] at hb hg
  have H := hide (h.then hb)
  have hsz : w.heap.size < W1.heap.size := (Array.getElem?_eq_some_iff.1 hg).1
  have hbx : ∀ w' F' G', Pr W w' sb s F' rb s G' → True := fun _ _ _ _ => trivial
  have HBX : Hid (∀ F' w', Chg (F ++ G) F' W1 w' → w'.cell? ⟨w.heap.size, 0, none⟩ = some (.int .u8 o.kind) ∧ w'.cell? ⟨w.heap.size, 1, none⟩ = some (.string ⟨o.name.toArray⟩) ∧ w'.cell? ⟨w.heap.size, 2, none⟩ = some (.string ⟨o.other.toArray⟩) ∧ w'.cell? ⟨w.heap.size, 3, none⟩ = some (.slice o.ba o.bn o.bc) ∧ w'.cell? ⟨w.heap.size, 4, none⟩ = some (.int .i64 o.num) ∧ w'.cell? ⟨w.heap.size, 5, none⟩ = some (.slice o.ka o.kn o.kc) ∧ w'.cell? ⟨w.heap.size, 6, none⟩ = some (.int .i64 o.t)) := hide fun F' w' hc => by
    have h1 := (hc.block w.heap.size hsz fun hm => by
      rcases List.mem_append.1 hm with hm | hm
      · have := h.a.rep.lt _ hm; omega
      · have := h.b.rep.lt _ hm; omega).trans hg
    simp [World.cell?, h1]
  have HBX2 : Hid (∀ S R w', PrTo W W1 F G sb S rb R w' → w'.cell? ⟨w.heap.size, 0, none⟩ = some (.int .u8 o.kind) ∧ w'.cell? ⟨w.heap.size, 1, none⟩ = some (.string ⟨o.name.toArray⟩) ∧ w'.cell? ⟨w.heap.size, 2, none⟩ = some (.string ⟨o.other.toArray⟩) ∧ w'.cell? ⟨w.heap.size, 3, none⟩ = some (.slice o.ba o.bn o.bc) ∧ w'.cell? ⟨w.heap.size, 4, none⟩ = some (.int .i64 o.num) ∧ w'.cell? ⟨w.heap.size, 5, none⟩ = some (.slice o.ka o.kn o.kc) ∧ w'.cell? ⟨w.heap.size, 6, none⟩ = some (.int .i64 o.t)) := hide fun S R w' ht => by
    obtain ⟨F', G', _, hc⟩ := ht
    exact HBX.out _ _ hc
  have HTO : Hid (∀ S R w', PrTo W W1 F G sb S rb R w' → PrTo W w F G sb S rb R w') := hide fun S R w' ht => by
    obtain ⟨F', G', h1, h2⟩ := ht
    exact ⟨F', G', h1, (Chg.of_below hb).trans h2⟩
  have HS0 : Hid (PrTo W W1 F G sb s rb s W1) := hide ⟨F, G, H.out, Chg.refl _ _⟩
  have HOK := hide hok
  have HL := hide hl
  obtain ⟨f0, f1, f2, f3, f4, f5, f6⟩ := HBX.out _ _ (Chg.refl _ W1)
  have hw1 := hide hW1
  have hmod : (o.kind : Int).tmod 14 = ((o.kind % 14 : Nat) : Int) := tmod14 o.kind
  have HCODE := hide (code_range s o)
  obtain ⟨m, hm⟩ : ∃ m, m = o.kind % 14 := ⟨_, rfl⟩
  have hm14 : m < 14 := by omega
  rw [← hm] at hmod
  have HM := hide hm
  clear h hok hl hb hg hm hsz hbx
  by_cases c0 : m = 0
  · have e : fsDo s o = (fsCreate s o.name).2 := by unfold fsDo; rw [← HM.out]; simp [c0]
    rw [e]
    clear e
    subst c0
    obtain ⟨er, her⟩ : ∃ er, er = (fsCreate s o.name).1 := ⟨_, rfl⟩
    obtain ⟨S', hS'⟩ : ∃ S', S' = (fsCreate s o.name).2 := ⟨_, rfl⟩
    have hr := HCODE.out.1 o.name
    rw [← her] at hr
    have hwe : IntKind.i64.wrap er = er := wrap64 (by omega) (by omega)
    have hee : (er == er) = true := by simp
    have HOKS : Hid (S'.Ok) := hide (by rw [hS']; exact fsCreate_ok H.out.a.ok o.name)
    rw [← hS']
    have HER := hide her; have HSS := hide hS'
    clear her hS' hr
    go_enter Try.func12, Try.ntmps12
    go_upto_region 1 with fail
    rw [← hw1.out]
    clear hW1
    go_wp2_with fail
    refine wp_region_three 11 167 (by kernel_rfl) (by kernel_rfl) rfl (by kernel_rfl) (fun D v w' => PrTo W W1 F G sb (cond (D 3) S' s) rb (cond (D 8) S' s) w') (fun _ => undef) HS0.out.drew ?_
    simp only [List.take_succ_cons, List.take_zero, List.drop_succ_cons, List.drop_zero]
    iterate 3 (refine Hav3.read (e := ?_) (fun v => by rfl) (fun D v w h => h) (fun D v w' hD hS => ?_) ?_; rotate_left; (obtain ⟨f0, f1, f2, f3, f4, f5, f6⟩ := HBX2.out _ _ _ hS; clear hS hD; first | (go_simp; done) | (go_simp; with_reducible rfl)); go_simp)
    refine Hav3.call (.int .u16 er) (fun v => by rfl) (fun D v w' hD hS => ?_) ?_
    · have d1 : D 3 = false := hD.self
      obtain ⟨F1, G1, h1, h2⟩ := hS
      rw [d1] at h1
      have H1 := hide h1; have H2 := hide h2
      clear hD d1 h1 h2
      go_simp
      go_at_call 13
      refine (fs_Create sb s F1 o.name HOK.out.name w' H1.out.a.rep H1.out.a.ok).mono ?_
      rintro e w'' ⟨rfl, ht⟩
      rw [← HER.out]
      rw [← HSS.out] at ht
      exact ⟨rfl, PrTo.stepA H1.out H2.out ht HOKS.out⟩
    go_simp
    iterate 4 (refine Hav3.read (e := ?_) (fun v => by rfl) (fun D v w h => h) (fun D v w' hD hS => ?_) ?_; rotate_left; (obtain ⟨f0, f1, f2, f3, f4, f5, f6⟩ := HBX2.out _ _ _ hS; clear hS hD; first | (go_simp; done) | (go_simp; with_reducible rfl)); go_simp)
    refine Hav3.call (.int .i64 er) (fun v => by rfl) (fun D v w' hD hS => ?_) ?_
    · have d1 : D 8 = false := hD.self
      obtain ⟨F1, G1, h1, h2⟩ := hS
      rw [d1] at h1
      have H1 := hide h1; have H2 := hide h2
      clear hD d1 h1 h2
      go_simp
      go_at_call 30
      refine (rf_Create rb s G1 o.name HOK.out.name w' H1.out.b.rep H1.out.b.ok).mono ?_
      rintro e w'' ⟨rfl, ht⟩
      rw [← HER.out]
      rw [← HSS.out] at ht
      exact ⟨rfl, PrTo.stepB H1.out H2.out ht HOKS.out⟩
    go_simp
    iterate 2 (refine Hav3.read (e := ?_) (fun v => by rfl) (fun D v w h => h) (fun D v w' hD hS => ?_) ?_; rotate_left; (skip; clear hS hD; first | (go_simp; done) | (go_simp; with_reducible rfl)); go_simp)
    refine Hav3.fin (fun v w' hS => ?_)
    have HS := hide (HTO.out _ _ _ hS)
    clear hS
    go_wp2
    go_ret
    exact ⟨rfl, HS.out⟩
  by_cases c6 : m = 6
  · have e : fsDo s o = (fsSync s o.name).2 := by unfold fsDo; rw [← HM.out]; simp [c6]
    rw [e]
    clear e
    subst c6
    obtain ⟨er, her⟩ : ∃ er, er = (fsSync s o.name).1 := ⟨_, rfl⟩
    obtain ⟨S', hS'⟩ : ∃ S', S' = (fsSync s o.name).2 := ⟨_, rfl⟩
    have hr := HCODE.out.2.1 o.name
    rw [← her] at hr
    have hwe : IntKind.i64.wrap er = er := wrap64 (by omega) (by omega)
    have hee : (er == er) = true := by simp
    have HOKS : Hid (S'.Ok) := hide (by rw [hS']; exact fsSync_ok H.out.a.ok o.name)
    rw [← hS']
    have HER := hide her; have HSS := hide hS'
    clear her hS' hr
    go_enter Try.func12, Try.ntmps12
    go_upto_region 1 with fail
    rw [← hw1.out]
    clear hW1
    go_wp2_with fail
    refine wp_region_three 11 167 (by kernel_rfl) (by kernel_rfl) rfl (by kernel_rfl) (fun D v w' => PrTo W W1 F G sb (cond (D 3) S' s) rb (cond (D 8) S' s) w') (fun _ => undef) HS0.out.drew ?_
    simp only [List.take_succ_cons, List.take_zero, List.drop_succ_cons, List.drop_zero]
    iterate 3 (refine Hav3.read (e := ?_) (fun v => by rfl) (fun D v w h => h) (fun D v w' hD hS => ?_) ?_; rotate_left; (obtain ⟨f0, f1, f2, f3, f4, f5, f6⟩ := HBX2.out _ _ _ hS; clear hS hD; first | (go_simp; done) | (go_simp; with_reducible rfl)); go_simp)
    refine Hav3.call (.int .u16 er) (fun v => by rfl) (fun D v w' hD hS => ?_) ?_
    · have d1 : D 3 = false := hD.self
      obtain ⟨F1, G1, h1, h2⟩ := hS
      rw [d1] at h1
      have H1 := hide h1; have H2 := hide h2
      clear hD d1 h1 h2
      go_simp
      go_at_call 15
      refine (fs_Sync sb s F1 o.name HOK.out.name w' H1.out.a.rep H1.out.a.ok).mono ?_
      rintro e w'' ⟨rfl, ht⟩
      rw [← HER.out]
      rw [← HSS.out] at ht
      exact ⟨rfl, PrTo.stepA H1.out H2.out ht HOKS.out⟩
    go_simp
    iterate 4 (refine Hav3.read (e := ?_) (fun v => by rfl) (fun D v w h => h) (fun D v w' hD hS => ?_) ?_; rotate_left; (obtain ⟨f0, f1, f2, f3, f4, f5, f6⟩ := HBX2.out _ _ _ hS; clear hS hD; first | (go_simp; done) | (go_simp; with_reducible rfl)); go_simp)
    refine Hav3.call (.int .i64 er) (fun v => by rfl) (fun D v w' hD hS => ?_) ?_
    · have d1 : D 8 = false := hD.self
      obtain ⟨F1, G1, h1, h2⟩ := hS
      rw [d1] at h1
      have H1 := hide h1; have H2 := hide h2
      clear hD d1 h1 h2
      go_simp
      go_at_call 31
      refine (rf_Sync rb s G1 o.name HOK.out.name w' H1.out.b.rep H1.out.b.ok).mono ?_
      rintro e w'' ⟨rfl, ht⟩
      rw [← HER.out]
      rw [← HSS.out] at ht
      exact ⟨rfl, PrTo.stepB H1.out H2.out ht HOKS.out⟩
    go_simp
    iterate 2 (refine Hav3.read (e := ?_) (fun v => by rfl) (fun D v w h => h) (fun D v w' hD hS => ?_) ?_; rotate_left; (skip; clear hS hD; first | (go_simp; done) | (go_simp; with_reducible rfl)); go_simp)
    refine Hav3.fin (fun v w' hS => ?_)
    have HS := hide (HTO.out _ _ _ hS)
    clear hS
    go_wp2
    go_ret
    exact ⟨rfl, HS.out⟩
  by_cases c7 : m = 7
  · have e : fsDo s o = (fsSync s o.name).2 := by unfold fsDo; rw [← HM.out]; simp [c7]
    rw [e]
    clear e
    subst c7
    obtain ⟨er, her⟩ : ∃ er, er = (fsSync s o.name).1 := ⟨_, rfl⟩
    obtain ⟨S', hS'⟩ : ∃ S', S' = (fsSync s o.name).2 := ⟨_, rfl⟩
    have hr := HCODE.out.2.1 o.name
    rw [← her] at hr
    have hwe : IntKind.i64.wrap er = er := wrap64 (by omega) (by omega)
    have hee : (er == er) = true := by simp
    have HOKS : Hid (S'.Ok) := hide (by rw [hS']; exact fsSync_ok H.out.a.ok o.name)
    rw [← hS']
    have HER := hide her; have HSS := hide hS'
    clear her hS' hr
    go_enter Try.func12, Try.ntmps12
    go_upto_region 1 with fail
    rw [← hw1.out]
    clear hW1
    go_wp2_with fail
    refine wp_region_three 11 167 (by kernel_rfl) (by kernel_rfl) rfl (by kernel_rfl) (fun D v w' => PrTo W W1 F G sb (cond (D 3) S' s) rb (cond (D 8) S' s) w') (fun _ => undef) HS0.out.drew ?_
    simp only [List.take_succ_cons, List.take_zero, List.drop_succ_cons, List.drop_zero]
    iterate 3 (refine Hav3.read (e := ?_) (fun v => by rfl) (fun D v w h => h) (fun D v w' hD hS => ?_) ?_; rotate_left; (obtain ⟨f0, f1, f2, f3, f4, f5, f6⟩ := HBX2.out _ _ _ hS; clear hS hD; first | (go_simp; done) | (go_simp; with_reducible rfl)); go_simp)
    refine Hav3.call (.int .u16 er) (fun v => by rfl) (fun D v w' hD hS => ?_) ?_
    · have d1 : D 3 = false := hD.self
      obtain ⟨F1, G1, h1, h2⟩ := hS
      rw [d1] at h1
      have H1 := hide h1; have H2 := hide h2
      clear hD d1 h1 h2
      go_simp
      go_at_call 15
      refine (fs_Sync sb s F1 o.name HOK.out.name w' H1.out.a.rep H1.out.a.ok).mono ?_
      rintro e w'' ⟨rfl, ht⟩
      rw [← HER.out]
      rw [← HSS.out] at ht
      exact ⟨rfl, PrTo.stepA H1.out H2.out ht HOKS.out⟩
    go_simp
    iterate 4 (refine Hav3.read (e := ?_) (fun v => by rfl) (fun D v w h => h) (fun D v w' hD hS => ?_) ?_; rotate_left; (obtain ⟨f0, f1, f2, f3, f4, f5, f6⟩ := HBX2.out _ _ _ hS; clear hS hD; first | (go_simp; done) | (go_simp; with_reducible rfl)); go_simp)
    refine Hav3.call (.int .i64 er) (fun v => by rfl) (fun D v w' hD hS => ?_) ?_
    · have d1 : D 8 = false := hD.self
      obtain ⟨F1, G1, h1, h2⟩ := hS
      rw [d1] at h1
      have H1 := hide h1; have H2 := hide h2
      clear hD d1 h1 h2
      go_simp
      go_at_call 31
      refine (rf_Sync rb s G1 o.name HOK.out.name w' H1.out.b.rep H1.out.b.ok).mono ?_
      rintro e w'' ⟨rfl, ht⟩
      rw [← HER.out]
      rw [← HSS.out] at ht
      exact ⟨rfl, PrTo.stepB H1.out H2.out ht HOKS.out⟩
    go_simp
    iterate 2 (refine Hav3.read (e := ?_) (fun v => by rfl) (fun D v w h => h) (fun D v w' hD hS => ?_) ?_; rotate_left; (skip; clear hS hD; first | (go_simp; done) | (go_simp; with_reducible rfl)); go_simp)
    refine Hav3.fin (fun v w' hS => ?_)
    have HS := hide (HTO.out _ _ _ hS)
    clear hS
    go_wp2
    go_ret
    exact ⟨rfl, HS.out⟩
  by_cases c8 : m = 8
  · have e : fsDo s o = (fsCut s o.name o.num).2 := by unfold fsDo; rw [← HM.out]; simp [c8]
    rw [e]
    clear e
    subst c8
    obtain ⟨er, her⟩ : ∃ er, er = (fsCut s o.name o.num).1 := ⟨_, rfl⟩
    obtain ⟨S', hS'⟩ : ∃ S', S' = (fsCut s o.name o.num).2 := ⟨_, rfl⟩
    have hr := HCODE.out.2.2.1 o.name o.num
    rw [← her] at hr
    have hwe : IntKind.i64.wrap er = er := wrap64 (by omega) (by omega)
    have hee : (er == er) = true := by simp
    have HOKS : Hid (S'.Ok) := hide (by rw [hS']; exact fsCut_ok H.out.a.ok o.name o.num)
    rw [← hS']
    have HER := hide her; have HSS := hide hS'
    clear her hS' hr
    go_enter Try.func12, Try.ntmps12
    go_upto_region 1 with fail
    rw [← hw1.out]
    clear hW1
    go_wp2_with fail
    refine wp_region_three 15 167 (by kernel_rfl) (by kernel_rfl) rfl (by kernel_rfl) (fun D v w' => PrTo W W1 F G sb (cond (D 5) S' s) rb (cond (D 12) S' s) w') (fun _ => undef) HS0.out.drew ?_
    simp only [List.take_succ_cons, List.take_zero, List.drop_succ_cons, List.drop_zero]
    iterate 5 (refine Hav3.read (e := ?_) (fun v => by rfl) (fun D v w h => h) (fun D v w' hD hS => ?_) ?_; rotate_left; (obtain ⟨f0, f1, f2, f3, f4, f5, f6⟩ := HBX2.out _ _ _ hS; clear hS hD; first | (go_simp; done) | (go_simp; with_reducible rfl)); go_simp)
    refine Hav3.call (.int .u16 er) (fun v => by rfl) (fun D v w' hD hS => ?_) ?_
    · have d1 : D 5 = false := hD.self
      obtain ⟨F1, G1, h1, h2⟩ := hS
      rw [d1] at h1
      have H1 := hide h1; have H2 := hide h2
      clear hD d1 h1 h2
      go_simp
      go_at_call 32
      refine (fs_Cut sb s F1 o.name HOK.out.name o.num w' H1.out.a.rep H1.out.a.ok).mono ?_
      rintro e w'' ⟨rfl, ht⟩
      rw [← HER.out]
      rw [← HSS.out] at ht
      exact ⟨rfl, PrTo.stepA H1.out H2.out ht HOKS.out⟩
    go_simp
    iterate 6 (refine Hav3.read (e := ?_) (fun v => by rfl) (fun D v w h => h) (fun D v w' hD hS => ?_) ?_; rotate_left; (obtain ⟨f0, f1, f2, f3, f4, f5, f6⟩ := HBX2.out _ _ _ hS; clear hS hD; first | (go_simp; done) | (go_simp; with_reducible rfl)); go_simp)
    refine Hav3.call (.int .i64 er) (fun v => by rfl) (fun D v w' hD hS => ?_) ?_
    · have d1 : D 12 = false := hD.self
      obtain ⟨F1, G1, h1, h2⟩ := hS
      rw [d1] at h1
      have H1 := hide h1; have H2 := hide h2
      clear hD d1 h1 h2
      go_simp
      go_at_call 33
      refine (rf_Cut rb s G1 o.name HOK.out.name o.num w' H1.out.b.rep H1.out.b.ok).mono ?_
      rintro e w'' ⟨rfl, ht⟩
      rw [← HER.out]
      rw [← HSS.out] at ht
      exact ⟨rfl, PrTo.stepB H1.out H2.out ht HOKS.out⟩
    go_simp
    iterate 2 (refine Hav3.read (e := ?_) (fun v => by rfl) (fun D v w h => h) (fun D v w' hD hS => ?_) ?_; rotate_left; (skip; clear hS hD; first | (go_simp; done) | (go_simp; with_reducible rfl)); go_simp)
    refine Hav3.fin (fun v w' hS => ?_)
    have HS := hide (HTO.out _ _ _ hS)
    clear hS
    go_wp2
    go_ret
    exact ⟨rfl, HS.out⟩
  by_cases c9 : m = 9
  · have e : fsDo s o = (fsRename s o.name o.other).2 := by unfold fsDo; rw [← HM.out]; simp [c9]
    rw [e]
    clear e
    subst c9
    obtain ⟨er, her⟩ : ∃ er, er = (fsRename s o.name o.other).1 := ⟨_, rfl⟩
    obtain ⟨S', hS'⟩ : ∃ S', S' = (fsRename s o.name o.other).2 := ⟨_, rfl⟩
    have hr := HCODE.out.2.2.2.1 o.name o.other
    rw [← her] at hr
    have hwe : IntKind.i64.wrap er = er := wrap64 (by omega) (by omega)
    have hee : (er == er) = true := by simp
    have HOKS : Hid (S'.Ok) := hide (by rw [hS']; exact fsRename_ok H.out.a.ok o.name o.other)
    rw [← hS']
    have HER := hide her; have HSS := hide hS'
    clear her hS' hr
    go_enter Try.func12, Try.ntmps12
    go_upto_region 1 with fail
    rw [← hw1.out]
    clear hW1
    go_wp2_with fail
    refine wp_region_three 15 167 (by kernel_rfl) (by kernel_rfl) rfl (by kernel_rfl) (fun D v w' => PrTo W W1 F G sb (cond (D 5) S' s) rb (cond (D 12) S' s) w') (fun _ => undef) HS0.out.drew ?_
    simp only [List.take_succ_cons, List.take_zero, List.drop_succ_cons, List.drop_zero]
    iterate 5 (refine Hav3.read (e := ?_) (fun v => by rfl) (fun D v w h => h) (fun D v w' hD hS => ?_) ?_; rotate_left; (obtain ⟨f0, f1, f2, f3, f4, f5, f6⟩ := HBX2.out _ _ _ hS; clear hS hD; first | (go_simp; done) | (go_simp; with_reducible rfl)); go_simp)
    refine Hav3.call (.int .u16 er) (fun v => by rfl) (fun D v w' hD hS => ?_) ?_
    · have d1 : D 5 = false := hD.self
      obtain ⟨F1, G1, h1, h2⟩ := hS
      rw [d1] at h1
      have H1 := hide h1; have H2 := hide h2
      clear hD d1 h1 h2
      go_simp
      go_at_call 34
      refine (fs_Rename sb s F1 o.name o.other HOK.out.name HOK.out.other w' H1.out.a.rep H1.out.a.ok).mono ?_
      rintro e w'' ⟨rfl, ht⟩
      rw [← HER.out]
      rw [← HSS.out] at ht
      exact ⟨rfl, PrTo.stepA H1.out H2.out ht HOKS.out⟩
    go_simp
    iterate 6 (refine Hav3.read (e := ?_) (fun v => by rfl) (fun D v w h => h) (fun D v w' hD hS => ?_) ?_; rotate_left; (obtain ⟨f0, f1, f2, f3, f4, f5, f6⟩ := HBX2.out _ _ _ hS; clear hS hD; first | (go_simp; done) | (go_simp; with_reducible rfl)); go_simp)
    refine Hav3.call (.int .i64 er) (fun v => by rfl) (fun D v w' hD hS => ?_) ?_
    · have d1 : D 12 = false := hD.self
      obtain ⟨F1, G1, h1, h2⟩ := hS
      rw [d1] at h1
      have H1 := hide h1; have H2 := hide h2
      clear hD d1 h1 h2
      go_simp
      go_at_call 35
      refine (rf_Rename rb s G1 o.name o.other HOK.out.name HOK.out.other w' H1.out.b.rep H1.out.b.ok).mono ?_
      rintro e w'' ⟨rfl, ht⟩
      rw [← HER.out]
      rw [← HSS.out] at ht
      exact ⟨rfl, PrTo.stepB H1.out H2.out ht HOKS.out⟩
    go_simp
    iterate 2 (refine Hav3.read (e := ?_) (fun v => by rfl) (fun D v w h => h) (fun D v w' hD hS => ?_) ?_; rotate_left; (skip; clear hS hD; first | (go_simp; done) | (go_simp; with_reducible rfl)); go_simp)
    refine Hav3.fin (fun v w' hS => ?_)
    have HS := hide (HTO.out _ _ _ hS)
    clear hS
    go_wp2
    go_ret
    exact ⟨rfl, HS.out⟩
  by_cases c10 : m = 10
  · have e : fsDo s o = (fsRemove s o.name).2 := by unfold fsDo; rw [← HM.out]; simp [c10]
    rw [e]
    clear e
    subst c10
    obtain ⟨er, her⟩ : ∃ er, er = (fsRemove s o.name).1 := ⟨_, rfl⟩
    obtain ⟨S', hS'⟩ : ∃ S', S' = (fsRemove s o.name).2 := ⟨_, rfl⟩
    have hr := HCODE.out.2.2.2.2.1 o.name
    rw [← her] at hr
    have hwe : IntKind.i64.wrap er = er := wrap64 (by omega) (by omega)
    have hee : (er == er) = true := by simp
    have HOKS : Hid (S'.Ok) := hide (by rw [hS']; exact fsRemove_ok H.out.a.ok o.name)
    rw [← hS']
    have HER := hide her; have HSS := hide hS'
    clear her hS' hr
    go_enter Try.func12, Try.ntmps12
    go_upto_region 1 with fail
    rw [← hw1.out]
    clear hW1
    go_wp2_with fail
    refine wp_region_three 11 167 (by kernel_rfl) (by kernel_rfl) rfl (by kernel_rfl) (fun D v w' => PrTo W W1 F G sb (cond (D 3) S' s) rb (cond (D 8) S' s) w') (fun _ => undef) HS0.out.drew ?_
    simp only [List.take_succ_cons, List.take_zero, List.drop_succ_cons, List.drop_zero]
    iterate 3 (refine Hav3.read (e := ?_) (fun v => by rfl) (fun D v w h => h) (fun D v w' hD hS => ?_) ?_; rotate_left; (obtain ⟨f0, f1, f2, f3, f4, f5, f6⟩ := HBX2.out _ _ _ hS; clear hS hD; first | (go_simp; done) | (go_simp; with_reducible rfl)); go_simp)
    refine Hav3.call (.int .u16 er) (fun v => by rfl) (fun D v w' hD hS => ?_) ?_
    · have d1 : D 3 = false := hD.self
      obtain ⟨F1, G1, h1, h2⟩ := hS
      rw [d1] at h1
      have H1 := hide h1; have H2 := hide h2
      clear hD d1 h1 h2
      go_simp
      go_at_call 36
      refine (fs_Remove sb s F1 o.name HOK.out.name w' H1.out.a.rep H1.out.a.ok).mono ?_
      rintro e w'' ⟨rfl, ht⟩
      rw [← HER.out]
      rw [← HSS.out] at ht
      exact ⟨rfl, PrTo.stepA H1.out H2.out ht HOKS.out⟩
    go_simp
    iterate 4 (refine Hav3.read (e := ?_) (fun v => by rfl) (fun D v w h => h) (fun D v w' hD hS => ?_) ?_; rotate_left; (obtain ⟨f0, f1, f2, f3, f4, f5, f6⟩ := HBX2.out _ _ _ hS; clear hS hD; first | (go_simp; done) | (go_simp; with_reducible rfl)); go_simp)
    refine Hav3.call (.int .i64 er) (fun v => by rfl) (fun D v w' hD hS => ?_) ?_
    · have d1 : D 8 = false := hD.self
      obtain ⟨F1, G1, h1, h2⟩ := hS
      rw [d1] at h1
      have H1 := hide h1; have H2 := hide h2
      clear hD d1 h1 h2
      go_simp
      go_at_call 37
      refine (rf_Remove rb s G1 o.name HOK.out.name w' H1.out.b.rep H1.out.b.ok).mono ?_
      rintro e w'' ⟨rfl, ht⟩
      rw [← HER.out]
      rw [← HSS.out] at ht
      exact ⟨rfl, PrTo.stepB H1.out H2.out ht HOKS.out⟩
    go_simp
    iterate 2 (refine Hav3.read (e := ?_) (fun v => by rfl) (fun D v w h => h) (fun D v w' hD hS => ?_) ?_; rotate_left; (skip; clear hS hD; first | (go_simp; done) | (go_simp; with_reducible rfl)); go_simp)
    refine Hav3.fin (fun v w' hS => ?_)
    have HS := hide (HTO.out _ _ _ hS)
    clear hS
    go_wp2
    go_ret
    exact ⟨rfl, HS.out⟩
  by_cases c11 : m = 11
  · have e : fsDo s o = fsCrash s o.K o.t := by unfold fsDo; rw [← HM.out]; simp [c11]
    rw [e]
    clear e
    subst c11
    go_enter Try.func12, Try.ntmps12
    go_upto_region 1 with fail
    rw [← hw1.out]
    clear hW1
    go_wp2_with fail
    refine (fs_Crash sb s F o.ka o.kn o.kc o.t o.K W1 H.out.a.rep H.out.a.ok (HOK.out.rk.low H.out.a.low) HOK.out.kn (by have := HL.out.2.2.2; omega) (fun h0 k hk hm => by have := HOK.out.lowK h0 k hk; have := H.out.a.up k hm; omega) HOK.out.t0 HOK.out.t1).mono ?_
    rintro e w2 ⟨rfl, ht⟩
    obtain ⟨F2, G2, h2, hc2⟩ := PrTo.stepA H.out (Chg.refl _ _) ht (fsCrash_ok H.out.a.ok o.K o.t)
    have H2 := hide h2; have HC2 := hide hc2
    clear ht f0 f1 f2 f3 f4 f5 f6 h2 hc2
    obtain ⟨f0, f1, f2, f3, f4, f5, f6⟩ := HBX.out _ _ HC2.out
    go_wp2_with fail
    refine (rf_Crash rb s G2 o.ka o.kn o.kc o.t o.K w2 H2.out.b.rep H2.out.b.ok (HOK.out.rk.low H2.out.b.low) HOK.out.kn (by have := HL.out.2.2.2; omega) (fun h0 k hk hm => by have := HOK.out.lowK h0 k hk; have := H2.out.b.up k hm; omega) HOK.out.t0 HOK.out.t1).mono ?_
    rintro e w3 ⟨rfl, ht⟩
    have HT := hide (HTO.out _ _ _ (PrTo.stepB H2.out HC2.out ht (fsCrash_ok H2.out.b.ok o.K o.t)))
    clear ht
    go_wp2
    go_ret
    exact ⟨rfl, HT.out⟩
  by_cases c12 : m = 12
  · have e : fsDo s o = fsHalt s (o.num.tmod 20) := by unfold fsDo; rw [← HM.out]; simp [c12]
    rw [e]
    clear e
    subst c12
    obtain ⟨nm, hnm⟩ : ∃ nm, nm = o.num.tmod 20 := ⟨_, rfl⟩
    have hn1 : nm ≤ 9223372036854775807 ∧ -9223372036854775808 ≤ nm := by
      have h1 := HOK.out.num0; have h2 := HOK.out.num1
      have h3 := Int.tmod_lt_of_pos o.num (show (0 : Int) < 20 by omega)
      have h4 := Int.lt_tmod_of_pos o.num (show (0 : Int) < 20 by omega)
      omega
    have HN1 := hide hn1.1
    have hnw : IntKind.i64.wrap (o.num.tmod 20) = nm := by rw [← hnm]; exact wrap64 hn1.2 hn1.1
    have hnm2 : o.num.tmod 20 = nm := hnm.symm
    have HNM := hide hnm
    rw [← hnm]
    clear hn1 hnm
    go_enter Try.func12, Try.ntmps12
    go_upto_region 1 with fail
    rw [← hw1.out]
    clear hW1
    go_wp2_with fail
    refine (fs_Halt sb s F nm W1 H.out.a.rep).mono ?_
    rintro e w2 ⟨rfl, ht⟩
    obtain ⟨F2, G2, h2, hc2⟩ := PrTo.stepA H.out (Chg.refl _ _) ht (fsHalt_ok H.out.a.ok _ HN1.out)
    have H2 := hide h2; have HC2 := hide hc2
    clear ht f0 f1 f2 f3 f4 f5 f6 h2 hc2
    obtain ⟨f0, f1, f2, f3, f4, f5, f6⟩ := HBX.out _ _ HC2.out
    go_wp2_with fail
    refine (rf_Halt rb s G2 nm w2 H2.out.b.rep).mono ?_
    rintro e w3 ⟨rfl, ht⟩
    have HT := hide (HTO.out _ _ _ (PrTo.stepB H2.out HC2.out ht (fsHalt_ok H2.out.b.ok _ HN1.out)))
    clear ht
    go_wp2
    go_ret
    exact ⟨rfl, HT.out⟩
  by_cases c13 : m = 13
  · have e : fsDo s o = s := by unfold fsDo; rw [← HM.out]; simp [c13]
    rw [e]
    clear e
    subst c13
    obtain ⟨hb, hhb⟩ : ∃ hb, hb = s.has o.name := ⟨_, rfl⟩
    obtain ⟨B, hB⟩ : ∃ B, B = s.get o.name := ⟨_, rfl⟩
    have HHB := hide hhb; have HBB := hide hB
    clear hhb hB
    have e1 := bytes_toList B
    have e2 := bytes_toList ([] : Bs)
    go_enter Try.func12, Try.ntmps12
    go_upto_region 1 with fail
    rw [← hw1.out]
    clear hW1
    go_wp2_with fail
    refine (fs_Read sb s F o.name HOK.out.name W1 H.out.a.rep H.out.a.ok).mono ?_
    rintro e w2 hr
    unfold ReadTold at hr
    rw [← HHB.out, ← HBB.out] at hr
    cases hb with
    | true =>
      rw [if_pos rfl] at hr
      obtain ⟨ra, rn, rc, rfl, hfr⟩ := hr
      obtain rfl : rn = B.length := hfr.2.1
      have H2 := hide (H.out.then hfr.2.2)
      have HC2 : Hid (Chg (F ++ G) (F ++ G) W1 w2) := hide (Chg.of_below hfr.2.2)
      have HR2 : Hid (RdB w2 (.slice ra B.length rc) B) := hide hfr.rd
      clear hfr f0 f1 f2 f3 f4 f5 f6
      obtain ⟨f0, f1, f2, f3, f4, f5, f6⟩ := HBX.out _ _ HC2.out
      go_wp2_with fail
      refine (rf_Read rb s G o.name HOK.out.name w2 H2.out.b.rep H2.out.b.ok).mono ?_
      rintro e w3 hr
      unfold RfTold at hr
      rw [← HHB.out, ← HBB.out, if_pos rfl] at hr
      obtain ⟨qa, qn, qc, rfl, hfr⟩ := hr
      obtain rfl : qn = B.length := hfr.2.1
      have v1 := convert_rd B _ _ (HR2.out.low hfr.2.2)
      have v2 := convert_rd B _ _ hfr.rd
      have HT := hide (HTO.out _ _ _ ⟨F, G, H2.out.then hfr.2.2, HC2.out.trans (Chg.of_below hfr.2.2)⟩)
      clear hfr
      go_wp2
      go_ret
      exact ⟨rfl, HT.out⟩
    | false =>
      rw [if_neg (by simp)] at hr
      obtain ⟨rfl, rfl⟩ := hr
      go_wp2_with fail
      refine (rf_Read rb s G o.name HOK.out.name W1 H.out.b.rep H.out.b.ok).mono ?_
      rintro e w3 hr
      unfold RfTold at hr
      rw [← HHB.out, ← HBB.out, if_neg (by simp)] at hr
      obtain ⟨rfl, hb3⟩ := hr
      have v1 := convert_rd ([] : Bs) (.slice none 0 0) w3 ⟨rfl, .inl ⟨rfl, rfl⟩⟩
      have HT := hide (HTO.out _ _ _ ⟨F, G, H.out.then hb3, Chg.of_below hb3⟩)
      clear hb3
      go_wp2
      go_ret
      exact ⟨rfl, HT.out⟩
  have e : fsDo s o = (fsAppend s o.name o.b).2 := by unfold fsDo; rw [← HM.out]; simp [c0, c6, c7, c8, c9, c10, c11, c12, c13]
  rw [e]
  clear e
  obtain ⟨er, her⟩ : ∃ er, er = (fsAppend s o.name o.b).1 := ⟨_, rfl⟩
  obtain ⟨S', hS'⟩ : ∃ S', S' = (fsAppend s o.name o.b).2 := ⟨_, rfl⟩
  have hr := HCODE.out.2.2.2.2.2 o.name o.b
  rw [← her] at hr
  have hwe : IntKind.i64.wrap er = er := wrap64 (by omega) (by omega)
  have hee : (er == er) = true := by simp
  have HOKS : Hid (S'.Ok) := hide (by rw [hS']; exact fsAppend_ok H.out.a.ok o.name o.b)
  rw [← hS']
  have HER := hide her; have HSS := hide hS'
  obtain ⟨n, hn⟩ : ∃ n, n = o.b.length := ⟨_, rfl⟩
  have hn3 : n ≤ 300 := by rw [hn, ← HOK.out.bn]; exact HL.out.1
  have HN := hide hn
  have HRB : Hid (RdB W1 (.slice o.ba o.bn o.bc) o.b) := hide (HOK.out.rb.low H.out.a.low)
  have d0 : ((m : Int) == 0) = false := by simpa using fun e : (m : Int) = 0 => c0 (by omega)
  have d6 : ((m : Int) == 6) = false := by simpa using fun e : (m : Int) = 6 => c6 (by omega)
  have d7 : ((m : Int) == 7) = false := by simpa using fun e : (m : Int) = 7 => c7 (by omega)
  have d8 : ((m : Int) == 8) = false := by simpa using fun e : (m : Int) = 8 => c8 (by omega)
  have d9 : ((m : Int) == 9) = false := by simpa using fun e : (m : Int) = 9 => c9 (by omega)
  have d10 : ((m : Int) == 10) = false := by simpa using fun e : (m : Int) = 10 => c10 (by omega)
  have d11 : ((m : Int) == 11) = false := by simpa using fun e : (m : Int) = 11 => c11 (by omega)
  have d12 : ((m : Int) == 12) = false := by simpa using fun e : (m : Int) = 12 => c12 (by omega)
  have d13 : ((m : Int) == 13) = false := by simpa using fun e : (m : Int) = 13 => c13 (by omega)
  clear her hS' hr hn c0 c6 c7 c8 c9 c10 c11 c12 c13
  go_enter Try.func12, Try.ntmps12
  go_upto_region 1 with fail
  rw [← hw1.out]
  clear hW1
  go_upto_region 27 with (at_builtin; refine wpList_clone_rd rfl (.tmp 135) (.tmp 137) 27 rfl 5 Try.underlying27 (by kernel_rfl) rfl (.slice o.ba o.bn o.bc) o.b rfl HRB.out (by have := HN.out; omega) ?_; intro oa oc w2 hown hb2; rw [← HN.out] at hown ⊢; have HOWN := hide hown; have HB2 := hide hb2; clear hown hb2)
  obtain ⟨hk1, hk2⟩ := ownsRow_cap HOWN.out
  have hgF : Hid (∀ k, (Value.slice oa n oc).ownBlock = some k → W1.heap.size ≤ k ∧ k < w2.heap.size ∧ k ∉ F ∧ k ∉ G) := hide fun k hk => by
    have h1 := HOWN.out.lt k hk
    exact ⟨h1.1, h1.2, fun hm => by have := H.out.a.rep.lt k hm; omega, fun hm => by have := H.out.b.rep.lt k hm; omega⟩
  have H2 := hide (H.out.then HB2.out)
  have HC2 : Hid (Chg (F ++ G) (F ++ G) W1 w2) := hide (Chg.of_below HB2.out)
  have HR2 : Hid (RdB w2 (.slice oa n oc) o.b) := hide (by have h := ownsRow_rd HOWN.out; show Rd _ _ 1 _ _; rw [← HN.out]; exact h)
  clear f0 f1 f2 f3 f4 f5 f6
  obtain ⟨f0, f1, f2, f3, f4, f5, f6⟩ := HBX.out _ _ HC2.out
  go_wp2_with fail
  refine (fs_Append sb s F o.name HOK.out.name oa n oc o.b w2 H2.out.a.rep H2.out.a.ok HR2.out HN.out (by omega) (fun _ k hk => (hgF.out k hk).2.2.1)).mono ?_
  rintro e w3 ⟨rfl, ht⟩
  rw [← HER.out]
  rw [← HSS.out] at ht
  obtain ⟨F3, h3, hc3⟩ := H2.out.stepA ht HOKS.out
  have hst : Hid (Pr W w3 sb S' F3 rb s G ∧ Chg (F ++ G) (F3 ++ G) W1 w3 ∧ (∃ L : Bs, L.length = n ∧ w3.ownsRow W1.heap.size 5 1 (.slice oa n oc) n (bcells L)) ∧ ∀ k, (Value.slice oa n oc).ownBlock = some k → W1.heap.size ≤ k ∧ k ∉ F3 ∧ k ∉ G) := hide ⟨h3, HC2.out.trans (hc3.left G), ⟨o.b, HN.out.symm, ownsRow_same HOWN.out fun k hk => hc3.block k (hgF.out k hk).2.1 (hgF.out k hk).2.2.1⟩, fun k hk => ⟨(hgF.out k hk).1, fun hm => by
    rcases hc3.fresh k hm with h5 | h5
    · exact (hgF.out k hk).2.2.1 h5
    · have := (hgF.out k hk).2.1
      omega, (hgF.out k hk).2.2.2⟩⟩
  have HG : Hid (0 < n → ∃ g, oa = some ⟨g, 0, none⟩) := hide fun h0 => by
    rcases HOWN.out.2 with ⟨h5, h6⟩ | ⟨g, cap, cur, h5, _⟩
    · omega
    · simp only [Value.slice.injEq] at h5
      exact ⟨g, h5.1⟩
  clear ht h3 hc3 f0 f1 f2 f3 f4 f5 f6 hk1 hk2
  go_wp2_with fail
  go_loopw [13] (fun iv wr => ∃ k : Nat, k ≤ n ∧ iv = .int .i64 k ∧ Hid (Pr W wr sb S' F3 rb s G ∧ Chg (F ++ G) (F3 ++ G) W1 wr ∧ (∃ L : Bs, L.length = n ∧ wr.ownsRow W1.heap.size 5 1 (.slice oa n oc) n (bcells L)) ∧ ∀ k, (Value.slice oa n oc).ownBlock = some k → W1.heap.size ≤ k ∧ k ∉ F3 ∧ k ∉ G)) (fun iv _ => n - (intOf iv).toNat)
  case atStart => exact ⟨0, by omega, rfl, hst⟩
  case round =>
    clear hst
    obtain ⟨k, hk, rfl, hst⟩ := hrel
    by_cases hlt : k < n
    · obtain ⟨g, rfl⟩ := HG.out (by omega)
      obtain ⟨hP, hC, ⟨L, hL, hO⟩, hG⟩ := hst.out
      have hg := hG g rfl
      have ck : wr.cell? ⟨g, k, none⟩ = some (.int .u8 (L[k]'(by omega)).toNat) := by
        rw [hO.cellAt k (by omega)]
        simp [bcells, List.getElem?_eq_getElem (show k < L.length by omega)]
      have fk : wr.frozen? ⟨g, k, none⟩ = false := hO.frozenAt _
      obtain ⟨y, hy⟩ : ∃ y, y = L[k]'(by omega) := ⟨_, rfl⟩
      rw [← hy] at ck
      have hval : bits .xor .u8 (y.toNat : Int) 255 = ((y ^^^ 255).toNat : Int) := by
        have := u8_xor_nat y.toNat 255 (by have := y.toNat_lt; omega) (by omega)
        rw [UInt8.toNat_xor]
        exact this
      have hst1 := (hO.stored k (.int .u8 ((y ^^^ 255).toNat : Nat))).1
      have hset : (bcells L).set k (.int .u8 ((y ^^^ 255).toNat : Nat)) = bcells (L.set k (y ^^^ 255)) := by simp [bcells, List.map_set]
      have hpk := Pr.poke hP hC hg.1 hg.2.1 hg.2.2 k (.int .u8 ((y ^^^ 255).toNat : Nat)) (Nat.le_trans H.out.a.low.size hg.1)
      have hst2 : Hid (Pr W (wr.setCell ⟨g, k, none⟩ (.int .u8 ((y ^^^ 255).toNat : Nat))) sb S' F3 rb s G ∧ Chg (F ++ G) (F3 ++ G) W1 (wr.setCell ⟨g, k, none⟩ (.int .u8 ((y ^^^ 255).toNat : Nat))) ∧ (∃ L : Bs, L.length = n ∧ (wr.setCell ⟨g, k, none⟩ (.int .u8 ((y ^^^ 255).toNat : Nat))).ownsRow W1.heap.size 5 1 (.slice (some ⟨g, 0, none⟩) n oc) n (bcells L)) ∧ ∀ k, (Value.slice (some ⟨g, 0, none⟩) n oc).ownBlock = some k → W1.heap.size ≤ k ∧ k ∉ F3 ∧ k ∉ G) := hide ⟨hpk.1, hpk.2, ⟨L.set k (y ^^^ 255), by rw [List.length_set]; exact hL, by rw [← hset]; exact hst1⟩, hG⟩
      have HV := hide hval
      have i0 : (0 : Int) ≤ k := by omega
      have i1 : (k : Int) < n := by omega
      clear hval hst1 hset hy hO hL hP hC hG hg hpk hst
      go_wp2
      rw [HV.out]
      go_roundw
      case rel => exact ⟨k + 1, by omega, by go_num, hst2⟩
      case measure => simp [intOf]; omega
    · obtain rfl : k = n := by omega
      obtain ⟨f0, f1, f2, f3, f4, f5, f6⟩ := HBX.out _ _ hst.out.2.1
      go_wp2_with fail
      refine (rf_Append rb s G o.name HOK.out.name o.ba o.bn o.bc o.b wr hst.out.1.b.rep hst.out.1.b.ok (HOK.out.rb.low hst.out.1.b.low) HOK.out.bn (by have := HL.out.1; omega) (fun h0 k hk hm => by have := HOK.out.lowB h0 k hk; have := hst.out.1.b.up k hm; omega)).mono ?_
      rintro e w5 ⟨rfl, ht⟩
      rw [← HER.out]
      rw [← HSS.out] at ht
      have HT := hide (HTO.out _ _ _ (PrTo.stepB hst.out.1 hst.out.2.1 ht HOKS.out))
      clear ht
      go_wp2
      go_ret
      exact ⟨rfl, HT.out⟩
end Go.Proofs.Ytcgkhocmlolknaa

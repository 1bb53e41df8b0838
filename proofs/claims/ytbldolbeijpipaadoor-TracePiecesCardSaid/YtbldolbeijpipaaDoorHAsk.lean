import Derived.Test.YtbldolbeijpipaaDoorHStays
namespace Go.Proofs.YtbldolbeijpipaaDoor
open Go.RowKit Go.Proofs.YtbldolbeijpipaaDoorW.PrintWords Go.Proofs.YtbldolbeijpipaaDoorW.PrintLast Go.Proofs.YtbldolbeijpipaaDoorW.PrintMore
set_option linter.unusedVariables false
set_option linter.unusedSimpArgs false

theorem XI.setNx {w : World} {B bx : Nat} {s : XS} (h : XI w B bx s) (j : Nat) (n : Int) : XI (w.setCell ⟨bx, 15 + j, none⟩ (.int .i64 n)) B bx { s with nx := s.nx.set j (.int .i64 n) } := by
  have r := h.store (15 + j) (.int .i64 n)
  refine ⟨blk_put h.blk (15 + j) _ ?_, h.hB, ⟨⟨?_, ?_⟩, r.ts, r.id, r.six, r.ch, r.cap, r.th, r.thl, r.q, r.ql, r.bcB, r.bc, r.own, r.l, r.es⟩, h.run, h.all, h.now0⟩
  · simp only [XS.cells, List.setIfInBounds_toArray]
    rw [List.set_append_right _ _ (by simp)]
    simp
  · rw [List.length_set]; exact h.r.nx.1
  · intro v hv
    rcases List.mem_or_eq_of_mem_set hv with hv | rfl
    · exact h.r.nx.2 v hv
    · exact ⟨n, rfl⟩
theorem XI.nxt {w : World} {B bx : Nat} {s : XS} (h : XI w B bx s) (j : Nat) (hj : j < 100) : ∃ n, w.cell? ⟨bx, 15 + j, none⟩ = some (.int .i64 n) := by
  obtain ⟨n, hn⟩ := h.r.nx.2 (s.nx[j]'(by rw [h.r.nx.1]; exact hj)) (List.getElem_mem _)
  refine ⟨n, h.c (15 + j) _ ?_⟩
  rw [← hn]
  simp only [XS.cells, List.getElem?_toArray]
  rw [List.getElem?_append_right (by simp)]
  simp [h.r.nx.1, hj]
theorem XI.ownL {w : World} {B bx : Nat} {s : XS} (h : XI w B bx s) : ∃ inner, w.ownsRow B 159 14 s.vL s.l.length inner := Kd.R_own h.r.l
theorem XI.neL {w : World} {B bx : Nat} {s : XS} (h : XI w B bx s) : some bx ≠ s.vL.ownBlock := Kd.R_ne h.r.l h.blk (by decide)
/-- Its row of jobs has turned, and its field tells the new one. -/
theorem XI.putL {W w4 : World} {B bx : Nat} {s : XS} {v1 : Value} {l' : List S159} (h : XI W B bx s) (hg : W.grownBy w4 s.vL.ownBlock) (hR : Kd.R k159 159 w4 B (fun _ => True) v1 l')
    (hrun : -1 ≤ s.run ∧ s.run < l'.length) (hall : ∀ x ∈ l', 1 ≤ x.f0 ∧ x.f0 ≤ s.ts.length ∧ 0 ≤ x.f1 ∧ x.f1 ≤ s.now) :
    XI (w4.setCell ⟨bx, 9, none⟩ v1) B bx { s with vL := v1, l := l' } ∧ KeptT [147, 159] B W (w4.setCell ⟨bx, 9, none⟩ v1) := by
  obtain ⟨inner, ho⟩ := h.ownL
  have hk : KeptT [159] B W w4 := (KeptT.refl _ _ _).grown h.szB hg (fun k e => ⟨own_base ho k e, by obtain ⟨c, hc⟩ := own_typed ho k e; exact ⟨c, 159, hc, by simp⟩⟩)
  have hk' : KeptT [147, 159] B W w4 := (KeptT.refl _ _ _).grown h.szB hg (fun k e => ⟨own_base ho k e, by obtain ⟨c, hc⟩ := own_typed ho k e; exact ⟨c, 159, hc, by simp⟩⟩)
  have hb4 : w4.heap[bx]? = some (.cells s.cells 147 (0, 0)) := hk.blk h.blk (by simp)
  have hs : KeptT [147] B w4 (w4.setCell ⟨bx, 9, none⟩ v1) := (KeptT.refl _ _ _).set hb4 h.hB (by simp) 9 v1
  have hks : KeptT [147, 159] B W (w4.setCell ⟨bx, 9, none⟩ v1) := hk'.set hb4 h.hB (by simp) 9 v1
  refine ⟨⟨blk_put hb4 9 _ rfl, h.hB, ⟨h.r.nx, Kd.F_stays h.r.ts hks.bel, h.r.id, h.r.six, h.r.ch, h.r.cap, Kd.F_stays h.r.th hks.bel, h.r.thl, Kd.F_stays h.r.q hks.bel, h.r.ql, h.r.bcB, hks.blk h.r.bc (by simp), hks.owns h.r.own (by simp), ?_, hks.owns h.r.es (by simp)⟩, hrun, hall, h.now0⟩, hks⟩
  exact Kd.R_set hR hb4 (by intro q hq; have e : q = 159 := (by simpa [k159, Kd.iso, Kd.pair, Kd.int, Kd.bool, Kd.scalar] using hq); subst e; decide) 9 v1
def AskP (w : World) (B bx : Nat) (s : XS) (e : Ending) (w' : World) : Prop := ∃ (n : Int) (s' : XS), e = .returned (.int .i64 n) ∧ XI w' B bx s' ∧ s'.ts = s.ts ∧ s'.now = s.now ∧ s'.l.length ≤ s.l.length + 1 ∧ s'.m = s.m ∧ KeptT [147, 159] B w w'
theorem info159 : (Tryd.prog.info? 159).map (fun i => (i.zero, i.size, i.bytes)) = some (some (.agg #[.int .i64 0, .int .i64 0, .int .i64 0, .int .i64 0, .int .i64 0, .int .i64 0, .int .i64 0, .int .i64 0, .int .u64 0, .int .u64 0, .int .u64 0, .int .u64 0, .int .i64 0, .bool false]), 14, 112) := by kernel_rfl

set_option maxHeartbeats 1600000 in
set_option maxRecDepth 100000 in
theorem ask_none (B bx : Nat) (s : XS) (id dem : Int) (w : World) (h : XI w B bx s) (hid : id < 1 ∨ (s.ts.length : Int) < id) :
    Calls Tryd.prog 34 #[.pointer (some ⟨bx, 0, none⟩), .int .i64 id, .int .i64 dem] w (AskP w B bx s) := by
  have hbx := blk_lt h.blk
  have HAT := Aside0.mk (h.at id)
  have HX := Aside0.mk h
  have hfz := h.frz
  rw [show atR s.ts id = -1 by rw [atR_val h.r.id, if_neg (by omega)]] at HAT
  clear h
  go_enter Tryd.func34, Tryd.ntmps34
  go_wp2_with fail
  refine (HAT.out _ (Below.refl _ _)).mono ?_
  rintro e w1 ⟨rfl, rfl⟩
  go_wp2
  go_ret
  exact ⟨_, s, rfl, HX.out, rfl, rfl, Nat.le_succ _, rfl, KeptT.refl _ _ _⟩

set_option maxHeartbeats 1600000 in
set_option maxRecDepth 100000 in
theorem ask_wrong (B bx : Nat) (s : XS) (id dem : Int) (w : World) (h : XI w B bx s) (hi1 : 1 ≤ id) (hi2 : id ≤ s.ts.length) (hd : ¬ (1 ≤ dem ∧ dem ≤ (rd_T90 s.ts (id - 1)).f1)) :
    Calls Tryd.prog 34 #[.pointer (some ⟨bx, 0, none⟩), .int .i64 id, .int .i64 dem] w (AskP w B bx s) := by
  have HD := Aside0.mk hd
  clear hd
  have hbx := blk_lt h.blk
  have HAT := Aside0.mk (h.at id)
  have HX := Aside0.mk h
  have hfz := h.frz
  rw [h.atv _ hi1 hi2] at HAT
  have hx2 := h.f2
  have hx8 := h.f8
  obtain ⟨nv, hnx⟩ := h.nxt id.toNat (by have := h.r.six; omega)
  obtain ⟨adt, A5, c5, A6, c6, et, p0, p1, p2, p3, p4, p5, p6, l5, r5, l6, r6⟩ := at_T90 (HX.out.r.ts w (fun _ _ _ => rfl)) (id - 1) (by omega) (by omega)
  rw [et] at hx2
  have hat := World.block_lt_of_cell? w _ p0
  rw [show (id - 1).toNat = id.toNat - 1 by omega] at p0 p1 p2 p3 p4 p5 p6 hat
  have htn : id - 1 < (s.ts.length : Int) := by omega
  have hid100 : id < 100 := by have := h.r.six; omega
  have hid0 : 0 ≤ id := by omega
  clear h r5 r6 l5 l6
  go_enter Tryd.func34, Tryd.ntmps34
  go_wp2_with fail
  refine (HAT.out _ (by repeat (with_reducible first |  exact Below.refl _ _ | apply below_alloc | apply pw_below_drewN | apply below_drew1 | apply bset0 | apply bset1 | apply bset2))).mono ?_
  rintro e w1 ⟨rfl, rfl⟩
  go_wp2_with fail
  · go_ret
    exact ⟨_, s, rfl, HX.out.below (by repeat (with_reducible first |  exact Below.refl _ _ | apply below_alloc | apply pw_below_drewN | apply below_drew1 | apply bset0 | apply bset1 | apply bset2)), rfl, rfl, Nat.le_succ _, rfl, KeptT.of_below (by repeat (with_reducible first |  exact Below.refl _ _ | apply below_alloc | apply pw_below_drewN | apply below_drew1 | apply bset0 | apply bset1 | apply bset2)) HX.out.szB⟩
  · exact absurd ⟨by omega, by omega⟩ HD.out
  · go_ret
    exact ⟨_, s, rfl, HX.out.below (by repeat (with_reducible first |  exact Below.refl _ _ | apply below_alloc | apply pw_below_drewN | apply below_drew1 | apply bset0 | apply bset1 | apply bset2)), rfl, rfl, Nat.le_succ _, rfl, KeptT.of_below (by repeat (with_reducible first |  exact Below.refl _ _ | apply below_alloc | apply pw_below_drewN | apply below_drew1 | apply bset0 | apply bset1 | apply bset2)) HX.out.szB⟩

set_option maxHeartbeats 1600000 in
set_option maxRecDepth 100000 in
theorem ask_full (B bx : Nat) (s : XS) (id dem : Int) (w : World) (h : XI w B bx s) (hi1 : 1 ≤ id) (hi2 : id ≤ s.ts.length) (hd : 1 ≤ dem) (hd2 : dem ≤ (rd_T90 s.ts (id - 1)).f1) (hl : s.l.length ≤ 1000) :
    Calls Tryd.prog 34 #[.pointer (some ⟨bx, 0, none⟩), .int .i64 id, .int .i64 dem] w (AskP w B bx s) := by
  have hbx := blk_lt h.blk
  have HAT := Aside0.mk (h.at id)
  have HX := Aside0.mk h
  have hfz := h.frz
  rw [h.atv _ hi1 hi2] at HAT
  have hx2 := h.f2
  have hx8 := h.f8
  obtain ⟨nv, hnx⟩ := h.nxt id.toNat (by have := h.r.six; omega)
  obtain ⟨adt, A5, c5, A6, c6, et, p0, p1, p2, p3, p4, p5, p6, l5, r5, l6, r6⟩ := at_T90 (HX.out.r.ts w (fun _ _ _ => rfl)) (id - 1) (by omega) (by omega)
  rw [et] at hx2
  have hat := World.block_lt_of_cell? w _ p0
  rw [show (id - 1).toNat = id.toNat - 1 by omega] at p0 p1 p2 p3 p4 p5 p6 hat
  have htn : id - 1 < (s.ts.length : Int) := by omega
  have hid100 : id < 100 := by have := h.r.six; omega
  have hid0 : 0 ≤ id := by omega
  clear h r5 r6 l5 l6
  go_enter Tryd.func34, Tryd.ntmps34
  go_wp2_with fail
  refine (HAT.out _ (by repeat (with_reducible first |  exact Below.refl _ _ | apply below_alloc | apply pw_below_drewN | apply below_drew1 | apply bset0 | apply bset1 | apply bset2))).mono ?_
  rintro e w1 ⟨rfl, rfl⟩
  go_wp2_with fail
  go_quiet (fail)
  by_cases hlt : s.now < nv
  · go_wp2
    go_ret
    exact ⟨_, s, rfl, HX.out.below (by repeat (with_reducible first |  exact Below.refl _ _ | apply below_alloc | apply pw_below_drewN | apply below_drew1 | apply bset0 | apply bset1 | apply bset2)), rfl, rfl, Nat.le_succ _, rfl, KeptT.of_below (by repeat (with_reducible first |  exact Below.refl _ _ | apply below_alloc | apply pw_below_drewN | apply below_drew1 | apply bset0 | apply bset1 | apply bset2)) HX.out.szB⟩
  · have hlt2 : ¬ s.now < nv := hlt
    clear hlt
    go_wp2_with fail
    refine wp_region_still_tail 12 (by kernel_rfl) (by kernel_rfl) ?_
    change wpStill _ _ (World.drew _) (fun a' => wpList _ _ _ _ a' (World.drew _)) _ _
    simp only [List.take_succ_cons, List.take_zero, List.drop_succ_cons, List.drop_zero]
    repeat still_step
    refine wpStill_nil ?_
    go_wp2_with fail
    have H3 := (HX.out.below (w1 := (w1.alloc (.cells #[.int .i64 (rd_T90 s.ts (id - 1)).f0, .int .i64 (rd_T90 s.ts (id - 1)).f1, .int .i64 (rd_T90 s.ts (id - 1)).f2, .int .i64 (rd_T90 s.ts (id - 1)).f3, .int .i64 (rd_T90 s.ts (id - 1)).f4, .slice A5 (rd_T90 s.ts (id - 1)).f5.length c5, .slice A6 (rd_T90 s.ts (id - 1)).f6.length c6] 90)).drewN (nq + 1)) (by repeat (with_reducible first |  exact Below.refl _ _ | apply below_alloc | apply pw_below_drewN | apply below_drew1 | apply bset0 | apply bset1 | apply bset2))).setNx id.toNat (wrap64 (s.now + (rd_T90 s.ts (id - 1)).f3))
    have hw1 : w1.heap.size ≠ bx := by omega
    have y2 : (((w1.alloc (.cells #[.int .i64 (rd_T90 s.ts (id - 1)).f0, .int .i64 (rd_T90 s.ts (id - 1)).f1, .int .i64 (rd_T90 s.ts (id - 1)).f2, .int .i64 (rd_T90 s.ts (id - 1)).f3, .int .i64 (rd_T90 s.ts (id - 1)).f4, .slice A5 (rd_T90 s.ts (id - 1)).f5.length c5, .slice A6 (rd_T90 s.ts (id - 1)).f6.length c6] 90)).drewN (nq + 1)).setCell ⟨bx, 15 + id.toNat, none⟩ (.int .i64 (wrap64 (s.now + (rd_T90 s.ts (id - 1)).f3)))).cell? ⟨w1.heap.size, 2, none⟩ = some (.int .i64 (rd_T90 s.ts (id - 1)).f2) := by rw [World.cell?_setCell_far _ _ _ _ (by show bx ≠ w1.heap.size; omega)]; simp [go_sem]
    have y4 : (((w1.alloc (.cells #[.int .i64 (rd_T90 s.ts (id - 1)).f0, .int .i64 (rd_T90 s.ts (id - 1)).f1, .int .i64 (rd_T90 s.ts (id - 1)).f2, .int .i64 (rd_T90 s.ts (id - 1)).f3, .int .i64 (rd_T90 s.ts (id - 1)).f4, .slice A5 (rd_T90 s.ts (id - 1)).f5.length c5, .slice A6 (rd_T90 s.ts (id - 1)).f6.length c6] 90)).drewN (nq + 1)).setCell ⟨bx, 15 + id.toNat, none⟩ (.int .i64 (wrap64 (s.now + (rd_T90 s.ts (id - 1)).f3)))).cell? ⟨w1.heap.size, 4, none⟩ = some (.int .i64 (rd_T90 s.ts (id - 1)).f4) := by rw [World.cell?_setCell_far _ _ _ _ (by show bx ≠ w1.heap.size; omega)]; simp [go_sem]
    have K3 : KeptT [147, 159] B w1 (((w1.alloc (.cells #[.int .i64 (rd_T90 s.ts (id - 1)).f0, .int .i64 (rd_T90 s.ts (id - 1)).f1, .int .i64 (rd_T90 s.ts (id - 1)).f2, .int .i64 (rd_T90 s.ts (id - 1)).f3, .int .i64 (rd_T90 s.ts (id - 1)).f4, .slice A5 (rd_T90 s.ts (id - 1)).f5.length c5, .slice A6 (rd_T90 s.ts (id - 1)).f6.length c6] 90)).drewN (nq + 1)).setCell ⟨bx, 15 + id.toNat, none⟩ (.int .i64 (wrap64 (s.now + (rd_T90 s.ts (id - 1)).f3)))) := (HX.out.below (w1 := (w1.alloc (.cells #[.int .i64 (rd_T90 s.ts (id - 1)).f0, .int .i64 (rd_T90 s.ts (id - 1)).f1, .int .i64 (rd_T90 s.ts (id - 1)).f2, .int .i64 (rd_T90 s.ts (id - 1)).f3, .int .i64 (rd_T90 s.ts (id - 1)).f4, .slice A5 (rd_T90 s.ts (id - 1)).f5.length c5, .slice A6 (rd_T90 s.ts (id - 1)).f6.length c6] 90)).drewN (nq + 1)) (by repeat (with_reducible first |  exact Below.refl _ _ | apply below_alloc | apply pw_below_drewN | apply below_drew1 | apply bset0 | apply bset1 | apply bset2))).ks (KeptT.of_below (by repeat (with_reducible first |  exact Below.refl _ _ | apply below_alloc | apply pw_below_drewN | apply below_drew1 | apply bset0 | apply bset1 | apply bset2)) HX.out.szB) (by simp) _ _
    have hz3 : w1.heap.size + 1 = ((((w1.alloc (.cells #[.int .i64 (rd_T90 s.ts (id - 1)).f0, .int .i64 (rd_T90 s.ts (id - 1)).f1, .int .i64 (rd_T90 s.ts (id - 1)).f2, .int .i64 (rd_T90 s.ts (id - 1)).f3, .int .i64 (rd_T90 s.ts (id - 1)).f4, .slice A5 (rd_T90 s.ts (id - 1)).f5.length c5, .slice A6 (rd_T90 s.ts (id - 1)).f6.length c6] 90)).drewN (nq + 1)).setCell ⟨bx, 15 + id.toNat, none⟩ (.int .i64 (wrap64 (s.now + (rd_T90 s.ts (id - 1)).f3))))).heap.size := by simp
    generalize (((w1.alloc (.cells #[.int .i64 (rd_T90 s.ts (id - 1)).f0, .int .i64 (rd_T90 s.ts (id - 1)).f1, .int .i64 (rd_T90 s.ts (id - 1)).f2, .int .i64 (rd_T90 s.ts (id - 1)).f3, .int .i64 (rd_T90 s.ts (id - 1)).f4, .slice A5 (rd_T90 s.ts (id - 1)).f5.length c5, .slice A6 (rd_T90 s.ts (id - 1)).f6.length c6] 90)).drewN (nq + 1)).setCell ⟨bx, 15 + id.toNat, none⟩ (.int .i64 (wrap64 (s.now + (rd_T90 s.ts (id - 1)).f3)))) = W3 at H3 y2 y4 K3 hz3 ⊢
    clear hnx hx2 hx8 p0 p1 p2 p3 p4 p5 p6 hat hfz
    have y9 := H3.f9
    have y8 := H3.f8
    have fz := H3.frz
    have hneW : some w1.heap.size ≠ s.vL.ownBlock := fun e => by obtain ⟨inner, ho⟩ := HX.out.ownL; have := own_lt ho w1.heap.size e.symm; omega
    have H3' : Aside0 (XI W3.drew B bx _) := Aside0.mk (H3.below (by repeat (with_reducible first | exact Below.refl _ _ | apply below_drew1)))
    have K3' : Aside0 (KeptT [147, 159] B w1 W3.drew) := Aside0.mk (K3.trans (KeptT.of_below (by repeat (with_reducible first | exact Below.refl _ _ | apply below_drew1)) H3.szB))
    clear H3 K3
    go_wp2_with fail
    refine start_ (n := 28) (S := fun w' => w'.cell? ⟨bx, 9, none⟩ = some s.vL ∧ w'.cell? ⟨bx, 8, none⟩ = some (.int .i64 s.now) ∧ w'.cell? ⟨w1.heap.size, 2, none⟩ = some (.int .i64 (rd_T90 s.ts (id - 1)).f2) ∧ w'.cell? ⟨w1.heap.size, 4, none⟩ = some (.int .i64 (rd_T90 s.ts (id - 1)).f4)) (ds := [27]) #[false, false, false, false, false, false, false, false, false, false, false, false, false, false, false, false, false, false, false, false, false, false, false, false, false, false, false, false] (by kernel_rfl) rfl rfl ⟨y9, y8, y2, y4⟩ (fun hHeld => ?_)
    have hHeld0 := hHeld
    generalize W3.drew = W4 at H3' K3' hHeld hHeld0 ⊢
    refine pure_ (i := 0) (N := some 54) (v := ?_) (a' := ?_) #[true, false, false, false, false, false, false, false, false, false, false, false, false, false, false, false, false, false, false, false, false, false, false, false, false, false, false, false] rfl rfl (by kernel_rfl) (fun _ _ _ h => h) (Or.inl ⟨by rfl, ?_⟩) ?_ ?_
    rotate_left
    · rintro w'
      go_simp
      with_reducible rfl
    rotate_left
    · simp only [Act.put, List.setIfInBounds_toArray, List.set_cons_zero, List.set_cons_succ, i64_w, i32_w]
      rfl
    refine pure_ (i := 1) (N := some 55) (v := ?_) (a' := ?_) #[true, true, false, false, false, false, false, false, false, false, false, false, false, false, false, false, false, false, false, false, false, false, false, false, false, false, false, false] rfl rfl (by kernel_rfl) (fun _ _ _ h => h) (Or.inl ⟨by rfl, ?_⟩) ?_ ?_
    rotate_left
    · rintro w'
      go_simp
      with_reducible rfl
    rotate_left
    · simp only [Act.put, List.setIfInBounds_toArray, List.set_cons_zero, List.set_cons_succ, i64_w, i32_w]
      rfl
    refine pure_ (i := 2) (N := some 56) (v := ?_) (a' := ?_) #[true, true, true, false, false, false, false, false, false, false, false, false, false, false, false, false, false, false, false, false, false, false, false, false, false, false, false, false] rfl rfl (by kernel_rfl) (fun _ _ _ h => h) (Or.inl ⟨by rfl, ?_⟩) ?_ ?_
    rotate_left
    · rintro w'
      go_simp
      with_reducible rfl
    rotate_left
    · simp only [Act.put, List.setIfInBounds_toArray, List.set_cons_zero, List.set_cons_succ, i64_w, i32_w]
      rfl
    refine pure_ (i := 3) (N := some 57) (v := ?_) (a' := ?_) #[true, true, true, true, false, false, false, false, false, false, false, false, false, false, false, false, false, false, false, false, false, false, false, false, false, false, false, false] rfl rfl (by kernel_rfl) (fun _ _ _ h => h) (Or.inl ⟨by rfl, ?_⟩) ?_ ?_
    rotate_left
    · rintro w'
      go_simp
      with_reducible rfl
    rotate_left
    · simp only [Act.put, List.setIfInBounds_toArray, List.set_cons_zero, List.set_cons_succ, i64_w, i32_w]
      rfl
    refine take_ (i := 4) (N := some 58) (v := ?_) (a' := ?_) #[true, true, true, true, true, false, false, false, false, false, false, false, false, false, false, false, false, false, false, false, false, false, false, false, false, false, false, false] rfl rfl (by kernel_rfl) (fun _ _ _ h => h) (Or.inl ⟨by rfl, ?_⟩) hHeld ?_ ?_
    rotate_left
    · rintro w' ⟨s0, s1, s2, s3⟩
      go_simp
      with_reducible rfl
    rotate_left
    · simp only [Act.put, List.setIfInBounds_toArray, List.set_cons_zero, List.set_cons_succ, i64_w, i32_w]
      rfl
    refine pure_ (i := 5) (N := some 59) (v := ?_) (a' := ?_) #[true, true, true, true, true, true, false, false, false, false, false, false, false, false, false, false, false, false, false, false, false, false, false, false, false, false, false, false] rfl rfl (by kernel_rfl) (fun _ _ _ h => h) (Or.inl ⟨by rfl, ?_⟩) ?_ ?_
    rotate_left
    · rintro w'
      go_simp
      with_reducible rfl
    rotate_left
    · simp only [Act.put, List.setIfInBounds_toArray, List.set_cons_zero, List.set_cons_succ, i64_w, i32_w]
      rfl
    refine pure_ (i := 6) (N := some 60) (v := ?_) (a' := ?_) #[true, true, true, true, true, true, true, false, false, false, false, false, false, false, false, false, false, false, false, false, false, false, false, false, false, false, false, false] rfl rfl (by kernel_rfl) (fun _ _ _ h => h) (Or.inl ⟨by rfl, ?_⟩) ?_ ?_
    rotate_left
    · rintro w'
      go_simp
      with_reducible rfl
    rotate_left
    · simp only [Act.put, List.setIfInBounds_toArray, List.set_cons_zero, List.set_cons_succ, i64_w, i32_w]
      rfl
    refine pure_ (i := 7) (N := some 61) (v := ?_) (a' := ?_) #[true, true, true, true, true, true, true, true, false, false, false, false, false, false, false, false, false, false, false, false, false, false, false, false, false, false, false, false] rfl rfl (by kernel_rfl) (fun _ _ _ h => h) (Or.inl ⟨by rfl, ?_⟩) ?_ ?_
    rotate_left
    · rintro w'
      go_simp
      with_reducible rfl
    rotate_left
    · simp only [Act.put, List.setIfInBounds_toArray, List.set_cons_zero, List.set_cons_succ, i64_w, i32_w]
      rfl
    refine pure_ (i := 8) (N := some 62) (v := ?_) (a' := ?_) #[true, true, true, true, true, true, true, true, true, false, false, false, false, false, false, false, false, false, false, false, false, false, false, false, false, false, false, false] rfl rfl (by kernel_rfl) (fun _ _ _ h => h) (Or.inl ⟨by rfl, ?_⟩) ?_ ?_
    rotate_left
    · rintro w'
      go_simp
      with_reducible rfl
    rotate_left
    · simp only [Act.put, List.setIfInBounds_toArray, List.set_cons_zero, List.set_cons_succ, i64_w, i32_w]
      rfl
    refine take_ (i := 9) (N := some 63) (v := ?_) (a' := ?_) #[true, true, true, true, true, true, true, true, true, true, false, false, false, false, false, false, false, false, false, false, false, false, false, false, false, false, false, false] rfl rfl (by kernel_rfl) (fun _ _ _ h => h) (Or.inl ⟨by rfl, ?_⟩) hHeld ?_ ?_
    rotate_left
    · rintro w' ⟨s0, s1, s2, s3⟩
      go_simp
      with_reducible rfl
    rotate_left
    · simp only [Act.put, List.setIfInBounds_toArray, List.set_cons_zero, List.set_cons_succ, i64_w, i32_w]
      rfl
    refine pure_ (i := 10) (N := some 64) (v := ?_) (a' := ?_) #[true, true, true, true, true, true, true, true, true, true, true, false, false, false, false, false, false, false, false, false, false, false, false, false, false, false, false, false] rfl rfl (by kernel_rfl) (fun _ _ _ h => h) (Or.inl ⟨by rfl, ?_⟩) ?_ ?_
    rotate_left
    · rintro w'
      go_simp
      with_reducible rfl
    rotate_left
    · simp only [Act.put, List.setIfInBounds_toArray, List.set_cons_zero, List.set_cons_succ, i64_w, i32_w]
      rfl
    refine pure_ (i := 11) (N := some 65) (v := ?_) (a' := ?_) #[true, true, true, true, true, true, true, true, true, true, true, true, false, false, false, false, false, false, false, false, false, false, false, false, false, false, false, false] rfl rfl (by kernel_rfl) (fun _ _ _ h => h) (Or.inl ⟨by rfl, ?_⟩) ?_ ?_
    rotate_left
    · rintro w'
      go_simp
      with_reducible rfl
    rotate_left
    · simp only [Act.put, List.setIfInBounds_toArray, List.set_cons_zero, List.set_cons_succ, i64_w, i32_w]
      rfl
    refine pure_ (i := 12) (N := some 66) (v := ?_) (a' := ?_) #[true, true, true, true, true, true, true, true, true, true, true, true, true, false, false, false, false, false, false, false, false, false, false, false, false, false, false, false] rfl rfl (by kernel_rfl) (fun _ _ _ h => h) (Or.inl ⟨by rfl, ?_⟩) ?_ ?_
    rotate_left
    · rintro w'
      go_simp
      with_reducible rfl
    rotate_left
    · simp only [Act.put, List.setIfInBounds_toArray, List.set_cons_zero, List.set_cons_succ, i64_w, i32_w]
      rfl
    refine take_ (i := 13) (N := some 67) (v := ?_) (a' := ?_) #[true, true, true, true, true, true, true, true, true, true, true, true, true, true, false, false, false, false, false, false, false, false, false, false, false, false, false, false] rfl rfl (by kernel_rfl) (fun _ _ _ h => h) (Or.inl ⟨by rfl, ?_⟩) hHeld ?_ ?_
    rotate_left
    · rintro w' ⟨s0, s1, s2, s3⟩
      go_simp
      with_reducible rfl
    rotate_left
    · simp only [Act.put, List.setIfInBounds_toArray, List.set_cons_zero, List.set_cons_succ, i64_w, i32_w]
      rfl
    refine pure_ (i := 14) (N := some 68) (v := ?_) (a' := ?_) #[true, true, true, true, true, true, true, true, true, true, true, true, true, true, true, false, false, false, false, false, false, false, false, false, false, false, false, false] rfl rfl (by kernel_rfl) (fun _ _ _ h => h) (Or.inl ⟨by rfl, ?_⟩) ?_ ?_
    rotate_left
    · rintro w'
      go_simp
      with_reducible rfl
    rotate_left
    · simp only [Act.put, List.setIfInBounds_toArray, List.set_cons_zero, List.set_cons_succ, i64_w, i32_w]
      rfl
    refine take_ (i := 15) (N := some 69) (v := ?_) (a' := ?_) #[true, true, true, true, true, true, true, true, true, true, true, true, true, true, true, true, false, false, false, false, false, false, false, false, false, false, false, false] rfl rfl (by kernel_rfl) (fun _ _ _ h => h) (Or.inl ⟨by rfl, ?_⟩) hHeld ?_ ?_
    rotate_left
    · rintro w' ⟨s0, s1, s2, s3⟩
      go_simp
      with_reducible rfl
    rotate_left
    · simp only [Act.put, List.setIfInBounds_toArray, List.set_cons_zero, List.set_cons_succ, i64_w, i32_w]
      rfl
    refine pure_ (i := 16) (N := some 70) (v := ?_) (a' := ?_) #[true, true, true, true, true, true, true, true, true, true, true, true, true, true, true, true, true, false, false, false, false, false, false, false, false, false, false, false] rfl rfl (by kernel_rfl) (fun _ _ _ h => h) (Or.inl ⟨by rfl, ?_⟩) ?_ ?_
    rotate_left
    · rintro w'
      go_simp
      with_reducible rfl
    rotate_left
    · simp only [Act.put, List.setIfInBounds_toArray, List.set_cons_zero, List.set_cons_succ, i64_w, i32_w]
      rfl
    refine pure_ (i := 17) (N := some 71) (v := ?_) (a' := ?_) #[true, true, true, true, true, true, true, true, true, true, true, true, true, true, true, true, true, true, false, false, false, false, false, false, false, false, false, false] rfl rfl (by kernel_rfl) (fun _ _ _ h => h) (Or.inl ⟨by rfl, ?_⟩) ?_ ?_
    rotate_left
    · rintro w'
      go_simp
      with_reducible rfl
    rotate_left
    · simp only [Act.put, List.setIfInBounds_toArray, List.set_cons_zero, List.set_cons_succ, i64_w, i32_w]
      rfl
    refine take_ (i := 18) (N := some 72) (v := ?_) (a' := ?_) #[true, true, true, true, true, true, true, true, true, true, true, true, true, true, true, true, true, true, true, false, false, false, false, false, false, false, false, false] rfl rfl (by kernel_rfl) (fun _ _ _ h => h) (Or.inl ⟨by rfl, ?_⟩) hHeld ?_ ?_
    rotate_left
    · rintro w' ⟨s0, s1, s2, s3⟩
      go_simp
      with_reducible rfl
    rotate_left
    · simp only [Act.put, List.setIfInBounds_toArray, List.set_cons_zero, List.set_cons_succ, i64_w, i32_w]
      rfl
    refine pure_ (i := 19) (N := some 73) (v := ?_) (a' := ?_) #[true, true, true, true, true, true, true, true, true, true, true, true, true, true, true, true, true, true, true, true, false, false, false, false, false, false, false, false] rfl rfl (by kernel_rfl) (fun _ _ _ h => h) (Or.inl ⟨by rfl, ?_⟩) ?_ ?_
    rotate_left
    · rintro w'
      go_simp
      with_reducible rfl
    rotate_left
    · simp only [Act.put, List.setIfInBounds_toArray, List.set_cons_zero, List.set_cons_succ, i64_w, i32_w]
      rfl
    refine pure_ (i := 20) (N := some 74) (v := ?_) (a' := ?_) #[true, true, true, true, true, true, true, true, true, true, true, true, true, true, true, true, true, true, true, true, true, false, false, false, false, false, false, false] rfl rfl (by kernel_rfl) (fun _ _ _ h => h) (Or.inl ⟨by rfl, ?_⟩) ?_ ?_
    rotate_left
    · rintro w'
      go_simp
      with_reducible rfl
    rotate_left
    · simp only [Act.put, List.setIfInBounds_toArray, List.set_cons_zero, List.set_cons_succ, i64_w, i32_w]
      rfl
    refine pure_ (i := 21) (N := some 75) (v := ?_) (a' := ?_) #[true, true, true, true, true, true, true, true, true, true, true, true, true, true, true, true, true, true, true, true, true, true, false, false, false, false, false, false] rfl rfl (by kernel_rfl) (fun _ _ _ h => h) (Or.inl ⟨by rfl, ?_⟩) ?_ ?_
    rotate_left
    · rintro w'
      go_simp
      with_reducible rfl
    rotate_left
    · simp only [Act.put, List.setIfInBounds_toArray, List.set_cons_zero, List.set_cons_succ, i64_w, i32_w]
      rfl
    refine pure_ (i := 22) (N := some 76) (v := ?_) (a' := ?_) #[true, true, true, true, true, true, true, true, true, true, true, true, true, true, true, true, true, true, true, true, true, true, true, false, false, false, false, false] rfl rfl (by kernel_rfl) (fun _ _ _ h => h) (Or.inl ⟨by rfl, ?_⟩) ?_ ?_
    rotate_left
    · rintro w'
      go_simp
      with_reducible rfl
    rotate_left
    · simp only [Act.put, List.setIfInBounds_toArray, List.set_cons_zero, List.set_cons_succ, i64_w, i32_w]
      rfl
    refine one_ (i := 23) (N := some 77) #[true, true, true, true, true, true, true, true, true, true, true, true, true, true, true, true, true, true, true, true, true, true, true, true, false, false, false, false] rfl rfl (by kernel_rfl) (by decide) (fun K hK => ?_)
    refine value_ (w1 := ?_) (v := ?_) (by rfl) rfl ?_ ?_
    rotate_left 2
    · go_simp
      constructor
      · rfl
      · rfl
    refine hK.out _ _ ⟨by go_keep, by go_keep, by go_keep, by go_keep⟩ (fun hHeld => ?_)
    clear hK K
    refine norm_ (a' := ?_) ?_ ?_
    rotate_left
    · simp only [Act.put, List.setIfInBounds_toArray, List.set_cons_zero, List.set_cons_succ, i64_w, i32_w]
      rfl
    refine one_ (i := 24) (N := some 78) #[true, true, true, true, true, true, true, true, true, true, true, true, true, true, true, true, true, true, true, true, true, true, true, true, true, false, false, false] rfl rfl (by kernel_rfl) (by decide) (fun K hK => ?_)
    refine Kd.R_append_step k159 (w0 := W4) (W := W4) B (by rfl) _ _ _ 159 _ 112 (by rfl) Tryd.underlying143 info159 (by rfl) (by decide) (by decide) s.vL s.l ⟨id, s.now, wrap64 (s.now + (rd_T90 s.ts (id - 1)).f2), (rd_T90 s.ts (id - 1)).f4, 0, dem, 0, 0, 0, 0, 0, 0, 0, false⟩ [.int .i64 id, .int .i64 s.now, .int .i64 (wrap64 (s.now + (rd_T90 s.ts (id - 1)).f2)), .int .i64 (rd_T90 s.ts (id - 1)).f4, .int .i64 0, .int .i64 dem, .int .i64 0, .int .i64 0, .int .u64 0, .int .u64 0, .int .u64 0, .int .u64 0, .int .i64 0, .bool false] (fun _ => True) (fun _ => False) (by rfl) (by rfl) (k159_mkM _ _ _ ⟨id, s.now, wrap64 (s.now + (rd_T90 s.ts (id - 1)).f2), (rd_T90 s.ts (id - 1)).f4, 0, dem, 0, 0, 0, 0, 0, 0, 0, false⟩) (fun _ h => h.elim) (fun _ _ => trivial) H3'.out.r.l (Below.refl _ _) H3'.out.szB (by omega) ?_
    intro v1 w4 hR hB4 hg4 hat4
    obtain ⟨A1, c1, rfl⟩ := Kd.R_slice hR
    have e9 : w4.cell? ⟨bx, 9, none⟩ = some s.vL := hg4.cell hHeld0.1 H3'.out.neL
    have e8 : w4.cell? ⟨bx, 8, none⟩ = some (.int .i64 s.now) := hg4.cell hHeld0.2.1 H3'.out.neL
    have e2 : w4.cell? ⟨w1.heap.size, 2, none⟩ = some (.int .i64 (rd_T90 s.ts (id - 1)).f2) := hg4.cell hHeld0.2.2.1 hneW
    have e4 : w4.cell? ⟨w1.heap.size, 4, none⟩ = some (.int .i64 (rd_T90 s.ts (id - 1)).f4) := hg4.cell hHeld0.2.2.2 hneW
    have ef : w4.frozen? ⟨bx, 9, none⟩ = false := blk_frozen (blk_grown H3'.out.blk hg4 H3'.out.neL) 9
    refine hK.out _ _ ⟨e9, e8, e2, e4⟩ (fun hHeld => ?_)
    clear hK K
    refine norm_ (a' := ?_) ?_ ?_
    rotate_left
    · show Act.put _ (some 78) _ = _
      simp only [Act.put, List.setIfInBounds_toArray, List.set_cons_zero, List.set_cons_succ, i64_w, i32_w]
      rfl
    refine pure_ (i := 25) (N := some 79) (v := ?_) (a' := ?_) #[true, true, true, true, true, true, true, true, true, true, true, true, true, true, true, true, true, true, true, true, true, true, true, true, true, true, false, false] rfl rfl (by kernel_rfl) (fun _ _ _ h => h) (Or.inl ⟨by rfl, ?_⟩) ?_ ?_
    rotate_left
    · rintro w'
      go_simp
      with_reducible rfl
    rotate_left
    · simp only [Act.put, List.setIfInBounds_toArray, List.set_cons_zero, List.set_cons_succ, i64_w, i32_w]
      rfl
    refine pure_ (i := 26) (N := some 80) (v := ?_) (a' := ?_) #[true, true, true, true, true, true, true, true, true, true, true, true, true, true, true, true, true, true, true, true, true, true, true, true, true, true, true, false] rfl rfl (by kernel_rfl) (fun _ _ _ h => h) (Or.inl ⟨by rfl, ?_⟩) ?_ ?_
    rotate_left
    · rintro w'
      go_simp
      with_reducible rfl
    rotate_left
    · simp only [Act.put, List.setIfInBounds_toArray, List.set_cons_zero, List.set_cons_succ, i64_w, i32_w]
      rfl
    refine last_ (i := 27) (N := none) #[true, true, true, true, true, true, true, true, true, true, true, true, true, true, true, true, true, true, true, true, true, true, true, true, true, true, true, true] rfl rfl (by kernel_rfl) (by decide) (fun K hK => ?_)
    refine skip_ (w1 := ?_) (by rfl) rfl ?_ ?_
    rotate_left
    · go_simp
      rfl
    refine hK.out _ _ ?_
    clear hK K
    refine done_ (by kernel_rfl) ?_
    go_wp2
    go_ret
    have P := H3'.out.putL hg4 hR (by have := H3'.out.run; simp only [List.length_append, List.length_singleton]; simp only at this; omega) (by
      intro x hx
      rcases List.mem_append.1 hx with hx | hx
      · exact H3'.out.all x hx
      · rw [List.mem_singleton.1 hx]
        exact ⟨hi1, hi2, HX.out.now0, Int.le_refl _⟩)
    simp only [List.length_append, List.length_cons, List.length_nil, Nat.zero_add] at P
    exact ⟨_, _, rfl, P.1, rfl, rfl, by simp, rfl, K3'.out.trans P.2⟩
end Go.Proofs.YtbldolbeijpipaaDoor

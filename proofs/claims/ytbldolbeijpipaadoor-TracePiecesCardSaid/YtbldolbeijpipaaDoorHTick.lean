import Derived.Test.YtbldolbeijpipaaDoorHRow
import Derived.Test.YtbldolbeijpipaaDoorHTickC
import Derived.Deep.CutRange
import Derived.Deep.DeepCutAuto
namespace Go.Proofs.YtbldolbeijpipaaDoor
open Go.RowKit Go.Proofs.YtbldolbeijpipaaDoorW.PrintWords Go.Proofs.YtbldolbeijpipaaDoorW.PrintLast Go.Proofs.YtbldolbeijpipaaDoorW.PrintMore
set_option linter.unusedVariables false
set_option linter.unusedSimpArgs false


set_option maxHeartbeats 3200000 in
set_option maxRecDepth 100000 in
theorem tick_any (B bx : Nat) (s : XS) (w : World) (h : XI w B bx s) (hnow : s.now < 1000000) (hl : s.l.length ≤ 1000) (hm : s.m ≤ 1000000) :
    Calls Tryd.prog 35 #[.pointer (some ⟨bx, 0, none⟩)] w (TickP w B bx s) := by
  have hx8 := h.f8
  have hx9 := h.f9
  have hbx := blk_lt h.blk
  have HX := Aside0.mk h
  have hfz := h.frz
  have hn31 : s.now < 2147483648 := by omega
  clear h
  go_enter Tryd.func35, Tryd.ntmps35
  have t0 : w.heap.size < w.heap.size + 1 + 1 := by omega
  have e0 := (below_alloc (below_alloc (Below.refl w.heap.size w) (Obj.cells #[.int .i64 0, .int .i64 0, .int .i64 0, .int .i64 0, .bool false, .int .i64 0] 43)) (Obj.cells #[.int .i64 s.now, .int .i64 0, .int .i64 0, .int .i64 0, .bool false, .int .i64 0] 43))
  have b0 : ((w.alloc (Obj.cells #[.int .i64 0, .int .i64 0, .int .i64 0, .int .i64 0, .bool false, .int .i64 0] 43)).alloc (Obj.cells #[.int .i64 s.now, .int .i64 0, .int .i64 0, .int .i64 0, .bool false, .int .i64 0] 43)).heap[w.heap.size]? = some (.cells #[.int .i64 0, .int .i64 0, .int .i64 0, .int .i64 0, .bool false, .int .i64 0] 43 (0, 0)) := blk_alloc (blk_new w _) _
  have b1 : ((w.alloc (Obj.cells #[.int .i64 0, .int .i64 0, .int .i64 0, .int .i64 0, .bool false, .int .i64 0] 43)).alloc (Obj.cells #[.int .i64 s.now, .int .i64 0, .int .i64 0, .int .i64 0, .bool false, .int .i64 0] 43)).heap[w.heap.size + 1]? = some (.cells #[.int .i64 s.now, .int .i64 0, .int .i64 0, .int .i64 0, .bool false, .int .i64 0] 43 (0, 0)) := blk_nw _ _ _ (by simp)
  have HX0 := Aside0.mk (HX.out.below e0)
  have K0 := Aside0.mk (KeptT.of_below (T := [147, 3, 159, 164]) e0 HX.out.szB)
  go_wp2_with fail
  generalize ((w.alloc (Obj.cells #[.int .i64 0, .int .i64 0, .int .i64 0, .int .i64 0, .bool false, .int .i64 0] 43)).alloc (Obj.cells #[.int .i64 s.now, .int .i64 0, .int .i64 0, .int .i64 0, .bool false, .int .i64 0] 43)) = W0 at e0 b0 b1 HX0 K0 ⊢
  clear hx8 hx9 hfz
  go_loopw [4, 5] (fun f i wr => ∃ (k : Nat) (j : Int), k ≤ s.l.length ∧ i = .int .i64 k ∧ f = .int .i64 j ∧ -1 ≤ j ∧ j < s.l.length ∧ (j = -1 → k = 0) ∧ Below W0.heap.size W0 wr) (fun _ i _ => s.l.length - (intOf i).toNat)
  case atStart => exact ⟨0, -1, Nat.zero_le _, rfl, rfl, by omega, by omega, fun _ => rfl, Below.refl _ _⟩
  case round =>
    obtain ⟨k, j, hk, rfl, rfl, hj0, hj1, hjk, hb⟩ := hrel
    have hx9 := (HX0.out.below hb).f9
    have HXr := Aside0.mk (HX0.out.below hb)
    have e0r := Aside0.mk (e0.trans (hb.mono (by have := e0.size; omega)))
    have hzr := hb.size
    have HB := Aside0.mk hb
    clear hb
    by_cases hlt : k < s.l.length
    · obtain ⟨ad, c, ev, hc, HC⟩ := HXr.out.one k (by omega) (by omega)
      rw [ev] at hx9
      have hadb := World.block_lt_of_cell? _ _ (at_T159 HC k (by omega) (by omega)).choose_spec.2.1
      obtain ⟨ad1, e1, p0, p1, p2, p3, p4, p5, p6, p7, p8, p9, p10, p11, p12, p13⟩ := at_T159 HC k (by omega) (by omega)
      cases e1
      rw [Int.toNat_natCast] at p0 p1 p2 p3 p4 p5 p6 p7 p8 p9 p10 p11 p12 p13
      have mk := HXr.out.all _ (mem_rd (i := (k : Int)) (by omega) (by omega))
      by_cases hj : j = -1
      · subst hj
        clear hadb hjk
        go_wp2_with fail
        refine wp_region_still_tail 15 (by kernel_rfl) (by kernel_rfl) ?_
        change wpStill _ _ (World.drew _) (fun a' => wpList _ _ _ _ a' (World.drew _)) _ _
        simp only [List.take_succ_cons, List.take_zero, List.drop_succ_cons, List.drop_zero]
        repeat still_step
        refine wpStill_nil ?_
        go_wp2_with fail
        refine (before_any B bx s _ _ _ (HXr.out.below (by repeat (with_reducible first |  exact Below.refl _ _ | apply below_alloc | apply pw_below_drewN | apply below_drew1 | apply bset0 | apply bset1 | apply bset2))) mk.1 mk.2.1 mk.1 mk.2.1).mono ?_
        rintro e w2 ⟨b, rfl, hb⟩
        have HB2 := Aside0.mk (below_step (w := W0) (by repeat (with_reducible first | exact HB.out | apply pw_below_drewN | apply below_drew1)) hb)
        clear hb
        cases b
        · go_wp2_with fail
          go_roundw
          case rel => exact ⟨k + 1, (k : Int), by omega, by go_num, rfl, by omega, by omega, fun h => by omega, HB2.out⟩
          case measure => simp [intOf]; omega
        · go_wp2_with fail
          go_roundw
          case rel => exact ⟨k + 1, (k : Int), by omega, by go_num, rfl, by omega, by omega, fun h => by omega, HB2.out⟩
          case measure => simp [intOf]; omega
      · obtain ⟨ad1, e1, q0, q1, q2, q3, q4, q5, q6, q7, q8, q9, q10, q11, q12, q13⟩ := at_T159 HC j (by omega) (by omega)
        cases e1
        have mj := HXr.out.all _ (mem_rd (i := j) (by omega) (by omega))
        have hj2 : 0 ≤ j := by omega
        clear hadb hjk
        go_wp2_with fail
        refine wp_region_still_tail 15 (by kernel_rfl) (by kernel_rfl) ?_
        change wpStill _ _ (World.drew _) (fun a' => wpList _ _ _ _ a' (World.drew _)) _ _
        simp only [List.take_succ_cons, List.take_zero, List.drop_succ_cons, List.drop_zero]
        repeat still_step
        refine wpStill_nil ?_
        go_wp2_with fail
        refine (before_any B bx s _ _ _ (HXr.out.below (by repeat (with_reducible first |  exact Below.refl _ _ | apply below_alloc | apply pw_below_drewN | apply below_drew1 | apply bset0 | apply bset1 | apply bset2))) mk.1 mk.2.1 mj.1 mj.2.1).mono ?_
        rintro e w2 ⟨b, rfl, hb⟩
        have HB2 := Aside0.mk (below_step (w := W0) (by repeat (with_reducible first | exact HB.out | apply pw_below_drewN | apply below_drew1)) hb)
        clear hb
        cases b
        · go_wp2_with fail
          go_roundw
          case rel => exact ⟨k + 1, j, by omega, by go_num, rfl, by omega, by omega, fun h => by omega, HB2.out⟩
          case measure => simp [intOf]; omega
        · go_wp2_with fail
          go_roundw
          case rel => exact ⟨k + 1, (k : Int), by omega, by go_num, rfl, by omega, by omega, fun h => by omega, HB2.out⟩
          case measure => simp [intOf]; omega
    · have b0r := blk_below b0 HB.out
      have b1r := blk_below b1 HB.out
      have hx8 := HXr.out.f8
      have hfz := HXr.out.frz
      have hne : bx ≠ w.heap.size + 1 := by omega
      have hne0 : bx ≠ w.heap.size := by omega
      have hz2 : w.heap.size + 1 < wr.heap.size := by have := e0r.out.size; have := blk_lt b1r; omega
      have hbr : bx < wr.heap.size := by omega
      have hk2 : ¬ (k : Int) < s.l.length := by omega
      obtain ⟨AL, cL, ev, hcL, -⟩ := Kd.R_reads HXr.out.r.l
      rw [ev] at hx9
      have c0 : wr.cell? ⟨w.heap.size + 1, 0, none⟩ = some (.int .i64 s.now) := (blk_cell b1r 0).trans rfl
      have c1 : wr.cell? ⟨w.heap.size + 1, 1, none⟩ = some (.int .i64 0) := (blk_cell b1r 1).trans rfl
      have c2 : wr.cell? ⟨w.heap.size + 1, 2, none⟩ = some (.int .i64 0) := (blk_cell b1r 2).trans rfl
      have c3 : wr.cell? ⟨w.heap.size + 1, 3, none⟩ = some (.int .i64 0) := (blk_cell b1r 3).trans rfl
      have c4 : wr.cell? ⟨w.heap.size + 1, 4, none⟩ = some (.bool false) := (blk_cell b1r 4).trans rfl
      have c5 : wr.cell? ⟨w.heap.size + 1, 5, none⟩ = some (.int .i64 0) := (blk_cell b1r 5).trans rfl
      have d0 : wr.cell? ⟨w.heap.size, 0, none⟩ = some (.int .i64 0) := (blk_cell b0r 0).trans rfl
      have d1 : wr.cell? ⟨w.heap.size, 1, none⟩ = some (.int .i64 0) := (blk_cell b0r 1).trans rfl
      have d2 : wr.cell? ⟨w.heap.size, 2, none⟩ = some (.int .i64 0) := (blk_cell b0r 2).trans rfl
      have d3 : wr.cell? ⟨w.heap.size, 3, none⟩ = some (.int .i64 0) := (blk_cell b0r 3).trans rfl
      have d4 : wr.cell? ⟨w.heap.size, 4, none⟩ = some (.bool false) := (blk_cell b0r 4).trans rfl
      have d5 : wr.cell? ⟨w.heap.size, 5, none⟩ = some (.int .i64 0) := (blk_cell b0r 5).trans rfl
      have hw1 : wrap64 (s.now + 1) = s.now + 1 := by have := HX.out.now0; unfold wrap64; omega
      have f0 : ∀ j, wr.frozen? ⟨w.heap.size, j, none⟩ = false := fun j => blk_frozen b0r j
      have f1 : ∀ j, wr.frozen? ⟨w.heap.size + 1, j, none⟩ = false := fun j => blk_frozen b1r j
      have Kr := Aside0.mk ((K0.out).step HB.out HX0.out.szB)
      have B0 := Aside0.mk b0r
      have B1 := Aside0.mk b1r
      clear b0r b1r hjk
      by_cases hj : j < 0
      · go_wp2_with fail
        refine bodyPost_ret (v := slotV ⟨s.now, 0, 0, 0, false, 0⟩) (results_single rfl (.cell w.heap.size 43 _ (0, 0) _ rfl (fill6 (blk_far B0.out (Ne.symm hne0) _)) Tryd.underlying43 rfl (by kernel_rfl) .nil)) rfl ?_
        have hX := HXr.out.setNow (s.now + 1) (by omega)
        exact ⟨⟨s.now, 0, 0, 0, false, 0⟩, _, rfl, rfl, ⟨HX.out.now0, Or.inl ⟨rfl, rfl, rfl, rfl, rfl⟩⟩, hX.slot6 (blk_far B0.out (Ne.symm hne0) _) HX.out.szB _ _ _ _ _ _, rfl, rfl, Nat.le_refl _, Nat.le_succ _,
          ((((((HXr.out.ks Kr.out (by simp) _ _).loc0 HX.out.szB).loc0 HX.out.szB).loc0 HX.out.szB).loc0 HX.out.szB).loc0 HX.out.szB).loc0 HX.out.szB⟩
      · have hj2 : 0 ≤ j := by omega
        clear hj
        have hj3 : ¬ j < 0 := by omega
        have hx10 := HXr.out.f10
        go_upto_region 16 with fail
        go_cut [75] (fun c wx => (∃ b, c = .bool b ∧ (b = true → 0 ≤ s.run)) ∧ wr = wx)
        case first =>
          by_cases hr0 : 0 ≤ s.run
          · by_cases hr1 : s.run = j
            · go_wp2_with fail
              go_meet
              case rel => exact ⟨⟨_, rfl, fun _ => hr0⟩, rfl⟩
            · go_wp2_with fail
              go_meet
              case rel => exact ⟨⟨_, rfl, fun _ => hr0⟩, rfl⟩
          · go_wp2_with fail
            go_meet
            case rel => exact ⟨⟨_, rfl, fun h => by simp at h⟩, rfl⟩
        case rest =>
        obtain ⟨⟨b, rfl, hbr2⟩, rfl⟩ := hcut
        go_upto_if 75 with fail
        go_cut [4] (fun f wx => ∃ (j2 : Int) (s2 : XS) (dp : Int), f = .int .i64 j2 ∧ 0 ≤ j2 ∧ j2 < s2.l.length ∧ XI wx B bx s2 ∧ s2.ts = s.ts ∧ s2.now = s.now ∧ s2.l.length ≤ s.l.length ∧ s2.m = s.m ∧ 0 ≤ dp ∧ dp ≤ s.ts.length ∧ KeptT [147, 3, 159, 164] B w wx ∧ wx.heap[w.heap.size]? = some (.cells #[.int .i64 0, .int .i64 0, .int .i64 0, .int .i64 0, .bool false, .int .i64 0] 43 (0, 0)) ∧ wx.heap[w.heap.size + 1]? = some (.cells #[.int .i64 s.now, .int .i64 0, .int .i64 0, .int .i64 0, .bool false, .int .i64 dp] 43 (0, 0)))
        case first =>
          have hx11 := HXr.out.f11
          cases b
          · go_wp2_with fail
            go_meet
            case rel => exact ⟨j, { s with on := false }, 0, rfl, hj2, hj1, HXr.out.setOn false, rfl, rfl, Nat.le_refl _, rfl, by omega, by omega, HXr.out.ks Kr.out (by simp) _ _, blk_far B0.out (Ne.symm hne0) _, blk_far B1.out (Ne.symm hne) _⟩
          · have hr0 := hbr2 rfl
            have hrl := HXr.out.run
            go_wp2_with fail
            refine (stays_any B bx s _ HXr.out hr0).mono ?_
            rintro e w2 ⟨r, a, bb, rfl, hX2, hK2⟩
            have HX2 := Aside0.mk hX2
            have K2 := Aside0.mk (KeptT.trans Kr.out (⟨hK2.bel, fun k hk ht => hK2.keep k hk (fun c t f hc hm => ht c t f hc (by simp at hm; simp [hm]))⟩ : KeptT [147, 3, 159, 164] B wr w2))
            have b02 := hK2.blk B0.out (by simp)
            have b12 := hK2.blk B1.out (by simp)
            have B02 := Aside0.mk b02
            have B12 := Aside0.mk b12
            have g0 : ∀ j, w2.frozen? ⟨w.heap.size, j, none⟩ = false := fun j => blk_frozen b02 j
            have g1 : ∀ j, w2.frozen? ⟨w.heap.size + 1, j, none⟩ = false := fun j => blk_frozen b12 j
            have e15 : w2.cell? ⟨w.heap.size + 1, 5, none⟩ = some (.int .i64 0) := (blk_cell b12 5).trans rfl
            have hz3 := hK2.bel.size
            have gx := hX2.frz
            have x10 : w2.cell? ⟨bx, 10, none⟩ = some (.int .i64 s.run) := hX2.f10
            have x11 : w2.cell? ⟨bx, 11, none⟩ = some (.bool a) := hX2.f11
            obtain ⟨gr, cr, ev2, hcr, hBr, hner, hltr, hfr, ⟨cells, hty⟩, hC2⟩ := hX2.row (by show 0 < s.l.length; omega)
            have x9 : w2.cell? ⟨bx, 9, none⟩ = some (.slice (some ⟨gr, 0, none⟩) s.l.length cr) := by have := hX2.f9; rw [ev2] at this; exact this
            have q0 := row_cells hC2 s.run hr0 hrl.2 0 _ rfl
            have q12 := row_cells hC2 s.run hr0 hrl.2 12 _ rfl
            rw [Nat.add_zero] at q0
            have q0' : w2.cell? ((⟨gr, 0, none⟩ : Addr).add (s.run.toNat * 14)) = some (.int .i64 (rd_T159 s.l s.run).f0) := by rw [add_zero_none]; exact q0
            have q12' : w2.cell? ⟨((⟨gr, 0, none⟩ : Addr).add (s.run.toNat * 14)).block, ((⟨gr, 0, none⟩ : Addr).add (s.run.toNat * 14)).off + 12, none⟩ = some (.int .i64 (rd_T159 s.l s.run).f12) := by rw [add_zero_none]; exact q12
            have mr := HXr.out.all _ (mem_rd hr0 hrl.2)
            have HC2 := Aside0.mk hC2
            have EV2 := Aside0.mk ev2
            have nr0 : gr ≠ w.heap.size := fun e => by subst e; rw [hty] at b02; injection b02 with b02; injection b02 with _ b02; cases b02
            have nr1 : gr ≠ w.heap.size + 1 := fun e => by subst e; rw [hty] at b12; injection b12 with b12; injection b12 with _ b12; cases b12
            have hr1 := hrl.2
            clear hX2 hK2 b02 b12 hC2 ev2 hty
            cases r
            · go_wp2_with fail
              refine wp_region_still_tail 13 (by kernel_rfl) (by kernel_rfl) ?_
              change wpStill _ _ (World.drew _) (fun a' => wpList _ _ _ _ a' (World.drew _)) _ _
              simp only [List.take_succ_cons, List.take_zero, List.drop_succ_cons, List.drop_zero]
              repeat still_step
              refine wpStill_nil ?_
              go_wp2_with fail
              refine wp_region_still_tail 14 (by kernel_rfl) (by kernel_rfl) ?_
              change wpStill _ _ (World.drew _) (fun a' => wpList _ _ _ _ a' (World.drew _)) _ _
              simp only [List.take_succ_cons, List.take_zero, List.drop_succ_cons, List.drop_zero]
              repeat still_step
              refine wpStill_nil ?_
              go_wp2_with fail
              go_meet
              case rel =>
                have X1 := HX2.out.slot B12.out (Nat.le_trans HX.out.szB (Nat.le_succ _)) 5 (.int .i64 (rd_T159 s.l s.run).f0)
                have P := X1.putRow (W1 := (w2.setCell ⟨w.heap.size + 1, 5, none⟩ (.int .i64 (rd_T159 s.l s.run).f0)).setCell ⟨gr, s.run.toNat * 14 + 12, none⟩ (.int .i64 (wrap64 ((rd_T159 s.l s.run).f12 + 1)))) EV2.out s.run hr0 hr1 { rd_T159 s.l s.run with f12 := wrap64 ((rd_T159 s.l s.run).f12 + 1) } 12 [.int .i64 (wrap64 ((rd_T159 s.l s.run).f12 + 1))] rfl (by simp) rfl mr
                have Y := (P.1.setOn false).below (w1 := (((w2.setCell ⟨w.heap.size + 1, 5, none⟩ (.int .i64 (rd_T159 s.l s.run).f0)).setCell ⟨gr, s.run.toNat * 14 + 12, none⟩ (.int .i64 (wrap64 ((rd_T159 s.l s.run).f12 + 1)))).setCell ⟨bx, 11, none⟩ (.bool false)).drew.drew) (below_drew1 (below_drew1 (Below.refl _ _)))
                have KY : KeptT [147, 3, 159, 164] B w _ := ((P.1.ks ((K2.out.loc1 (j := 5) (u := .int .i64 (rd_T159 s.l s.run).f0) HX.out.szB).trans P.2) (by simp) 11 (.bool false)).drew).drew
                refine ⟨j, { s with on := false, left := bb, l := s.l.set s.run.toNat { rd_T159 s.l s.run with f12 := wrap64 ((rd_T159 s.l s.run).f12 + 1) } }, (rd_T159 s.l s.run).f0, rfl, hj2, ?_, Y, rfl, rfl, ?_, rfl, ?_, mr.2.1, KY, ?_, ?_⟩
                · show j < ((s.l.set _ _).length : Int)
                  rw [List.length_set]
                  exact hj1
                · show (s.l.set _ _).length ≤ _
                  rw [List.length_set]
                  exact Nat.le_refl _
                · exact Int.le_trans (by decide) mr.1
                · exact blk_far (blk_far (blk_far B02.out (by show w.heap.size ≠ w.heap.size + 1; omega) _) (Ne.symm nr0) _) (Ne.symm hne0) _
                · exact blk_far (blk_far (blk_set B12.out 5 _) (Ne.symm nr1) _) (Ne.symm hne) _
            · go_wp2_with fail
              go_meet
              case rel => exact ⟨s.run, { s with on := a, left := bb }, 0, rfl, hr0, hrl.2, HX2.out, rfl, rfl, Nat.le_refl _, rfl, by omega, by omega, K2.out, B02.out, B12.out⟩
        case rest =>
        obtain ⟨j2, s2, dp, rfl, h20, h21, hX, hts, hnow2, hll, hm3, hd0, hd1, hK, hb0, hb1⟩ := hcut
        repeat' ((fail_if_success (first | (with_reducible refine at_seq1 24 ?_) | (with_reducible refine at_seq2 24 ?_) | (with_reducible refine at_seq3 24 ?_))); first | (go_says fail) | go_values | go_skip | go_guarded | go_step | go_upon | go_back | (simp only [Int.not_lt, Int.not_le] at *; go_simp) | (go_values <;> (try go_simp)) | (go_ite <;> go_prune <;> (try go_simp)) | (split <;> (first | (rename_i hx; exact (hx _ rfl).elim) | go_prune)))
        exact tick_c B bx s s2 j2 dp w wc _ _ _ _ _ _ _ _ _ _ _ _ _ _ _ _ _ _ _ _ _ _ _ _ _ _ _ _ _ _ _ _ _ _ _ _ _ _ _ _ _ _ _ _ _ _ _ _ _ _ _ _ _ _ _ _ _ _ _ _ _ _ _ _ _ _ _ _ _ _ _ _ _ _ _ _ _ _ _ _ _ _ _ _ _ _ _ _ _ _ _ _ _ _ _ _ _ _ _ _ _ _ _ _ _ _ _ _ _ _ _ _ _ _ _ _ _ _ _ _ _ _ _ _ _ _ _ _ _ _ _ _ _ _ _ _ _ _ _ _ _ _ _ _ _ _ _ _ _ _ _ _ _ _ _ _ _ _ _ _ _ _ _ _ _ _ _ _ _ _ _ _ _ _ _ _ _ _ _ _ _ _ _ _ _ _ _ _ _ _ _ _ _ _ _ _ _ _ _ _ _ _ _ _ _ _ _ _ _ _ _ _ _ _ _ _ _ _ _ _ _ _ _ _ _ _ _ _ _ _ _ _ _ _ _ _ _ _ _ _ _ HX.out.szB hbx HX.out.now0 hnow h20 h21 hX hts hnow2 hll hl hm3 hm hd0 hd1 hK hb0 hb1
end Go.Proofs.YtbldolbeijpipaaDoor

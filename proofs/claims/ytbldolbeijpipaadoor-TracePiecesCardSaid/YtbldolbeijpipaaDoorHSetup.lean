import Derived.Test.YtbldolbeijpipaaDoorHPrio
import Derived.Test.YtbldolbeijpipaaDoorHStays
namespace Go.Proofs.YtbldolbeijpipaaDoor
open Go.RowKit Go.Proofs.YtbldolbeijpipaaDoorW.PrintWords Go.Proofs.YtbldolbeijpipaaDoorW.PrintLast Go.Proofs.YtbldolbeijpipaaDoorW.PrintMore
set_option linter.unusedVariables false
set_option linter.unusedSimpArgs false
/-- A setup of the document's making: the system, as it came; thresholds and regions, one a task. -/
def SetupP (w : World) (sets reload : Int) (A1 : Option Addr) (c1 n : Nat) (e : Ending) (w' : World) : Prop := ∃ (pol mode : Int) (v5 v6 : Value) (th q : List Int), e = .returned (.agg #[.int .i64 sets, .int .i64 reload, .slice A1 n c1, .int .i64 pol, .int .i64 mode, v5, v6]) ∧ th.length = n ∧ q.length = n ∧
  (Kd.int .i64).R 3 w' w.heap.size (fun _ => True) v5 th ∧ (Kd.int .i64).R 2 w' w.heap.size (fun _ => True) v6 q ∧ Below w.heap.size w w'
set_option maxHeartbeats 3200000 in
set_option maxRecDepth 100000 in
theorem setup_any (a0 a1 sets reload : Int) (At Aq A1 : Option Addr) (ct cq c1 : Nat) (lt lq : List Int) (ts : List S90) (w : World) (ht : (Kd.int .i64).C w At lt.length lt) (hq : (Kd.int .i64).C w Aq lq.length lq) (hc1 : ts.length ≤ c1) (hs : k90.C w A1 ts.length ts) (h6 : ts.length ≤ 6) :
    Calls Tryd.prog 69 #[.agg #[.int .i64 a0, .int .i64 a1, .slice At lt.length ct, .slice Aq lq.length cq], .agg #[.int .i64 sets, .int .i64 reload, .slice A1 ts.length c1]] w (SetupP w sets reload A1 c1 ts.length) := by
  have HT := Aside0.mk ht
  have HQ := Aside0.mk hq
  have HS := Aside0.mk hs
  clear ht hq hs
  go_enter Tryd.func69, Tryd.ntmps69
  go_upto_region 2 with fail
  have B0 : Aside0 (((((w.alloc (.cells #[.int .i64 a0, .int .i64 a1, .slice At lt.length ct, .slice Aq lq.length cq] 148)).alloc (.cells #[.int .i64 sets, .int .i64 reload, .slice A1 ts.length c1] 54)).alloc (.cells #[.int .i64 0, .int .i64 0, .slice none 0 0, .int .i64 0, .int .i64 0, .slice none 0 0, .slice none 0 0] 57)).alloc (.cells #[.int .i64 sets, .int .i64 reload, .slice A1 ts.length c1, .int .i64 (wrap64 (1 + bits .and .i64 a0 1)), .int .i64 (wrap64 (1 + bits .and .i64 a1 3)), .slice none 0 0, .slice none 0 0] 57)).heap[w.heap.size]? = some (.cells #[.int .i64 a0, .int .i64 a1, .slice At lt.length ct, .slice Aq lq.length cq] 148 (0, 0))) := ⟨blk_alloc (blk_alloc (blk_alloc (blk_new _ _) _) _) _⟩
  have B1 : Aside0 (((((w.alloc (.cells #[.int .i64 a0, .int .i64 a1, .slice At lt.length ct, .slice Aq lq.length cq] 148)).alloc (.cells #[.int .i64 sets, .int .i64 reload, .slice A1 ts.length c1] 54)).alloc (.cells #[.int .i64 0, .int .i64 0, .slice none 0 0, .int .i64 0, .int .i64 0, .slice none 0 0, .slice none 0 0] 57)).alloc (.cells #[.int .i64 sets, .int .i64 reload, .slice A1 ts.length c1, .int .i64 (wrap64 (1 + bits .and .i64 a0 1)), .int .i64 (wrap64 (1 + bits .and .i64 a1 3)), .slice none 0 0, .slice none 0 0] 57)).heap[w.heap.size + 1]? = some (.cells #[.int .i64 sets, .int .i64 reload, .slice A1 ts.length c1] 54 (0, 0))) := ⟨blk_alloc (blk_alloc (blk_nw _ _ _ (by simp)) _) _⟩
  have B2 : Aside0 (((((w.alloc (.cells #[.int .i64 a0, .int .i64 a1, .slice At lt.length ct, .slice Aq lq.length cq] 148)).alloc (.cells #[.int .i64 sets, .int .i64 reload, .slice A1 ts.length c1] 54)).alloc (.cells #[.int .i64 0, .int .i64 0, .slice none 0 0, .int .i64 0, .int .i64 0, .slice none 0 0, .slice none 0 0] 57)).alloc (.cells #[.int .i64 sets, .int .i64 reload, .slice A1 ts.length c1, .int .i64 (wrap64 (1 + bits .and .i64 a0 1)), .int .i64 (wrap64 (1 + bits .and .i64 a1 3)), .slice none 0 0, .slice none 0 0] 57)).heap[w.heap.size + 1 + 1]? = some (.cells #[.int .i64 0, .int .i64 0, .slice none 0 0, .int .i64 0, .int .i64 0, .slice none 0 0, .slice none 0 0] 57 (0, 0))) := ⟨blk_alloc (blk_nw _ _ _ (by simp)) _⟩
  have B3 : Aside0 (((((w.alloc (.cells #[.int .i64 a0, .int .i64 a1, .slice At lt.length ct, .slice Aq lq.length cq] 148)).alloc (.cells #[.int .i64 sets, .int .i64 reload, .slice A1 ts.length c1] 54)).alloc (.cells #[.int .i64 0, .int .i64 0, .slice none 0 0, .int .i64 0, .int .i64 0, .slice none 0 0, .slice none 0 0] 57)).alloc (.cells #[.int .i64 sets, .int .i64 reload, .slice A1 ts.length c1, .int .i64 (wrap64 (1 + bits .and .i64 a0 1)), .int .i64 (wrap64 (1 + bits .and .i64 a1 3)), .slice none 0 0, .slice none 0 0] 57)).heap[w.heap.size + 1 + 1 + 1]? = some (.cells #[.int .i64 sets, .int .i64 reload, .slice A1 ts.length c1, .int .i64 (wrap64 (1 + bits .and .i64 a0 1)), .int .i64 (wrap64 (1 + bits .and .i64 a1 3)), .slice none 0 0, .slice none 0 0] 57 (0, 0))) := ⟨blk_nw _ _ _ (by simp)⟩
  have HB : Aside0 (Below w.heap.size w ((((w.alloc (.cells #[.int .i64 a0, .int .i64 a1, .slice At lt.length ct, .slice Aq lq.length cq] 148)).alloc (.cells #[.int .i64 sets, .int .i64 reload, .slice A1 ts.length c1] 54)).alloc (.cells #[.int .i64 0, .int .i64 0, .slice none 0 0, .int .i64 0, .int .i64 0, .slice none 0 0, .slice none 0 0] 57)).alloc (.cells #[.int .i64 sets, .int .i64 reload, .slice A1 ts.length c1, .int .i64 (wrap64 (1 + bits .and .i64 a0 1)), .int .i64 (wrap64 (1 + bits .and .i64 a1 3)), .slice none 0 0, .slice none 0 0] 57))) := ⟨below_alloc (below_alloc (below_alloc (below_alloc (Below.refl _ _) _) _) _) _⟩
  have hsz4 : ((((w.alloc (.cells #[.int .i64 a0, .int .i64 a1, .slice At lt.length ct, .slice Aq lq.length cq] 148)).alloc (.cells #[.int .i64 sets, .int .i64 reload, .slice A1 ts.length c1] 54)).alloc (.cells #[.int .i64 0, .int .i64 0, .slice none 0 0, .int .i64 0, .int .i64 0, .slice none 0 0, .slice none 0 0] 57)).alloc (.cells #[.int .i64 sets, .int .i64 reload, .slice A1 ts.length c1, .int .i64 (wrap64 (1 + bits .and .i64 a0 1)), .int .i64 (wrap64 (1 + bits .and .i64 a1 3)), .slice none 0 0, .slice none 0 0] 57)).heap.size = w.heap.size + 1 + 1 + 1 + 1 := by simp
  generalize (((w.alloc (.cells #[.int .i64 a0, .int .i64 a1, .slice At lt.length ct, .slice Aq lq.length cq] 148)).alloc (.cells #[.int .i64 sets, .int .i64 reload, .slice A1 ts.length c1] 54)).alloc (.cells #[.int .i64 0, .int .i64 0, .slice none 0 0, .int .i64 0, .int .i64 0, .slice none 0 0, .slice none 0 0] 57)).alloc (.cells #[.int .i64 sets, .int .i64 reload, .slice A1 ts.length c1, .int .i64 (wrap64 (1 + bits .and .i64 a0 1)), .int .i64 (wrap64 (1 + bits .and .i64 a1 3)), .slice none 0 0, .slice none 0 0] 57) = W0 at B0 B1 B2 B3 HB hsz4 ⊢
  generalize wrap64 (1 + bits .and .i64 a0 1) = pol at B3 ⊢
  generalize wrap64 (1 + bits .and .i64 a1 3) = mode at B3 ⊢
  have HZ4 := Aside0.mk hsz4
  clear hsz4
  have x3 : W0.cell? ⟨w.heap.size + 1 + 1 + 1, 3, none⟩ = some (.int .i64 pol) := (blk_cell B3.out 3).trans rfl
  have x4 : W0.cell? ⟨w.heap.size + 1 + 1 + 1, 4, none⟩ = some (.int .i64 mode) := (blk_cell B3.out 4).trans rfl
  have xf := blk_frozen B3.out 4
  go_cut [29] (fun b wx => (∃ bb, b = .bool bb) ∧ wx = W0)
  case first =>
    go_wp2_with fail
    all_goals
      go_meet
      case rel => exact ⟨⟨_, rfl⟩, rfl⟩
  case rest =>
  obtain ⟨⟨bb, rfl⟩, rfl⟩ := hcut
  go_upto_if 29 with fail
  go_cut [29] (fun b wx => ∃ mode, Aside0 (wx.heap.size = w.heap.size + 1 + 1 + 1 + 1) ∧ Aside0 (wx.heap[w.heap.size]? = some (.cells #[.int .i64 a0, .int .i64 a1, .slice At lt.length ct, .slice Aq lq.length cq] 148 (0, 0))) ∧ Aside0 (wx.heap[w.heap.size + 1]? = some (.cells #[.int .i64 sets, .int .i64 reload, .slice A1 ts.length c1] 54 (0, 0))) ∧ Aside0 (wx.heap[w.heap.size + 1 + 1]? = some (.cells #[.int .i64 0, .int .i64 0, .slice none 0 0, .int .i64 0, .int .i64 0, .slice none 0 0, .slice none 0 0] 57 (0, 0))) ∧ Aside0 (wx.heap[w.heap.size + 1 + 1 + 1]? = some (.cells #[.int .i64 sets, .int .i64 reload, .slice A1 ts.length c1, .int .i64 pol, .int .i64 mode, .slice none 0 0, .slice none 0 0] 57 (0, 0))) ∧ Aside0 (Below w.heap.size w wx))
  case first =>
    cases bb
    · go_wp2_with fail
      go_meet
      case rel => exact ⟨mode, HZ4, B0, B1, B2, B3, HB⟩
    · go_wp2_with fail
      go_meet
      case rel => exact ⟨1, ⟨by simpa using HZ4.out⟩, ⟨blk_far B0.out (by show w.heap.size ≠ w.heap.size + 1 + 1 + 1; omega) _⟩, ⟨blk_far B1.out (by show w.heap.size + 1 ≠ w.heap.size + 1 + 1 + 1; omega) _⟩, ⟨blk_far B2.out (by show w.heap.size + 1 + 1 ≠ w.heap.size + 1 + 1 + 1; omega) _⟩, ⟨by simpa using blk_set B3.out 4 _⟩, ⟨below_set HB.out (by omega)⟩⟩
  case rest =>
  clear x3 x4 xf HZ4 B0 B1 B2 B3 HB
  obtain ⟨mode2, HZ, B0, B1, B2, B3, HB⟩ := hcut
  have y0 : wc.cell? ⟨w.heap.size + 1, 0, none⟩ = some (.int .i64 sets) := (blk_cell B1.out 0).trans rfl
  have y1 : wc.cell? ⟨w.heap.size + 1, 1, none⟩ = some (.int .i64 reload) := (blk_cell B1.out 1).trans rfl
  have y2 : wc.cell? ⟨w.heap.size + 1, 2, none⟩ = some (.slice A1 ts.length c1) := (blk_cell B1.out 2).trans rfl
  go_wp2_with fail
  refine (prio_any (fun q => q < w.heap.size) sets reload A1 c1 ts wc hc1 (Kd.F_step (Kd.C_F k90_heap HS.out) (fun q hq _ => HB.out.block q hq)) h6).mono ?_
  rintro e w1 ⟨Al, cl, l, rfl, hll, hmem, hlc, hFl, hb⟩
  have HL := Aside0.mk (Kd.F_bound hFl)
  have HM := Aside0.mk hmem
  have HLL := Aside0.mk hll
  have hl1 : l.length ≤ ts.length := by omega
  have hl2 : ts.length ≤ l.length := by omega
  replace B0 := Aside0.mk (blk_below B0.out hb)
  replace B1 := Aside0.mk (blk_below B1.out hb)
  replace B2 := Aside0.mk (blk_below B2.out hb)
  replace B3 := Aside0.mk (blk_below B3.out hb)
  replace HB := Aside0.mk (below_then HB.out (by rw [HZ.out]; omega) hb)
  have hz : w.heap.size + 1 + 1 + 1 + 1 ≤ w1.heap.size := by have := hb.size; rw [HZ.out] at this; exact this
  rw [HZ.out] at HL
  obtain ⟨Z, hZ⟩ : ∃ Z, Z = w1.heap.size := ⟨_, rfl⟩
  have HZ1 := Aside0.mk hZ
  rw [← hZ] at HL hz
  clear hFl hmem hll hb hZ HZ y0 y1 y2
  go_wp2_with fail
  go_loopw [7] (fun kk wr => ∃ (i : Nat) (v5 v6 : Value) (th q : List Int), kk = .int .i64 i ∧ i ≤ ts.length ∧ th.length ≤ i ∧ i ≤ th.length ∧ q.length ≤ i ∧ i ≤ q.length ∧ Aside0 (Z ≤ wr.heap.size) ∧ Aside0 ((Kd.int .i64).R 3 wr Z (fun _ => True) v5 th) ∧ Aside0 ((Kd.int .i64).R 2 wr Z (fun _ => True) v6 q) ∧ Aside0 (Kd.F k90 wr (fun q => (q < w.heap.size ∨ w.heap.size + 1 + 1 + 1 + 1 ≤ q) ∧ q < Z) Al l.length l) ∧ Aside0 (wr.heap[w.heap.size]? = some (.cells #[.int .i64 a0, .int .i64 a1, .slice At lt.length ct, .slice Aq lq.length cq] 148 (0, 0))) ∧ Aside0 (wr.heap[w.heap.size + 1]? = some (.cells #[.int .i64 sets, .int .i64 reload, .slice A1 ts.length c1] 54 (0, 0))) ∧ Aside0 (wr.heap[w.heap.size + 1 + 1]? = some (.cells #[.int .i64 0, .int .i64 0, .slice none 0 0, .int .i64 0, .int .i64 0, .slice none 0 0, .slice none 0 0] 57 (0, 0))) ∧ Aside0 (wr.heap[w.heap.size + 1 + 1 + 1]? = some (.cells #[.int .i64 sets, .int .i64 reload, .slice A1 ts.length c1, .int .i64 pol, .int .i64 mode2, v5, v6] 57 (0, 0))) ∧ Aside0 (Below w.heap.size w wr)) (fun kk _ => ts.length - (intOf kk).toNat)
  case atStart => exact ⟨0, .slice none 0 0, .slice none 0 0, [], [], rfl, by omega, by simp, by simp, by simp, by simp, ⟨by rw [HZ1.out]; exact Nat.le_refl _⟩, ⟨Kd.R_nil _ _ _ _ _⟩, ⟨Kd.R_nil _ _ _ _ _⟩, HL, B0, B1, B2, B3, HB⟩
  case round =>
    clear HL B0 B1 B2 B3 HB HZ1
    obtain ⟨i, v5, v6, th, q, rfl, hi, ht1, ht2, hq1, hq2, HZ, H5, H6, HL, B0, B1, B2, B3, HB⟩ := hrel
    have y2 : wr.cell? ⟨w.heap.size + 1, 2, none⟩ = some (.slice A1 ts.length c1) := (blk_cell B1.out 2).trans rfl
    by_cases hin : i < ts.length
    · obtain ⟨Y, hY⟩ : ∃ Y, Y = wr.heap.size := ⟨_, rfl⟩
      have HY := Aside0.mk hY
      have hZY : Z ≤ Y := by rw [hY]; exact HZ.out
      clear hY
      have hi0 : (0 : Int) ≤ (i : Int) := by omega
      have hi1 : (i : Int) < ts.length := by omega
      replace H5 := Aside0.mk (Kd.R_mono (Kd.R_bound H5.out) (fun k hk => hk.2.2.1))
      rw [← HY.out] at H5
      go_wp2_with fail
      go_loopw [8, 9] (fun vv kk wx => ∃ (k : Nat) (v8 : Value) (may : List Int), kk = .int .i64 k ∧ vv = v8 ∧ k ≤ l.length ∧ may.length ≤ k ∧ Aside0 (∀ j : Nat, j < k → (rd_T90 l j).f4 ≤ (rd_T90 ts i).f4 → 0 < may.length) ∧ Aside0 (Y ≤ wx.heap.size) ∧ Aside0 ((Kd.int .i64).R 3 wx Y (fun _ => True) v8 may) ∧ Aside0 ((Kd.int .i64).R 3 wx Z (fun k => k < Y) v5 th) ∧ Aside0 ((Kd.int .i64).R 2 wx Z (fun _ => True) v6 q) ∧ Aside0 (Kd.F k90 wx (fun q => (q < w.heap.size ∨ w.heap.size + 1 + 1 + 1 + 1 ≤ q) ∧ q < Z) Al l.length l) ∧ Aside0 (wx.heap[w.heap.size]? = some (.cells #[.int .i64 a0, .int .i64 a1, .slice At lt.length ct, .slice Aq lq.length cq] 148 (0, 0))) ∧ Aside0 (wx.heap[w.heap.size + 1]? = some (.cells #[.int .i64 sets, .int .i64 reload, .slice A1 ts.length c1] 54 (0, 0))) ∧ Aside0 (wx.heap[w.heap.size + 1 + 1]? = some (.cells #[.int .i64 0, .int .i64 0, .slice none 0 0, .int .i64 0, .int .i64 0, .slice none 0 0, .slice none 0 0] 57 (0, 0))) ∧ Aside0 (wx.heap[w.heap.size + 1 + 1 + 1]? = some (.cells #[.int .i64 sets, .int .i64 reload, .slice A1 ts.length c1, .int .i64 pol, .int .i64 mode2, v5, v6] 57 (0, 0))) ∧ Aside0 (Below w.heap.size w wx)) (fun _ kk _ => l.length - (intOf kk).toNat)
      case atStart => exact ⟨0, .slice none 0 0, [], rfl, rfl, by omega, by simp, ⟨fun j hj => by omega⟩, ⟨by rw [HY.out]; exact Nat.le_refl _⟩, ⟨Kd.R_nil _ _ _ _ _⟩, H5, H6, HL, B0, B1, B2, B3, HB⟩
      case round =>
        clear HY H5 H6 HL B0 B1 B2 B3 HB HZ y2
        obtain ⟨k, v8, may, rfl, rfl, hk, hml, HP, HY, H8, H5, H6, HL, B0, B1, B2, B3, HB⟩ := hrel
        obtain ⟨A8, c8, rfl⟩ := Kd.R_slice H8.out
        have y2 : wr.cell? ⟨w.heap.size + 1, 2, none⟩ = some (.slice A1 ts.length c1) := (blk_cell B1.out 2).trans rfl
        obtain ⟨ads, C5, e5, C6, e6, eas, s0, s1, s2, s3, s4, s5, s6, -⟩ := at_T90 HS.out i (by omega) (by omega)
        subst eas
        rw [Int.toNat_natCast] at s0 s1 s2 s3 s4 s5 s6
        have hsb := World.block_lt_of_cell? w _ s0
        have S4 := (HB.out.cell (p := ⟨(ads.add (i * 7)).block, (ads.add (i * 7)).off + 4, none⟩) hsb).trans s4
        clear s0 s1 s2 s3 s4 s5 s6
        by_cases hkl : k < l.length
        · have hk0 : (0 : Int) ≤ (k : Int) := by omega
          have hk1 : (k : Int) < l.length := by omega
          obtain ⟨adl, D5, f5, D6, f6, eal, q0, q1, q2, q3, q4, q5, q6, -⟩ := at_T90 (Kd.F_now HL.out) k (by omega) (by omega)
          subst eal
          rw [Int.toNat_natCast] at q0 q1 q2 q3 q4 q5 q6
          clear q0 q1 q2 q3 q5 q6
          go_upto_region 12 with fail
          go_quiet (fail)
          go_wp2_with (at_builtin; refine Kd.R_append (Kd.int .i64) (w0 := wr.drewN nq) Y rfl (.tmp 58) (.tmp 64) 25 3 (.int .i64 0) 8 rfl Tryd.underlying25 info3 rfl (by decide) (by decide) (.slice A8 may.length c8) may (rd_T90 l k).f4 [.int .i64 (rd_T90 l k).f4] (fun _ => True) (fun _ => False) rfl rfl ?aP (fun _ hk => hk.elim) (fun _ _ => trivial) ?aO ?aB ?aS ?aL ?aR)
          case aP => exact rfl
          case aO => exact Kd.R_drewN H8.out _
          case aB => exact Below.refl _ _
          case aS => exact HY.out
          case aL => omega
          case aR =>
            intro v1 w2 ho hb hg hat
            have hbase : ∀ q, (Value.slice A8 may.length c8).ownBlock = some q → Y ≤ q := fun q e => by obtain ⟨inner, hoo⟩ := Kd.R_own H8.out; exact own_base hoo _ e
            have G0 := Aside0.mk (blk_grown (blk_drewN B0.out nq) hg (Kd.R_ne H8.out B0.out (by decide)))
            have G1 := Aside0.mk (blk_grown (blk_drewN B1.out nq) hg (Kd.R_ne H8.out B1.out (by decide)))
            have G2 := Aside0.mk (blk_grown (blk_drewN B2.out nq) hg (Kd.R_ne H8.out B2.out (by decide)))
            have G3 := Aside0.mk (blk_grown (blk_drewN B3.out nq) hg (Kd.R_ne H8.out B3.out (by decide)))
            have GL := Aside0.mk (Kd.F_grown (Kd.F_drewN HL.out nq) hg (fun q hq e => by have := hbase q e.symm; have := hq.2; omega))
            have G5 := Aside0.mk (Kd.R_grown (Kd.R_drewN H5.out nq) hg (fun q hq e => by have := hbase q e.symm; omega))
            have G6 := Aside0.mk (R_grown_types (Kd.R_drewN H6.out nq) (Kd.R_own (Kd.R_drewN H8.out nq)).choose_spec (by decide) hg)
            have GB := Aside0.mk ((pw_below_drewN HB.out nq).grown hg HB.out.size (fun q e => by have := hbase q e; omega))
            have G8 := Aside0.mk ho
            have GS : Aside0 (Y ≤ w2.heap.size) := ⟨Nat.le_trans HY.out hg.size⟩
            clear ho hb hg hat hbase
            go_wp2_with fail
            go_roundw
            case rel => exact ⟨k + 1, v1, may ++ [(rd_T90 l k).f4], by go_num, rfl, by omega, by simp; omega, ⟨fun j _ _ => by simp⟩, GS, G8, G5, G6, GL, G0, G1, G2, G3, GB⟩
            case measure => simp [intOf]; omega
          have hgt : (rd_T90 ts ↑i).f4 < (rd_T90 l ↑k).f4 := by assumption
          go_wp2_with fail
          go_roundw
          case rel => exact ⟨k + 1, _, may, by go_num, rfl, by omega, by omega, ⟨fun j hj hle => by
            rcases Nat.lt_or_ge j k with h | h
            · exact HP.out j h hle
            · have e : j = k := by omega
              subst e
              omega⟩, HY, ⟨Kd.R_drewN H8.out _⟩, ⟨Kd.R_drewN H5.out _⟩, ⟨Kd.R_drewN H6.out _⟩, ⟨Kd.F_drewN HL.out _⟩, ⟨blk_drewN B0.out _⟩, ⟨blk_drewN B1.out _⟩, ⟨blk_drewN B2.out _⟩, ⟨blk_drewN B3.out _⟩, ⟨pw_below_drewN HB.out _⟩⟩
          case measure => simp [intOf]; omega
        · have hpos : 0 < may.length := by
            have hm := HM.out (rd_T90 ts i) (mem_rd90 (by omega) (by omega))
            obtain ⟨j, hj⟩ := List.getElem?_of_mem hm
            have hjl := (List.getElem?_eq_some_iff.1 hj).1
            refine HP.out j (by omega) ?_
            have e : rd_T90 l j = rd_T90 ts i := by simp [rd_T90, List.getD_eq_getElem?_getD, hj]
            rw [e]
            exact Int.le_refl _
          clear S4 y2
          have z2 : wr.cell? ⟨w.heap.size, 2, none⟩ = some (.slice At lt.length ct) := (blk_cell B0.out 2).trans rfl
          have z3 : wr.cell? ⟨w.heap.size, 3, none⟩ = some (.slice Aq lq.length cq) := (blk_cell B0.out 3).trans rfl
          have hm1 : (may.length : Int) - 1 < may.length := by omega
          have hm2 : 1 ≤ (may.length : Int) := by omega
          have hm3 : (may.length : Int) ≤ 1000 := by omega
          have hm0 : ((may.length : Int) == 0) = false := beq_eq_false_iff_ne.mpr (by omega)
          have hm4 : ((may.length : Int) != 0) = true := bne_iff_ne.mpr (by omega)
          go_upto_if 73 with fail
          go_cut [10] (fun b wx => ∃ kk : Int, b = .int .i64 kk ∧ 0 ≤ kk ∧ kk < may.length ∧ wx = wr)
          case first =>
            by_cases hil : i < lt.length
            · obtain ⟨adt, ea, p0⟩ := Kd.at_int HT.out i (by omega) (by omega)
              subst ea
              rw [Int.toNat_natCast] at p0
              replace p0 := (HB.out.cell (World.block_lt_of_cell? w _ p0)).trans p0
              have hil' : (i : Int) < lt.length := by omega
              go_wp2_with fail
              all_goals
                go_meet
                case rel => exact ⟨_, rfl, (restV_bd (rd lt i) may.length hm2 hm3).1, (restV_bd (rd lt i) may.length hm2 hm3).2, rfl⟩
            · go_wp2_with fail
              go_meet
              case rel => exact ⟨_, rfl, by omega, by omega, rfl⟩
          case rest =>
          obtain ⟨kk, rfl, hkk0, hkk1, rfl⟩ := hcut
          obtain ⟨adm, eam, pm⟩ := Kd.at_int (Kd.R_reads' H8.out).2.2 kk hkk0 hkk1
          subst eam
          have x5 : wc.cell? ⟨w.heap.size + 1 + 1 + 1, 5, none⟩ = some v5 := (blk_cell B3.out 5).trans rfl
          have hn0 : some w.heap.size ≠ v5.ownBlock := Kd.R_ne H5.out B0.out (by decide)
          have hn1 : some (w.heap.size + 1) ≠ v5.ownBlock := Kd.R_ne H5.out B1.out (by decide)
          have hn2 : some (w.heap.size + 1 + 1) ≠ v5.ownBlock := Kd.R_ne H5.out B2.out (by decide)
          have hn3 : some (w.heap.size + 1 + 1 + 1) ≠ v5.ownBlock := Kd.R_ne H5.out B3.out (by decide)
          have hbv : ∀ q, v5.ownBlock = some q → Z ≤ q := fun q e => by obtain ⟨inner, hoo⟩ := Kd.R_own H5.out; exact own_base hoo _ e
          have hn5 : some (adm.add kk.toNat).block ≠ v5.ownBlock := fun e => by
            have h1 := H5.out.1 _ e.symm
            have h2 : ∀ q, (Value.slice (some adm) may.length c8).ownBlock = some q → Y ≤ q := fun q e => by obtain ⟨inner, hoo⟩ := Kd.R_own H8.out; exact own_base hoo _ e
            have h3 := h2 adm.block rfl
            have h4 : (adm.add kk.toNat).block = adm.block := add_block _ _
            omega
          have HBV := Aside0.mk hbv
          have HZ3 : Aside0 (Z ≤ wc.drew.heap.size) := ⟨Nat.le_trans hZY HY.out⟩
          clear hbv
          replace B0 := Aside0.mk (blk_drew B0.out)
          replace B1 := Aside0.mk (blk_drew B1.out)
          replace B2 := Aside0.mk (blk_drew B2.out)
          replace B3 := Aside0.mk (blk_drew B3.out)
          replace H5 := Aside0.mk (Kd.R_drew H5.out)
          replace H6 := Aside0.mk (Kd.R_drew H6.out)
          replace HL := Aside0.mk (Kd.F_drew HL.out)
          replace HB := Aside0.mk (below_drew1 HB.out)
          clear z2 z3 hm1 hm2 hm3 hm0 hm4 HP H8 HY
          go_upto_region 17 with fail
          refine start_ (n := 10) (S := fun w' => w'.cell? ⟨w.heap.size + 1 + 1 + 1, 5, none⟩ = some v5 ∧ w'.cell? (adm.add kk.toNat) = some (.int .i64 (rd may kk))) (ds := [9]) #[false, false, false, false, false, false, false, false, false, false] (by kernel_rfl) rfl rfl ⟨x5, pm⟩ (fun hHeld => ?_)
          have hHeld0 := hHeld
          generalize wc.drew = W4 at H5 H6 HL B0 B1 B2 B3 HB HZ3 hHeld hHeld0 ⊢
          refine pure_ (i := 0) (N := some 88) (v := ?_) (a' := ?_) #[true, false, false, false, false, false, false, false, false, false] rfl rfl (by kernel_rfl) (fun _ _ _ h => h) (Or.inl ⟨by rfl, ?_⟩) ?_ ?_
          rotate_left
          · rintro w'
            go_simp
            with_reducible rfl
          rotate_left
          · simp only [Act.put, List.setIfInBounds_toArray, List.set_cons_zero, List.set_cons_succ, i64_w, i32_w]
            rfl
          refine take_ (i := 1) (N := some 89) (v := ?_) (a' := ?_) #[true, true, false, false, false, false, false, false, false, false] rfl rfl (by kernel_rfl) (fun _ _ _ h => h) (Or.inl ⟨by rfl, ?_⟩) hHeld ?_ ?_
          rotate_left
          · rintro w' ⟨s0, s1⟩
            go_simp
            with_reducible rfl
          rotate_left
          · simp only [Act.put, List.setIfInBounds_toArray, List.set_cons_zero, List.set_cons_succ, i64_w, i32_w]
            rfl
          refine pure_ (i := 2) (N := some 90) (v := ?_) (a' := ?_) #[true, true, true, false, false, false, false, false, false, false] rfl rfl (by kernel_rfl) (fun _ _ _ h => h) (Or.inl ⟨by rfl, ?_⟩) ?_ ?_
          rotate_left
          · rintro w'
            go_simp
            with_reducible rfl
          rotate_left
          · simp only [Act.put, List.setIfInBounds_toArray, List.set_cons_zero, List.set_cons_succ, i64_w, i32_w]
            rfl
          refine pure_ (i := 3) (N := some 91) (v := ?_) (a' := ?_) #[true, true, true, true, false, false, false, false, false, false] rfl rfl (by kernel_rfl) (fun _ _ _ h => h) (Or.inl ⟨by rfl, ?_⟩) ?_ ?_
          rotate_left
          · rintro w'
            go_simp
            with_reducible rfl
          rotate_left
          · simp only [Act.put, List.setIfInBounds_toArray, List.set_cons_zero, List.set_cons_succ, i64_w, i32_w]
            rfl
          refine pure_ (i := 4) (N := some 92) (v := ?_) (a' := ?_) #[true, true, true, true, true, false, false, false, false, false] rfl rfl (by kernel_rfl) (fun _ _ _ h => h) (Or.inl ⟨by rfl, ?_⟩) ?_ ?_
          rotate_left
          · rintro w'
            go_simp
            with_reducible rfl
          rotate_left
          · simp only [Act.put, List.setIfInBounds_toArray, List.set_cons_zero, List.set_cons_succ, i64_w, i32_w]
            rfl
          refine take_ (i := 5) (N := some 93) (v := ?_) (a' := ?_) #[true, true, true, true, true, true, false, false, false, false] rfl rfl (by kernel_rfl) (fun _ _ _ h => h) (Or.inl ⟨by rfl, ?_⟩) hHeld ?_ ?_
          rotate_left
          · rintro w' ⟨s0, s1⟩
            go_simp
            with_reducible rfl
          rotate_left
          · simp only [Act.put, List.setIfInBounds_toArray, List.set_cons_zero, List.set_cons_succ, i64_w, i32_w]
            rfl
          refine one_ (i := 6) (N := some 94) #[true, true, true, true, true, true, true, false, false, false] rfl rfl (by kernel_rfl) (by decide) (fun K hK => ?_)
          refine value_ (w1 := ?_) (v := ?_) (by rfl) rfl ?_ ?_
          rotate_left 2
          · go_simp
            constructor
            · rfl
            · rfl
          refine hK.out _ _ ⟨by go_keep, by go_keep⟩ (fun hHeld => ?_)
          clear hK K
          refine norm_ (a' := ?_) ?_ ?_
          rotate_left
          · simp only [Act.put, List.setIfInBounds_toArray, List.set_cons_zero, List.set_cons_succ, i64_w, i32_w]
            rfl
          refine one_ (i := 7) (N := some 95) #[true, true, true, true, true, true, true, true, false, false] rfl rfl (by kernel_rfl) (by decide) (fun K hK => ?_)
          refine Kd.R_append_step (Kd.int .i64) (w0 := W4) (W := W4) Z (by rfl) _ _ _ 3 _ 8 (by rfl) Tryd.underlying25 info3 (by rfl) (by decide) (by decide) v5 th (rd may kk) [.int .i64 (rd may kk)] (fun _ => True) (fun _ => False) (by rfl) (by rfl) rfl (fun _ h => h.elim) (fun _ _ => trivial) (Kd.R_mono H5.out (fun _ _ => trivial)) (Below.refl _ _) HZ3.out (by omega) ?_
          intro v1 w4 hR hB4 hg4 hat4
          obtain ⟨A5, c5, rfl⟩ := Kd.R_slice hR
          have G0 := Aside0.mk (blk_grown B0.out hg4 hn0)
          have G1 := Aside0.mk (blk_grown B1.out hg4 hn1)
          have G2 := Aside0.mk (blk_grown B2.out hg4 hn2)
          have BX1 := blk_grown B3.out hg4 hn3
          have ef := blk_frozen BX1 5
          refine hK.out _ _ ⟨(blk_cell BX1 5).trans rfl, hg4.cell hHeld0.2 hn5⟩ (fun hHeld => ?_)
          clear hK K
          refine norm_ (a' := ?_) ?_ ?_
          rotate_left
          · show Act.put _ (some 95) _ = _
            simp only [Act.put, List.setIfInBounds_toArray, List.set_cons_zero, List.set_cons_succ, i64_w, i32_w]
            rfl
          refine pure_ (i := 8) (N := some 96) (v := ?_) (a' := ?_) #[true, true, true, true, true, true, true, true, true, false] rfl rfl (by kernel_rfl) (fun _ _ _ h => h) (Or.inl ⟨by rfl, ?_⟩) ?_ ?_
          rotate_left
          · rintro w'
            go_simp
            with_reducible rfl
          rotate_left
          · simp only [Act.put, List.setIfInBounds_toArray, List.set_cons_zero, List.set_cons_succ, i64_w, i32_w]
            rfl
          refine last_ (i := 9) (N := none) #[true, true, true, true, true, true, true, true, true, true] rfl rfl (by kernel_rfl) (by decide) (fun K hK => ?_)
          refine skip_ (w1 := ?_) (by rfl) rfl ?_ ?_
          rotate_left
          · go_simp
            rfl
          refine hK.out _ _ ?_
          clear hK K
          refine done_ (by kernel_rfl) ?_
          have E6 := Aside0.mk (Kd.R_set (R_grown_types H6.out (Kd.R_own H5.out).choose_spec (by decide) hg4) BX1 (by decide) 5 (.slice A5 (th.length + 1) c5))
          have E5 := Aside0.mk (Kd.R_set hR BX1 (by decide) 5 (.slice A5 (th.length + 1) c5))
          have EL := Aside0.mk (Kd.F_far (p := ⟨w.heap.size + 1 + 1 + 1, 5, none⟩) (Kd.F_grown HL.out hg4 (fun q hq e => by have := HBV.out q e.symm; have := hq.2; omega)) (fun q hq e => by have e' : q = w.heap.size + 1 + 1 + 1 := e; have := hq.1; omega) (.slice A5 (th.length + 1) c5))
          have EB := Aside0.mk (below_set (v := .slice A5 (th.length + 1) c5) (j := 5) (g := w.heap.size + 1 + 1 + 1) (HB.out.grown hg4 HB.out.size (fun q e => by have := HBV.out q e; omega)) (by omega))
          have E0 := Aside0.mk (blk_far (p := ⟨w.heap.size + 1 + 1 + 1, 5, none⟩) G0.out (by show w.heap.size ≠ w.heap.size + 1 + 1 + 1; omega) (.slice A5 (th.length + 1) c5))
          have E1 := Aside0.mk (blk_far (p := ⟨w.heap.size + 1 + 1 + 1, 5, none⟩) G1.out (by show w.heap.size + 1 ≠ w.heap.size + 1 + 1 + 1; omega) (.slice A5 (th.length + 1) c5))
          have E2 := Aside0.mk (blk_far (p := ⟨w.heap.size + 1 + 1 + 1, 5, none⟩) G2.out (by show w.heap.size + 1 + 1 ≠ w.heap.size + 1 + 1 + 1; omega) (.slice A5 (th.length + 1) c5))
          have E3 : Aside0 ((w4.setCell ⟨w.heap.size + 1 + 1 + 1, 5, none⟩ (.slice A5 (th.length + 1) c5)).heap[w.heap.size + 1 + 1 + 1]? = some (.cells #[.int .i64 sets, .int .i64 reload, .slice (some ads) ts.length c1, .int .i64 pol, .int .i64 mode2, .slice A5 (th.length + 1) c5, v6] 57 (0, 0))) := ⟨by simpa using blk_set BX1 5 (.slice A5 (th.length + 1) c5)⟩
          have EZ : Aside0 (Z ≤ (w4.setCell ⟨w.heap.size + 1 + 1 + 1, 5, none⟩ (.slice A5 (th.length + 1) c5)).heap.size) := ⟨by have := HZ3.out; have := hg4.size; simp; omega⟩
          have hlen5 : (th ++ [rd may kk]).length = th.length + 1 := by simp
          rw [hlen5] at E5
          have ht3 : (th ++ [rd may kk]).length ≤ i + 1 := by omega
          have ht4 : i + 1 ≤ (th ++ [rd may kk]).length := by omega
          generalize w4.setCell ⟨w.heap.size + 1 + 1 + 1, 5, none⟩ (.slice A5 (th.length + 1) c5) = W5 at E0 E1 E2 E3 E5 E6 EL EB EZ ⊢
          have z3 : W5.cell? ⟨w.heap.size, 3, none⟩ = some (.slice Aq lq.length cq) := (blk_cell E0.out 3).trans rfl
          clear hg4 hat4 hB4 hR BX1 ef G0 G1 G2 B0 B1 B2 B3 H5 H6 HL HB HZ3 HBV hHeld hHeld0 hn0 hn1 hn2 hn3 hn5 x5 pm hlen5
          go_upto_if 101 with fail
          go_cut [11] (fun b wx => ∃ kk : Int, b = .int .i64 kk ∧ wx = W5)
          case first =>
            by_cases hil : i < lq.length
            · obtain ⟨adt, ea, p0⟩ := Kd.at_int HQ.out i (by omega) (by omega)
              subst ea
              rw [Int.toNat_natCast] at p0
              replace p0 := (EB.out.cell (World.block_lt_of_cell? w _ p0)).trans p0
              have hil' : (i : Int) < lq.length := by omega
              go_wp2_with fail
              all_goals
                go_meet
                case rel => exact ⟨_, rfl, rfl⟩
            · go_wp2_with fail
              go_meet
              case rel => exact ⟨_, rfl, rfl⟩
          case rest =>
          obtain ⟨qv, rfl, rfl⟩ := hcut
          have x6 := (blk_cell E3.out 6).trans rfl
          have xf6 := blk_frozen E3.out 6
          go_wp2_with (at_builtin; refine Kd.R_append (Kd.int .i64) (w0 := wc) Z rfl (.tmp 109) (.tmp 111) 55 2 (.int .i64 0) 8 rfl Tryd.underlying55 info2 rfl (by decide) (by decide) v6 q qv [.int .i64 qv] (fun _ => True) (fun _ => False) rfl rfl ?aP (fun _ hk => hk.elim) (fun _ _ => trivial) ?aO ?aB ?aS ?aL ?aR)
          case aP => exact rfl
          case aO => exact E6.out
          case aB => exact Below.refl _ _
          case aS => exact EZ.out
          case aL => omega
          case aR =>
          intro v1 w6 ho hb hg hat
          obtain ⟨A6, c6, rfl⟩ := Kd.R_slice ho
          have hbase : ∀ q, v6.ownBlock = some q → Z ≤ q := fun q e => by obtain ⟨inner, hoo⟩ := Kd.R_own E6.out; exact own_base hoo _ e
          have BX1 := blk_grown E3.out hg (Kd.R_ne E6.out E3.out (by decide))
          have hcx : w6.cell? ⟨w.heap.size + 1 + 1 + 1, 6, none⟩ = some v6 := (blk_cell BX1 6).trans rfl
          have hfx := blk_frozen BX1 6
          have F0 := Aside0.mk (blk_far (p := ⟨w.heap.size + 1 + 1 + 1, 6, none⟩) (blk_grown E0.out hg (Kd.R_ne E6.out E0.out (by decide))) (by show w.heap.size ≠ w.heap.size + 1 + 1 + 1; omega) (.slice A6 (q.length + 1) c6))
          have F1 := Aside0.mk (blk_far (p := ⟨w.heap.size + 1 + 1 + 1, 6, none⟩) (blk_grown E1.out hg (Kd.R_ne E6.out E1.out (by decide))) (by show w.heap.size + 1 ≠ w.heap.size + 1 + 1 + 1; omega) (.slice A6 (q.length + 1) c6))
          have F2 := Aside0.mk (blk_far (p := ⟨w.heap.size + 1 + 1 + 1, 6, none⟩) (blk_grown E2.out hg (Kd.R_ne E6.out E2.out (by decide))) (by show w.heap.size + 1 + 1 ≠ w.heap.size + 1 + 1 + 1; omega) (.slice A6 (q.length + 1) c6))
          have F3 : Aside0 ((w6.setCell ⟨w.heap.size + 1 + 1 + 1, 6, none⟩ (.slice A6 (q.length + 1) c6)).heap[w.heap.size + 1 + 1 + 1]? = some (.cells #[.int .i64 sets, .int .i64 reload, .slice (some ads) ts.length c1, .int .i64 pol, .int .i64 mode2, .slice A5 (th.length + 1) c5, .slice A6 (q.length + 1) c6] 57 (0, 0))) := ⟨by simpa using blk_set BX1 6 (.slice A6 (q.length + 1) c6)⟩
          have F5 := Aside0.mk (Kd.R_set (R_grown_types E5.out (Kd.R_own E6.out).choose_spec (by decide) hg) BX1 (by decide) 6 (.slice A6 (q.length + 1) c6))
          have hlq : (q ++ [qv]).length = q.length + 1 := by simp
          have hq3 : (q ++ [qv]).length ≤ i + 1 := by omega
          have hq4 : i + 1 ≤ (q ++ [qv]).length := by omega
          rw [hlq] at ho
          have F6 := Aside0.mk (Kd.R_set ho BX1 (by decide) 6 (.slice A6 (q.length + 1) c6))
          have FL := Aside0.mk (Kd.F_far (p := ⟨w.heap.size + 1 + 1 + 1, 6, none⟩) (Kd.F_grown EL.out hg (fun q hq e => by have := hbase q e.symm; have := hq.2; omega)) (fun q hq e => by have e' : q = w.heap.size + 1 + 1 + 1 := e; have := hq.1; omega) (.slice A6 (q.length + 1) c6))
          have FB := Aside0.mk (below_set (v := .slice A6 (q.length + 1) c6) (j := 6) (g := w.heap.size + 1 + 1 + 1) (EB.out.grown hg EB.out.size (fun q e => by have := hbase q e; omega)) (by omega))
          have FZ : Aside0 (Z ≤ (w6.setCell ⟨w.heap.size + 1 + 1 + 1, 6, none⟩ (.slice A6 (q.length + 1) c6)).heap.size) := ⟨by have := EZ.out; have := hg.size; simp; omega⟩
          clear BX1 ho hb hg hat hbase x6 xf6 z3 hlq E0 E1 E2 E3 E5 E6 EL EB EZ
          go_wp2_with fail
          go_roundw
          case rel => exact ⟨i + 1, _, _, th ++ [rd may kk], q ++ [qv], by go_num, by omega, ht3, ht4, hq3, hq4, FZ, F5, F6, FL, F0, F1, F2, F3, FB⟩
          case measure => simp [intOf]; omega
    · obtain ⟨A5, c5, rfl⟩ := Kd.R_slice H5.out
      obtain ⟨A6, c6, rfl⟩ := Kd.R_slice H6.out
      have x0 : wr.cell? ⟨w.heap.size + 1 + 1 + 1, 0, none⟩ = some (.int .i64 sets) := (blk_cell B3.out 0).trans rfl
      have x1 : wr.cell? ⟨w.heap.size + 1 + 1 + 1, 1, none⟩ = some (.int .i64 reload) := (blk_cell B3.out 1).trans rfl
      have x2 : wr.cell? ⟨w.heap.size + 1 + 1 + 1, 2, none⟩ = some (.slice A1 ts.length c1) := (blk_cell B3.out 2).trans rfl
      have x3 : wr.cell? ⟨w.heap.size + 1 + 1 + 1, 3, none⟩ = some (.int .i64 pol) := (blk_cell B3.out 3).trans rfl
      have x4 : wr.cell? ⟨w.heap.size + 1 + 1 + 1, 4, none⟩ = some (.int .i64 mode2) := (blk_cell B3.out 4).trans rfl
      have x5 : wr.cell? ⟨w.heap.size + 1 + 1 + 1, 5, none⟩ = some (.slice A5 th.length c5) := (blk_cell B3.out 5).trans rfl
      have x6 : wr.cell? ⟨w.heap.size + 1 + 1 + 1, 6, none⟩ = some (.slice A6 q.length c6) := (blk_cell B3.out 6).trans rfl
      have r0 : wr.cell? ⟨w.heap.size + 1 + 1, 0, none⟩ = some (.int .i64 0) := (blk_cell B2.out 0).trans rfl
      have r1 : wr.cell? ⟨w.heap.size + 1 + 1, 1, none⟩ = some (.int .i64 0) := (blk_cell B2.out 1).trans rfl
      have r2 : wr.cell? ⟨w.heap.size + 1 + 1, 2, none⟩ = some (.slice none 0 0) := (blk_cell B2.out 2).trans rfl
      have r3 : wr.cell? ⟨w.heap.size + 1 + 1, 3, none⟩ = some (.int .i64 0) := (blk_cell B2.out 3).trans rfl
      have r4 : wr.cell? ⟨w.heap.size + 1 + 1, 4, none⟩ = some (.int .i64 0) := (blk_cell B2.out 4).trans rfl
      have r5 : wr.cell? ⟨w.heap.size + 1 + 1, 5, none⟩ = some (.slice none 0 0) := (blk_cell B2.out 5).trans rfl
      have r6 : wr.cell? ⟨w.heap.size + 1 + 1, 6, none⟩ = some (.slice none 0 0) := (blk_cell B2.out 6).trans rfl
      have rf := fun j => blk_frozen B2.out j
      go_wp2_with fail
      refine bodyPost_ret (v := .agg #[.int .i64 sets, .int .i64 reload, .slice A1 ts.length c1, .int .i64 pol, .int .i64 mode2, .slice A5 th.length c5, .slice A6 q.length c6]) (results_single rfl (.cell (w.heap.size + 1 + 1) 57 _ (0, 0) _ rfl (fill7 B2.out) Tryd.underlying57 rfl (by kernel_rfl) .nil)) rfl ?_
      exact ⟨pol, mode2, _, _, th, q, rfl, by omega, by omega, R_sets7 (Kd.R_lower H5.out (by omega)) B2.out (by decide) _ _ _ _ _ _ _, R_sets7 (Kd.R_lower H6.out (by omega)) B2.out (by decide) _ _ _ _ _ _ _, by repeat (with_reducible first | exact HB.out | apply bset2)⟩
end Go.Proofs.YtbldolbeijpipaaDoor

import Derived.Test.YtbldolbeijpipaaDoorHMade
namespace Go.Proofs.YtbldolbeijpipaaDoor
open Go.RowKit Go.Proofs.YtbldolbeijpipaaDoorW.PrintWords Go.Proofs.YtbldolbeijpipaaDoorW.PrintLast Go.Proofs.YtbldolbeijpipaaDoorW.PrintMore
set_option linter.unusedVariables false
set_option linter.unusedSimpArgs false
theorem info139 : (Tryd.prog.info? 139).map (fun i => (i.zero, i.size, i.bytes)) = some (some (.agg #[.int .i64 0, .int .i64 0, .int .i64 0, .int .i64 0, .int .i64 0, .slice none 0 0]), 6, 64) := by kernel_rfl
/-- The document's numbers of a task are the same. -/
def num (x : S140) : S139 := ⟨x.f0, x.f1, x.f2, x.f3, x.f4, x.f5⟩
set_option maxHeartbeats 1600000 in
set_option maxRecDepth 100000 in
theorem sys_any (a0 a1 : Int) (An : Option Addr) (cn : Nat) (ln : List S140) (w : World) (hn : k140.C w An ln.length ln) :
    Calls Tryd.prog 30 #[.agg #[.int .i64 a0, .int .i64 a1, .slice An ln.length cn]] w (MadeP w) := by
  have HN := Aside0.mk hn
  have hlen := hn.2.1
  clear hn
  go_enter Tryd.func30, Tryd.ntmps30
  go_wp2_with fail
  have BN := Aside0.mk (blk_alloc (blk_alloc (blk_new w (.cells #[.int .i64 a0, .int .i64 a1, .slice An ln.length cn] 24)) (.cells #[.int .i64 0, .int .i64 0, .slice none 0 0] 54)) (.cells #[.int .i64 a0, .int .i64 a1, .slice none 0 0] 137))
  have BR : Aside0 ((((w.alloc (.cells #[.int .i64 a0, .int .i64 a1, .slice An ln.length cn] 24)).alloc (.cells #[.int .i64 0, .int .i64 0, .slice none 0 0] 54)).alloc (.cells #[.int .i64 a0, .int .i64 a1, .slice none 0 0] 137)).heap[w.heap.size + 1]? = some (.cells #[.int .i64 0, .int .i64 0, .slice none 0 0] 54 (0, 0))) := ⟨blk_alloc (blk_nw _ _ _ (by simp)) _⟩
  have BX : Aside0 ((((w.alloc (.cells #[.int .i64 a0, .int .i64 a1, .slice An ln.length cn] 24)).alloc (.cells #[.int .i64 0, .int .i64 0, .slice none 0 0] 54)).alloc (.cells #[.int .i64 a0, .int .i64 a1, .slice none 0 0] 137)).heap[w.heap.size + 1 + 1]? = some (.cells #[.int .i64 a0, .int .i64 a1, .slice none 0 0] 137 (0, 0))) := ⟨blk_nw _ _ _ (by simp)⟩
  have HB := Aside0.mk (below_alloc (below_alloc (below_alloc (Below.refl w.heap.size w) (.cells #[.int .i64 a0, .int .i64 a1, .slice An ln.length cn] 24)) (.cells #[.int .i64 0, .int .i64 0, .slice none 0 0] 54)) (.cells #[.int .i64 a0, .int .i64 a1, .slice none 0 0] 137))
  generalize ((w.alloc (.cells #[.int .i64 a0, .int .i64 a1, .slice An ln.length cn] 24)).alloc (.cells #[.int .i64 0, .int .i64 0, .slice none 0 0] 54)).alloc (.cells #[.int .i64 a0, .int .i64 a1, .slice none 0 0] 137) = W0 at BN BR BX HB ⊢
  go_loopw [4] (fun kk wr => ∃ (k : Nat) (v : Value) (ts : List S139), kk = .int .i64 k ∧ k ≤ 6 ∧ k ≤ ln.length ∧ ts.length ≤ k ∧ Aside0 (Kd.N k139 139 wr w.heap.size (fun q => q ≠ w.heap.size + 1 + 1) v ts) ∧ Aside0 (wr.heap[w.heap.size]? = some (.cells #[.int .i64 a0, .int .i64 a1, .slice An ln.length cn] 24 (0, 0))) ∧ Aside0 (wr.heap[w.heap.size + 1]? = some (.cells #[.int .i64 0, .int .i64 0, .slice none 0 0] 54 (0, 0))) ∧ Aside0 (wr.heap[w.heap.size + 1 + 1]? = some (.cells #[.int .i64 a0, .int .i64 a1, v] 137 (0, 0))) ∧ Aside0 (Below w.heap.size w wr)) (fun kk _ => 6 - (intOf kk).toNat)
  case atStart => exact ⟨0, .slice none 0 0, [], rfl, by omega, by omega, by simp, ⟨Kd.N_nil _ _ _ _ _⟩, BN, BR, BX, HB⟩
  case round =>
    clear BN BR BX HB
    obtain ⟨k, v, ts, rfl, hk6, hkl, ht1, HV, BN, BR, BX, HB⟩ := hrel
    have n2 : wr.cell? ⟨w.heap.size, 2, none⟩ = some (.slice An ln.length cn) := (blk_cell BN.out 2).trans rfl
    have x2 : wr.cell? ⟨w.heap.size + 1 + 1, 2, none⟩ = some v := (blk_cell BX.out 2).trans rfl
    have fx := blk_frozen BX.out 2
    by_cases hin : k < ln.length ∧ k < 6
    · obtain ⟨hin1, hin2⟩ := hin
      have hk0 : (0 : Int) ≤ (k : Int) := by omega
      have hk1' : (k : Int) < ln.length := by omega
      have hk6' : (k : Int) ≤ 5 := by omega
      obtain ⟨ad, A5, c5, ea, p0, p1, p2, p3, p4, p5, l5, g5⟩ := at_T140 HN.out k (by omega) (by omega)
      subst ea
      rw [Int.toNat_natCast] at p0 p1 p2 p3 p4 p5
      have hadb := World.block_lt_of_cell? w _ p0
      have hnv : some (ad.add (k * 6)).block ≠ v.ownBlock := fun e => by have := Kd.N_base HV.out _ e.symm; omega
      have G5 := Aside0.mk (Kd.C_F (Kd.heap_int .i64) g5)
      have L5 := Aside0.mk l5
      clear g5 l5
      replace p0 := (HB.out.cell hadb).trans p0
      replace p1 := (HB.out.cell (p := ⟨(ad.add (k * 6)).block, (ad.add (k * 6)).off + 1, none⟩) hadb).trans p1
      replace p2 := (HB.out.cell (p := ⟨(ad.add (k * 6)).block, (ad.add (k * 6)).off + 2, none⟩) hadb).trans p2
      replace p3 := (HB.out.cell (p := ⟨(ad.add (k * 6)).block, (ad.add (k * 6)).off + 3, none⟩) hadb).trans p3
      replace p4 := (HB.out.cell (p := ⟨(ad.add (k * 6)).block, (ad.add (k * 6)).off + 4, none⟩) hadb).trans p4
      replace p5 := (HB.out.cell (p := ⟨(ad.add (k * 6)).block, (ad.add (k * 6)).off + 5, none⟩) hadb).trans p5
      have hnx : some (w.heap.size + 1 + 1) ≠ v.ownBlock := Kd.N_ne HV.out BX.out (by decide)
      have hnn : some (w.heap.size) ≠ v.ownBlock := Kd.N_ne HV.out BN.out (by decide)
      have hnr : some (w.heap.size + 1) ≠ v.ownBlock := Kd.N_ne HV.out BR.out (by decide)
      go_upto_region 5 with fail
      replace BX := Aside0.mk (blk_drew BX.out)
      replace BN := Aside0.mk (blk_drew BN.out)
      replace BR := Aside0.mk (blk_drew BR.out)
      replace HV := Aside0.mk (Kd.N_drew HV.out)
      replace HB := Aside0.mk (below_drew1 HB.out)
      refine start_ (n := 11) (S := fun w' => w'.cell? ⟨w.heap.size + 1 + 1, 2, none⟩ = some v ∧ w'.cell? ⟨w.heap.size, 2, none⟩ = some (.slice (some ad) ln.length cn) ∧ w'.cell? (ad.add (k * 6)) = some (.int .i64 (rd_T140 ln ↑k).f0) ∧ w'.cell? ⟨(ad.add (k * 6)).block, (ad.add (k * 6)).off + 1, none⟩ = some (.int .i64 (rd_T140 ln ↑k).f1) ∧ w'.cell? ⟨(ad.add (k * 6)).block, (ad.add (k * 6)).off + 2, none⟩ = some (.int .i64 (rd_T140 ln ↑k).f2) ∧ w'.cell? ⟨(ad.add (k * 6)).block, (ad.add (k * 6)).off + 3, none⟩ = some (.int .i64 (rd_T140 ln ↑k).f3) ∧ w'.cell? ⟨(ad.add (k * 6)).block, (ad.add (k * 6)).off + 4, none⟩ = some (.int .i64 (rd_T140 ln ↑k).f4) ∧ w'.cell? ⟨(ad.add (k * 6)).block, (ad.add (k * 6)).off + 5, none⟩ = some (.slice A5 (rd_T140 ln ↑k).f5.length c5)) (ds := [10]) #[false, false, false, false, false, false, false, false, false, false, false] (by kernel_rfl) rfl rfl ⟨x2, n2, p0, p1, p2, p3, p4, p5⟩ (fun hHeld => ?_)
      have hHeld0 := hHeld
      generalize wr.drew = W4 at HV BX BN BR HB hHeld hHeld0 ⊢
      refine pure_ (i := 0) (N := some 21) (v := ?_) (a' := ?_) #[true, false, false, false, false, false, false, false, false, false, false] rfl rfl (by kernel_rfl) (fun _ _ _ h => h) (Or.inl ⟨by rfl, ?_⟩) ?_ ?_
      rotate_left
      · rintro w'
        go_simp
        with_reducible rfl
      rotate_left
      · simp only [Act.put, List.setIfInBounds_toArray, List.set_cons_zero, List.set_cons_succ, i64_w, i32_w]
        rfl
      refine take_ (i := 1) (N := some 22) (v := ?_) (a' := ?_) #[true, true, false, false, false, false, false, false, false, false, false] rfl rfl (by kernel_rfl) (fun _ _ _ h => h) (Or.inl ⟨by rfl, ?_⟩) hHeld ?_ ?_
      rotate_left
      · rintro w' ⟨s0, s1, s2, s3, s4, s5, s6, s7⟩
        go_simp
        with_reducible rfl
      rotate_left
      · simp only [Act.put, List.setIfInBounds_toArray, List.set_cons_zero, List.set_cons_succ, i64_w, i32_w]
        rfl
      refine pure_ (i := 2) (N := some 23) (v := ?_) (a' := ?_) #[true, true, true, false, false, false, false, false, false, false, false] rfl rfl (by kernel_rfl) (fun _ _ _ h => h) (Or.inl ⟨by rfl, ?_⟩) ?_ ?_
      rotate_left
      · rintro w'
        go_simp
        with_reducible rfl
      rotate_left
      · simp only [Act.put, List.setIfInBounds_toArray, List.set_cons_zero, List.set_cons_succ, i64_w, i32_w]
        rfl
      refine take_ (i := 3) (N := some 24) (v := ?_) (a' := ?_) #[true, true, true, true, false, false, false, false, false, false, false] rfl rfl (by kernel_rfl) (fun _ _ _ h => h) (Or.inl ⟨by rfl, ?_⟩) hHeld ?_ ?_
      rotate_left
      · rintro w' ⟨s0, s1, s2, s3, s4, s5, s6, s7⟩
        go_simp
        with_reducible rfl
      rotate_left
      · simp only [Act.put, List.setIfInBounds_toArray, List.set_cons_zero, List.set_cons_succ, i64_w, i32_w]
        rfl
      refine pure_ (i := 4) (N := some 25) (v := ?_) (a' := ?_) #[true, true, true, true, true, false, false, false, false, false, false] rfl rfl (by kernel_rfl) (fun _ _ _ h => h) (Or.inl ⟨by rfl, ?_⟩) ?_ ?_
      rotate_left
      · rintro w'
        go_simp
        with_reducible rfl
      rotate_left
      · simp only [Act.put, List.setIfInBounds_toArray, List.set_cons_zero, List.set_cons_succ, i64_w, i32_w]
        rfl
      refine pure_ (i := 5) (N := some 26) (v := ?_) (a' := ?_) #[true, true, true, true, true, true, false, false, false, false, false] rfl rfl (by kernel_rfl) (fun _ _ _ h => h) (Or.inl ⟨by rfl, ?_⟩) ?_ ?_
      rotate_left
      · rintro w'
        go_simp
        with_reducible rfl
      rotate_left
      · simp only [Act.put, List.setIfInBounds_toArray, List.set_cons_zero, List.set_cons_succ, i64_w, i32_w]
        rfl
      refine take_ (i := 6) (N := some 27) (v := ?_) (a' := ?_) #[true, true, true, true, true, true, true, false, false, false, false] rfl rfl (by kernel_rfl) (fun _ _ _ h => h) (Or.inl ⟨by rfl, ?_⟩) hHeld ?_ ?_
      rotate_left
      · rintro w' ⟨s0, s1, s2, s3, s4, s5, s6, s7⟩
        go_simp
        with_reducible rfl
      rotate_left
      · simp only [Act.put, List.setIfInBounds_toArray, List.set_cons_zero, List.set_cons_succ, i64_w, i32_w]
        rfl
      refine one_ (i := 7) (N := some 28) #[true, true, true, true, true, true, true, true, false, false, false] rfl rfl (by kernel_rfl) (by decide) (fun K hK => ?_)
      refine value_ (w1 := ?_) (v := ?_) (by rfl) rfl ?_ ?_
      rotate_left 2
      · go_simp
        constructor
        · rfl
        · rfl
      refine hK.out _ _ ⟨by go_keep, by go_keep, by go_keep, by go_keep, by go_keep, by go_keep, by go_keep, by go_keep⟩ (fun hHeld => ?_)
      clear hK K
      refine norm_ (a' := ?_) ?_ ?_
      rotate_left
      · simp only [Act.put, List.setIfInBounds_toArray, List.set_cons_zero, List.set_cons_succ, i64_w, i32_w]
        rfl
      refine one_ (i := 8) (N := some 29) #[true, true, true, true, true, true, true, true, true, false, false] rfl rfl (by kernel_rfl) (by decide) (fun K hK => ?_)
      refine Kd.N_append_step k139 (w0 := W4) (W := W4) w.heap.size (by rfl) _ _ _ 139 _ 64 (by rfl) Tryd.underlying135 info139 (by rfl) (by decide) (by decide) v ts (num (rd_T140 ln ↑k)) [.int .i64 (rd_T140 ln ↑k).f0, .int .i64 (rd_T140 ln ↑k).f1, .int .i64 (rd_T140 ln ↑k).f2, .int .i64 (rd_T140 ln ↑k).f3, .int .i64 (rd_T140 ln ↑k).f4, .slice A5 (rd_T140 ln ↑k).f5.length c5] (fun q => q ≠ w.heap.size + 1 + 1) (fun k => k < w.heap.size) (by rfl) (by rfl) (k139_mkF W4 _ (num (rd_T140 ln ↑k)) L5.out (Kd.F_step G5.out (fun q hq _ => HB.out.block q hq))) (fun q hq => ⟨by omega, fun e => by have := Kd.N_base HV.out q e.symm; omega⟩) (fun q hq => by have := blk_lt BX.out; omega) HV.out (Below.refl _ _) HB.out.size (by omega) ?_
      intro v1 w4 hR hB4 hg4 hat4
      obtain ⟨A1, c1, rfl⟩ := Kd.N_slice hR
      have BX1 := blk_grown BX.out hg4 hnx
      have BN1 := blk_grown BN.out hg4 hnn
      have BR1 := blk_grown BR.out hg4 hnr
      have ef := blk_frozen BX1 2
      refine hK.out _ _ ⟨(blk_cell BX1 2).trans rfl, (blk_cell BN1 2).trans rfl, hg4.cell hHeld0.2.2.1 hnv, hg4.cell hHeld0.2.2.2.1 hnv, hg4.cell hHeld0.2.2.2.2.1 hnv, hg4.cell hHeld0.2.2.2.2.2.1 hnv, hg4.cell hHeld0.2.2.2.2.2.2.1 hnv, hg4.cell hHeld0.2.2.2.2.2.2.2 hnv⟩ (fun hHeld => ?_)
      clear hK K
      refine norm_ (a' := ?_) ?_ ?_
      rotate_left
      · show Act.put _ (some 29) _ = _
        simp only [Act.put, List.setIfInBounds_toArray, List.set_cons_zero, List.set_cons_succ, i64_w, i32_w]
        rfl
      refine pure_ (i := 9) (N := some 30) (v := ?_) (a' := ?_) #[true, true, true, true, true, true, true, true, true, true, false] rfl rfl (by kernel_rfl) (fun _ _ _ h => h) (Or.inl ⟨by rfl, ?_⟩) ?_ ?_
      rotate_left
      · rintro w'
        go_simp
        with_reducible rfl
      rotate_left
      · simp only [Act.put, List.setIfInBounds_toArray, List.set_cons_zero, List.set_cons_succ, i64_w, i32_w]
        rfl
      refine last_ (i := 10) (N := none) #[true, true, true, true, true, true, true, true, true, true, true] rfl rfl (by kernel_rfl) (by decide) (fun K hK => ?_)
      refine skip_ (w1 := ?_) (by rfl) rfl ?_ ?_
      rotate_left
      · go_simp
        rfl
      refine hK.out _ _ ?_
      clear hK K
      refine done_ (by kernel_rfl) ?_
      go_wp2_with fail
      go_roundw
      case rel => exact ⟨k + 1, _, ts ++ [num (rd_T140 ln ↑k)], by go_num, by omega, by omega, by simp; omega, ⟨Kd.N_far (p := ⟨w.heap.size + 1 + 1, 2, none⟩) hR (fun q hq => hq) _⟩, ⟨blk_far BN1 (by show w.heap.size ≠ w.heap.size + 1 + 1; omega) _⟩, ⟨blk_far BR1 (by show w.heap.size + 1 ≠ w.heap.size + 1 + 1; omega) _⟩, ⟨by simpa using blk_set BX1 2 _⟩, ⟨below_set (HB.out.grown hg4 HB.out.size (Kd.N_base HV.out)) (by omega)⟩⟩
      case measure => simp [intOf]; omega
    · obtain ⟨A, c, rfl⟩ := Kd.N_slice HV.out
      have x0 : wr.cell? ⟨w.heap.size + 1 + 1, 0, none⟩ = some (.int .i64 a0) := (blk_cell BX.out 0).trans rfl
      have x1 : wr.cell? ⟨w.heap.size + 1 + 1, 1, none⟩ = some (.int .i64 a1) := (blk_cell BX.out 1).trans rfl
      have r0 : wr.cell? ⟨w.heap.size + 1, 0, none⟩ = some (.int .i64 0) := (blk_cell BR.out 0).trans rfl
      have r1 : wr.cell? ⟨w.heap.size + 1, 1, none⟩ = some (.int .i64 0) := (blk_cell BR.out 1).trans rfl
      have r2 : wr.cell? ⟨w.heap.size + 1, 2, none⟩ = some (.slice none 0 0) := (blk_cell BR.out 2).trans rfl
      have hz1 := blk_lt BR.out
      go_wp2_with fail
      all_goals
        refine (made_any a0 a1 A c ts wr (Kd.N_reads' HV.out).2.2).mono ?_
        rintro e w2 ⟨sets, reload, v, l, rfl, hs0, hs1, hl1, hl2, hR, hb⟩
        obtain ⟨A2, c2, rfl⟩ := Kd.R_slice hR
        have BR2 := blk_below BR.out hb
        have s0 : w2.cell? ⟨w.heap.size + 1, 0, none⟩ = some (.int .i64 0) := (blk_cell BR2 0).trans rfl
        have s1 : w2.cell? ⟨w.heap.size + 1, 1, none⟩ = some (.int .i64 0) := (blk_cell BR2 1).trans rfl
        have s2 : w2.cell? ⟨w.heap.size + 1, 2, none⟩ = some (.slice none 0 0) := (blk_cell BR2 2).trans rfl
        have sf := fun j => blk_frozen BR2 j
        have HR2 := Aside0.mk hR
        have HB2 := Aside0.mk hb
        have BR3 := Aside0.mk BR2
        have HL := Aside0.mk hl2
        clear hR hb BR2 hl2
        go_wp2_with fail
        refine bodyPost_ret (v := .agg #[.int .i64 sets, .int .i64 reload, .slice A2 l.length c2]) (results_single rfl (.cell (w.heap.size + 1) 54 _ (0, 0) _ rfl (fill3 BR3.out) Tryd.underlying54 rfl (by kernel_rfl) .nil)) rfl ?_
        exact ⟨sets, reload, _, l, rfl, hs0, hs1, hl1, HL.out, R_sets3 (Kd.R_lower HR2.out HB.out.size) BR3.out (by decide) _ _ _, by repeat (with_reducible first | exact below_then HB.out HB.out.size HB2.out | apply bset1)⟩
end Go.Proofs.YtbldolbeijpipaaDoor
